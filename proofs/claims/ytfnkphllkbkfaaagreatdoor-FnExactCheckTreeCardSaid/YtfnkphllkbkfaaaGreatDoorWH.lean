/- Proved here: what some functions of the program take and give: walks with the words of VA..VQ. Printed by program. -/
import Derived.Test.YtfnkphllkbkfaaaGreatDoorWT
import Derived.Test.YtfnkphllkbkfaaaGreatDoorBpa
import Derived.Test.YtfnkphllkbkfaaaGreatDoorWG
set_option linter.unusedVariables false
set_option linter.unusedSimpArgs false
set_option maxRecDepth 4000
namespace Go.Proofs.YtfnkphllkbkfaaaGreatDoor.VL
open Go
set_option maxHeartbeats 4000000 in
/-- impl.isKnot -/
theorem c_impl_isKnot (x : DKnot) (p m : Int) : AC Tryz.prog 46 [.agg kKnot x, .cel (Kd.int .i64) p, .cel (Kd.int .i64) m] [.cel Kd.bool (tt (knotOK x p m))] [] := by
 refine acI (N := 127) Tryz.func46 (Nat.le_of_ble_eq_true rfl) rfl fun w0 hd s0 ar => ?_
 refine AW.to (ka 0 rfl <| kc2 1 2 rfl <| Kn) ?_
 refine AW.fact (fun a w hr => (ok_slice ((ok_pair (ok_pair (ok_pair (R_okA (t := 0) rfl hr)).2).2).2)).2) (fun hl0 => ?_)
 refine AW.fact (fun a w hr => (ok_slice ((ok_pair (ok_pair (R_okA (t := 0) rfl hr)).2).1)).2) (fun hl1 => ?_)
 refine AW.fact (fun a w hr => (ok_slice ((ok_pair (ok_pair (ok_pair (R_okA (t := 0) rfl hr)).2).2).1)).1) (fun hk => ?_)
 have hok := fun n hn => ok_i16 (hk n hn)
 refine sr ?_
 refine st (OpT.frz (OpT.boxA (E := 66) (H rfl) (T1 rfl))) rfl ?_
 refine st (asB rfl) rfl ?_
 refine ng ?_
 refine AW.seq ?_
 refine sr ?_
 refine st (OpT.fieldAddr (H rfl) (T1 rfl) fd66_0 sz42 (by decide) sb66_0) rfl ?_
 refine st (OpT.load (H rfl) (T1 rfl) ag42 rfl) rfl ?_
 refine st (OpT.eql (H rfl) (T1 rfl) (I rfl)) rfl ?_
 refine ng ?_
 refine cd rfl (fun hc1 => ?_) fun hc1 => ?_
 ·
  obtain ⟨hc1, hc1'⟩ := pT hc1
  refine AW.seq ?_
  refine sr ?_
  refine st (OpT.fieldAddr (H rfl) (T1 rfl) fd66_3 sz51 (by decide) sb66_3) rfl ?_
  refine st (OpT.load (H rfl) (T1 rfl) ag51 rfl) rfl ?_
  refine st (OpT.len (H rfl) (T1 rfl) el51) rfl ?_
  refine st (mvI rfl) rfl ?_
  refine ng ?_
  refine AW.block ?_
  refine AW.loop (fun z : Nat => z ≤ x.2.2.2.length ∧ ∀ i, i < z → leafI x.2.2.2 i) (fun z : Nat => keep [(3, .cel (Kd.ptr kKnot) x), (15, .cel (Kd.slice (Kd.int .i64)) x.2.2.2), (16, .cel (Kd.int .i64) ((x.2.2.2.length : Nat) : Int)), (17, .cel (Kd.int .i64) (z : Int))]) (fun z : Nat => x.2.2.2.length - z) (0) ⟨Nat.zero_le _, all_none⟩ (Kc 3 _ (Kv rfl rfl) <| Kc 15 _ (Kv rfl rfl) <| Kc 16 _ (Kv rfl rfl) <| Kc 17 _ (Kv rfl rfl) <| Kn) ?_
  intro z hI
  refine sr ?_
  refine st (OpT.lss (H rfl) (T1 rfl) (T1 rfl)) rfl ?_
  refine ng ?_
  refine AW.seq ?_
  refine cd rfl (fun hc2 => ?_) fun hc2 => ?_
  ·
   obtain ⟨hc2, hc2'⟩ := pT hc2
   obtain ⟨a, ha⟩ := getI (x := x.2.2.2) (z := z) (by omega); obtain ⟨vp, hvp⟩ := getPr (x := x.2.2.2) (z := z) hI.1
   refine AW.skip ?_
   refine AX.go ?_
   refine AW.seq ?_
   refine AW.block ?_
   refine sr ?_
   refine st (mvT rfl) rfl ?_
   refine st (OpT.indexAddr (H rfl) (T1 rfl) (T1 rfl) el51 sz2 (by omega) (by assumption)) rfl ?_
   refine st (OpT.load (H rfl) (T1 rfl) ag2 rfl) rfl ?_
   refine st (asT rfl) rfl ?_
   refine st (asT rfl) rfl ?_
   refine ng ?_
   refine sr ?_
   refine st (mvT rfl) rfl ?_
   refine st (OpT.lss (H rfl) (T1 rfl) (I rfl)) rfl ?_
   refine st (mvT rfl) rfl ?_
   apply AWl.or (d := 27) (t := 24) rfl
   ·
    intro hb1 Q1 k1
    have hb1' := lF hb1
    refine rs hb1 (mvT rfl) rfl ?_
    refine rs hb1 (OpT.geq (H rfl) (T1 rfl) (I rfl)) rfl ?_
    refine st (OpT.pickF (A := .cel _ _) (H rfl) (T1 rfl) hb1 (T1 rfl) rfl) rfl ?_
    exact AWl.to (junk 2 rfl) k1
   ·
    intro hb1 Q1 k1
    refine ps hb1 rfl ?_
    refine ps hb1 rfl ?_
    refine st (OpT.pickT (A := .cel _ _) (H rfl) (T1 rfl) hb1 Opd.bool rfl) rfl ?_
    exact k1
   refine st (mvT rfl) rfl ?_
   apply AWl.or (d := 41) (t := 28) rfl
   ·
    intro hb2 Q1 k1
    have hb2' := lF hb2
    refine rs hb2 (mvT rfl) rfl ?_
    refine rs hb2 (OpT.gtr (H rfl) (T1 rfl) (I rfl)) rfl ?_
    refine rs hb2 (mvT rfl) rfl ?_
    apply AWl.and (d := 40) (t := 31) rfl
    ·
     intro hb3 Q1 k1
     have hb3' := lT hb3
     have hvp1 := hvp (by omega)
     refine rs hb3 (OpT.fieldAddr (H rfl) (T1 rfl) fd66_3 sz51 (by decide) sb66_3) rfl ?_
     refine rs hb3 (OpT.load (H rfl) (T1 rfl) ag51 rfl) rfl ?_
     refine rs hb3 (mvT rfl) rfl ?_
     refine rs hb3 (OpT.sub (H rfl) (T1 rfl) (I rfl) (nw (by omega))) rfl ?_
     refine rs hb3 (OpT.indexAddr (H rfl) (T1 rfl) (T1 rfl) el51 sz2 (by omega) (by assumption)) rfl ?_
     refine rs hb3 (OpT.load (H rfl) (T1 rfl) ag2 rfl) rfl ?_
     refine rs hb3 (mvT rfl) rfl ?_
     refine rs hb3 (OpT.geq (H rfl) (T1 rfl) (T1 rfl)) rfl ?_
     refine rs hb2 (OpT.pickT (A := .cel _ _) (H rfl) (T1 rfl) hb3 (T1 rfl) rfl) rfl ?_
     exact AWl.to (junk 8 rfl) k1
    ·
     intro hb3 Q1 k1
     refine ps hb3 rfl ?_
     refine ps hb3 rfl ?_
     refine ps hb3 rfl ?_
     refine ps hb3 rfl ?_
     refine ps hb3 rfl ?_
     refine ps hb3 rfl ?_
     refine ps hb3 rfl ?_
     refine ps hb3 rfl ?_
     refine rs hb2 (OpT.pickF (A := .cel _ _) (H rfl) (T1 rfl) hb3 Opd.bool rfl) rfl ?_
     exact k1
    refine st (OpT.pickF (A := .cel _ _) (H rfl) (T1 rfl) hb2 (T1 rfl) rfl) rfl ?_
    exact AWl.to (junk 4 rfl) k1
   ·
    intro hb2 Q1 k1
    refine ps hb2 rfl ?_
    refine ps hb2 rfl ?_
    refine AWl.pasv rfl rfl rfl rfl hb2 rfl (ok' rfl) rfl ?_
    refine AWl.pasu rfl rfl rfl rfl rfl (ok' rfl) rfl ?_
    refine AWl.pasu rfl rfl rfl rfl rfl (ok' rfl) rfl ?_
    refine AWl.pasu rfl rfl rfl rfl rfl (ok' rfl) rfl ?_
    refine AWl.pasu rfl rfl rfl rfl rfl (ok' rfl) rfl ?_
    refine AWl.pasu rfl rfl rfl rfl rfl (ok' rfl) rfl ?_
    refine AWl.pasu rfl rfl rfl rfl rfl (ok' rfl) rfl ?_
    refine AWl.pasu rfl rfl rfl rfl rfl (ok' rfl) rfl ?_
    refine AWl.pasu rfl rfl rfl rfl rfl (ok' rfl) rfl ?_
    refine ps hb2 rfl ?_
    refine st (OpT.pickT (A := .cel _ _) (H rfl) (T1 rfl) hb2 Opd.bool rfl) rfl ?_
    exact AWl.to (junk 9 rfl) k1
   refine ng ?_
   refine cd rfl (fun hc3 => ?_) fun hc3 => ?_
   ·
    obtain ⟨hc3, hc3'⟩ := pT hc3
    refine sr ?_
    refine st (asB rfl) rfl ?_
    refine ng ?_
    refine AW.ret ?_
    refine rK <| rT <| rT <| rK <| rT <| rT ?_
    exact rt1 rfl (.inl rfl) (by first | exact tt_no (fun h => absurd (((knot_leaf hc1').1 h).1 z (by omega)) (mt (leafI_iff ha hvp).1 (by omega))) | exact tt_no (fun h => absurd (((knot_ask hc1').1 h).2 z (by omega)) (mt (askI_iff hv hn hvp).1 (by omega))) | exact (leaf_end hI.2 (by omega)).trans (congrArg tt (propext (knot_leaf hc1').symm)) | exact tt_yes ((knot_ask hc1').2 ⟨by unfold askH; omega, all_end hI.2 (by omega)⟩) | exact tt_no (fun h => by have := ((knot_ask hc1').1 h).1; unfold askH at this; omega))
   ·
    obtain ⟨hc3, hc3'⟩ := pF hc3
    refine AW.skip ?_
    refine AX.normal_block ?_
    refine AX.go ?_
    refine AW.region ?_
    refine st (OpT.add (H rfl) (T1 rfl) (I rfl) (nw (by omega))) rfl ?_
    refine st (mvT rfl) rfl ?_
    refine nn ?_
    exact AX.again (z + 1) ⟨by omega, all_step hI.2 ((leafI_iff ha hvp).2 (by omega))⟩ (by omega) (Kc 3 _ (Kv rfl rfl) <| Kc 15 _ (Kv rfl rfl) <| Kc 16 _ (Kv rfl rfl) <| Kc 17 _ (Kv rfl (by omega)) <| Kn)
  ·
   obtain ⟨hc2, hc2'⟩ := pF hc2
   refine AW.exit ?_
   refine xT <| xT <| AX.exit_hit ?_
   refine AX.go ?_
   refine sr ?_
   refine st (OpT.fieldAddr (H rfl) (T1 rfl) fd66_1 sz51 (by decide) sb66_1) rfl ?_
   refine st (OpT.load (H rfl) (T1 rfl) ag51 rfl) rfl ?_
   refine st (OpT.len (H rfl) (T1 rfl) el51) rfl ?_
   refine st (OpT.eql (H rfl) (T1 rfl) (I rfl)) rfl ?_
   refine st (mvT rfl) rfl ?_
   apply AWl.and (d := 52) (t := 47) rfl
   ·
    intro hb4 Q1 k1
    have hb4' := lT hb4
    refine rs hb4 (OpT.fieldAddr (H rfl) (T1 rfl) fd66_2 sz52 (by decide) sb66_2) rfl ?_
    refine rs hb4 (OpT.load (H rfl) (T1 rfl) ag52 rfl) rfl ?_
    refine rs hb4 (OpT.len (H rfl) (T1 rfl) el52) rfl ?_
    refine rs hb4 (OpT.eql (H rfl) (T1 rfl) (I rfl)) rfl ?_
    refine st (OpT.pickT (A := .cel _ _) (H rfl) (T1 rfl) hb4 (T1 rfl) rfl) rfl ?_
    exact AWl.to (junk 4 rfl) k1
   ·
    intro hb4 Q1 k1
    refine ps hb4 rfl ?_
    refine ps hb4 rfl ?_
    refine ps hb4 rfl ?_
    refine ps hb4 rfl ?_
    refine st (OpT.pickF (A := .cel _ _) (H rfl) (T1 rfl) hb4 Opd.bool rfl) rfl ?_
    exact k1
   refine st (asT rfl) rfl ?_
   refine ng ?_
   refine AW.ret ?_
   refine rT ?_
   exact rt1 rfl (.inl rfl) (by first | exact tt_no (fun h => absurd (((knot_leaf hc1').1 h).1 z (by omega)) (mt (leafI_iff ha hvp).1 (by omega))) | exact tt_no (fun h => absurd (((knot_ask hc1').1 h).2 z (by omega)) (mt (askI_iff hv hn hvp).1 (by omega))) | exact (leaf_end hI.2 (by omega)).trans (congrArg tt (propext (knot_leaf hc1').symm)) | exact tt_yes ((knot_ask hc1').2 ⟨by unfold askH; omega, all_end hI.2 (by omega)⟩) | exact tt_no (fun h => by have := ((knot_ask hc1').1 h).1; unfold askH at this; omega))
 ·
  obtain ⟨hc1, hc1'⟩ := pF hc1
  refine AW.skip ?_
  refine AX.go ?_
  refine AW.seq ?_
  refine sr ?_
  refine st (OpT.fieldAddr (H rfl) (T1 rfl) fd66_0 sz42 (by decide) sb66_0) rfl ?_
  refine st (OpT.load (H rfl) (T1 rfl) ag42 rfl) rfl ?_
  refine st (OpT.lss (H rfl) (T1 rfl) (I rfl)) rfl ?_
  refine st (mvT rfl) rfl ?_
  apply AWl.or (d := 60) (t := 56) rfl
  ·
   intro hb5 Q1 k1
   have hb5' := lF hb5
   refine rs hb5 (OpT.fieldAddr (H rfl) (T1 rfl) fd66_0 sz42 (by decide) sb66_0) rfl ?_
   refine rs hb5 (OpT.load (H rfl) (T1 rfl) ag42 rfl) rfl ?_
   refine rs hb5 (OpT.geq (H rfl) (T1 rfl) (I rfl)) rfl ?_
   refine st (OpT.pickF (A := .cel _ _) (H rfl) (T1 rfl) hb5 (T1 rfl) rfl) rfl ?_
   exact AWl.to (junk 3 rfl) k1
  ·
   intro hb5 Q1 k1
   refine ps hb5 rfl ?_
   refine ps hb5 rfl ?_
   refine ps hb5 rfl ?_
   refine st (OpT.pickT (A := .cel _ _) (H rfl) (T1 rfl) hb5 Opd.bool rfl) rfl ?_
   exact k1
  refine st (mvT rfl) rfl ?_
  apply AWl.or (d := 66) (t := 61) rfl
  ·
   intro hb6 Q1 k1
   have hb6' := lF hb6
   refine rs hb6 (OpT.fieldAddr (H rfl) (T1 rfl) fd66_3 sz51 (by decide) sb66_3) rfl ?_
   refine rs hb6 (OpT.load (H rfl) (T1 rfl) ag51 rfl) rfl ?_
   refine rs hb6 (OpT.len (H rfl) (T1 rfl) el51) rfl ?_
   refine rs hb6 (OpT.gtr (H rfl) (T1 rfl) (I rfl)) rfl ?_
   refine st (OpT.pickF (A := .cel _ _) (H rfl) (T1 rfl) hb6 (T1 rfl) rfl) rfl ?_
   exact AWl.to (junk 4 rfl) k1
  ·
   intro hb6 Q1 k1
   refine ps hb6 rfl ?_
   refine ps hb6 rfl ?_
   refine ps hb6 rfl ?_
   refine ps hb6 rfl ?_
   refine st (OpT.pickT (A := .cel _ _) (H rfl) (T1 rfl) hb6 Opd.bool rfl) rfl ?_
   exact k1
  refine st (mvT rfl) rfl ?_
  apply AWl.or (d := 72) (t := 67) rfl
  ·
   intro hb7 Q1 k1
   have hb7' := lF hb7
   refine rs hb7 (OpT.fieldAddr (H rfl) (T1 rfl) fd66_1 sz51 (by decide) sb66_1) rfl ?_
   refine rs hb7 (OpT.load (H rfl) (T1 rfl) ag51 rfl) rfl ?_
   refine rs hb7 (OpT.len (H rfl) (T1 rfl) el51) rfl ?_
   refine rs hb7 (OpT.eql (H rfl) (T1 rfl) (I rfl)) rfl ?_
   refine st (OpT.pickF (A := .cel _ _) (H rfl) (T1 rfl) hb7 (T1 rfl) rfl) rfl ?_
   exact AWl.to (junk 4 rfl) k1
  ·
   intro hb7 Q1 k1
   refine ps hb7 rfl ?_
   refine ps hb7 rfl ?_
   refine ps hb7 rfl ?_
   refine ps hb7 rfl ?_
   refine st (OpT.pickT (A := .cel _ _) (H rfl) (T1 rfl) hb7 Opd.bool rfl) rfl ?_
   exact k1
  refine st (mvT rfl) rfl ?_
  apply AWl.or (d := 81) (t := 73) rfl
  ·
   intro hb8 Q1 k1
   have hb8' := lF hb8
   refine rs hb8 (OpT.fieldAddr (H rfl) (T1 rfl) fd66_2 sz52 (by decide) sb66_2) rfl ?_
   refine rs hb8 (OpT.load (H rfl) (T1 rfl) ag52 rfl) rfl ?_
   refine rs hb8 (OpT.len (H rfl) (T1 rfl) el52) rfl ?_
   refine rs hb8 (OpT.fieldAddr (H rfl) (T1 rfl) fd66_1 sz51 (by decide) sb66_1) rfl ?_
   refine rs hb8 (OpT.load (H rfl) (T1 rfl) ag51 rfl) rfl ?_
   refine rs hb8 (OpT.len (H rfl) (T1 rfl) el51) rfl ?_
   refine rs hb8 (OpT.neq (H rfl) (T1 rfl) (T1 rfl)) rfl ?_
   refine st (OpT.pickF (A := .cel _ _) (H rfl) (T1 rfl) hb8 (T1 rfl) rfl) rfl ?_
   exact AWl.to (junk 7 rfl) k1
  ·
   intro hb8 Q1 k1
   refine ps hb8 rfl ?_
   refine ps hb8 rfl ?_
   refine ps hb8 rfl ?_
   refine ps hb8 rfl ?_
   refine ps hb8 rfl ?_
   refine ps hb8 rfl ?_
   refine ps hb8 rfl ?_
   refine st (OpT.pickT (A := .cel _ _) (H rfl) (T1 rfl) hb8 Opd.bool rfl) rfl ?_
   exact k1
  refine AWl.to (kc4 81 6 3 1 rfl <| kc 2 rfl <| Kn) ?_
  refine ng ?_
  refine cd rfl (fun hc4 => ?_) fun hc4 => ?_
  ·
   obtain ⟨hc4, hc4'⟩ := pT hc4
   refine sr ?_
   refine st (asB rfl) rfl ?_
   refine ng ?_
   refine AW.ret ?_
   refine rT ?_
   exact rt1 rfl (.inl rfl) (by first | exact tt_no (fun h => absurd (((knot_leaf hc1').1 h).1 z (by omega)) (mt (leafI_iff ha hvp).1 (by omega))) | exact tt_no (fun h => absurd (((knot_ask hc1').1 h).2 z (by omega)) (mt (askI_iff hv hn hvp).1 (by omega))) | exact (leaf_end hI.2 (by omega)).trans (congrArg tt (propext (knot_leaf hc1').symm)) | exact tt_yes ((knot_ask hc1').2 ⟨by unfold askH; omega, all_end hI.2 (by omega)⟩) | exact tt_no (fun h => by have := ((knot_ask hc1').1 h).1; unfold askH at this; omega))
  ·
   obtain ⟨hc4, hc4'⟩ := pF hc4
   refine AW.skip ?_
   refine AX.go ?_
   refine AW.seq ?_
   refine sr ?_
   refine st (OpT.fieldAddr (H rfl) (T1 rfl) fd66_1 sz51 (by decide) sb66_1) rfl ?_
   refine st (OpT.load (H rfl) (T1 rfl) ag51 rfl) rfl ?_
   refine st (OpT.len (H rfl) (T1 rfl) el51) rfl ?_
   refine st (mvI rfl) rfl ?_
   refine ng ?_
   refine AW.block ?_
   refine AW.loop (fun z : Nat => z ≤ x.2.1.length ∧ ∀ i, i < z → askI x p m i) (fun z : Nat => keep [(1, .cel (Kd.int .i64) p), (2, .cel (Kd.int .i64) m), (3, .cel (Kd.ptr kKnot) x), (83, .cel (Kd.slice (Kd.int .i64)) x.2.1), (84, .cel (Kd.int .i64) ((x.2.1.length : Nat) : Int)), (85, .cel (Kd.int .i64) (z : Int))]) (fun z : Nat => x.2.1.length - z) (0) ⟨Nat.zero_le _, all_none⟩ (Kc 1 _ (Kv rfl rfl) <| Kc 2 _ (Kv rfl rfl) <| Kc 3 _ (Kv rfl rfl) <| Kc 83 _ (Kv rfl rfl) <| Kc 84 _ (Kv rfl rfl) <| Kc 85 _ (Kv rfl rfl) <| Kn) ?_
   intro z hI
   refine sr ?_
   refine st (OpT.lss (H rfl) (T1 rfl) (T1 rfl)) rfl ?_
   refine ng ?_
   refine AW.seq ?_
   refine cd rfl (fun hc5 => ?_) fun hc5 => ?_
   ·
    obtain ⟨hc5, hc5'⟩ := pT hc5
    obtain ⟨v, hv⟩ := getI (x := x.2.1) (z := z) (by omega); obtain ⟨n, hn⟩ := getI (x := x.2.2.1) (z := z) (by omega); obtain ⟨vp, hvp⟩ := getPr (x := x.2.1) (z := z) hI.1; have hnr := hok n (mem_getI hn)
    refine AW.skip ?_
    refine AX.go ?_
    refine AW.seq ?_
    refine AW.block ?_
    refine sr ?_
    refine st (mvT rfl) rfl ?_
    refine st (OpT.indexAddr (H rfl) (T1 rfl) (T1 rfl) el51 sz2 (by omega) (by assumption)) rfl ?_
    refine st (OpT.load (H rfl) (T1 rfl) ag2 rfl) rfl ?_
    refine st (asT rfl) rfl ?_
    refine st (asT rfl) rfl ?_
    refine ng ?_
    refine sr ?_
    refine st (mvT rfl) rfl ?_
    refine st (OpT.lss (H rfl) (T1 rfl) (I rfl)) rfl ?_
    refine st (mvT rfl) rfl ?_
    apply AWl.or (d := 105) (t := 92) rfl
    ·
     intro hb9 Q1 k1
     have hb9' := lF hb9
     refine rs hb9 (mvT rfl) rfl ?_
     refine rs hb9 (OpT.gtr (H rfl) (T1 rfl) (I rfl)) rfl ?_
     refine rs hb9 (mvT rfl) rfl ?_
     apply AWl.and (d := 104) (t := 95) rfl
     ·
      intro hb10 Q1 k1
      have hb10' := lT hb10
      have hvp1 := hvp (by omega)
      refine rs hb10 (OpT.fieldAddr (H rfl) (T1 rfl) fd66_1 sz51 (by decide) sb66_1) rfl ?_
      refine rs hb10 (OpT.load (H rfl) (T1 rfl) ag51 rfl) rfl ?_
      refine rs hb10 (mvT rfl) rfl ?_
      refine rs hb10 (OpT.sub (H rfl) (T1 rfl) (I rfl) (nw (by omega))) rfl ?_
      refine rs hb10 (OpT.indexAddr (H rfl) (T1 rfl) (T1 rfl) el51 sz2 (by omega) (by assumption)) rfl ?_
      refine rs hb10 (OpT.load (H rfl) (T1 rfl) ag2 rfl) rfl ?_
      refine rs hb10 (mvT rfl) rfl ?_
      refine rs hb10 (OpT.geq (H rfl) (T1 rfl) (T1 rfl)) rfl ?_
      refine rs hb9 (OpT.pickT (A := .cel _ _) (H rfl) (T1 rfl) hb10 (T1 rfl) rfl) rfl ?_
      exact AWl.to (junk 8 rfl) k1
     ·
      intro hb10 Q1 k1
      refine ps hb10 rfl ?_
      refine ps hb10 rfl ?_
      refine ps hb10 rfl ?_
      refine ps hb10 rfl ?_
      refine ps hb10 rfl ?_
      refine ps hb10 rfl ?_
      refine ps hb10 rfl ?_
      refine ps hb10 rfl ?_
      refine rs hb9 (OpT.pickF (A := .cel _ _) (H rfl) (T1 rfl) hb10 Opd.bool rfl) rfl ?_
      exact k1
     refine st (OpT.pickF (A := .cel _ _) (H rfl) (T1 rfl) hb9 (T1 rfl) rfl) rfl ?_
     exact AWl.to (junk 4 rfl) k1
    ·
     intro hb9 Q1 k1
     refine ps hb9 rfl ?_
     refine ps hb9 rfl ?_
     refine AWl.pasv rfl rfl rfl rfl hb9 rfl (ok' rfl) rfl ?_
     refine AWl.pasu rfl rfl rfl rfl rfl (ok' rfl) rfl ?_
     refine AWl.pasu rfl rfl rfl rfl rfl (ok' rfl) rfl ?_
     refine AWl.pasu rfl rfl rfl rfl rfl (ok' rfl) rfl ?_
     refine AWl.pasu rfl rfl rfl rfl rfl (ok' rfl) rfl ?_
     refine AWl.pasu rfl rfl rfl rfl rfl (ok' rfl) rfl ?_
     refine AWl.pasu rfl rfl rfl rfl rfl (ok' rfl) rfl ?_
     refine AWl.pasu rfl rfl rfl rfl rfl (ok' rfl) rfl ?_
     refine AWl.pasu rfl rfl rfl rfl rfl (ok' rfl) rfl ?_
     refine ps hb9 rfl ?_
     refine st (OpT.pickT (A := .cel _ _) (H rfl) (T1 rfl) hb9 Opd.bool rfl) rfl ?_
     exact AWl.to (junk 9 rfl) k1
    refine st (mvT rfl) rfl ?_
    apply AWl.or (d := 115) (t := 106) rfl
    ·
     intro hb11 Q1 k1
     have hb11' := lF hb11
     refine rs hb11 (OpT.fieldAddr (H rfl) (T1 rfl) fd66_2 sz52 (by decide) sb66_2) rfl ?_
     refine rs hb11 (OpT.load (H rfl) (T1 rfl) ag52 rfl) rfl ?_
     refine rs hb11 (mvT rfl) rfl ?_
     refine rs hb11 (OpT.indexAddr (H rfl) (T1 rfl) (T1 rfl) el52 sz42 (by omega) (by assumption)) rfl ?_
     refine rs hb11 (OpT.load (H rfl) (T1 rfl) ag42 rfl) rfl ?_
     refine rs hb11 (OpT.conv (H rfl) us42 Tryz.underlying3 (T1 rfl) (nw (by omega))) rfl ?_
     refine rs hb11 (mvT rfl) rfl ?_
     refine rs hb11 (OpT.leq (H rfl) (T1 rfl) (T1 rfl)) rfl ?_
     refine st (OpT.pickF (A := .cel _ _) (H rfl) (T1 rfl) hb11 (T1 rfl) rfl) rfl ?_
     exact AWl.to (junk 8 rfl) k1
    ·
     intro hb11 Q1 k1
     refine ps hb11 rfl ?_
     refine ps hb11 rfl ?_
     refine ps hb11 rfl ?_
     refine ps hb11 rfl ?_
     refine ps hb11 rfl ?_
     refine ps hb11 rfl ?_
     refine ps hb11 rfl ?_
     refine ps hb11 rfl ?_
     refine st (OpT.pickT (A := .cel _ _) (H rfl) (T1 rfl) hb11 Opd.bool rfl) rfl ?_
     exact k1
    refine st (mvT rfl) rfl ?_
    apply AWl.or (d := 125) (t := 116) rfl
    ·
     intro hb12 Q1 k1
     have hb12' := lF hb12
     refine rs hb12 (OpT.fieldAddr (H rfl) (T1 rfl) fd66_2 sz52 (by decide) sb66_2) rfl ?_
     refine rs hb12 (OpT.load (H rfl) (T1 rfl) ag52 rfl) rfl ?_
     refine rs hb12 (mvT rfl) rfl ?_
     refine rs hb12 (OpT.indexAddr (H rfl) (T1 rfl) (T1 rfl) el52 sz42 (by omega) (by assumption)) rfl ?_
     refine rs hb12 (OpT.load (H rfl) (T1 rfl) ag42 rfl) rfl ?_
     refine rs hb12 (OpT.conv (H rfl) us42 Tryz.underlying3 (T1 rfl) (nw (by omega))) rfl ?_
     refine rs hb12 (mvT rfl) rfl ?_
     refine rs hb12 (OpT.geq (H rfl) (T1 rfl) (T1 rfl)) rfl ?_
     refine st (OpT.pickF (A := .cel _ _) (H rfl) (T1 rfl) hb12 (T1 rfl) rfl) rfl ?_
     exact AWl.to (junk 8 rfl) k1
    ·
     intro hb12 Q1 k1
     refine ps hb12 rfl ?_
     refine ps hb12 rfl ?_
     refine ps hb12 rfl ?_
     refine ps hb12 rfl ?_
     refine ps hb12 rfl ?_
     refine ps hb12 rfl ?_
     refine ps hb12 rfl ?_
     refine ps hb12 rfl ?_
     refine st (OpT.pickT (A := .cel _ _) (H rfl) (T1 rfl) hb12 Opd.bool rfl) rfl ?_
     exact k1
    refine ng ?_
    refine cd rfl (fun hc6 => ?_) fun hc6 => ?_
    ·
     obtain ⟨hc6, hc6'⟩ := pT hc6
     refine sr ?_
     refine st (asB rfl) rfl ?_
     refine ng ?_
     refine AW.ret ?_
     refine rK <| rT <| rT <| rK <| rT ?_
     exact rt1 rfl (.inl rfl) (by first | exact tt_no (fun h => absurd (((knot_leaf hc1').1 h).1 z (by omega)) (mt (leafI_iff ha hvp).1 (by omega))) | exact tt_no (fun h => absurd (((knot_ask hc1').1 h).2 z (by omega)) (mt (askI_iff hv hn hvp).1 (by omega))) | exact (leaf_end hI.2 (by omega)).trans (congrArg tt (propext (knot_leaf hc1').symm)) | exact tt_yes ((knot_ask hc1').2 ⟨by unfold askH; omega, all_end hI.2 (by omega)⟩) | exact tt_no (fun h => by have := ((knot_ask hc1').1 h).1; unfold askH at this; omega))
    ·
     obtain ⟨hc6, hc6'⟩ := pF hc6
     refine AW.skip ?_
     refine AX.normal_block ?_
     refine AX.go ?_
     refine AW.region ?_
     refine st (OpT.add (H rfl) (T1 rfl) (I rfl) (nw (by omega))) rfl ?_
     refine st (mvT rfl) rfl ?_
     refine nn ?_
     exact AX.again (z + 1) ⟨by omega, all_step hI.2 ((askI_iff hv hn hvp).2 (by omega))⟩ (by omega) (Kc 1 _ (Kv rfl rfl) <| Kc 2 _ (Kv rfl rfl) <| Kc 3 _ (Kv rfl rfl) <| Kc 83 _ (Kv rfl rfl) <| Kc 84 _ (Kv rfl rfl) <| Kc 85 _ (Kv rfl (by omega)) <| Kn)
   ·
    obtain ⟨hc5, hc5'⟩ := pF hc5
    refine AW.exit ?_
    refine xT <| xT <| AX.exit_hit ?_
    refine AX.go ?_
    refine sr ?_
    refine st (asB rfl) rfl ?_
    refine ng ?_
    refine AW.ret ?_
    exact rt1 rfl (.inl rfl) (by first | exact tt_no (fun h => absurd (((knot_leaf hc1').1 h).1 z (by omega)) (mt (leafI_iff ha hvp).1 (by omega))) | exact tt_no (fun h => absurd (((knot_ask hc1').1 h).2 z (by omega)) (mt (askI_iff hv hn hvp).1 (by omega))) | exact (leaf_end hI.2 (by omega)).trans (congrArg tt (propext (knot_leaf hc1').symm)) | exact tt_yes ((knot_ask hc1').2 ⟨by unfold askH; omega, all_end hI.2 (by omega)⟩) | exact tt_no (fun h => by have := ((knot_ask hc1').1 h).1; unfold askH at this; omega))

/-- impl.isTree -/
theorem c_impl_isTree (x : List DKnot) (hn : okKS x) : AC Tryz.prog 26 [.cel (Kd.slice kKnot) x] [.cel Kd.bool (tt (treeOK x))] [] := by
 refine acI (N := 51) Tryz.func26 (Nat.le_of_ble_eq_true rfl) rfl fun w0 hd s0 ar => ?_
 refine AW.to (kc 0 rfl <| Kn) ?_
 refine AW.fact (fun a w hr => (ok_slice (R_ok (t := 0) rfl hr)).2) (fun hl0 => ?_)
 refine sr ?_
 refine st (asB rfl) rfl ?_
 refine ng ?_
 refine AW.seq ?_
 refine sr ?_
 refine st (mvT rfl) rfl ?_
 refine st (OpT.len (H rfl) (T1 rfl) el34) rfl ?_
 refine st (OpT.lss (H rfl) (T1 rfl) (I rfl)) rfl ?_
 refine st (mvT rfl) rfl ?_
 apply AWl.or (d := 15) (t := 11) rfl
 ·
  intro hb1 Q1 k1
  have hb1' := lF hb1
  refine rs hb1 (mvT rfl) rfl ?_
  refine rs hb1 (OpT.len (H rfl) (T1 rfl) el34) rfl ?_
  refine rs hb1 (OpT.gtr (H rfl) (T1 rfl) (I rfl)) rfl ?_
  refine st (OpT.pickF (A := .cel _ _) (H rfl) (T1 rfl) hb1 (T1 rfl) rfl) rfl ?_
  exact AWl.to (junk 3 rfl) k1
 ·
  intro hb1 Q1 k1
  refine ps hb1 rfl ?_
  refine ps hb1 rfl ?_
  refine ps hb1 rfl ?_
  refine st (OpT.pickT (A := .cel _ _) (H rfl) (T1 rfl) hb1 Opd.bool rfl) rfl ?_
  exact k1
 refine ng ?_
 refine cd rfl (fun hc1 => ?_) fun hc1 => ?_
 ·
  obtain ⟨hc1, hc1'⟩ := pT hc1
  refine sr ?_
  refine st (asB rfl) rfl ?_
  refine ng ?_
  refine AW.ret ?_
  refine rT ?_
  exact rt1 rfl (.inl rfl) (by first | exact tree_no ha (by omega) (tt_false.1 (by simpa using hc3)) | exact tree_end (by omega) hI.2 (by omega) | exact tree_len (by omega))
 ·
  obtain ⟨hc1, hc1'⟩ := pF hc1
  refine AW.skip ?_
  refine AX.go ?_
  refine sr ?_
  refine st (mvT rfl) rfl ?_
  refine st (OpT.len (H rfl) (T1 rfl) el34) rfl ?_
  refine st (OpT.make (H rfl) (T1 rfl) (T1 rfl) el91 zr3 sz3 by3 (by decide) zk3 (by omega) (by omega)) rfl ?_
  refine sg (OpT.take (.inl rfl) rfl (ok' rfl) (Root.self (by decide)) rfl rfl (by decide)) (ko 3 rfl <| kc4 17 16 15 11 rfl <| kc4 10 9 8 2 rfl <| kc 0 rfl <| Kn) rfl ?_
  refine ng ?_
  refine AW.seq ?_
  refine sr ?_
  refine st (mvT rfl) rfl ?_
  refine st (OpT.len (H rfl) (T1 rfl) el34) rfl ?_
  refine st (mvI rfl) rfl ?_
  refine ng ?_
  refine AW.block ?_
  refine AW.loop (fun z : Nat => z ≤ x.length ∧ ∀ i, i < z → knotI x i) (fun z : Nat => keep [(0, .cel (Kd.slice kKnot) x), (3, .own 3 (Kd.int .i64) (cntL 0 x.length (nexts (x.take z)))), (19, .cel (Kd.slice kKnot) x), (20, .cel (Kd.int .i64) ((x.length : Nat) : Int)), (21, .cel (Kd.int .i64) (z : Int))]) (fun z : Nat => x.length - z) (0) ⟨Nat.zero_le _, all_none⟩ (Kc 0 _ (Kv rfl rfl) <| Kc 3 _ (Ko rfl cntL_nil) <| Kc 19 _ (Kv rfl rfl) <| Kc 20 _ (Kv rfl rfl) <| Kc 21 _ (Kv rfl rfl) <| Kn) ?_
  intro z hI
  refine sr ?_
  refine st (OpT.lss (H rfl) (T1 rfl) (T1 rfl)) rfl ?_
  refine ng ?_
  refine AW.seq ?_
  refine cd rfl (fun hc2 => ?_) fun hc2 => ?_
  ·
   obtain ⟨hc2, hc2'⟩ := pT hc2
   obtain ⟨a, ha⟩ := getI (x := x) (z := z) (by omega)
   refine AW.skip ?_
   refine AX.go ?_
   refine AW.seq ?_
   refine AW.block ?_
   refine sr ?_
   refine st (mvT rfl) rfl ?_
   refine st (OpT.indexAddr (H rfl) (T1 rfl) (T1 rfl) el34 sz66 (by omega) (by assumption)) rfl ?_
   refine st (OpT.loadA (H rfl) (T1 rfl) ag66 sz66) rfl ?_
   refine st (OpT.alloc (H rfl) zr66 zk66) rfl ?_
   refine st (asT rfl) rfl ?_
   refine sk (OpT.storeBA rfl rfl (Opd.whole (Root.self (t := 5) (by decide)) rfl) rfl sz66 (by decide) (T1 rfl)) rfl ?_
   refine ng ?_
   refine AW.seq ?_
   refine sr ?_
   refine st (OpT.loadB (H rfl) (Root.self (t := 5) (by decide)) rfl ag66 sz66) rfl ?_
   refine st (mvT rfl) rfl ?_
   refine st (mvT rfl) rfl ?_
   refine st (OpT.len (H rfl) (T1 rfl) el34) rfl ?_
   refine st (OpT.c1 (ms := [.flat, .flat, .flat]) (c_impl_isKnot _ _ _) (H rfl) (Af (T1 rfl) rfl rfl <| Af (T1 rfl) rfl rfl <| Af (T1 rfl) rfl rfl <| An) rfl rfl) rfl ?_
   refine st (OpT.not (H rfl) (T1 rfl)) rfl ?_
   refine ng ?_
   refine cd rfl (fun hc3 => ?_) fun hc3 => ?_
   ·
    obtain ⟨hc3, hc3'⟩ := pT hc3
    refine sr ?_
    refine st (asB rfl) rfl ?_
    refine ng ?_
    refine AW.ret ?_
    refine rT <| rK <| rT <| rT <| rK <| rT ?_
    exact rt1 rfl (.inl rfl) (by first | exact tree_no ha (by omega) (tt_false.1 (by simpa using hc3)) | exact tree_end (by omega) hI.2 (by omega) | exact tree_len (by omega))
   ·
    obtain ⟨hc3, hc3'⟩ := pF hc3
    refine AW.skip ?_
    refine AX.go ?_
    refine sr ?_
    refine st (OpT.fieldAddrB (H rfl) (Root.self (t := 5) (by decide)) rfl (by decide) fd66_2 sz52 (by decide) sb66_2) rfl ?_
    refine st (OpT.loadP (H rfl) (T1 rfl) (.inl ⟨_, rfl, rfl⟩) ag52 rfl) rfl ?_
    refine st (OpT.len (H rfl) (T1 rfl) el52) rfl ?_
    refine st (mvI rfl) rfl ?_
    refine ng ?_
    refine AW.block ?_
    have hI0 := hI
    have hkn : knotOK a (z : Int) x.length := tt_iff.1 (by simpa using hc3)
    have hla := (hn.2 a (mem_getI ha)).2.1
    refine AW.loop (fun y : Nat => y ≤ a.2.2.1.length) (fun y : Nat => keep [(0, .cel (Kd.slice kKnot) x), (3, .own 3 (Kd.int .i64) (cntL 0 x.length (nexts (x.take z) ++ a.2.2.1.take y))), (19, .cel (Kd.slice kKnot) x), (20, .cel (Kd.int .i64) ((x.length : Nat) : Int)), (21, .cel (Kd.int .i64) (z : Int)), (33, .cel (Kd.slice (Kd.int .i16)) a.2.2.1), (34, .cel (Kd.int .i64) ((a.2.2.1.length : Nat) : Int)), (35, .cel (Kd.int .i64) (y : Int))]) (fun y : Nat => a.2.2.1.length - y) (0) (Nat.zero_le _) (Kc 0 _ (Kv rfl rfl) <| Kc 3 _ (Ko rfl (by rw [List.take_zero, List.append_nil])) <| Kc 19 _ (Kv rfl rfl) <| Kc 20 _ (Kv rfl rfl) <| Kc 21 _ (Kv rfl rfl) <| Kc 33 _ (Kv rfl rfl) <| Kc 34 _ (Kv rfl rfl) <| Kc 35 _ (Kv rfl rfl) <| Kn) ?_
    intro y hI
    refine sr ?_
    refine st (OpT.lss (H rfl) (T1 rfl) (T1 rfl)) rfl ?_
    refine ng ?_
    refine AW.seq ?_
    refine cd rfl (fun hc4 => ?_) fun hc4 => ?_
    ·
     obtain ⟨hc4, hc4'⟩ := pT hc4
     obtain ⟨n, hn2⟩ := getI (x := a.2.2.1) (z := y) (by omega); have hnx := knot_next hkn hn2; have hlen : (nexts (x.take z) ++ a.2.2.1.take y).length ≤ 1152921504606846976 := by (rw [List.length_append, List.length_take]; have := nexts_lenK hn (z := z) (by omega); have := (hn.2 a (mem_getI ha)).2.1; omega)
     obtain ⟨cv, hcv, hcv1⟩ := cntL_in (b := 0) (a := n) (n := x.length) (l := nexts (x.take z) ++ a.2.2.1.take y) (by omega) (by omega)
     refine AW.skip ?_
     refine AX.go ?_
     refine AW.seq ?_
     refine AW.block ?_
     refine sr ?_
     refine st (OpT.indexAddr (H rfl) (T1 rfl) (T1 rfl) el52 sz42 (by omega) (by assumption)) rfl ?_
     refine st (OpT.load (H rfl) (T1 rfl) ag42 rfl) rfl ?_
     refine st (asT rfl) rfl ?_
     refine ng ?_
     refine AW.region ?_
     refine st (OpT.alias (H rfl) (by decide) (by decide)) rfl ?_
     refine st (mvT rfl) rfl ?_
     refine st (OpT.indexAddrO (H rfl) (Root.ali rfl (by decide) (by decide)) rfl (by decide) (T1 rfl) el91 sz3 (by omega) (by assumption)) rfl ?_
     refine st (OpT.loadP (H rfl) (T1 rfl) (.inr ⟨_, _, rfl, (by assumption)⟩) ag3 rfl) rfl ?_
     refine st (OpT.add (H rfl) (T1 rfl) (I rfl) (nw (by omega))) rfl ?_
     refine st (OpT.indexAddrO (H rfl) (Root.ali rfl (by decide) (by decide)) rfl (by decide) (T1 rfl) el91 sz3 (by omega) (by assumption)) rfl ?_
     refine sk (OpT.storeO rfl rfl (T1 rfl) rfl (by assumption) sz3 rfl (T1 rfl)) rfl ?_
     refine nn ?_
     refine AX.normal_block ?_
     refine AX.go ?_
     refine AW.region ?_
     refine st (OpT.add (H rfl) (T1 rfl) (I rfl) (nw (by omega))) rfl ?_
     refine st (mvT rfl) rfl ?_
     refine nn ?_
     exact AX.again (y + 1) (by omega) (by omega) (Kc 0 _ (Kv rfl rfl) <| Kc 3 _ (Ko rfl (cnt_next hn2 (by omega) hcv)) <| Kc 19 _ (Kv rfl rfl) <| Kc 20 _ (Kv rfl rfl) <| Kc 21 _ (Kv rfl rfl) <| Kc 33 _ (Kv rfl rfl) <| Kc 34 _ (Kv rfl rfl) <| Kc 35 _ (Kv rfl (by omega)) <| Kn)
    ·
     obtain ⟨hc4, hc4'⟩ := pF hc4
     refine AW.exit ?_
     refine xT <| xT <| AX.exit_hit ?_
     refine AX.normal_block ?_
     refine AX.go ?_
     refine AW.region ?_
     refine st (OpT.add (H rfl) (T1 rfl) (I rfl) (nw (by omega))) rfl ?_
     refine st (mvT rfl) rfl ?_
     refine nn ?_
     exact AX.again (z + 1) ⟨by omega, all_step hI0.2 ((knotI_iff ha).2 hkn)⟩ (by omega) (Kc 0 _ (Kv rfl rfl) <| Kc 3 _ (Ko rfl (cnt_all ha (by omega))) <| Kc 19 _ (Kv rfl rfl) <| Kc 20 _ (Kv rfl rfl) <| Kc 21 _ (Kv rfl (by omega)) <| Kn)
  ·
   obtain ⟨hc2, hc2'⟩ := pF hc2
   refine AW.exit ?_
   refine AX.freeze (t := 3) rfl ?_
   refine AX.pr (kc4 22 0 3 19 rfl <| kc2 20 21 rfl <| Kn) ?_
   refine xT <| xT <| AX.exit_hit ?_
   refine AX.go ?_
   refine sr ?_
   refine st (mvT rfl) rfl ?_
   refine st (OpT.cutL (H rfl) (T1 rfl) (I rfl) el91 sz3 (by rw [cntL_len]; omega)) rfl ?_
   refine st (OpT.c1 (ms := [.flat, .flat]) (c_slices_ContainsFunc_int_int _) (H rfl) (Af (T1 rfl) rfl rfl <| Af Opd.func rfl rfl <| An) rfl rfl) rfl ?_
   refine st (OpT.not (H rfl) (T1 rfl)) rfl ?_
   refine st (asT rfl) rfl ?_
   refine ng ?_
   refine AW.ret ?_
   exact rt1 rfl (.inl rfl) (by first | exact tree_no ha (by omega) (tt_false.1 (by simpa using hc3)) | exact tree_end (by omega) hI.2 (by omega) | exact tree_len (by omega))
end Go.Proofs.YtfnkphllkbkfaaaGreatDoor.VL
