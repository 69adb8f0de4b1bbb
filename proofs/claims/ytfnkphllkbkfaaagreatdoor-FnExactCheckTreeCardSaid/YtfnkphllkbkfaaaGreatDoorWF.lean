/- Proved here: what some functions of the program take and give: walks with the words of VA..VQ. Printed by program. -/
import Derived.Test.YtfnkphllkbkfaaaGreatDoorWT
import Derived.Test.YtfnkphllkbkfaaaGreatDoorBpa
import Derived.Test.YtfnkphllkbkfaaaGreatDoorWA
set_option linter.unusedVariables false
set_option linter.unusedSimpArgs false
set_option maxRecDepth 4000
namespace Go.Proofs.YtfnkphllkbkfaaaGreatDoor.VL
open Go
/-- spec.l06Leaf -/
theorem c_spec_l06Leaf (x : DKnot) : AC Tryz.prog 37 [.cel (Kd.ptr kKnot) x] [.cel Kd.bool (tt (leafOK x))] [] := by
 refine acI (N := 46) Tryz.func37 (Nat.le_of_ble_eq_true rfl) rfl fun w0 hd s0 ar => ?_
 refine AW.to (kc 0 rfl <| Kn) ?_
 refine AW.fact (fun a w hr => (ok_slice ((ok_pair (ok_pair (ok_pair (ok_ptr (R_ok (t := 0) rfl hr))).2).2).2)).2) (fun hl0 => ?_)
 refine sr ?_
 refine st (asB rfl) rfl ?_
 refine ng ?_
 refine sr ?_
 refine st (asI rfl) rfl ?_
 refine ng ?_
 refine AW.seq ?_
 refine sr ?_
 refine st (asI rfl) rfl ?_
 refine ng ?_
 refine AW.block ?_
 refine AW.loop (fun z : Nat => z ≤ x.2.2.2.length ∧ ∀ i, i < z → leafI x.2.2.2 i) (fun z : Nat => keep [(0, .cel (Kd.ptr kKnot) x), (3, .cel (Kd.int .i64) (lastV x.2.2.2 z)), (4, .cel (Kd.int .i64) (z : Int))]) (fun z : Nat => x.2.2.2.length - z) (0) ⟨Nat.zero_le _, all_none⟩ (Kc 0 _ (Kv rfl rfl) <| Kc 3 _ (Kv rfl rfl) <| Kc 4 _ (Kv rfl rfl) <| Kn) ?_
 intro z hI
 have hlv := lastV_in hI.2
 refine AW.seq ?_
 refine sr ?_
 refine st (mvT rfl) rfl ?_
 refine st (mvT rfl) rfl ?_
 refine st (OpT.nilCheck (H rfl) (T1 rfl)) rfl ?_
 refine st (OpT.fieldAddr (H rfl) (T1 rfl) fd66_3 sz51 (by decide) sb66_3) rfl ?_
 refine st (OpT.load (H rfl) (T1 rfl) ag51 rfl) rfl ?_
 refine st (OpT.len (H rfl) (T1 rfl) el51) rfl ?_
 refine st (OpT.lss (H rfl) (T1 rfl) (T1 rfl)) rfl ?_
 refine ng ?_
 refine cd rfl (fun hc1 => ?_) fun hc1 => ?_
 ·
  obtain ⟨hc1, hc1'⟩ := pT hc1
  obtain ⟨a, ha⟩ := getI (x := x.2.2.2) (z := z) (by omega)
  refine AW.skip ?_
  refine AX.go ?_
  refine AW.seq ?_
  refine AW.block ?_
  refine AW.seq ?_
  refine sr ?_
  refine st (mvT rfl) rfl ?_
  refine st (OpT.nilCheck (H rfl) (T1 rfl)) rfl ?_
  refine st (OpT.fieldAddr (H rfl) (T1 rfl) fd66_3 sz51 (by decide) sb66_3) rfl ?_
  refine st (OpT.load (H rfl) (T1 rfl) ag51 rfl) rfl ?_
  refine st (mvT rfl) rfl ?_
  refine st (OpT.indexAddr (H rfl) (T1 rfl) (T1 rfl) el51 sz2 (by omega) (by assumption)) rfl ?_
  refine st (OpT.load (H rfl) (T1 rfl) ag2 rfl) rfl ?_
  refine st (mvT rfl) rfl ?_
  refine st (OpT.add (H rfl) (T1 rfl) (I rfl) (nw (by omega))) rfl ?_
  refine st (OpT.c1 (ms := [.flat, .flat, .flat]) (c_spec_l00In _ _ _) (H rfl) (Af (T1 rfl) rfl rfl <| Af (T1 rfl) rfl rfl <| Af (I rfl) rfl rfl <| An) rfl rfl) rfl ?_
  refine st (OpT.not (H rfl) (T1 rfl)) rfl ?_
  refine ng ?_
  refine cd rfl (fun hc2 => ?_) fun hc2 => ?_
  ·
   obtain ⟨hc2, hc2'⟩ := pT hc2
   refine sr ?_
   refine st (asB rfl) rfl ?_
   refine ng ?_
   refine AW.ret ?_
   refine rT <| rK <| rT <| rT <| rK <| rT ?_
   exact rt1 rfl (.inl rfl) (by first | exact leaf_no (by omega) (mt (lastV_iff hI.2 ha).1 (by simp [hc2'])) | exact leaf_end hI.2 (by omega))
  ·
   obtain ⟨hc2, hc2'⟩ := pF hc2
   refine AW.skip ?_
   refine AX.go ?_
   refine AW.region ?_
   refine st (mvT rfl) rfl ?_
   refine st (OpT.nilCheck (H rfl) (T1 rfl)) rfl ?_
   refine st (OpT.fieldAddr (H rfl) (T1 rfl) fd66_3 sz51 (by decide) sb66_3) rfl ?_
   refine st (OpT.load (H rfl) (T1 rfl) ag51 rfl) rfl ?_
   refine st (mvT rfl) rfl ?_
   refine st (OpT.indexAddr (H rfl) (T1 rfl) (T1 rfl) el51 sz2 (by omega) (by assumption)) rfl ?_
   refine st (OpT.load (H rfl) (T1 rfl) ag2 rfl) rfl ?_
   refine st (asT rfl) rfl ?_
   refine nn ?_
   refine AX.normal_block ?_
   refine AX.go ?_
   refine AW.region ?_
   refine st (mvT rfl) rfl ?_
   refine st (OpT.add (H rfl) (T1 rfl) (I rfl) (nw (by omega))) rfl ?_
   refine st (asT rfl) rfl ?_
   refine nn ?_
   exact AX.again (z + 1) ⟨by omega, all_step hI.2 ((lastV_iff hI.2 ha).2 hc2')⟩ (by omega) (Kc 0 _ (Kv rfl rfl) <| Kc 3 _ (Kv rfl (lastV_succ ha)) <| Kc 4 _ (Kv rfl (by omega)) <| Kn)
 ·
  obtain ⟨hc1, hc1'⟩ := pF hc1
  refine AW.exit ?_
  refine xT <| xT <| AX.exit_hit ?_
  refine AX.go ?_
  refine sr ?_
  refine st (mvT rfl) rfl ?_
  refine st (OpT.nilCheck (H rfl) (T1 rfl)) rfl ?_
  refine st (OpT.fieldAddr (H rfl) (T1 rfl) fd66_1 sz51 (by decide) sb66_1) rfl ?_
  refine st (OpT.load (H rfl) (T1 rfl) ag51 rfl) rfl ?_
  refine st (OpT.len (H rfl) (T1 rfl) el51) rfl ?_
  refine st (OpT.eql (H rfl) (T1 rfl) (I rfl)) rfl ?_
  refine st (mvT rfl) rfl ?_
  apply AWl.and (d := 45) (t := 38) rfl
  ·
   intro hb1 Q1 k1
   have hb1' := lT hb1
   refine rs hb1 (mvT rfl) rfl ?_
   refine rs hb1 (OpT.nilCheck (H rfl) (T1 rfl)) rfl ?_
   refine rs hb1 (OpT.fieldAddr (H rfl) (T1 rfl) fd66_2 sz52 (by decide) sb66_2) rfl ?_
   refine rs hb1 (OpT.load (H rfl) (T1 rfl) ag52 rfl) rfl ?_
   refine rs hb1 (OpT.len (H rfl) (T1 rfl) el52) rfl ?_
   refine rs hb1 (OpT.eql (H rfl) (T1 rfl) (I rfl)) rfl ?_
   refine st (OpT.pickT (A := .cel _ _) (H rfl) (T1 rfl) hb1 (T1 rfl) rfl) rfl ?_
   exact AWl.to (junk 6 rfl) k1
  ·
   intro hb1 Q1 k1
   refine ps hb1 rfl ?_
   refine ps hb1 rfl ?_
   refine ps hb1 rfl ?_
   refine ps hb1 rfl ?_
   refine ps hb1 rfl ?_
   refine ps hb1 rfl ?_
   refine st (OpT.pickF (A := .cel _ _) (H rfl) (T1 rfl) hb1 Opd.bool rfl) rfl ?_
   exact k1
  refine st (asT rfl) rfl ?_
  refine AWl.to (kc 2 rfl <| Kn) ?_
  refine ng ?_
  refine AW.ret ?_
  exact rt1 rfl (.inl rfl) (by first | exact leaf_no (by omega) (mt (lastV_iff hI.2 ha).1 (by simp [hc2'])) | exact leaf_end hI.2 (by omega))

set_option maxHeartbeats 4000000 in
/-- spec.l06Asker -/
theorem c_spec_l06Asker (x : DKnot) (p b : Int) (m : Nat) (l : List Int) (hh : 0 ≤ p ∧ p ≤ 120 ∧ 0 ≤ b ∧ b ≤ 1 ∧ m ≤ 120 ∧ l.length + x.2.2.1.length ≤ 1152921504606846976) : AC Tryz.prog 38 [.cel (Kd.ptr kKnot) x, .cel (Kd.int .i64) p, .own 2 (Kd.int .i64) (cntL b m l)] [.cel Kd.bool (tt (askOK x p m))] [.any, .any, .own 2 (Kd.int .i64) (cntL b m (l ++ x.2.2.1.take (askN x p m)))] := by
 refine acI (N := 125) Tryz.func38 (Nat.le_of_ble_eq_true rfl) rfl fun w0 hd s0 ar => ?_
 refine AW.to (kc2 0 1 rfl <| ko 2 rfl <| Kn) ?_
 refine AW.fact (fun a w hr => (ok_slice ((ok_pair (ok_pair (ok_ptr (R_ok (t := 0) rfl hr))).2).1)).2) (fun hl0 => ?_)
 refine AW.fact (fun a w hr => (ok_slice ((ok_pair (ok_pair (ok_pair (ok_ptr (R_ok (t := 0) rfl hr))).2).2).1)).1) (fun hk => ?_)
 have hok := fun n hn => ok_i16 (hk n hn)
 refine sr ?_
 refine st (asB rfl) rfl ?_
 refine ng ?_
 refine AW.seq ?_
 refine AW.seq ?_
 rcases Bool.eq_false_or_eq_true (decide (x.1 < (0 : Int))) with hd1 | hd1
 ·
  have hd1' := lT hd1
  refine dh fomo ?_
  refine d1 [0] (fun ve h => OpT.move (A := .cel _ _) (.inl rfl) rfl (ok' rfl) (D1 h rfl) rfl) rfl ?_
  refine d1 [8] (fun ve h => OpT.nilCheck (H rfl) (D1 h rfl)) rfl ?_
  refine d1 [9] (fun ve h => OpT.fieldAddr (H rfl) (D1 h rfl) fd66_0 sz42 (by decide) sb66_0) rfl ?_
  refine d1 [10] (fun ve h => OpT.load (H rfl) (D1 h rfl) ag42 rfl) rfl ?_
  refine d1 [11] (fun ve h => OpT.lss (H rfl) (D1 h rfl) (I rfl)) rfl ?_
  refine d1 [12] (fun ve h => OpT.move (A := .cel _ _) (.inl rfl) rfl (ok' rfl) (D1 h rfl) rfl) rfl ?_
  refine dp hd1 rfl ?_
  refine dp hd1 rfl ?_
  refine dp hd1 rfl ?_
  refine dp hd1 rfl ?_
  refine dp hd1 rfl ?_
  refine d1 [13] (fun ve h => OpT.pickT (A := .cel _ _) (H rfl) (D1 h rfl) hd1 Opd.bool rfl) rfl ?_
  refine d1 [19] (fun ve h => OpT.move (A := .cel _ _) (.inl rfl) rfl (ok' rfl) (D1 h rfl) rfl) rfl ?_
  refine dp rfl rfl ?_
  refine dp rfl rfl ?_
  refine dp rfl rfl ?_
  refine dp rfl rfl ?_
  refine dp rfl rfl ?_
  refine dp rfl rfl ?_
  refine d1 [20] (fun ve h => OpT.pickT (A := .cel _ _) (H rfl) (D1 h rfl) rfl Opd.bool rfl) rfl ?_
  refine d1 [27] (fun ve h => OpT.move (A := .cel _ _) (.inl rfl) rfl (ok' rfl) (D1 h rfl) rfl) rfl ?_
  refine dp rfl rfl ?_
  refine dp rfl rfl ?_
  refine dp rfl rfl ?_
  refine dp rfl rfl ?_
  refine dp rfl rfl ?_
  refine dp rfl rfl ?_
  refine d1 [28] (fun ve h => OpT.pickT (A := .cel _ _) (H rfl) (D1 h rfl) rfl Opd.bool rfl) rfl ?_
  refine d1 [35] (fun ve h => OpT.move (A := .cel _ _) (.inl rfl) rfl (ok' rfl) (D1 h rfl) rfl) rfl ?_
  refine dp rfl rfl ?_
  refine dp rfl rfl ?_
  refine dp rfl rfl ?_
  refine dp rfl rfl ?_
  refine dp rfl rfl ?_
  refine dp rfl rfl ?_
  refine dp rfl rfl ?_
  refine dp rfl rfl ?_
  refine dp rfl rfl ?_
  refine dp rfl rfl ?_
  refine dp rfl rfl ?_
  refine d1 [36] (fun ve h => OpT.pickT (A := .cel _ _) (H rfl) (D1 h rfl) rfl Opd.bool rfl) rfl ?_
  refine dn ⟨by kernel_rfl, by kernel_rfl, ?_⟩
  refine AX.pr (kc4 48 6 0 1 rfl <| ko 2 rfl <| Kn) ?_
  refine AX.go ?_
  refine cd rfl (fun hc1 => ?_) fun hc1 => ?_
  ·
   obtain ⟨hc1, hc1'⟩ := pT hc1
   refine sr ?_
   refine st (asB rfl) rfl ?_
   refine ng ?_
   refine AW.ret ?_
   refine rT ?_
   exact AX.rt (rs := [.tmp 6]) (ts := [some 6]) (.inl rfl) rfl (ROs.cons (RO.tmp (At.self (by decide)) (Kv rfl (by first | exact ask_at (z := z) (mt (askI_iff hv hn hvp).1 (by omega)) (by omega) | exact ask_all (by unfold askH; omega) hI.2 (by omega) | exact ask_head (by unfold askH; omega))) rfl) <| ROs.nil) (by decide) (fun i => match i with | 0 => .inl rfl | 1 => .inl rfl | 2 => .inr ⟨rfl, Ko rfl (by first | rw [askN_at (z := z) (by unfold askH; omega) hI.2 (mt (askI_iff hv hn hvp).1 (by omega)) (by omega)] | rw [askN_all (by unfold askH; omega) hI.2 (by omega), List.take_of_length_le (by omega), List.take_of_length_le (by omega)] | rw [askN_head (by unfold askH; omega), List.take_zero, List.append_nil]), rfl, by decide⟩ | _ + 3 => .inl rfl)
  ·
   obtain ⟨hc1, hc1'⟩ := pF hc1
   exact absurd hc1 (by decide)
 ·
  have hd1' := lF hd1
  rcases Bool.eq_false_or_eq_true (decide (x.1 ≥ (12 : Int))) with hd2 | hd2
  ·
   have hd2' := lT hd2
   refine dh fomo ?_
   refine d1 [0] (fun ve h => OpT.move (A := .cel _ _) (.inl rfl) rfl (ok' rfl) (D1 h rfl) rfl) rfl ?_
   refine d1 [8] (fun ve h => OpT.nilCheck (H rfl) (D1 h rfl)) rfl ?_
   refine d1 [9] (fun ve h => OpT.fieldAddr (H rfl) (D1 h rfl) fd66_0 sz42 (by decide) sb66_0) rfl ?_
   refine d1 [10] (fun ve h => OpT.load (H rfl) (D1 h rfl) ag42 rfl) rfl ?_
   refine d1 [11] (fun ve h => OpT.lss (H rfl) (D1 h rfl) (I rfl)) rfl ?_
   refine d1 [12] (fun ve h => OpT.move (A := .cel _ _) (.inl rfl) rfl (ok' rfl) (D1 h rfl) rfl) rfl ?_
   refine dr [0, 13] hd1 (fun ve h => OpT.move (A := .cel _ _) (.inl rfl) rfl (ok' rfl) (D1 h rfl) rfl) rfl ?_
   refine dr [13, 14] hd1 (fun ve h => OpT.nilCheck (H rfl) (D1 h rfl)) rfl ?_
   refine dr [13, 15] hd1 (fun ve h => OpT.fieldAddr (H rfl) (D1 h rfl) fd66_0 sz42 (by decide) sb66_0) rfl ?_
   refine dr [13, 16] hd1 (fun ve h => OpT.load (H rfl) (D1 h rfl) ag42 rfl) rfl ?_
   refine dr [13, 17] hd1 (fun ve h => OpT.geq (H rfl) (D1 h rfl) (I rfl)) rfl ?_
   refine d1 [13, 18] (fun ve h => OpT.pickF (A := .cel _ _) (H rfl) (D1 h rfl) hd1 (D1 h rfl) rfl) rfl ?_
   refine d1 [19] (fun ve h => OpT.move (A := .cel _ _) (.inl rfl) rfl (ok' rfl) (D1 h rfl) rfl) rfl ?_
   refine dp hd2 rfl ?_
   refine dp hd2 rfl ?_
   refine dp hd2 rfl ?_
   refine dp hd2 rfl ?_
   refine dp hd2 rfl ?_
   refine dp hd2 rfl ?_
   refine d1 [20] (fun ve h => OpT.pickT (A := .cel _ _) (H rfl) (D1 h rfl) hd2 Opd.bool rfl) rfl ?_
   refine d1 [27] (fun ve h => OpT.move (A := .cel _ _) (.inl rfl) rfl (ok' rfl) (D1 h rfl) rfl) rfl ?_
   refine dp rfl rfl ?_
   refine dp rfl rfl ?_
   refine dp rfl rfl ?_
   refine dp rfl rfl ?_
   refine dp rfl rfl ?_
   refine dp rfl rfl ?_
   refine d1 [28] (fun ve h => OpT.pickT (A := .cel _ _) (H rfl) (D1 h rfl) rfl Opd.bool rfl) rfl ?_
   refine d1 [35] (fun ve h => OpT.move (A := .cel _ _) (.inl rfl) rfl (ok' rfl) (D1 h rfl) rfl) rfl ?_
   refine dp rfl rfl ?_
   refine dp rfl rfl ?_
   refine dp rfl rfl ?_
   refine dp rfl rfl ?_
   refine dp rfl rfl ?_
   refine dp rfl rfl ?_
   refine dp rfl rfl ?_
   refine dp rfl rfl ?_
   refine dp rfl rfl ?_
   refine dp rfl rfl ?_
   refine dp rfl rfl ?_
   refine d1 [36] (fun ve h => OpT.pickT (A := .cel _ _) (H rfl) (D1 h rfl) rfl Opd.bool rfl) rfl ?_
   refine dn ⟨by kernel_rfl, by kernel_rfl, ?_⟩
   refine AX.pr (kc4 48 6 0 1 rfl <| ko 2 rfl <| Kn) ?_
   refine AX.go ?_
   refine cd rfl (fun hc2 => ?_) fun hc2 => ?_
   ·
    obtain ⟨hc2, hc2'⟩ := pT hc2
    refine sr ?_
    refine st (asB rfl) rfl ?_
    refine ng ?_
    refine AW.ret ?_
    refine rT ?_
    exact AX.rt (rs := [.tmp 6]) (ts := [some 6]) (.inl rfl) rfl (ROs.cons (RO.tmp (At.self (by decide)) (Kv rfl (by first | exact ask_at (z := z) (mt (askI_iff hv hn hvp).1 (by omega)) (by omega) | exact ask_all (by unfold askH; omega) hI.2 (by omega) | exact ask_head (by unfold askH; omega))) rfl) <| ROs.nil) (by decide) (fun i => match i with | 0 => .inl rfl | 1 => .inl rfl | 2 => .inr ⟨rfl, Ko rfl (by first | rw [askN_at (z := z) (by unfold askH; omega) hI.2 (mt (askI_iff hv hn hvp).1 (by omega)) (by omega)] | rw [askN_all (by unfold askH; omega) hI.2 (by omega), List.take_of_length_le (by omega), List.take_of_length_le (by omega)] | rw [askN_head (by unfold askH; omega), List.take_zero, List.append_nil]), rfl, by decide⟩ | _ + 3 => .inl rfl)
   ·
    obtain ⟨hc2, hc2'⟩ := pF hc2
    exact absurd hc2 (by decide)
  ·
   have hd2' := lF hd2
   rcases Bool.eq_false_or_eq_true (decide (((x.2.2.2).length : Int) > (0 : Int))) with hd3 | hd3
   ·
    have hd3' := lT hd3
    refine dh fomo ?_
    refine d1 [0] (fun ve h => OpT.move (A := .cel _ _) (.inl rfl) rfl (ok' rfl) (D1 h rfl) rfl) rfl ?_
    refine d1 [8] (fun ve h => OpT.nilCheck (H rfl) (D1 h rfl)) rfl ?_
    refine d1 [9] (fun ve h => OpT.fieldAddr (H rfl) (D1 h rfl) fd66_0 sz42 (by decide) sb66_0) rfl ?_
    refine d1 [10] (fun ve h => OpT.load (H rfl) (D1 h rfl) ag42 rfl) rfl ?_
    refine d1 [11] (fun ve h => OpT.lss (H rfl) (D1 h rfl) (I rfl)) rfl ?_
    refine d1 [12] (fun ve h => OpT.move (A := .cel _ _) (.inl rfl) rfl (ok' rfl) (D1 h rfl) rfl) rfl ?_
    refine dr [0, 13] hd1 (fun ve h => OpT.move (A := .cel _ _) (.inl rfl) rfl (ok' rfl) (D1 h rfl) rfl) rfl ?_
    refine dr [13, 14] hd1 (fun ve h => OpT.nilCheck (H rfl) (D1 h rfl)) rfl ?_
    refine dr [13, 15] hd1 (fun ve h => OpT.fieldAddr (H rfl) (D1 h rfl) fd66_0 sz42 (by decide) sb66_0) rfl ?_
    refine dr [13, 16] hd1 (fun ve h => OpT.load (H rfl) (D1 h rfl) ag42 rfl) rfl ?_
    refine dr [13, 17] hd1 (fun ve h => OpT.geq (H rfl) (D1 h rfl) (I rfl)) rfl ?_
    refine d1 [13, 18] (fun ve h => OpT.pickF (A := .cel _ _) (H rfl) (D1 h rfl) hd1 (D1 h rfl) rfl) rfl ?_
    refine d1 [19] (fun ve h => OpT.move (A := .cel _ _) (.inl rfl) rfl (ok' rfl) (D1 h rfl) rfl) rfl ?_
    refine dr [0, 20] hd2 (fun ve h => OpT.move (A := .cel _ _) (.inl rfl) rfl (ok' rfl) (D1 h rfl) rfl) rfl ?_
    refine dr [20, 21] hd2 (fun ve h => OpT.nilCheck (H rfl) (D1 h rfl)) rfl ?_
    refine dr [20, 22] hd2 (fun ve h => OpT.fieldAddr (H rfl) (D1 h rfl) fd66_3 sz51 (by decide) sb66_3) rfl ?_
    refine dr [20, 23] hd2 (fun ve h => OpT.load (H rfl) (D1 h rfl) ag51 rfl) rfl ?_
    refine dr [20, 24] hd2 (fun ve h => OpT.len (H rfl) (D1 h rfl) el51) rfl ?_
    refine dr [20, 25] hd2 (fun ve h => OpT.gtr (H rfl) (D1 h rfl) (I rfl)) rfl ?_
    refine d1 [20, 26] (fun ve h => OpT.pickF (A := .cel _ _) (H rfl) (D1 h rfl) hd2 (D1 h rfl) rfl) rfl ?_
    refine d1 [27] (fun ve h => OpT.move (A := .cel _ _) (.inl rfl) rfl (ok' rfl) (D1 h rfl) rfl) rfl ?_
    refine dp hd3 rfl ?_
    refine dp hd3 rfl ?_
    refine dp hd3 rfl ?_
    refine dp hd3 rfl ?_
    refine dp hd3 rfl ?_
    refine dp hd3 rfl ?_
    refine d1 [28] (fun ve h => OpT.pickT (A := .cel _ _) (H rfl) (D1 h rfl) hd3 Opd.bool rfl) rfl ?_
    refine d1 [35] (fun ve h => OpT.move (A := .cel _ _) (.inl rfl) rfl (ok' rfl) (D1 h rfl) rfl) rfl ?_
    refine dp rfl rfl ?_
    refine dp rfl rfl ?_
    refine dp rfl rfl ?_
    refine dp rfl rfl ?_
    refine dp rfl rfl ?_
    refine dp rfl rfl ?_
    refine dp rfl rfl ?_
    refine dp rfl rfl ?_
    refine dp rfl rfl ?_
    refine dp rfl rfl ?_
    refine dp rfl rfl ?_
    refine d1 [36] (fun ve h => OpT.pickT (A := .cel _ _) (H rfl) (D1 h rfl) rfl Opd.bool rfl) rfl ?_
    refine dn ⟨by kernel_rfl, by kernel_rfl, ?_⟩
    refine AX.pr (kc4 48 6 0 1 rfl <| ko 2 rfl <| Kn) ?_
    refine AX.go ?_
    refine cd rfl (fun hc3 => ?_) fun hc3 => ?_
    ·
     obtain ⟨hc3, hc3'⟩ := pT hc3
     refine sr ?_
     refine st (asB rfl) rfl ?_
     refine ng ?_
     refine AW.ret ?_
     refine rT ?_
     exact AX.rt (rs := [.tmp 6]) (ts := [some 6]) (.inl rfl) rfl (ROs.cons (RO.tmp (At.self (by decide)) (Kv rfl (by first | exact ask_at (z := z) (mt (askI_iff hv hn hvp).1 (by omega)) (by omega) | exact ask_all (by unfold askH; omega) hI.2 (by omega) | exact ask_head (by unfold askH; omega))) rfl) <| ROs.nil) (by decide) (fun i => match i with | 0 => .inl rfl | 1 => .inl rfl | 2 => .inr ⟨rfl, Ko rfl (by first | rw [askN_at (z := z) (by unfold askH; omega) hI.2 (mt (askI_iff hv hn hvp).1 (by omega)) (by omega)] | rw [askN_all (by unfold askH; omega) hI.2 (by omega), List.take_of_length_le (by omega), List.take_of_length_le (by omega)] | rw [askN_head (by unfold askH; omega), List.take_zero, List.append_nil]), rfl, by decide⟩ | _ + 3 => .inl rfl)
    ·
     obtain ⟨hc3, hc3'⟩ := pF hc3
     exact absurd hc3 (by decide)
   ·
    have hd3' := lF hd3
    rcases Bool.eq_false_or_eq_true (((x.2.1).length : Int) == (0 : Int)) with hd4 | hd4
    ·
     have hd4' := lT hd4
     refine dh fomo ?_
     refine d1 [0] (fun ve h => OpT.move (A := .cel _ _) (.inl rfl) rfl (ok' rfl) (D1 h rfl) rfl) rfl ?_
     refine d1 [8] (fun ve h => OpT.nilCheck (H rfl) (D1 h rfl)) rfl ?_
     refine d1 [9] (fun ve h => OpT.fieldAddr (H rfl) (D1 h rfl) fd66_0 sz42 (by decide) sb66_0) rfl ?_
     refine d1 [10] (fun ve h => OpT.load (H rfl) (D1 h rfl) ag42 rfl) rfl ?_
     refine d1 [11] (fun ve h => OpT.lss (H rfl) (D1 h rfl) (I rfl)) rfl ?_
     refine d1 [12] (fun ve h => OpT.move (A := .cel _ _) (.inl rfl) rfl (ok' rfl) (D1 h rfl) rfl) rfl ?_
     refine dr [0, 13] hd1 (fun ve h => OpT.move (A := .cel _ _) (.inl rfl) rfl (ok' rfl) (D1 h rfl) rfl) rfl ?_
     refine dr [13, 14] hd1 (fun ve h => OpT.nilCheck (H rfl) (D1 h rfl)) rfl ?_
     refine dr [13, 15] hd1 (fun ve h => OpT.fieldAddr (H rfl) (D1 h rfl) fd66_0 sz42 (by decide) sb66_0) rfl ?_
     refine dr [13, 16] hd1 (fun ve h => OpT.load (H rfl) (D1 h rfl) ag42 rfl) rfl ?_
     refine dr [13, 17] hd1 (fun ve h => OpT.geq (H rfl) (D1 h rfl) (I rfl)) rfl ?_
     refine d1 [13, 18] (fun ve h => OpT.pickF (A := .cel _ _) (H rfl) (D1 h rfl) hd1 (D1 h rfl) rfl) rfl ?_
     refine d1 [19] (fun ve h => OpT.move (A := .cel _ _) (.inl rfl) rfl (ok' rfl) (D1 h rfl) rfl) rfl ?_
     refine dr [0, 20] hd2 (fun ve h => OpT.move (A := .cel _ _) (.inl rfl) rfl (ok' rfl) (D1 h rfl) rfl) rfl ?_
     refine dr [20, 21] hd2 (fun ve h => OpT.nilCheck (H rfl) (D1 h rfl)) rfl ?_
     refine dr [20, 22] hd2 (fun ve h => OpT.fieldAddr (H rfl) (D1 h rfl) fd66_3 sz51 (by decide) sb66_3) rfl ?_
     refine dr [20, 23] hd2 (fun ve h => OpT.load (H rfl) (D1 h rfl) ag51 rfl) rfl ?_
     refine dr [20, 24] hd2 (fun ve h => OpT.len (H rfl) (D1 h rfl) el51) rfl ?_
     refine dr [20, 25] hd2 (fun ve h => OpT.gtr (H rfl) (D1 h rfl) (I rfl)) rfl ?_
     refine d1 [20, 26] (fun ve h => OpT.pickF (A := .cel _ _) (H rfl) (D1 h rfl) hd2 (D1 h rfl) rfl) rfl ?_
     refine d1 [27] (fun ve h => OpT.move (A := .cel _ _) (.inl rfl) rfl (ok' rfl) (D1 h rfl) rfl) rfl ?_
     refine dr [0, 28] hd3 (fun ve h => OpT.move (A := .cel _ _) (.inl rfl) rfl (ok' rfl) (D1 h rfl) rfl) rfl ?_
     refine dr [28, 29] hd3 (fun ve h => OpT.nilCheck (H rfl) (D1 h rfl)) rfl ?_
     refine dr [28, 30] hd3 (fun ve h => OpT.fieldAddr (H rfl) (D1 h rfl) fd66_1 sz51 (by decide) sb66_1) rfl ?_
     refine dr [28, 31] hd3 (fun ve h => OpT.load (H rfl) (D1 h rfl) ag51 rfl) rfl ?_
     refine dr [28, 32] hd3 (fun ve h => OpT.len (H rfl) (D1 h rfl) el51) rfl ?_
     refine dr [28, 33] hd3 (fun ve h => OpT.eql (H rfl) (D1 h rfl) (I rfl)) rfl ?_
     refine d1 [28, 34] (fun ve h => OpT.pickF (A := .cel _ _) (H rfl) (D1 h rfl) hd3 (D1 h rfl) rfl) rfl ?_
     refine d1 [35] (fun ve h => OpT.move (A := .cel _ _) (.inl rfl) rfl (ok' rfl) (D1 h rfl) rfl) rfl ?_
     refine dp hd4 rfl ?_
     refine dp hd4 rfl ?_
     refine dp hd4 rfl ?_
     refine dp hd4 rfl ?_
     refine dp hd4 rfl ?_
     refine dp hd4 rfl ?_
     refine dp hd4 rfl ?_
     refine dp hd4 rfl ?_
     refine dp hd4 rfl ?_
     refine dp hd4 rfl ?_
     refine dp hd4 rfl ?_
     refine d1 [36] (fun ve h => OpT.pickT (A := .cel _ _) (H rfl) (D1 h rfl) hd4 Opd.bool rfl) rfl ?_
     refine dn ⟨by kernel_rfl, by kernel_rfl, ?_⟩
     refine AX.pr (kc4 48 6 0 1 rfl <| ko 2 rfl <| Kn) ?_
     refine AX.go ?_
     refine cd rfl (fun hc4 => ?_) fun hc4 => ?_
     ·
      obtain ⟨hc4, hc4'⟩ := pT hc4
      refine sr ?_
      refine st (asB rfl) rfl ?_
      refine ng ?_
      refine AW.ret ?_
      refine rT ?_
      exact AX.rt (rs := [.tmp 6]) (ts := [some 6]) (.inl rfl) rfl (ROs.cons (RO.tmp (At.self (by decide)) (Kv rfl (by first | exact ask_at (z := z) (mt (askI_iff hv hn hvp).1 (by omega)) (by omega) | exact ask_all (by unfold askH; omega) hI.2 (by omega) | exact ask_head (by unfold askH; omega))) rfl) <| ROs.nil) (by decide) (fun i => match i with | 0 => .inl rfl | 1 => .inl rfl | 2 => .inr ⟨rfl, Ko rfl (by first | rw [askN_at (z := z) (by unfold askH; omega) hI.2 (mt (askI_iff hv hn hvp).1 (by omega)) (by omega)] | rw [askN_all (by unfold askH; omega) hI.2 (by omega), List.take_of_length_le (by omega), List.take_of_length_le (by omega)] | rw [askN_head (by unfold askH; omega), List.take_zero, List.append_nil]), rfl, by decide⟩ | _ + 3 => .inl rfl)
     ·
      obtain ⟨hc4, hc4'⟩ := pF hc4
      exact absurd hc4 (by decide)
    ·
     have hd4' := lF hd4
     refine dh fomo ?_
     refine d1 [0] (fun ve h => OpT.move (A := .cel _ _) (.inl rfl) rfl (ok' rfl) (D1 h rfl) rfl) rfl ?_
     refine d1 [8] (fun ve h => OpT.nilCheck (H rfl) (D1 h rfl)) rfl ?_
     refine d1 [9] (fun ve h => OpT.fieldAddr (H rfl) (D1 h rfl) fd66_0 sz42 (by decide) sb66_0) rfl ?_
     refine d1 [10] (fun ve h => OpT.load (H rfl) (D1 h rfl) ag42 rfl) rfl ?_
     refine d1 [11] (fun ve h => OpT.lss (H rfl) (D1 h rfl) (I rfl)) rfl ?_
     refine d1 [12] (fun ve h => OpT.move (A := .cel _ _) (.inl rfl) rfl (ok' rfl) (D1 h rfl) rfl) rfl ?_
     refine dr [0, 13] hd1 (fun ve h => OpT.move (A := .cel _ _) (.inl rfl) rfl (ok' rfl) (D1 h rfl) rfl) rfl ?_
     refine dr [13, 14] hd1 (fun ve h => OpT.nilCheck (H rfl) (D1 h rfl)) rfl ?_
     refine dr [13, 15] hd1 (fun ve h => OpT.fieldAddr (H rfl) (D1 h rfl) fd66_0 sz42 (by decide) sb66_0) rfl ?_
     refine dr [13, 16] hd1 (fun ve h => OpT.load (H rfl) (D1 h rfl) ag42 rfl) rfl ?_
     refine dr [13, 17] hd1 (fun ve h => OpT.geq (H rfl) (D1 h rfl) (I rfl)) rfl ?_
     refine d1 [13, 18] (fun ve h => OpT.pickF (A := .cel _ _) (H rfl) (D1 h rfl) hd1 (D1 h rfl) rfl) rfl ?_
     refine d1 [19] (fun ve h => OpT.move (A := .cel _ _) (.inl rfl) rfl (ok' rfl) (D1 h rfl) rfl) rfl ?_
     refine dr [0, 20] hd2 (fun ve h => OpT.move (A := .cel _ _) (.inl rfl) rfl (ok' rfl) (D1 h rfl) rfl) rfl ?_
     refine dr [20, 21] hd2 (fun ve h => OpT.nilCheck (H rfl) (D1 h rfl)) rfl ?_
     refine dr [20, 22] hd2 (fun ve h => OpT.fieldAddr (H rfl) (D1 h rfl) fd66_3 sz51 (by decide) sb66_3) rfl ?_
     refine dr [20, 23] hd2 (fun ve h => OpT.load (H rfl) (D1 h rfl) ag51 rfl) rfl ?_
     refine dr [20, 24] hd2 (fun ve h => OpT.len (H rfl) (D1 h rfl) el51) rfl ?_
     refine dr [20, 25] hd2 (fun ve h => OpT.gtr (H rfl) (D1 h rfl) (I rfl)) rfl ?_
     refine d1 [20, 26] (fun ve h => OpT.pickF (A := .cel _ _) (H rfl) (D1 h rfl) hd2 (D1 h rfl) rfl) rfl ?_
     refine d1 [27] (fun ve h => OpT.move (A := .cel _ _) (.inl rfl) rfl (ok' rfl) (D1 h rfl) rfl) rfl ?_
     refine dr [0, 28] hd3 (fun ve h => OpT.move (A := .cel _ _) (.inl rfl) rfl (ok' rfl) (D1 h rfl) rfl) rfl ?_
     refine dr [28, 29] hd3 (fun ve h => OpT.nilCheck (H rfl) (D1 h rfl)) rfl ?_
     refine dr [28, 30] hd3 (fun ve h => OpT.fieldAddr (H rfl) (D1 h rfl) fd66_1 sz51 (by decide) sb66_1) rfl ?_
     refine dr [28, 31] hd3 (fun ve h => OpT.load (H rfl) (D1 h rfl) ag51 rfl) rfl ?_
     refine dr [28, 32] hd3 (fun ve h => OpT.len (H rfl) (D1 h rfl) el51) rfl ?_
     refine dr [28, 33] hd3 (fun ve h => OpT.eql (H rfl) (D1 h rfl) (I rfl)) rfl ?_
     refine d1 [28, 34] (fun ve h => OpT.pickF (A := .cel _ _) (H rfl) (D1 h rfl) hd3 (D1 h rfl) rfl) rfl ?_
     refine d1 [35] (fun ve h => OpT.move (A := .cel _ _) (.inl rfl) rfl (ok' rfl) (D1 h rfl) rfl) rfl ?_
     refine dr [0, 36] hd4 (fun ve h => OpT.move (A := .cel _ _) (.inl rfl) rfl (ok' rfl) (D1 h rfl) rfl) rfl ?_
     refine dr [36, 37] hd4 (fun ve h => OpT.nilCheck (H rfl) (D1 h rfl)) rfl ?_
     refine dr [36, 38] hd4 (fun ve h => OpT.fieldAddr (H rfl) (D1 h rfl) fd66_2 sz52 (by decide) sb66_2) rfl ?_
     refine dr [36, 39] hd4 (fun ve h => OpT.load (H rfl) (D1 h rfl) ag52 rfl) rfl ?_
     refine dr [36, 40] hd4 (fun ve h => OpT.len (H rfl) (D1 h rfl) el52) rfl ?_
     refine dr [0, 36] hd4 (fun ve h => OpT.move (A := .cel _ _) (.inl rfl) rfl (ok' rfl) (D1 h rfl) rfl) rfl ?_
     refine dr [36, 42] hd4 (fun ve h => OpT.nilCheck (H rfl) (D1 h rfl)) rfl ?_
     refine dr [36, 43] hd4 (fun ve h => OpT.fieldAddr (H rfl) (D1 h rfl) fd66_1 sz51 (by decide) sb66_1) rfl ?_
     refine dr [36, 44] hd4 (fun ve h => OpT.load (H rfl) (D1 h rfl) ag51 rfl) rfl ?_
     refine dr [36, 45] hd4 (fun ve h => OpT.len (H rfl) (D1 h rfl) el51) rfl ?_
     refine dr [36, 41, 46] hd4 (fun ve h => OpT.neq (H rfl) (D1 h rfl) (D1 h rfl)) rfl ?_
     refine d1 [36, 47] (fun ve h => OpT.pickF (A := .cel _ _) (H rfl) (D1 h rfl) hd4 (D1 h rfl) rfl) rfl ?_
     refine dn ⟨by kernel_rfl, by kernel_rfl, ?_⟩
     refine AX.pr (kc4 48 6 0 1 rfl <| ko 2 rfl <| Kn) ?_
     refine AX.go ?_
     refine cd rfl (fun hc5 => ?_) fun hc5 => ?_
     ·
      obtain ⟨hc5, hc5'⟩ := pT hc5
      refine sr ?_
      refine st (asB rfl) rfl ?_
      refine ng ?_
      refine AW.ret ?_
      refine rT ?_
      exact AX.rt (rs := [.tmp 6]) (ts := [some 6]) (.inl rfl) rfl (ROs.cons (RO.tmp (At.self (by decide)) (Kv rfl (by first | exact ask_at (z := z) (mt (askI_iff hv hn hvp).1 (by omega)) (by omega) | exact ask_all (by unfold askH; omega) hI.2 (by omega) | exact ask_head (by unfold askH; omega))) rfl) <| ROs.nil) (by decide) (fun i => match i with | 0 => .inl rfl | 1 => .inl rfl | 2 => .inr ⟨rfl, Ko rfl (by first | rw [askN_at (z := z) (by unfold askH; omega) hI.2 (mt (askI_iff hv hn hvp).1 (by omega)) (by omega)] | rw [askN_all (by unfold askH; omega) hI.2 (by omega), List.take_of_length_le (by omega), List.take_of_length_le (by omega)] | rw [askN_head (by unfold askH; omega), List.take_zero, List.append_nil]), rfl, by decide⟩ | _ + 3 => .inl rfl)
     ·
      obtain ⟨hc5, hc5'⟩ := pF hc5
      refine AW.skip ?_
      refine AX.go ?_
      refine AW.seq ?_
      refine sr ?_
      refine st (asI rfl) rfl ?_
      refine ng ?_
      refine AW.block ?_
      refine AW.loop (fun z : Nat => z ≤ x.2.1.length ∧ ∀ i, i < z → askI x p m i) (fun z : Nat => keep [(0, .cel (Kd.ptr kKnot) x), (1, .cel (Kd.int .i64) p), (2, .own 2 (Kd.int .i64) (cntL b m (l ++ x.2.2.1.take z))), (7, .cel (Kd.int .i64) (z : Int))]) (fun z : Nat => x.2.1.length - z) (0) ⟨Nat.zero_le _, all_none⟩ (Kc 0 _ (Kv rfl rfl) <| Kc 1 _ (Kv rfl rfl) <| Kc 2 _ (Ko rfl (by rw [List.take_zero, List.append_nil])) <| Kc 7 _ (Kv rfl rfl) <| Kn) ?_
      intro z hI
      refine AW.seq ?_
      refine sr ?_
      refine st (mvT rfl) rfl ?_
      refine st (mvT rfl) rfl ?_
      refine st (OpT.nilCheck (H rfl) (T1 rfl)) rfl ?_
      refine st (OpT.fieldAddr (H rfl) (T1 rfl) fd66_1 sz51 (by decide) sb66_1) rfl ?_
      refine st (OpT.load (H rfl) (T1 rfl) ag51 rfl) rfl ?_
      refine st (OpT.len (H rfl) (T1 rfl) el51) rfl ?_
      refine st (OpT.lss (H rfl) (T1 rfl) (T1 rfl)) rfl ?_
      refine ng ?_
      refine cd rfl (fun hc6 => ?_) fun hc6 => ?_
      ·
       obtain ⟨hc6, hc6'⟩ := pT hc6
       obtain ⟨v, hv⟩ := getI (x := x.2.1) (z := z) (by omega); obtain ⟨n, hn⟩ := getI (x := x.2.2.1) (z := z) (by omega); obtain ⟨vp, hvp⟩ := getPr (x := x.2.1) (z := z) hI.1; have hnr := hok n (mem_getI hn)
       refine AW.skip ?_
       refine AX.go ?_
       refine AW.seq ?_
       refine AW.block ?_
       refine AW.seq ?_
       refine AW.seq ?_
       rcases Bool.eq_false_or_eq_true (decide (v < (-2 : Int))) with hd5 | hd5
       ·
        have hd5' := lT hd5
        refine dh fomo ?_
        refine d1 [0] (fun ve h => OpT.move (A := .cel _ _) (.inl rfl) rfl (ok' rfl) (D1 h rfl) rfl) rfl ?_
        refine d1 [58] (fun ve h => OpT.nilCheck (H rfl) (D1 h rfl)) rfl ?_
        refine d1 [59] (fun ve h => OpT.fieldAddr (H rfl) (D1 h rfl) fd66_1 sz51 (by decide) sb66_1) rfl ?_
        refine d1 [60] (fun ve h => OpT.load (H rfl) (D1 h rfl) ag51 rfl) rfl ?_
        refine d1 [7] (fun ve h => OpT.move (A := .cel _ _) (.inl rfl) rfl (ok' rfl) (D1 h rfl) rfl) rfl ?_
        refine d1 [61, 62] (fun ve h => OpT.indexAddr (H rfl) (D1 h rfl) (D1 h rfl) el51 sz2 (by omega) (by assumption)) rfl ?_
        refine d1 [63] (fun ve h => OpT.load (H rfl) (D1 h rfl) ag2 rfl) rfl ?_
        refine d1 [64] (fun ve h => OpT.lss (H rfl) (D1 h rfl) (I rfl)) rfl ?_
        refine d1 [65] (fun ve h => OpT.move (A := .cel _ _) (.inl rfl) rfl (ok' rfl) (D1 h rfl) rfl) rfl ?_
        refine dp hd5 rfl ?_
        refine dp hd5 rfl ?_
        refine dq hd5 rfl ?_
        refine dpu rfl ?_
        refine dpu rfl ?_
        refine dpu rfl ?_
        refine dpu rfl ?_
        refine dpu rfl ?_
        refine dpu rfl ?_
        refine dpu rfl ?_
        refine dpu rfl ?_
        refine dpu rfl ?_
        refine dpu rfl ?_
        refine dpu rfl ?_
        refine dpu rfl ?_
        refine dpu rfl ?_
        refine dpu rfl ?_
        refine dpu rfl ?_
        refine dpu rfl ?_
        refine dp hd5 rfl ?_
        refine d1 [66] (fun ve h => OpT.pickT (A := .cel _ _) (H rfl) (D1 h rfl) hd5 Opd.bool rfl) rfl ?_
        refine d1 [87] (fun ve h => OpT.move (A := .cel _ _) (.inl rfl) rfl (ok' rfl) (D1 h rfl) rfl) rfl ?_
        refine dp rfl rfl ?_
        refine dp rfl rfl ?_
        refine dp rfl rfl ?_
        refine dp rfl rfl ?_
        refine dp rfl rfl ?_
        refine dp rfl rfl ?_
        refine dp rfl rfl ?_
        refine dp rfl rfl ?_
        refine dp rfl rfl ?_
        refine dp rfl rfl ?_
        refine d1 [88] (fun ve h => OpT.pickT (A := .cel _ _) (H rfl) (D1 h rfl) rfl Opd.bool rfl) rfl ?_
        refine d1 [99] (fun ve h => OpT.move (A := .cel _ _) (.inl rfl) rfl (ok' rfl) (D1 h rfl) rfl) rfl ?_
        refine dp rfl rfl ?_
        refine dp rfl rfl ?_
        refine dp rfl rfl ?_
        refine dp rfl rfl ?_
        refine dp rfl rfl ?_
        refine dp rfl rfl ?_
        refine dp rfl rfl ?_
        refine dp rfl rfl ?_
        refine dp rfl rfl ?_
        refine dp rfl rfl ?_
        refine dp rfl rfl ?_
        refine d1 [100] (fun ve h => OpT.pickT (A := .cel _ _) (H rfl) (D1 h rfl) rfl Opd.bool rfl) rfl ?_
        refine dn ⟨by kernel_rfl, by kernel_rfl, ?_⟩
        refine AX.go ?_
        refine cd rfl (fun hc7 => ?_) fun hc7 => ?_
        ·
         obtain ⟨hc7, hc7'⟩ := pT hc7
         refine sr ?_
         refine st (asB rfl) rfl ?_
         refine ng ?_
         refine AW.ret ?_
         refine rT <| rK <| rT <| rT <| rK <| rT ?_
         exact AX.rt (rs := [.tmp 6]) (ts := [some 6]) (.inl rfl) rfl (ROs.cons (RO.tmp (At.self (by decide)) (Kv rfl (by first | exact ask_at (z := z) (mt (askI_iff hv hn hvp).1 (by omega)) (by omega) | exact ask_all (by unfold askH; omega) hI.2 (by omega) | exact ask_head (by unfold askH; omega))) rfl) <| ROs.nil) (by decide) (fun i => match i with | 0 => .inl rfl | 1 => .inl rfl | 2 => .inr ⟨rfl, Ko rfl (by first | rw [askN_at (z := z) (by unfold askH; omega) hI.2 (mt (askI_iff hv hn hvp).1 (by omega)) (by omega)] | rw [askN_all (by unfold askH; omega) hI.2 (by omega), List.take_of_length_le (by omega), List.take_of_length_le (by omega)] | rw [askN_head (by unfold askH; omega), List.take_zero, List.append_nil]), rfl, by decide⟩ | _ + 3 => .inl rfl)
        ·
         obtain ⟨hc7, hc7'⟩ := pF hc7
         exact absurd hc7 (by decide)
       ·
        have hd5' := lF hd5
        rcases Bool.eq_false_or_eq_true (decide ((z : Int) > (0 : Int))) with hd6 | hd6
        ·
         have hd6' := lT hd6
         have hvp1 := hvp (by omega)
         rcases Bool.eq_false_or_eq_true (decide (v ≤ vp)) with hd7 | hd7
         ·
          have hd7' := lT hd7
          refine dh fomo ?_
          refine d1 [0] (fun ve h => OpT.move (A := .cel _ _) (.inl rfl) rfl (ok' rfl) (D1 h rfl) rfl) rfl ?_
          refine d1 [58] (fun ve h => OpT.nilCheck (H rfl) (D1 h rfl)) rfl ?_
          refine d1 [59] (fun ve h => OpT.fieldAddr (H rfl) (D1 h rfl) fd66_1 sz51 (by decide) sb66_1) rfl ?_
          refine d1 [60] (fun ve h => OpT.load (H rfl) (D1 h rfl) ag51 rfl) rfl ?_
          refine d1 [7] (fun ve h => OpT.move (A := .cel _ _) (.inl rfl) rfl (ok' rfl) (D1 h rfl) rfl) rfl ?_
          refine d1 [61, 62] (fun ve h => OpT.indexAddr (H rfl) (D1 h rfl) (D1 h rfl) el51 sz2 (by omega) (by assumption)) rfl ?_
          refine d1 [63] (fun ve h => OpT.load (H rfl) (D1 h rfl) ag2 rfl) rfl ?_
          refine d1 [64] (fun ve h => OpT.lss (H rfl) (D1 h rfl) (I rfl)) rfl ?_
          refine d1 [65] (fun ve h => OpT.move (A := .cel _ _) (.inl rfl) rfl (ok' rfl) (D1 h rfl) rfl) rfl ?_
          refine dr [7, 66] hd5 (fun ve h => OpT.move (A := .cel _ _) (.inl rfl) rfl (ok' rfl) (D1 h rfl) rfl) rfl ?_
          refine dr [66, 67] hd5 (fun ve h => OpT.gtr (H rfl) (D1 h rfl) (I rfl)) rfl ?_
          refine dr [66, 68] hd5 (fun ve h => OpT.move (A := .cel _ _) (.inl rfl) rfl (ok' rfl) (D1 h rfl) rfl) rfl ?_
          refine dr [0, 69] hd6 (fun ve h => OpT.move (A := .cel _ _) (.inl rfl) rfl (ok' rfl) (D1 h rfl) rfl) rfl ?_
          refine dr [69, 70] hd6 (fun ve h => OpT.nilCheck (H rfl) (D1 h rfl)) rfl ?_
          refine dr [69, 71] hd6 (fun ve h => OpT.fieldAddr (H rfl) (D1 h rfl) fd66_1 sz51 (by decide) sb66_1) rfl ?_
          refine dr [69, 72] hd6 (fun ve h => OpT.load (H rfl) (D1 h rfl) ag51 rfl) rfl ?_
          refine dr [7, 69] hd6 (fun ve h => OpT.move (A := .cel _ _) (.inl rfl) rfl (ok' rfl) (D1 h rfl) rfl) rfl ?_
          refine dr [69, 73, 74] hd6 (fun ve h => OpT.indexAddr (H rfl) (D1 h rfl) (D1 h rfl) el51 sz2 (by omega) (by assumption)) rfl ?_
          refine dr [69, 75] hd6 (fun ve h => OpT.load (H rfl) (D1 h rfl) ag2 rfl) rfl ?_
          refine dr [0, 69] hd6 (fun ve h => OpT.move (A := .cel _ _) (.inl rfl) rfl (ok' rfl) (D1 h rfl) rfl) rfl ?_
          refine dr [69, 77] hd6 (fun ve h => OpT.nilCheck (H rfl) (D1 h rfl)) rfl ?_
          refine dr [69, 78] hd6 (fun ve h => OpT.fieldAddr (H rfl) (D1 h rfl) fd66_1 sz51 (by decide) sb66_1) rfl ?_
          refine dr [69, 79] hd6 (fun ve h => OpT.load (H rfl) (D1 h rfl) ag51 rfl) rfl ?_
          refine dr [7, 69] hd6 (fun ve h => OpT.move (A := .cel _ _) (.inl rfl) rfl (ok' rfl) (D1 h rfl) rfl) rfl ?_
          refine dr [69, 81] hd6 (fun ve h => OpT.sub (H rfl) (D1 h rfl) (I rfl) (nw (by omega))) rfl ?_
          refine dr [69, 80, 82] hd6 (fun ve h => OpT.indexAddr (H rfl) (D1 h rfl) (D1 h rfl) el51 sz2 (by omega) (by assumption)) rfl ?_
          refine dr [69, 83] hd6 (fun ve h => OpT.load (H rfl) (D1 h rfl) ag2 rfl) rfl ?_
          refine dr [69, 76, 84] hd6 (fun ve h => OpT.leq (H rfl) (D1 h rfl) (D1 h rfl)) rfl ?_
          refine dr [66, 69, 85] hd5 (fun ve h => OpT.pickT (A := .cel _ _) (H rfl) (D1 h rfl) hd6 (D1 h rfl) rfl) rfl ?_
          refine d1 [66, 86] (fun ve h => OpT.pickF (A := .cel _ _) (H rfl) (D1 h rfl) hd5 (D1 h rfl) rfl) rfl ?_
          refine d1 [87] (fun ve h => OpT.move (A := .cel _ _) (.inl rfl) rfl (ok' rfl) (D1 h rfl) rfl) rfl ?_
          refine dp hd7 rfl ?_
          refine dp hd7 rfl ?_
          refine dp hd7 rfl ?_
          refine dp hd7 rfl ?_
          refine dp hd7 rfl ?_
          refine dp hd7 rfl ?_
          refine dp hd7 rfl ?_
          refine dp hd7 rfl ?_
          refine dp hd7 rfl ?_
          refine dp hd7 rfl ?_
          refine d1 [88] (fun ve h => OpT.pickT (A := .cel _ _) (H rfl) (D1 h rfl) hd7 Opd.bool rfl) rfl ?_
          refine d1 [99] (fun ve h => OpT.move (A := .cel _ _) (.inl rfl) rfl (ok' rfl) (D1 h rfl) rfl) rfl ?_
          refine dp rfl rfl ?_
          refine dp rfl rfl ?_
          refine dp rfl rfl ?_
          refine dp rfl rfl ?_
          refine dp rfl rfl ?_
          refine dp rfl rfl ?_
          refine dp rfl rfl ?_
          refine dp rfl rfl ?_
          refine dp rfl rfl ?_
          refine dp rfl rfl ?_
          refine dp rfl rfl ?_
          refine d1 [100] (fun ve h => OpT.pickT (A := .cel _ _) (H rfl) (D1 h rfl) rfl Opd.bool rfl) rfl ?_
          refine dn ⟨by kernel_rfl, by kernel_rfl, ?_⟩
          refine AX.go ?_
          refine cd rfl (fun hc8 => ?_) fun hc8 => ?_
          ·
           obtain ⟨hc8, hc8'⟩ := pT hc8
           refine sr ?_
           refine st (asB rfl) rfl ?_
           refine ng ?_
           refine AW.ret ?_
           refine rT <| rK <| rT <| rT <| rK <| rT ?_
           exact AX.rt (rs := [.tmp 6]) (ts := [some 6]) (.inl rfl) rfl (ROs.cons (RO.tmp (At.self (by decide)) (Kv rfl (by first | exact ask_at (z := z) (mt (askI_iff hv hn hvp).1 (by omega)) (by omega) | exact ask_all (by unfold askH; omega) hI.2 (by omega) | exact ask_head (by unfold askH; omega))) rfl) <| ROs.nil) (by decide) (fun i => match i with | 0 => .inl rfl | 1 => .inl rfl | 2 => .inr ⟨rfl, Ko rfl (by first | rw [askN_at (z := z) (by unfold askH; omega) hI.2 (mt (askI_iff hv hn hvp).1 (by omega)) (by omega)] | rw [askN_all (by unfold askH; omega) hI.2 (by omega), List.take_of_length_le (by omega), List.take_of_length_le (by omega)] | rw [askN_head (by unfold askH; omega), List.take_zero, List.append_nil]), rfl, by decide⟩ | _ + 3 => .inl rfl)
          ·
           obtain ⟨hc8, hc8'⟩ := pF hc8
           exact absurd hc8 (by decide)
         ·
          have hd7' := lF hd7
          rcases Bool.eq_false_or_eq_true (decide (n ≤ p)) with hd8 | hd8
          ·
           have hd8' := lT hd8
           refine dh fomo ?_
           refine d1 [0] (fun ve h => OpT.move (A := .cel _ _) (.inl rfl) rfl (ok' rfl) (D1 h rfl) rfl) rfl ?_
           refine d1 [58] (fun ve h => OpT.nilCheck (H rfl) (D1 h rfl)) rfl ?_
           refine d1 [59] (fun ve h => OpT.fieldAddr (H rfl) (D1 h rfl) fd66_1 sz51 (by decide) sb66_1) rfl ?_
           refine d1 [60] (fun ve h => OpT.load (H rfl) (D1 h rfl) ag51 rfl) rfl ?_
           refine d1 [7] (fun ve h => OpT.move (A := .cel _ _) (.inl rfl) rfl (ok' rfl) (D1 h rfl) rfl) rfl ?_
           refine d1 [61, 62] (fun ve h => OpT.indexAddr (H rfl) (D1 h rfl) (D1 h rfl) el51 sz2 (by omega) (by assumption)) rfl ?_
           refine d1 [63] (fun ve h => OpT.load (H rfl) (D1 h rfl) ag2 rfl) rfl ?_
           refine d1 [64] (fun ve h => OpT.lss (H rfl) (D1 h rfl) (I rfl)) rfl ?_
           refine d1 [65] (fun ve h => OpT.move (A := .cel _ _) (.inl rfl) rfl (ok' rfl) (D1 h rfl) rfl) rfl ?_
           refine dr [7, 66] hd5 (fun ve h => OpT.move (A := .cel _ _) (.inl rfl) rfl (ok' rfl) (D1 h rfl) rfl) rfl ?_
           refine dr [66, 67] hd5 (fun ve h => OpT.gtr (H rfl) (D1 h rfl) (I rfl)) rfl ?_
           refine dr [66, 68] hd5 (fun ve h => OpT.move (A := .cel _ _) (.inl rfl) rfl (ok' rfl) (D1 h rfl) rfl) rfl ?_
           refine dr [0, 69] hd6 (fun ve h => OpT.move (A := .cel _ _) (.inl rfl) rfl (ok' rfl) (D1 h rfl) rfl) rfl ?_
           refine dr [69, 70] hd6 (fun ve h => OpT.nilCheck (H rfl) (D1 h rfl)) rfl ?_
           refine dr [69, 71] hd6 (fun ve h => OpT.fieldAddr (H rfl) (D1 h rfl) fd66_1 sz51 (by decide) sb66_1) rfl ?_
           refine dr [69, 72] hd6 (fun ve h => OpT.load (H rfl) (D1 h rfl) ag51 rfl) rfl ?_
           refine dr [7, 69] hd6 (fun ve h => OpT.move (A := .cel _ _) (.inl rfl) rfl (ok' rfl) (D1 h rfl) rfl) rfl ?_
           refine dr [69, 73, 74] hd6 (fun ve h => OpT.indexAddr (H rfl) (D1 h rfl) (D1 h rfl) el51 sz2 (by omega) (by assumption)) rfl ?_
           refine dr [69, 75] hd6 (fun ve h => OpT.load (H rfl) (D1 h rfl) ag2 rfl) rfl ?_
           refine dr [0, 69] hd6 (fun ve h => OpT.move (A := .cel _ _) (.inl rfl) rfl (ok' rfl) (D1 h rfl) rfl) rfl ?_
           refine dr [69, 77] hd6 (fun ve h => OpT.nilCheck (H rfl) (D1 h rfl)) rfl ?_
           refine dr [69, 78] hd6 (fun ve h => OpT.fieldAddr (H rfl) (D1 h rfl) fd66_1 sz51 (by decide) sb66_1) rfl ?_
           refine dr [69, 79] hd6 (fun ve h => OpT.load (H rfl) (D1 h rfl) ag51 rfl) rfl ?_
           refine dr [7, 69] hd6 (fun ve h => OpT.move (A := .cel _ _) (.inl rfl) rfl (ok' rfl) (D1 h rfl) rfl) rfl ?_
           refine dr [69, 81] hd6 (fun ve h => OpT.sub (H rfl) (D1 h rfl) (I rfl) (nw (by omega))) rfl ?_
           refine dr [69, 80, 82] hd6 (fun ve h => OpT.indexAddr (H rfl) (D1 h rfl) (D1 h rfl) el51 sz2 (by omega) (by assumption)) rfl ?_
           refine dr [69, 83] hd6 (fun ve h => OpT.load (H rfl) (D1 h rfl) ag2 rfl) rfl ?_
           refine dr [69, 76, 84] hd6 (fun ve h => OpT.leq (H rfl) (D1 h rfl) (D1 h rfl)) rfl ?_
           refine dr [66, 69, 85] hd5 (fun ve h => OpT.pickT (A := .cel _ _) (H rfl) (D1 h rfl) hd6 (D1 h rfl) rfl) rfl ?_
           refine d1 [66, 86] (fun ve h => OpT.pickF (A := .cel _ _) (H rfl) (D1 h rfl) hd5 (D1 h rfl) rfl) rfl ?_
           refine d1 [87] (fun ve h => OpT.move (A := .cel _ _) (.inl rfl) rfl (ok' rfl) (D1 h rfl) rfl) rfl ?_
           refine dr [0, 88] hd7 (fun ve h => OpT.move (A := .cel _ _) (.inl rfl) rfl (ok' rfl) (D1 h rfl) rfl) rfl ?_
           refine dr [88, 89] hd7 (fun ve h => OpT.nilCheck (H rfl) (D1 h rfl)) rfl ?_
           refine dr [88, 90] hd7 (fun ve h => OpT.fieldAddr (H rfl) (D1 h rfl) fd66_2 sz52 (by decide) sb66_2) rfl ?_
           refine dr [88, 91] hd7 (fun ve h => OpT.load (H rfl) (D1 h rfl) ag52 rfl) rfl ?_
           refine dr [7, 88] hd7 (fun ve h => OpT.move (A := .cel _ _) (.inl rfl) rfl (ok' rfl) (D1 h rfl) rfl) rfl ?_
           refine dr [88, 92, 93] hd7 (fun ve h => OpT.indexAddr (H rfl) (D1 h rfl) (D1 h rfl) el52 sz42 (by omega) (by assumption)) rfl ?_
           refine dr [88, 94] hd7 (fun ve h => OpT.load (H rfl) (D1 h rfl) ag42 rfl) rfl ?_
           refine dr [88, 95] hd7 (fun ve h => OpT.conv (H rfl) us42 Tryz.underlying3 (D1 h rfl) (nw (by omega))) rfl ?_
           refine dr [1, 88] hd7 (fun ve h => OpT.move (A := .cel _ _) (.inl rfl) rfl (ok' rfl) (D1 h rfl) rfl) rfl ?_
           refine dr [88, 96, 97] hd7 (fun ve h => OpT.leq (H rfl) (D1 h rfl) (D1 h rfl)) rfl ?_
           refine d1 [88, 98] (fun ve h => OpT.pickF (A := .cel _ _) (H rfl) (D1 h rfl) hd7 (D1 h rfl) rfl) rfl ?_
           refine d1 [99] (fun ve h => OpT.move (A := .cel _ _) (.inl rfl) rfl (ok' rfl) (D1 h rfl) rfl) rfl ?_
           refine dp hd8 rfl ?_
           refine dp hd8 rfl ?_
           refine dp hd8 rfl ?_
           refine dp hd8 rfl ?_
           refine dp hd8 rfl ?_
           refine dp hd8 rfl ?_
           refine dp hd8 rfl ?_
           refine dp hd8 rfl ?_
           refine dp hd8 rfl ?_
           refine dp hd8 rfl ?_
           refine dp hd8 rfl ?_
           refine d1 [100] (fun ve h => OpT.pickT (A := .cel _ _) (H rfl) (D1 h rfl) hd8 Opd.bool rfl) rfl ?_
           refine dn ⟨by kernel_rfl, by kernel_rfl, ?_⟩
           refine AX.go ?_
           refine cd rfl (fun hc9 => ?_) fun hc9 => ?_
           ·
            obtain ⟨hc9, hc9'⟩ := pT hc9
            refine sr ?_
            refine st (asB rfl) rfl ?_
            refine ng ?_
            refine AW.ret ?_
            refine rT <| rK <| rT <| rT <| rK <| rT ?_
            exact AX.rt (rs := [.tmp 6]) (ts := [some 6]) (.inl rfl) rfl (ROs.cons (RO.tmp (At.self (by decide)) (Kv rfl (by first | exact ask_at (z := z) (mt (askI_iff hv hn hvp).1 (by omega)) (by omega) | exact ask_all (by unfold askH; omega) hI.2 (by omega) | exact ask_head (by unfold askH; omega))) rfl) <| ROs.nil) (by decide) (fun i => match i with | 0 => .inl rfl | 1 => .inl rfl | 2 => .inr ⟨rfl, Ko rfl (by first | rw [askN_at (z := z) (by unfold askH; omega) hI.2 (mt (askI_iff hv hn hvp).1 (by omega)) (by omega)] | rw [askN_all (by unfold askH; omega) hI.2 (by omega), List.take_of_length_le (by omega), List.take_of_length_le (by omega)] | rw [askN_head (by unfold askH; omega), List.take_zero, List.append_nil]), rfl, by decide⟩ | _ + 3 => .inl rfl)
           ·
            obtain ⟨hc9, hc9'⟩ := pF hc9
            exact absurd hc9 (by decide)
          ·
           have hd8' := lF hd8
           refine dh fomo ?_
           refine d1 [0] (fun ve h => OpT.move (A := .cel _ _) (.inl rfl) rfl (ok' rfl) (D1 h rfl) rfl) rfl ?_
           refine d1 [58] (fun ve h => OpT.nilCheck (H rfl) (D1 h rfl)) rfl ?_
           refine d1 [59] (fun ve h => OpT.fieldAddr (H rfl) (D1 h rfl) fd66_1 sz51 (by decide) sb66_1) rfl ?_
           refine d1 [60] (fun ve h => OpT.load (H rfl) (D1 h rfl) ag51 rfl) rfl ?_
           refine d1 [7] (fun ve h => OpT.move (A := .cel _ _) (.inl rfl) rfl (ok' rfl) (D1 h rfl) rfl) rfl ?_
           refine d1 [61, 62] (fun ve h => OpT.indexAddr (H rfl) (D1 h rfl) (D1 h rfl) el51 sz2 (by omega) (by assumption)) rfl ?_
           refine d1 [63] (fun ve h => OpT.load (H rfl) (D1 h rfl) ag2 rfl) rfl ?_
           refine d1 [64] (fun ve h => OpT.lss (H rfl) (D1 h rfl) (I rfl)) rfl ?_
           refine d1 [65] (fun ve h => OpT.move (A := .cel _ _) (.inl rfl) rfl (ok' rfl) (D1 h rfl) rfl) rfl ?_
           refine dr [7, 66] hd5 (fun ve h => OpT.move (A := .cel _ _) (.inl rfl) rfl (ok' rfl) (D1 h rfl) rfl) rfl ?_
           refine dr [66, 67] hd5 (fun ve h => OpT.gtr (H rfl) (D1 h rfl) (I rfl)) rfl ?_
           refine dr [66, 68] hd5 (fun ve h => OpT.move (A := .cel _ _) (.inl rfl) rfl (ok' rfl) (D1 h rfl) rfl) rfl ?_
           refine dr [0, 69] hd6 (fun ve h => OpT.move (A := .cel _ _) (.inl rfl) rfl (ok' rfl) (D1 h rfl) rfl) rfl ?_
           refine dr [69, 70] hd6 (fun ve h => OpT.nilCheck (H rfl) (D1 h rfl)) rfl ?_
           refine dr [69, 71] hd6 (fun ve h => OpT.fieldAddr (H rfl) (D1 h rfl) fd66_1 sz51 (by decide) sb66_1) rfl ?_
           refine dr [69, 72] hd6 (fun ve h => OpT.load (H rfl) (D1 h rfl) ag51 rfl) rfl ?_
           refine dr [7, 69] hd6 (fun ve h => OpT.move (A := .cel _ _) (.inl rfl) rfl (ok' rfl) (D1 h rfl) rfl) rfl ?_
           refine dr [69, 73, 74] hd6 (fun ve h => OpT.indexAddr (H rfl) (D1 h rfl) (D1 h rfl) el51 sz2 (by omega) (by assumption)) rfl ?_
           refine dr [69, 75] hd6 (fun ve h => OpT.load (H rfl) (D1 h rfl) ag2 rfl) rfl ?_
           refine dr [0, 69] hd6 (fun ve h => OpT.move (A := .cel _ _) (.inl rfl) rfl (ok' rfl) (D1 h rfl) rfl) rfl ?_
           refine dr [69, 77] hd6 (fun ve h => OpT.nilCheck (H rfl) (D1 h rfl)) rfl ?_
           refine dr [69, 78] hd6 (fun ve h => OpT.fieldAddr (H rfl) (D1 h rfl) fd66_1 sz51 (by decide) sb66_1) rfl ?_
           refine dr [69, 79] hd6 (fun ve h => OpT.load (H rfl) (D1 h rfl) ag51 rfl) rfl ?_
           refine dr [7, 69] hd6 (fun ve h => OpT.move (A := .cel _ _) (.inl rfl) rfl (ok' rfl) (D1 h rfl) rfl) rfl ?_
           refine dr [69, 81] hd6 (fun ve h => OpT.sub (H rfl) (D1 h rfl) (I rfl) (nw (by omega))) rfl ?_
           refine dr [69, 80, 82] hd6 (fun ve h => OpT.indexAddr (H rfl) (D1 h rfl) (D1 h rfl) el51 sz2 (by omega) (by assumption)) rfl ?_
           refine dr [69, 83] hd6 (fun ve h => OpT.load (H rfl) (D1 h rfl) ag2 rfl) rfl ?_
           refine dr [69, 76, 84] hd6 (fun ve h => OpT.leq (H rfl) (D1 h rfl) (D1 h rfl)) rfl ?_
           refine dr [66, 69, 85] hd5 (fun ve h => OpT.pickT (A := .cel _ _) (H rfl) (D1 h rfl) hd6 (D1 h rfl) rfl) rfl ?_
           refine d1 [66, 86] (fun ve h => OpT.pickF (A := .cel _ _) (H rfl) (D1 h rfl) hd5 (D1 h rfl) rfl) rfl ?_
           refine d1 [87] (fun ve h => OpT.move (A := .cel _ _) (.inl rfl) rfl (ok' rfl) (D1 h rfl) rfl) rfl ?_
           refine dr [0, 88] hd7 (fun ve h => OpT.move (A := .cel _ _) (.inl rfl) rfl (ok' rfl) (D1 h rfl) rfl) rfl ?_
           refine dr [88, 89] hd7 (fun ve h => OpT.nilCheck (H rfl) (D1 h rfl)) rfl ?_
           refine dr [88, 90] hd7 (fun ve h => OpT.fieldAddr (H rfl) (D1 h rfl) fd66_2 sz52 (by decide) sb66_2) rfl ?_
           refine dr [88, 91] hd7 (fun ve h => OpT.load (H rfl) (D1 h rfl) ag52 rfl) rfl ?_
           refine dr [7, 88] hd7 (fun ve h => OpT.move (A := .cel _ _) (.inl rfl) rfl (ok' rfl) (D1 h rfl) rfl) rfl ?_
           refine dr [88, 92, 93] hd7 (fun ve h => OpT.indexAddr (H rfl) (D1 h rfl) (D1 h rfl) el52 sz42 (by omega) (by assumption)) rfl ?_
           refine dr [88, 94] hd7 (fun ve h => OpT.load (H rfl) (D1 h rfl) ag42 rfl) rfl ?_
           refine dr [88, 95] hd7 (fun ve h => OpT.conv (H rfl) us42 Tryz.underlying3 (D1 h rfl) (nw (by omega))) rfl ?_
           refine dr [1, 88] hd7 (fun ve h => OpT.move (A := .cel _ _) (.inl rfl) rfl (ok' rfl) (D1 h rfl) rfl) rfl ?_
           refine dr [88, 96, 97] hd7 (fun ve h => OpT.leq (H rfl) (D1 h rfl) (D1 h rfl)) rfl ?_
           refine d1 [88, 98] (fun ve h => OpT.pickF (A := .cel _ _) (H rfl) (D1 h rfl) hd7 (D1 h rfl) rfl) rfl ?_
           refine d1 [99] (fun ve h => OpT.move (A := .cel _ _) (.inl rfl) rfl (ok' rfl) (D1 h rfl) rfl) rfl ?_
           refine dr [0, 100] hd8 (fun ve h => OpT.move (A := .cel _ _) (.inl rfl) rfl (ok' rfl) (D1 h rfl) rfl) rfl ?_
           refine dr [100, 101] hd8 (fun ve h => OpT.nilCheck (H rfl) (D1 h rfl)) rfl ?_
           refine dr [100, 102] hd8 (fun ve h => OpT.fieldAddr (H rfl) (D1 h rfl) fd66_2 sz52 (by decide) sb66_2) rfl ?_
           refine dr [100, 103] hd8 (fun ve h => OpT.load (H rfl) (D1 h rfl) ag52 rfl) rfl ?_
           refine dr [7, 100] hd8 (fun ve h => OpT.move (A := .cel _ _) (.inl rfl) rfl (ok' rfl) (D1 h rfl) rfl) rfl ?_
           refine dr [100, 104, 105] hd8 (fun ve h => OpT.indexAddr (H rfl) (D1 h rfl) (D1 h rfl) el52 sz42 (by omega) (by assumption)) rfl ?_
           refine dr [100, 106] hd8 (fun ve h => OpT.load (H rfl) (D1 h rfl) ag42 rfl) rfl ?_
           refine dr [100, 107] hd8 (fun ve h => OpT.conv (H rfl) us42 Tryz.underlying3 (D1 h rfl) (nw (by omega))) rfl ?_
           refine dr [100] hd8 (fun ve h => OpT.alias (H rfl) (by decide) (by decide)) rfl ?_
           refine dr [2, 100, 109] hd8 (fun ve h => OpT.lenO (H rfl) (Root.ali ((h _ (List.elem_iff.1 rfl)).trans rfl) (by decide) (by decide)) ((h _ (List.elem_iff.1 rfl)).trans rfl) el51) rfl ?_
           refine dr [100, 108, 110] hd8 (fun ve h => OpT.geq (H rfl) (D1 h rfl) (D1 h rfl)) rfl ?_
           refine d1 [100, 111] (fun ve h => OpT.pickF (A := .cel _ _) (H rfl) (D1 h rfl) hd8 (D1 h rfl) rfl) rfl ?_
           refine dn ⟨by kernel_rfl, by kernel_rfl, ?_⟩
           refine AX.go ?_
           refine cd rfl (fun hc10 => ?_) fun hc10 => ?_
           ·
            obtain ⟨hc10, hc10'⟩ := pT hc10
            simp only [cntL_len] at hc10'
            refine sr ?_
            refine st (asB rfl) rfl ?_
            refine ng ?_
            refine AW.ret ?_
            refine rT <| rK <| rT <| rT <| rK <| rT ?_
            exact AX.rt (rs := [.tmp 6]) (ts := [some 6]) (.inl rfl) rfl (ROs.cons (RO.tmp (At.self (by decide)) (Kv rfl (by first | exact ask_at (z := z) (mt (askI_iff hv hn hvp).1 (by omega)) (by omega) | exact ask_all (by unfold askH; omega) hI.2 (by omega) | exact ask_head (by unfold askH; omega))) rfl) <| ROs.nil) (by decide) (fun i => match i with | 0 => .inl rfl | 1 => .inl rfl | 2 => .inr ⟨rfl, Ko rfl (by first | rw [askN_at (z := z) (by unfold askH; omega) hI.2 (mt (askI_iff hv hn hvp).1 (by omega)) (by omega)] | rw [askN_all (by unfold askH; omega) hI.2 (by omega), List.take_of_length_le (by omega), List.take_of_length_le (by omega)] | rw [askN_head (by unfold askH; omega), List.take_zero, List.append_nil]), rfl, by decide⟩ | _ + 3 => .inl rfl)
           ·
            obtain ⟨hc10, hc10'⟩ := pF hc10
            simp only [cntL_len] at hc10'
            have hlen : (l ++ x.2.2.1.take z).length ≤ 1152921504606846976 := by (rw [List.length_append, List.length_take]; omega)
            obtain ⟨cv, hcv, hcv1⟩ := cntL_in (b := b) (a := n) (n := m) (l := l ++ x.2.2.1.take z) (by omega) (by omega)
            refine AW.skip ?_
            refine AX.go ?_
            refine AW.region ?_
            refine st (OpT.alias (H rfl) (by decide) (by decide)) rfl ?_
            refine st (mvT rfl) rfl ?_
            refine st (OpT.nilCheck (H rfl) (T1 rfl)) rfl ?_
            refine st (OpT.fieldAddr (H rfl) (T1 rfl) fd66_2 sz52 (by decide) sb66_2) rfl ?_
            refine st (OpT.load (H rfl) (T1 rfl) ag52 rfl) rfl ?_
            refine st (mvT rfl) rfl ?_
            refine st (OpT.indexAddr (H rfl) (T1 rfl) (T1 rfl) el52 sz42 (by omega) (by assumption)) rfl ?_
            refine st (OpT.load (H rfl) (T1 rfl) ag42 rfl) rfl ?_
            refine st (OpT.indexAddrO (H rfl) (Root.ali rfl (by decide) (by decide)) rfl (by decide) (T1 rfl) el51 sz2 (by omega) (by assumption)) rfl ?_
            refine st (OpT.loadP (H rfl) (T1 rfl) (.inr ⟨_, _, rfl, (by assumption)⟩) ag2 rfl) rfl ?_
            refine st (OpT.add (H rfl) (T1 rfl) (I rfl) (nw (by omega))) rfl ?_
            refine st (OpT.indexAddrO (H rfl) (Root.ali rfl (by decide) (by decide)) rfl (by decide) (T1 rfl) el51 sz2 (by omega) (by assumption)) rfl ?_
            refine sk (OpT.storeO rfl rfl (T1 rfl) rfl (by assumption) sz2 rfl (T1 rfl)) rfl ?_
            refine nn ?_
            refine AX.normal_block ?_
            refine AX.go ?_
            refine AW.region ?_
            refine st (mvT rfl) rfl ?_
            refine st (OpT.add (H rfl) (T1 rfl) (I rfl) (nw (by omega))) rfl ?_
            refine st (asT rfl) rfl ?_
            refine nn ?_
            exact AX.again (z + 1) ⟨by omega, all_step hI.2 ((askI_iff hv hn hvp).2 (by omega))⟩ (by omega) (Kc 0 _ (Kv rfl rfl) <| Kc 1 _ (Kv rfl rfl) <| Kc 2 _ (Ko rfl (cnt_next hn (by omega) hcv)) <| Kc 7 _ (Kv rfl (by omega)) <| Kn)
        ·
         have hd6' := lF hd6
         rcases Bool.eq_false_or_eq_true (decide (n ≤ p)) with hd9 | hd9
         ·
          have hd9' := lT hd9
          refine dh fomo ?_
          refine d1 [0] (fun ve h => OpT.move (A := .cel _ _) (.inl rfl) rfl (ok' rfl) (D1 h rfl) rfl) rfl ?_
          refine d1 [58] (fun ve h => OpT.nilCheck (H rfl) (D1 h rfl)) rfl ?_
          refine d1 [59] (fun ve h => OpT.fieldAddr (H rfl) (D1 h rfl) fd66_1 sz51 (by decide) sb66_1) rfl ?_
          refine d1 [60] (fun ve h => OpT.load (H rfl) (D1 h rfl) ag51 rfl) rfl ?_
          refine d1 [7] (fun ve h => OpT.move (A := .cel _ _) (.inl rfl) rfl (ok' rfl) (D1 h rfl) rfl) rfl ?_
          refine d1 [61, 62] (fun ve h => OpT.indexAddr (H rfl) (D1 h rfl) (D1 h rfl) el51 sz2 (by omega) (by assumption)) rfl ?_
          refine d1 [63] (fun ve h => OpT.load (H rfl) (D1 h rfl) ag2 rfl) rfl ?_
          refine d1 [64] (fun ve h => OpT.lss (H rfl) (D1 h rfl) (I rfl)) rfl ?_
          refine d1 [65] (fun ve h => OpT.move (A := .cel _ _) (.inl rfl) rfl (ok' rfl) (D1 h rfl) rfl) rfl ?_
          refine dr [7, 66] hd5 (fun ve h => OpT.move (A := .cel _ _) (.inl rfl) rfl (ok' rfl) (D1 h rfl) rfl) rfl ?_
          refine dr [66, 67] hd5 (fun ve h => OpT.gtr (H rfl) (D1 h rfl) (I rfl)) rfl ?_
          refine dr [66, 68] hd5 (fun ve h => OpT.move (A := .cel _ _) (.inl rfl) rfl (ok' rfl) (D1 h rfl) rfl) rfl ?_
          refine dp hd6 rfl ?_
          refine dp hd6 rfl ?_
          refine dp hd6 rfl ?_
          refine dp hd6 rfl ?_
          refine dp hd6 rfl ?_
          refine dp hd6 rfl ?_
          refine dp hd6 rfl ?_
          refine dp hd6 rfl ?_
          refine dp hd6 rfl ?_
          refine dp hd6 rfl ?_
          refine dp hd6 rfl ?_
          refine dp hd6 rfl ?_
          refine dp hd6 rfl ?_
          refine dp hd6 rfl ?_
          refine dp hd6 rfl ?_
          refine dp hd6 rfl ?_
          refine dr [66, 69] hd5 (fun ve h => OpT.pickF (A := .cel _ _) (H rfl) (D1 h rfl) hd6 Opd.bool rfl) rfl ?_
          refine d1 [66, 86] (fun ve h => OpT.pickF (A := .cel _ _) (H rfl) (D1 h rfl) hd5 (D1 h rfl) rfl) rfl ?_
          refine d1 [87] (fun ve h => OpT.move (A := .cel _ _) (.inl rfl) rfl (ok' rfl) (D1 h rfl) rfl) rfl ?_
          refine dr [0, 88] rfl (fun ve h => OpT.move (A := .cel _ _) (.inl rfl) rfl (ok' rfl) (D1 h rfl) rfl) rfl ?_
          refine dr [88, 89] rfl (fun ve h => OpT.nilCheck (H rfl) (D1 h rfl)) rfl ?_
          refine dr [88, 90] rfl (fun ve h => OpT.fieldAddr (H rfl) (D1 h rfl) fd66_2 sz52 (by decide) sb66_2) rfl ?_
          refine dr [88, 91] rfl (fun ve h => OpT.load (H rfl) (D1 h rfl) ag52 rfl) rfl ?_
          refine dr [7, 88] rfl (fun ve h => OpT.move (A := .cel _ _) (.inl rfl) rfl (ok' rfl) (D1 h rfl) rfl) rfl ?_
          refine dr [88, 92, 93] rfl (fun ve h => OpT.indexAddr (H rfl) (D1 h rfl) (D1 h rfl) el52 sz42 (by omega) (by assumption)) rfl ?_
          refine dr [88, 94] rfl (fun ve h => OpT.load (H rfl) (D1 h rfl) ag42 rfl) rfl ?_
          refine dr [88, 95] rfl (fun ve h => OpT.conv (H rfl) us42 Tryz.underlying3 (D1 h rfl) (nw (by omega))) rfl ?_
          refine dr [1, 88] rfl (fun ve h => OpT.move (A := .cel _ _) (.inl rfl) rfl (ok' rfl) (D1 h rfl) rfl) rfl ?_
          refine dr [88, 96, 97] rfl (fun ve h => OpT.leq (H rfl) (D1 h rfl) (D1 h rfl)) rfl ?_
          refine d1 [88, 98] (fun ve h => OpT.pickF (A := .cel _ _) (H rfl) (D1 h rfl) rfl (D1 h rfl) rfl) rfl ?_
          refine d1 [99] (fun ve h => OpT.move (A := .cel _ _) (.inl rfl) rfl (ok' rfl) (D1 h rfl) rfl) rfl ?_
          refine dp hd9 rfl ?_
          refine dp hd9 rfl ?_
          refine dp hd9 rfl ?_
          refine dp hd9 rfl ?_
          refine dp hd9 rfl ?_
          refine dp hd9 rfl ?_
          refine dp hd9 rfl ?_
          refine dp hd9 rfl ?_
          refine dp hd9 rfl ?_
          refine dp hd9 rfl ?_
          refine dp hd9 rfl ?_
          refine d1 [100] (fun ve h => OpT.pickT (A := .cel _ _) (H rfl) (D1 h rfl) hd9 Opd.bool rfl) rfl ?_
          refine dn ⟨by kernel_rfl, by kernel_rfl, ?_⟩
          refine AX.go ?_
          refine cd rfl (fun hc11 => ?_) fun hc11 => ?_
          ·
           obtain ⟨hc11, hc11'⟩ := pT hc11
           refine sr ?_
           refine st (asB rfl) rfl ?_
           refine ng ?_
           refine AW.ret ?_
           refine rT <| rK <| rT <| rT <| rK <| rT ?_
           exact AX.rt (rs := [.tmp 6]) (ts := [some 6]) (.inl rfl) rfl (ROs.cons (RO.tmp (At.self (by decide)) (Kv rfl (by first | exact ask_at (z := z) (mt (askI_iff hv hn hvp).1 (by omega)) (by omega) | exact ask_all (by unfold askH; omega) hI.2 (by omega) | exact ask_head (by unfold askH; omega))) rfl) <| ROs.nil) (by decide) (fun i => match i with | 0 => .inl rfl | 1 => .inl rfl | 2 => .inr ⟨rfl, Ko rfl (by first | rw [askN_at (z := z) (by unfold askH; omega) hI.2 (mt (askI_iff hv hn hvp).1 (by omega)) (by omega)] | rw [askN_all (by unfold askH; omega) hI.2 (by omega), List.take_of_length_le (by omega), List.take_of_length_le (by omega)] | rw [askN_head (by unfold askH; omega), List.take_zero, List.append_nil]), rfl, by decide⟩ | _ + 3 => .inl rfl)
          ·
           obtain ⟨hc11, hc11'⟩ := pF hc11
           exact absurd hc11 (by decide)
         ·
          have hd9' := lF hd9
          refine dh fomo ?_
          refine d1 [0] (fun ve h => OpT.move (A := .cel _ _) (.inl rfl) rfl (ok' rfl) (D1 h rfl) rfl) rfl ?_
          refine d1 [58] (fun ve h => OpT.nilCheck (H rfl) (D1 h rfl)) rfl ?_
          refine d1 [59] (fun ve h => OpT.fieldAddr (H rfl) (D1 h rfl) fd66_1 sz51 (by decide) sb66_1) rfl ?_
          refine d1 [60] (fun ve h => OpT.load (H rfl) (D1 h rfl) ag51 rfl) rfl ?_
          refine d1 [7] (fun ve h => OpT.move (A := .cel _ _) (.inl rfl) rfl (ok' rfl) (D1 h rfl) rfl) rfl ?_
          refine d1 [61, 62] (fun ve h => OpT.indexAddr (H rfl) (D1 h rfl) (D1 h rfl) el51 sz2 (by omega) (by assumption)) rfl ?_
          refine d1 [63] (fun ve h => OpT.load (H rfl) (D1 h rfl) ag2 rfl) rfl ?_
          refine d1 [64] (fun ve h => OpT.lss (H rfl) (D1 h rfl) (I rfl)) rfl ?_
          refine d1 [65] (fun ve h => OpT.move (A := .cel _ _) (.inl rfl) rfl (ok' rfl) (D1 h rfl) rfl) rfl ?_
          refine dr [7, 66] hd5 (fun ve h => OpT.move (A := .cel _ _) (.inl rfl) rfl (ok' rfl) (D1 h rfl) rfl) rfl ?_
          refine dr [66, 67] hd5 (fun ve h => OpT.gtr (H rfl) (D1 h rfl) (I rfl)) rfl ?_
          refine dr [66, 68] hd5 (fun ve h => OpT.move (A := .cel _ _) (.inl rfl) rfl (ok' rfl) (D1 h rfl) rfl) rfl ?_
          refine dp hd6 rfl ?_
          refine dp hd6 rfl ?_
          refine dp hd6 rfl ?_
          refine dp hd6 rfl ?_
          refine dp hd6 rfl ?_
          refine dp hd6 rfl ?_
          refine dp hd6 rfl ?_
          refine dp hd6 rfl ?_
          refine dp hd6 rfl ?_
          refine dp hd6 rfl ?_
          refine dp hd6 rfl ?_
          refine dp hd6 rfl ?_
          refine dp hd6 rfl ?_
          refine dp hd6 rfl ?_
          refine dp hd6 rfl ?_
          refine dp hd6 rfl ?_
          refine dr [66, 69] hd5 (fun ve h => OpT.pickF (A := .cel _ _) (H rfl) (D1 h rfl) hd6 Opd.bool rfl) rfl ?_
          refine d1 [66, 86] (fun ve h => OpT.pickF (A := .cel _ _) (H rfl) (D1 h rfl) hd5 (D1 h rfl) rfl) rfl ?_
          refine d1 [87] (fun ve h => OpT.move (A := .cel _ _) (.inl rfl) rfl (ok' rfl) (D1 h rfl) rfl) rfl ?_
          refine dr [0, 88] rfl (fun ve h => OpT.move (A := .cel _ _) (.inl rfl) rfl (ok' rfl) (D1 h rfl) rfl) rfl ?_
          refine dr [88, 89] rfl (fun ve h => OpT.nilCheck (H rfl) (D1 h rfl)) rfl ?_
          refine dr [88, 90] rfl (fun ve h => OpT.fieldAddr (H rfl) (D1 h rfl) fd66_2 sz52 (by decide) sb66_2) rfl ?_
          refine dr [88, 91] rfl (fun ve h => OpT.load (H rfl) (D1 h rfl) ag52 rfl) rfl ?_
          refine dr [7, 88] rfl (fun ve h => OpT.move (A := .cel _ _) (.inl rfl) rfl (ok' rfl) (D1 h rfl) rfl) rfl ?_
          refine dr [88, 92, 93] rfl (fun ve h => OpT.indexAddr (H rfl) (D1 h rfl) (D1 h rfl) el52 sz42 (by omega) (by assumption)) rfl ?_
          refine dr [88, 94] rfl (fun ve h => OpT.load (H rfl) (D1 h rfl) ag42 rfl) rfl ?_
          refine dr [88, 95] rfl (fun ve h => OpT.conv (H rfl) us42 Tryz.underlying3 (D1 h rfl) (nw (by omega))) rfl ?_
          refine dr [1, 88] rfl (fun ve h => OpT.move (A := .cel _ _) (.inl rfl) rfl (ok' rfl) (D1 h rfl) rfl) rfl ?_
          refine dr [88, 96, 97] rfl (fun ve h => OpT.leq (H rfl) (D1 h rfl) (D1 h rfl)) rfl ?_
          refine d1 [88, 98] (fun ve h => OpT.pickF (A := .cel _ _) (H rfl) (D1 h rfl) rfl (D1 h rfl) rfl) rfl ?_
          refine d1 [99] (fun ve h => OpT.move (A := .cel _ _) (.inl rfl) rfl (ok' rfl) (D1 h rfl) rfl) rfl ?_
          refine dr [0, 100] hd9 (fun ve h => OpT.move (A := .cel _ _) (.inl rfl) rfl (ok' rfl) (D1 h rfl) rfl) rfl ?_
          refine dr [100, 101] hd9 (fun ve h => OpT.nilCheck (H rfl) (D1 h rfl)) rfl ?_
          refine dr [100, 102] hd9 (fun ve h => OpT.fieldAddr (H rfl) (D1 h rfl) fd66_2 sz52 (by decide) sb66_2) rfl ?_
          refine dr [100, 103] hd9 (fun ve h => OpT.load (H rfl) (D1 h rfl) ag52 rfl) rfl ?_
          refine dr [7, 100] hd9 (fun ve h => OpT.move (A := .cel _ _) (.inl rfl) rfl (ok' rfl) (D1 h rfl) rfl) rfl ?_
          refine dr [100, 104, 105] hd9 (fun ve h => OpT.indexAddr (H rfl) (D1 h rfl) (D1 h rfl) el52 sz42 (by omega) (by assumption)) rfl ?_
          refine dr [100, 106] hd9 (fun ve h => OpT.load (H rfl) (D1 h rfl) ag42 rfl) rfl ?_
          refine dr [100, 107] hd9 (fun ve h => OpT.conv (H rfl) us42 Tryz.underlying3 (D1 h rfl) (nw (by omega))) rfl ?_
          refine dr [100] hd9 (fun ve h => OpT.alias (H rfl) (by decide) (by decide)) rfl ?_
          refine dr [2, 100, 109] hd9 (fun ve h => OpT.lenO (H rfl) (Root.ali ((h _ (List.elem_iff.1 rfl)).trans rfl) (by decide) (by decide)) ((h _ (List.elem_iff.1 rfl)).trans rfl) el51) rfl ?_
          refine dr [100, 108, 110] hd9 (fun ve h => OpT.geq (H rfl) (D1 h rfl) (D1 h rfl)) rfl ?_
          refine d1 [100, 111] (fun ve h => OpT.pickF (A := .cel _ _) (H rfl) (D1 h rfl) hd9 (D1 h rfl) rfl) rfl ?_
          refine dn ⟨by kernel_rfl, by kernel_rfl, ?_⟩
          refine AX.go ?_
          refine cd rfl (fun hc12 => ?_) fun hc12 => ?_
          ·
           obtain ⟨hc12, hc12'⟩ := pT hc12
           simp only [cntL_len] at hc12'
           refine sr ?_
           refine st (asB rfl) rfl ?_
           refine ng ?_
           refine AW.ret ?_
           refine rT <| rK <| rT <| rT <| rK <| rT ?_
           exact AX.rt (rs := [.tmp 6]) (ts := [some 6]) (.inl rfl) rfl (ROs.cons (RO.tmp (At.self (by decide)) (Kv rfl (by first | exact ask_at (z := z) (mt (askI_iff hv hn hvp).1 (by omega)) (by omega) | exact ask_all (by unfold askH; omega) hI.2 (by omega) | exact ask_head (by unfold askH; omega))) rfl) <| ROs.nil) (by decide) (fun i => match i with | 0 => .inl rfl | 1 => .inl rfl | 2 => .inr ⟨rfl, Ko rfl (by first | rw [askN_at (z := z) (by unfold askH; omega) hI.2 (mt (askI_iff hv hn hvp).1 (by omega)) (by omega)] | rw [askN_all (by unfold askH; omega) hI.2 (by omega), List.take_of_length_le (by omega), List.take_of_length_le (by omega)] | rw [askN_head (by unfold askH; omega), List.take_zero, List.append_nil]), rfl, by decide⟩ | _ + 3 => .inl rfl)
          ·
           obtain ⟨hc12, hc12'⟩ := pF hc12
           simp only [cntL_len] at hc12'
           have hlen : (l ++ x.2.2.1.take z).length ≤ 1152921504606846976 := by (rw [List.length_append, List.length_take]; omega)
           obtain ⟨cv, hcv, hcv1⟩ := cntL_in (b := b) (a := n) (n := m) (l := l ++ x.2.2.1.take z) (by omega) (by omega)
           refine AW.skip ?_
           refine AX.go ?_
           refine AW.region ?_
           refine st (OpT.alias (H rfl) (by decide) (by decide)) rfl ?_
           refine st (mvT rfl) rfl ?_
           refine st (OpT.nilCheck (H rfl) (T1 rfl)) rfl ?_
           refine st (OpT.fieldAddr (H rfl) (T1 rfl) fd66_2 sz52 (by decide) sb66_2) rfl ?_
           refine st (OpT.load (H rfl) (T1 rfl) ag52 rfl) rfl ?_
           refine st (mvT rfl) rfl ?_
           refine st (OpT.indexAddr (H rfl) (T1 rfl) (T1 rfl) el52 sz42 (by omega) (by assumption)) rfl ?_
           refine st (OpT.load (H rfl) (T1 rfl) ag42 rfl) rfl ?_
           refine st (OpT.indexAddrO (H rfl) (Root.ali rfl (by decide) (by decide)) rfl (by decide) (T1 rfl) el51 sz2 (by omega) (by assumption)) rfl ?_
           refine st (OpT.loadP (H rfl) (T1 rfl) (.inr ⟨_, _, rfl, (by assumption)⟩) ag2 rfl) rfl ?_
           refine st (OpT.add (H rfl) (T1 rfl) (I rfl) (nw (by omega))) rfl ?_
           refine st (OpT.indexAddrO (H rfl) (Root.ali rfl (by decide) (by decide)) rfl (by decide) (T1 rfl) el51 sz2 (by omega) (by assumption)) rfl ?_
           refine sk (OpT.storeO rfl rfl (T1 rfl) rfl (by assumption) sz2 rfl (T1 rfl)) rfl ?_
           refine nn ?_
           refine AX.normal_block ?_
           refine AX.go ?_
           refine AW.region ?_
           refine st (mvT rfl) rfl ?_
           refine st (OpT.add (H rfl) (T1 rfl) (I rfl) (nw (by omega))) rfl ?_
           refine st (asT rfl) rfl ?_
           refine nn ?_
           exact AX.again (z + 1) ⟨by omega, all_step hI.2 ((askI_iff hv hn hvp).2 (by omega))⟩ (by omega) (Kc 0 _ (Kv rfl rfl) <| Kc 1 _ (Kv rfl rfl) <| Kc 2 _ (Ko rfl (cnt_next hn (by omega) hcv)) <| Kc 7 _ (Kv rfl (by omega)) <| Kn)
      ·
       obtain ⟨hc6, hc6'⟩ := pF hc6
       refine AW.exit ?_
       refine xT <| xT <| AX.exit_hit ?_
       refine AX.go ?_
       refine sr ?_
       refine st (asB rfl) rfl ?_
       refine ng ?_
       refine AW.ret ?_
       exact AX.rt (rs := [.tmp 6]) (ts := [some 6]) (.inl rfl) rfl (ROs.cons (RO.tmp (At.self (by decide)) (Kv rfl (by first | exact ask_at (z := z) (mt (askI_iff hv hn hvp).1 (by omega)) (by omega) | exact ask_all (by unfold askH; omega) hI.2 (by omega) | exact ask_head (by unfold askH; omega))) rfl) <| ROs.nil) (by decide) (fun i => match i with | 0 => .inl rfl | 1 => .inl rfl | 2 => .inr ⟨rfl, Ko rfl (by first | rw [askN_at (z := z) (by unfold askH; omega) hI.2 (mt (askI_iff hv hn hvp).1 (by omega)) (by omega)] | rw [askN_all (by unfold askH; omega) hI.2 (by omega), List.take_of_length_le (by omega), List.take_of_length_le (by omega)] | rw [askN_head (by unfold askH; omega), List.take_zero, List.append_nil]), rfl, by decide⟩ | _ + 3 => .inl rfl)
end Go.Proofs.YtfnkphllkbkfaaaGreatDoor.VL
