/- Proved here: what some functions of the program take and give: walks with the words of VA..VQ. Printed by program. -/
import Derived.Test.YtdjbdaidnlbhhaaWT
import Derived.Test.YtdjbdaidnlbhhaaPE
import Derived.Test.YtdjbdaidnlbhhaaWG
import Derived.Test.YtdjbdaidnlbhhaaWE
set_option linter.unusedVariables false
set_option linter.unusedSimpArgs false
set_option maxRecDepth 4000
namespace Go.Proofs.Ytdjbdaidnlbhhaa.VL
open Go
set_option maxHeartbeats 4000000 in
/-- impl.isKnot -/
theorem c_impl_isKnot (x : DKnot) (p m : Int) : AC Try.prog 107 [.agg kKnot x, .cel (Kd.int .i64) p, .cel (Kd.int .i64) m] [.cel Kd.bool (tt (knotOK x p m))] [] := by
  refine ⟨ACall.intro (N := 127) Try.func107 (c := _) (rfl : Func.body _ = some _) rfl (Nat.le_of_ble_eq_true rfl) (Nat.le_of_ble_eq_true rfl) rfl (Nat.le_of_ble_eq_true rfl) fun w0 hd s0 ar har => ?_, _, Try.func107, rfl, by decide⟩
  refine AW.to (Kc 0 (.agg _ _) rfl <| Kc 1 (.cel _ _) rfl <| Kc 2 (.cel _ _) rfl <| Kn) ?_
  refine AW.fact (fun a w hr => (ok_slice ((ok_pair (ok_pair (ok_pair (R_okA (t := 0) rfl hr)).2).2).2)).2) (fun hl0 => ?_)
  refine AW.fact (fun a w hr => (ok_slice ((ok_pair (ok_pair (R_okA (t := 0) rfl hr)).2).1)).2) (fun hl1 => ?_)
  refine AW.fact (fun a w hr => (ok_slice ((ok_pair (ok_pair (ok_pair (R_okA (t := 0) rfl hr)).2).2).1)).1) (fun hk => ?_)
  have hok := fun n hn => ok_i16 (hk n hn)
  refine AW.seq ?_
  refine AW.region ?_
  refine AWl.st rfl (OpT.frz (OpT.boxA (E := 106) rfl rfl (okd rfl rfl) (Tm rfl rfl rfl))) rfl ?_
  refine AWl.st rfl (OpT.move (A := .cel _ _) (.inr rfl) rfl (okd rfl rfl) Opd.bool rfl) rfl ?_
  refine AWl.nil ?_
  refine AX.pr (Kc 6 (.cel _ _) rfl <| Kc 3 (.cel _ _) rfl <| Kc 1 (.cel _ _) rfl <| Kc 2 (.cel _ _) rfl <| Kn) ?_
  refine AX.go ?_
  refine AW.seq ?_
  refine AW.seq ?_
  refine AW.region ?_
  refine AWl.st rfl (OpT.fieldAddr rfl rfl (okd rfl rfl) (Tm rfl rfl rfl) fd106_0 sz31 (by decide) sb106_0) rfl ?_
  refine AWl.st rfl (OpT.load rfl rfl (okd rfl rfl) (Tm rfl rfl rfl) ag31 rfl) rfl ?_
  refine AWl.st rfl (OpT.eql rfl rfl (okd rfl rfl) (Tm rfl rfl rfl) (I rfl)) rfl ?_
  refine AWl.nil ?_
  refine AX.pr (Kc 13 (.cel _ _) rfl <| Kc 6 (.cel _ _) rfl <| Kc 3 (.cel _ _) rfl <| Kc 1 (.cel _ _) rfl <| Kc 2 (.cel _ _) rfl <| Kn) ?_
  refine AX.go ?_
  refine AW.cond (t := 13) rfl (by decide) (fun hc1 => ?_) (fun hc1 => ?_)
  ·
    try simp only [decide_eq_true_eq, decide_eq_false_iff_not, Bool.not_eq_true', Bool.not_eq_false'] at hc1
    have hc1' := hc1; try simp only [decide_eq_true_eq, decide_eq_false_iff_not, beq_iff_eq, beq_eq_false_iff_ne, bne_iff_ne, bne_eq_false_iff_eq, ne_eq, Bool.not_eq_true', Bool.not_eq_false', Bool.and_eq_true, Bool.or_eq_true, Bool.or_eq_false_iff, Bool.and_eq_false_iff, Bool.not_true, Bool.not_false] at hc1'
    refine AW.seq ?_
    refine AW.seq ?_
    refine AW.region ?_
    refine AWl.st rfl (OpT.fieldAddr rfl rfl (okd rfl rfl) (Tm rfl rfl rfl) fd106_3 sz50 (by decide) sb106_3) rfl ?_
    refine AWl.st rfl (OpT.load rfl rfl (okd rfl rfl) (Tm rfl rfl rfl) ag50 rfl) rfl ?_
    refine AWl.st rfl (OpT.len rfl rfl (okd rfl rfl) (Tm rfl rfl rfl) el50) rfl ?_
    refine AWl.st rfl (OpT.move (A := .cel _ _) (.inl rfl) rfl (okd rfl rfl) (I rfl) rfl) rfl ?_
    refine AWl.nil ?_
    refine AX.pr (Kc 17 (.cel _ _) rfl <| Kc 16 (.cel _ _) rfl <| Kc 15 (.cel _ _) rfl <| Kc 6 (.cel _ _) rfl <| Kc 3 (.cel _ _) rfl <| Kc 1 (.cel _ _) rfl <| Kc 2 (.cel _ _) rfl <| Kn) ?_
    refine AX.go ?_
    refine AW.block ?_
    refine AW.loop (fun z : Nat => z ≤ x.2.2.2.length ∧ ∀ i, i < z → leafI x.2.2.2 i) (fun z : Nat => keep [(3, .cel (Kd.ptr kKnot) x), (15, .cel (Kd.slice (Kd.int .i64)) x.2.2.2), (16, .cel (Kd.int .i64) ((x.2.2.2.length : Nat) : Int)), (17, .cel (Kd.int .i64) (z : Int))]) (fun z : Nat => x.2.2.2.length - z) (0) ⟨Nat.zero_le _, all_none⟩ (Kc 3 _ (Kv rfl rfl) <| Kc 15 _ (Kv rfl rfl) <| Kc 16 _ (Kv rfl rfl) <| Kc 17 _ (Kv rfl rfl) <| Kn) ?_
    intro z hI
    refine AW.seq ?_
    refine AW.region ?_
    refine AWl.st rfl (OpT.lss rfl rfl (okd rfl rfl) (Tm rfl rfl rfl) (Tm rfl rfl rfl)) rfl ?_
    refine AWl.nil ?_
    refine AX.go ?_
    refine AW.seq ?_
    refine AW.cond (t := 18) rfl (by decide) (fun hc2 => ?_) (fun hc2 => ?_)
    ·
      try simp only [decide_eq_true_eq, decide_eq_false_iff_not, Bool.not_eq_true', Bool.not_eq_false'] at hc2
      have hc2' := hc2; try simp only [decide_eq_true_eq, decide_eq_false_iff_not, beq_iff_eq, beq_eq_false_iff_ne, bne_iff_ne, bne_eq_false_iff_eq, ne_eq, Bool.not_eq_true', Bool.not_eq_false', Bool.and_eq_true, Bool.or_eq_true, Bool.or_eq_false_iff, Bool.and_eq_false_iff, Bool.not_true, Bool.not_false] at hc2'
      obtain ⟨a, ha⟩ := getI (x := x.2.2.2) (z := z) (by omega); obtain ⟨vp, hvp⟩ := getPr (x := x.2.2.2) (z := z) hI.1
      refine AW.skip ?_
      refine AX.go ?_
      refine AW.seq ?_
      refine AW.block ?_
      refine AW.seq ?_
      refine AW.region ?_
      refine AWl.st rfl (OpT.move (A := .cel _ _) (.inl rfl) rfl (okd rfl rfl) (Tm rfl rfl rfl) rfl) rfl ?_
      refine AWl.st rfl (OpT.indexAddr rfl rfl (okd rfl rfl) (Tm rfl rfl rfl) (Tm rfl rfl rfl) el50 sz2 (by omega) (by assumption)) rfl ?_
      refine AWl.st rfl (OpT.load rfl rfl (okd rfl rfl) (Tm rfl rfl rfl) ag2 rfl) rfl ?_
      refine AWl.st rfl (OpT.move (A := .cel _ _) (.inr rfl) rfl (okd rfl rfl) (Tm rfl rfl rfl) rfl) rfl ?_
      refine AWl.st rfl (OpT.move (A := .cel _ _) (.inr rfl) rfl (okd rfl rfl) (Tm rfl rfl rfl) rfl) rfl ?_
      refine AWl.nil ?_
      refine AX.go ?_
      refine AW.seq ?_
      refine AW.region ?_
      refine AWl.st rfl (OpT.move (A := .cel _ _) (.inl rfl) rfl (okd rfl rfl) (Tm rfl rfl rfl) rfl) rfl ?_
      refine AWl.st rfl (OpT.lss rfl rfl (okd rfl rfl) (Tm rfl rfl rfl) (I rfl)) rfl ?_
      refine AWl.st rfl (OpT.move (A := .cel _ _) (.inl rfl) rfl (okd rfl rfl) (Tm rfl rfl rfl) rfl) rfl ?_
      apply AWl.or (d := 27) (t := 24) rfl
      · intro hb1 Q1 k1
        have hb1' := hb1; try simp only [decide_eq_true_eq, decide_eq_false_iff_not, beq_iff_eq, beq_eq_false_iff_ne, bne_iff_ne, bne_eq_false_iff_eq, ne_eq, Bool.not_eq_true', Bool.not_eq_false', Bool.and_eq_true, Bool.or_eq_true, Bool.or_eq_false_iff, Bool.and_eq_false_iff, Bool.not_true, Bool.not_false] at hb1'
        refine AWl.rs rfl rfl rfl rfl hb1 (OpT.move (A := .cel _ _) (.inl rfl) rfl (okd rfl rfl) (Tm rfl rfl rfl) rfl) rfl ?_
        refine AWl.rs rfl rfl rfl rfl hb1 (OpT.geq rfl rfl (okd rfl rfl) (Tm rfl rfl rfl) (I rfl)) rfl ?_
        refine AWl.st rfl (OpT.pickF (A := .cel _ _) rfl rfl (okd rfl rfl) (Tm rfl rfl rfl) hb1 (Tm rfl rfl rfl) rfl) rfl ?_
        exact AWl.to (junk 2 rfl) k1
      · intro hb1 Q1 k1
        refine AWl.pas rfl rfl rfl rfl hb1 rfl (okd rfl rfl) rfl ?_
        refine AWl.pas rfl rfl rfl rfl hb1 rfl (okd rfl rfl) rfl ?_
        refine AWl.st rfl (OpT.pickT (A := .cel _ _) rfl rfl (okd rfl rfl) (Tm rfl rfl rfl) hb1 Opd.bool rfl) rfl ?_
        exact k1
      refine AWl.st rfl (OpT.move (A := .cel _ _) (.inl rfl) rfl (okd rfl rfl) (Tm rfl rfl rfl) rfl) rfl ?_
      apply AWl.or (d := 41) (t := 28) rfl
      · intro hb2 Q1 k1
        have hb2' := hb2; try simp only [decide_eq_true_eq, decide_eq_false_iff_not, beq_iff_eq, beq_eq_false_iff_ne, bne_iff_ne, bne_eq_false_iff_eq, ne_eq, Bool.not_eq_true', Bool.not_eq_false', Bool.and_eq_true, Bool.or_eq_true, Bool.or_eq_false_iff, Bool.and_eq_false_iff, Bool.not_true, Bool.not_false] at hb2'
        refine AWl.rs rfl rfl rfl rfl hb2 (OpT.move (A := .cel _ _) (.inl rfl) rfl (okd rfl rfl) (Tm rfl rfl rfl) rfl) rfl ?_
        refine AWl.rs rfl rfl rfl rfl hb2 (OpT.gtr rfl rfl (okd rfl rfl) (Tm rfl rfl rfl) (I rfl)) rfl ?_
        refine AWl.rs rfl rfl rfl rfl hb2 (OpT.move (A := .cel _ _) (.inl rfl) rfl (okd rfl rfl) (Tm rfl rfl rfl) rfl) rfl ?_
        apply AWl.and (d := 40) (t := 31) rfl
        · intro hb3 Q1 k1
          have hb3' := hb3; try simp only [decide_eq_true_eq, decide_eq_false_iff_not, beq_iff_eq, beq_eq_false_iff_ne, bne_iff_ne, bne_eq_false_iff_eq, ne_eq, Bool.not_eq_true', Bool.not_eq_false', Bool.and_eq_true, Bool.or_eq_true, Bool.or_eq_false_iff, Bool.and_eq_false_iff, Bool.not_true, Bool.not_false] at hb3'
          have hvp1 := hvp (by omega)
          refine AWl.rs rfl rfl rfl rfl hb3 (OpT.fieldAddr rfl rfl (okd rfl rfl) (Tm rfl rfl rfl) fd106_3 sz50 (by decide) sb106_3) rfl ?_
          refine AWl.rs rfl rfl rfl rfl hb3 (OpT.load rfl rfl (okd rfl rfl) (Tm rfl rfl rfl) ag50 rfl) rfl ?_
          refine AWl.rs rfl rfl rfl rfl hb3 (OpT.move (A := .cel _ _) (.inl rfl) rfl (okd rfl rfl) (Tm rfl rfl rfl) rfl) rfl ?_
          refine AWl.rs rfl rfl rfl rfl hb3 (OpT.sub rfl rfl (okd rfl rfl) (Tm rfl rfl rfl) (I rfl) (nw (by omega))) rfl ?_
          refine AWl.rs rfl rfl rfl rfl hb3 (OpT.indexAddr rfl rfl (okd rfl rfl) (Tm rfl rfl rfl) (Tm rfl rfl rfl) el50 sz2 (by omega) (by assumption)) rfl ?_
          refine AWl.rs rfl rfl rfl rfl hb3 (OpT.load rfl rfl (okd rfl rfl) (Tm rfl rfl rfl) ag2 rfl) rfl ?_
          refine AWl.rs rfl rfl rfl rfl hb3 (OpT.move (A := .cel _ _) (.inl rfl) rfl (okd rfl rfl) (Tm rfl rfl rfl) rfl) rfl ?_
          refine AWl.rs rfl rfl rfl rfl hb3 (OpT.geq rfl rfl (okd rfl rfl) (Tm rfl rfl rfl) (Tm rfl rfl rfl)) rfl ?_
          refine AWl.rs rfl rfl rfl rfl hb2 (OpT.pickT (A := .cel _ _) rfl rfl (okd rfl rfl) (Tm rfl rfl rfl) hb3 (Tm rfl rfl rfl) rfl) rfl ?_
          exact AWl.to (junk 8 rfl) k1
        · intro hb3 Q1 k1
          refine AWl.pas rfl rfl rfl rfl hb3 rfl (okd rfl rfl) rfl ?_
          refine AWl.pas rfl rfl rfl rfl hb3 rfl (okd rfl rfl) rfl ?_
          refine AWl.pas rfl rfl rfl rfl hb3 rfl (okd rfl rfl) rfl ?_
          refine AWl.pas rfl rfl rfl rfl hb3 rfl (okd rfl rfl) rfl ?_
          refine AWl.pas rfl rfl rfl rfl hb3 rfl (okd rfl rfl) rfl ?_
          refine AWl.pas rfl rfl rfl rfl hb3 rfl (okd rfl rfl) rfl ?_
          refine AWl.pas rfl rfl rfl rfl hb3 rfl (okd rfl rfl) rfl ?_
          refine AWl.pas rfl rfl rfl rfl hb3 rfl (okd rfl rfl) rfl ?_
          refine AWl.rs rfl rfl rfl rfl hb2 (OpT.pickF (A := .cel _ _) rfl rfl (okd rfl rfl) (Tm rfl rfl rfl) hb3 Opd.bool rfl) rfl ?_
          exact k1
        refine AWl.st rfl (OpT.pickF (A := .cel _ _) rfl rfl (okd rfl rfl) (Tm rfl rfl rfl) hb2 (Tm rfl rfl rfl) rfl) rfl ?_
        exact AWl.to (junk 4 rfl) k1
      · intro hb2 Q1 k1
        refine AWl.pas rfl rfl rfl rfl hb2 rfl (okd rfl rfl) rfl ?_
        refine AWl.pas rfl rfl rfl rfl hb2 rfl (okd rfl rfl) rfl ?_
        refine AWl.pasv rfl rfl rfl rfl hb2 rfl (okd rfl rfl) rfl ?_
        refine AWl.pasu rfl rfl rfl rfl rfl (okd rfl rfl) rfl ?_
        refine AWl.pasu rfl rfl rfl rfl rfl (okd rfl rfl) rfl ?_
        refine AWl.pasu rfl rfl rfl rfl rfl (okd rfl rfl) rfl ?_
        refine AWl.pasu rfl rfl rfl rfl rfl (okd rfl rfl) rfl ?_
        refine AWl.pasu rfl rfl rfl rfl rfl (okd rfl rfl) rfl ?_
        refine AWl.pasu rfl rfl rfl rfl rfl (okd rfl rfl) rfl ?_
        refine AWl.pasu rfl rfl rfl rfl rfl (okd rfl rfl) rfl ?_
        refine AWl.pasu rfl rfl rfl rfl rfl (okd rfl rfl) rfl ?_
        refine AWl.pas rfl rfl rfl rfl hb2 rfl (okd rfl rfl) rfl ?_
        refine AWl.st rfl (OpT.pickT (A := .cel _ _) rfl rfl (okd rfl rfl) (Tm rfl rfl rfl) hb2 Opd.bool rfl) rfl ?_
        exact AWl.to (junk 9 rfl) k1
      refine AWl.nil ?_
      refine AX.go ?_
      refine AW.cond (t := 41) rfl (by decide) (fun hc3 => ?_) (fun hc3 => ?_)
      ·
        try simp only [decide_eq_true_eq, decide_eq_false_iff_not, Bool.not_eq_true', Bool.not_eq_false'] at hc3
        have hc3' := hc3; try simp only [decide_eq_true_eq, decide_eq_false_iff_not, beq_iff_eq, beq_eq_false_iff_ne, bne_iff_ne, bne_eq_false_iff_eq, ne_eq, Bool.not_eq_true', Bool.not_eq_false', Bool.and_eq_true, Bool.or_eq_true, Bool.or_eq_false_iff, Bool.and_eq_false_iff, Bool.not_true, Bool.not_false] at hc3'
        refine AW.seq ?_
        refine AW.region ?_
        refine AWl.st rfl (OpT.move (A := .cel _ _) (.inr rfl) rfl (okd rfl rfl) Opd.bool rfl) rfl ?_
        refine AWl.nil ?_
        refine AX.go ?_
        refine AW.ret ?_
        refine AX.ret_block ?_
        refine AX.ret_then ?_
        refine AX.ret_then ?_
        refine AX.ret_block ?_
        refine AX.ret_then ?_
        refine AX.ret_then ?_
        exact AX.rt (rs := [.tmp 6]) (ts := [some 6]) (.inl rfl) rfl (ROs.cons (RO.tmp (At.self (by decide)) (Kv rfl (by first | exact tt_no (fun h => absurd (((knot_leaf hc1').1 h).1 z (by omega)) (mt (leafI_iff ha hvp).1 (by omega))) | exact tt_no (fun h => absurd (((knot_ask hc1').1 h).2 z (by omega)) (mt (askI_iff hv hn hvp).1 (by omega))) | exact (leaf_end hI.2 (by omega)).trans (congrArg tt (propext (knot_leaf hc1').symm)) | exact tt_yes ((knot_ask hc1').2 ⟨by unfold askH; omega, all_end hI.2 (by omega)⟩) | exact tt_no (fun h => by have := ((knot_ask hc1').1 h).1; unfold askH at this; omega))) rfl) <| ROs.nil) (by decide) OutsOK.nil
      ·
        try simp only [decide_eq_true_eq, decide_eq_false_iff_not, Bool.not_eq_true', Bool.not_eq_false'] at hc3
        have hc3' := hc3; try simp only [decide_eq_true_eq, decide_eq_false_iff_not, beq_iff_eq, beq_eq_false_iff_ne, bne_iff_ne, bne_eq_false_iff_eq, ne_eq, Bool.not_eq_true', Bool.not_eq_false', Bool.and_eq_true, Bool.or_eq_true, Bool.or_eq_false_iff, Bool.and_eq_false_iff, Bool.not_true, Bool.not_false] at hc3'
        refine AW.skip ?_
        refine AX.normal_block ?_
        refine AX.go ?_
        refine AW.region ?_
        refine AWl.st rfl (OpT.add rfl rfl (okd rfl rfl) (Tm rfl rfl rfl) (I rfl) (nw (by omega))) rfl ?_
        refine AWl.sg rfl (OpT.move (A := .cel _ _) (.inl rfl) rfl (okd rfl rfl) (Tm rfl rfl rfl) rfl) (Kc 17 (.cel _ _) rfl <| Kc 42 (.cel _ _) rfl <| Kc 41 (.cel _ _) rfl <| Kc 28 (.cel _ _) rfl <| Kc 27 (.cel _ _) rfl <| Kc 24 (.cel _ _) rfl <| Kc 23 (.cel _ _) rfl <| Kc 22 (.cel _ _) rfl <| Kc 8 (.cel _ _) rfl <| Kc 7 (.cel _ _) rfl <| Kc 21 (.cel _ _) rfl <| Kc 20 (.cel _ _) rfl <| Kc 19 (.cel _ _) rfl <| Kc 18 (.cel _ _) rfl <| Kc 3 (.cel _ _) rfl <| Kc 15 (.cel _ _) rfl <| Kc 16 (.cel _ _) rfl <| Kn) ?_
        refine AWl.nil ?_
        exact AX.again (z + 1) ⟨by omega, all_step hI.2 ((leafI_iff ha hvp).2 (by omega))⟩ (by omega) (Kc 3 _ (Kv rfl rfl) <| Kc 15 _ (Kv rfl rfl) <| Kc 16 _ (Kv rfl rfl) <| Kc 17 _ (Kv rfl (by omega)) <| Kn)
    ·
      try simp only [decide_eq_true_eq, decide_eq_false_iff_not, Bool.not_eq_true', Bool.not_eq_false'] at hc2
      have hc2' := hc2; try simp only [decide_eq_true_eq, decide_eq_false_iff_not, beq_iff_eq, beq_eq_false_iff_ne, bne_iff_ne, bne_eq_false_iff_eq, ne_eq, Bool.not_eq_true', Bool.not_eq_false', Bool.and_eq_true, Bool.or_eq_true, Bool.or_eq_false_iff, Bool.and_eq_false_iff, Bool.not_true, Bool.not_false] at hc2'
      refine AW.exit ?_
      refine AX.exit_then ?_
      refine AX.exit_then ?_
      refine AX.exit_hit ?_
      refine AX.pr (Kc 3 (.cel _ _) rfl <| Kn) ?_
      refine AX.go ?_
      refine AW.seq ?_
      refine AW.region ?_
      refine AWl.st rfl (OpT.fieldAddr rfl rfl (okd rfl rfl) (Tm rfl rfl rfl) fd106_1 sz50 (by decide) sb106_1) rfl ?_
      refine AWl.st rfl (OpT.load rfl rfl (okd rfl rfl) (Tm rfl rfl rfl) ag50 rfl) rfl ?_
      refine AWl.st rfl (OpT.len rfl rfl (okd rfl rfl) (Tm rfl rfl rfl) el50) rfl ?_
      refine AWl.st rfl (OpT.eql rfl rfl (okd rfl rfl) (Tm rfl rfl rfl) (I rfl)) rfl ?_
      refine AWl.st rfl (OpT.move (A := .cel _ _) (.inl rfl) rfl (okd rfl rfl) (Tm rfl rfl rfl) rfl) rfl ?_
      apply AWl.and (d := 52) (t := 47) rfl
      · intro hb4 Q1 k1
        have hb4' := hb4; try simp only [decide_eq_true_eq, decide_eq_false_iff_not, beq_iff_eq, beq_eq_false_iff_ne, bne_iff_ne, bne_eq_false_iff_eq, ne_eq, Bool.not_eq_true', Bool.not_eq_false', Bool.and_eq_true, Bool.or_eq_true, Bool.or_eq_false_iff, Bool.and_eq_false_iff, Bool.not_true, Bool.not_false] at hb4'
        refine AWl.rs rfl rfl rfl rfl hb4 (OpT.fieldAddr rfl rfl (okd rfl rfl) (Tm rfl rfl rfl) fd106_2 sz101 (by decide) sb106_2) rfl ?_
        refine AWl.rs rfl rfl rfl rfl hb4 (OpT.load rfl rfl (okd rfl rfl) (Tm rfl rfl rfl) ag101 rfl) rfl ?_
        refine AWl.rs rfl rfl rfl rfl hb4 (OpT.len rfl rfl (okd rfl rfl) (Tm rfl rfl rfl) el101) rfl ?_
        refine AWl.rs rfl rfl rfl rfl hb4 (OpT.eql rfl rfl (okd rfl rfl) (Tm rfl rfl rfl) (I rfl)) rfl ?_
        refine AWl.st rfl (OpT.pickT (A := .cel _ _) rfl rfl (okd rfl rfl) (Tm rfl rfl rfl) hb4 (Tm rfl rfl rfl) rfl) rfl ?_
        exact AWl.to (junk 4 rfl) k1
      · intro hb4 Q1 k1
        refine AWl.pas rfl rfl rfl rfl hb4 rfl (okd rfl rfl) rfl ?_
        refine AWl.pas rfl rfl rfl rfl hb4 rfl (okd rfl rfl) rfl ?_
        refine AWl.pas rfl rfl rfl rfl hb4 rfl (okd rfl rfl) rfl ?_
        refine AWl.pas rfl rfl rfl rfl hb4 rfl (okd rfl rfl) rfl ?_
        refine AWl.st rfl (OpT.pickF (A := .cel _ _) rfl rfl (okd rfl rfl) (Tm rfl rfl rfl) hb4 Opd.bool rfl) rfl ?_
        exact k1
      refine AWl.st rfl (OpT.move (A := .cel _ _) (.inr rfl) rfl (okd rfl rfl) (Tm rfl rfl rfl) rfl) rfl ?_
      refine AWl.nil ?_
      refine AX.pr (Kc 6 (.cel _ _) rfl <| Kc 3 (.cel _ _) rfl <| Kn) ?_
      refine AX.go ?_
      refine AW.ret ?_
      refine AX.ret_then ?_
      exact AX.rt (rs := [.tmp 6]) (ts := [some 6]) (.inl rfl) rfl (ROs.cons (RO.tmp (At.self (by decide)) (Kv rfl (by first | exact tt_no (fun h => absurd (((knot_leaf hc1').1 h).1 z (by omega)) (mt (leafI_iff ha hvp).1 (by omega))) | exact tt_no (fun h => absurd (((knot_ask hc1').1 h).2 z (by omega)) (mt (askI_iff hv hn hvp).1 (by omega))) | exact (leaf_end hI.2 (by omega)).trans (congrArg tt (propext (knot_leaf hc1').symm)) | exact tt_yes ((knot_ask hc1').2 ⟨by unfold askH; omega, all_end hI.2 (by omega)⟩) | exact tt_no (fun h => by have := ((knot_ask hc1').1 h).1; unfold askH at this; omega))) rfl) <| ROs.nil) (by decide) OutsOK.nil
  ·
    try simp only [decide_eq_true_eq, decide_eq_false_iff_not, Bool.not_eq_true', Bool.not_eq_false'] at hc1
    have hc1' := hc1; try simp only [decide_eq_true_eq, decide_eq_false_iff_not, beq_iff_eq, beq_eq_false_iff_ne, bne_iff_ne, bne_eq_false_iff_eq, ne_eq, Bool.not_eq_true', Bool.not_eq_false', Bool.and_eq_true, Bool.or_eq_true, Bool.or_eq_false_iff, Bool.and_eq_false_iff, Bool.not_true, Bool.not_false] at hc1'
    refine AW.skip ?_
    refine AX.pr (Kc 6 (.cel _ _) rfl <| Kc 3 (.cel _ _) rfl <| Kc 1 (.cel _ _) rfl <| Kc 2 (.cel _ _) rfl <| Kn) ?_
    refine AX.go ?_
    refine AW.seq ?_
    refine AW.seq ?_
    refine AW.region ?_
    refine AWl.st rfl (OpT.fieldAddr rfl rfl (okd rfl rfl) (Tm rfl rfl rfl) fd106_0 sz31 (by decide) sb106_0) rfl ?_
    refine AWl.st rfl (OpT.load rfl rfl (okd rfl rfl) (Tm rfl rfl rfl) ag31 rfl) rfl ?_
    refine AWl.st rfl (OpT.lss rfl rfl (okd rfl rfl) (Tm rfl rfl rfl) (I rfl)) rfl ?_
    refine AWl.st rfl (OpT.move (A := .cel _ _) (.inl rfl) rfl (okd rfl rfl) (Tm rfl rfl rfl) rfl) rfl ?_
    apply AWl.or (d := 60) (t := 56) rfl
    · intro hb5 Q1 k1
      have hb5' := hb5; try simp only [decide_eq_true_eq, decide_eq_false_iff_not, beq_iff_eq, beq_eq_false_iff_ne, bne_iff_ne, bne_eq_false_iff_eq, ne_eq, Bool.not_eq_true', Bool.not_eq_false', Bool.and_eq_true, Bool.or_eq_true, Bool.or_eq_false_iff, Bool.and_eq_false_iff, Bool.not_true, Bool.not_false] at hb5'
      refine AWl.rs rfl rfl rfl rfl hb5 (OpT.fieldAddr rfl rfl (okd rfl rfl) (Tm rfl rfl rfl) fd106_0 sz31 (by decide) sb106_0) rfl ?_
      refine AWl.rs rfl rfl rfl rfl hb5 (OpT.load rfl rfl (okd rfl rfl) (Tm rfl rfl rfl) ag31 rfl) rfl ?_
      refine AWl.rs rfl rfl rfl rfl hb5 (OpT.geq rfl rfl (okd rfl rfl) (Tm rfl rfl rfl) (I rfl)) rfl ?_
      refine AWl.st rfl (OpT.pickF (A := .cel _ _) rfl rfl (okd rfl rfl) (Tm rfl rfl rfl) hb5 (Tm rfl rfl rfl) rfl) rfl ?_
      exact AWl.to (junk 3 rfl) k1
    · intro hb5 Q1 k1
      refine AWl.pas rfl rfl rfl rfl hb5 rfl (okd rfl rfl) rfl ?_
      refine AWl.pas rfl rfl rfl rfl hb5 rfl (okd rfl rfl) rfl ?_
      refine AWl.pas rfl rfl rfl rfl hb5 rfl (okd rfl rfl) rfl ?_
      refine AWl.st rfl (OpT.pickT (A := .cel _ _) rfl rfl (okd rfl rfl) (Tm rfl rfl rfl) hb5 Opd.bool rfl) rfl ?_
      exact k1
    refine AWl.st rfl (OpT.move (A := .cel _ _) (.inl rfl) rfl (okd rfl rfl) (Tm rfl rfl rfl) rfl) rfl ?_
    apply AWl.or (d := 66) (t := 61) rfl
    · intro hb6 Q1 k1
      have hb6' := hb6; try simp only [decide_eq_true_eq, decide_eq_false_iff_not, beq_iff_eq, beq_eq_false_iff_ne, bne_iff_ne, bne_eq_false_iff_eq, ne_eq, Bool.not_eq_true', Bool.not_eq_false', Bool.and_eq_true, Bool.or_eq_true, Bool.or_eq_false_iff, Bool.and_eq_false_iff, Bool.not_true, Bool.not_false] at hb6'
      refine AWl.rs rfl rfl rfl rfl hb6 (OpT.fieldAddr rfl rfl (okd rfl rfl) (Tm rfl rfl rfl) fd106_3 sz50 (by decide) sb106_3) rfl ?_
      refine AWl.rs rfl rfl rfl rfl hb6 (OpT.load rfl rfl (okd rfl rfl) (Tm rfl rfl rfl) ag50 rfl) rfl ?_
      refine AWl.rs rfl rfl rfl rfl hb6 (OpT.len rfl rfl (okd rfl rfl) (Tm rfl rfl rfl) el50) rfl ?_
      refine AWl.rs rfl rfl rfl rfl hb6 (OpT.gtr rfl rfl (okd rfl rfl) (Tm rfl rfl rfl) (I rfl)) rfl ?_
      refine AWl.st rfl (OpT.pickF (A := .cel _ _) rfl rfl (okd rfl rfl) (Tm rfl rfl rfl) hb6 (Tm rfl rfl rfl) rfl) rfl ?_
      exact AWl.to (junk 4 rfl) k1
    · intro hb6 Q1 k1
      refine AWl.pas rfl rfl rfl rfl hb6 rfl (okd rfl rfl) rfl ?_
      refine AWl.pas rfl rfl rfl rfl hb6 rfl (okd rfl rfl) rfl ?_
      refine AWl.pas rfl rfl rfl rfl hb6 rfl (okd rfl rfl) rfl ?_
      refine AWl.pas rfl rfl rfl rfl hb6 rfl (okd rfl rfl) rfl ?_
      refine AWl.st rfl (OpT.pickT (A := .cel _ _) rfl rfl (okd rfl rfl) (Tm rfl rfl rfl) hb6 Opd.bool rfl) rfl ?_
      exact k1
    refine AWl.st rfl (OpT.move (A := .cel _ _) (.inl rfl) rfl (okd rfl rfl) (Tm rfl rfl rfl) rfl) rfl ?_
    apply AWl.or (d := 72) (t := 67) rfl
    · intro hb7 Q1 k1
      have hb7' := hb7; try simp only [decide_eq_true_eq, decide_eq_false_iff_not, beq_iff_eq, beq_eq_false_iff_ne, bne_iff_ne, bne_eq_false_iff_eq, ne_eq, Bool.not_eq_true', Bool.not_eq_false', Bool.and_eq_true, Bool.or_eq_true, Bool.or_eq_false_iff, Bool.and_eq_false_iff, Bool.not_true, Bool.not_false] at hb7'
      refine AWl.rs rfl rfl rfl rfl hb7 (OpT.fieldAddr rfl rfl (okd rfl rfl) (Tm rfl rfl rfl) fd106_1 sz50 (by decide) sb106_1) rfl ?_
      refine AWl.rs rfl rfl rfl rfl hb7 (OpT.load rfl rfl (okd rfl rfl) (Tm rfl rfl rfl) ag50 rfl) rfl ?_
      refine AWl.rs rfl rfl rfl rfl hb7 (OpT.len rfl rfl (okd rfl rfl) (Tm rfl rfl rfl) el50) rfl ?_
      refine AWl.rs rfl rfl rfl rfl hb7 (OpT.eql rfl rfl (okd rfl rfl) (Tm rfl rfl rfl) (I rfl)) rfl ?_
      refine AWl.st rfl (OpT.pickF (A := .cel _ _) rfl rfl (okd rfl rfl) (Tm rfl rfl rfl) hb7 (Tm rfl rfl rfl) rfl) rfl ?_
      exact AWl.to (junk 4 rfl) k1
    · intro hb7 Q1 k1
      refine AWl.pas rfl rfl rfl rfl hb7 rfl (okd rfl rfl) rfl ?_
      refine AWl.pas rfl rfl rfl rfl hb7 rfl (okd rfl rfl) rfl ?_
      refine AWl.pas rfl rfl rfl rfl hb7 rfl (okd rfl rfl) rfl ?_
      refine AWl.pas rfl rfl rfl rfl hb7 rfl (okd rfl rfl) rfl ?_
      refine AWl.st rfl (OpT.pickT (A := .cel _ _) rfl rfl (okd rfl rfl) (Tm rfl rfl rfl) hb7 Opd.bool rfl) rfl ?_
      exact k1
    refine AWl.st rfl (OpT.move (A := .cel _ _) (.inl rfl) rfl (okd rfl rfl) (Tm rfl rfl rfl) rfl) rfl ?_
    apply AWl.or (d := 81) (t := 73) rfl
    · intro hb8 Q1 k1
      have hb8' := hb8; try simp only [decide_eq_true_eq, decide_eq_false_iff_not, beq_iff_eq, beq_eq_false_iff_ne, bne_iff_ne, bne_eq_false_iff_eq, ne_eq, Bool.not_eq_true', Bool.not_eq_false', Bool.and_eq_true, Bool.or_eq_true, Bool.or_eq_false_iff, Bool.and_eq_false_iff, Bool.not_true, Bool.not_false] at hb8'
      refine AWl.rs rfl rfl rfl rfl hb8 (OpT.fieldAddr rfl rfl (okd rfl rfl) (Tm rfl rfl rfl) fd106_2 sz101 (by decide) sb106_2) rfl ?_
      refine AWl.rs rfl rfl rfl rfl hb8 (OpT.load rfl rfl (okd rfl rfl) (Tm rfl rfl rfl) ag101 rfl) rfl ?_
      refine AWl.rs rfl rfl rfl rfl hb8 (OpT.len rfl rfl (okd rfl rfl) (Tm rfl rfl rfl) el101) rfl ?_
      refine AWl.rs rfl rfl rfl rfl hb8 (OpT.fieldAddr rfl rfl (okd rfl rfl) (Tm rfl rfl rfl) fd106_1 sz50 (by decide) sb106_1) rfl ?_
      refine AWl.rs rfl rfl rfl rfl hb8 (OpT.load rfl rfl (okd rfl rfl) (Tm rfl rfl rfl) ag50 rfl) rfl ?_
      refine AWl.rs rfl rfl rfl rfl hb8 (OpT.len rfl rfl (okd rfl rfl) (Tm rfl rfl rfl) el50) rfl ?_
      refine AWl.rs rfl rfl rfl rfl hb8 (OpT.neq rfl rfl (okd rfl rfl) (Tm rfl rfl rfl) (Tm rfl rfl rfl)) rfl ?_
      refine AWl.st rfl (OpT.pickF (A := .cel _ _) rfl rfl (okd rfl rfl) (Tm rfl rfl rfl) hb8 (Tm rfl rfl rfl) rfl) rfl ?_
      exact AWl.to (junk 7 rfl) k1
    · intro hb8 Q1 k1
      refine AWl.pas rfl rfl rfl rfl hb8 rfl (okd rfl rfl) rfl ?_
      refine AWl.pas rfl rfl rfl rfl hb8 rfl (okd rfl rfl) rfl ?_
      refine AWl.pas rfl rfl rfl rfl hb8 rfl (okd rfl rfl) rfl ?_
      refine AWl.pas rfl rfl rfl rfl hb8 rfl (okd rfl rfl) rfl ?_
      refine AWl.pas rfl rfl rfl rfl hb8 rfl (okd rfl rfl) rfl ?_
      refine AWl.pas rfl rfl rfl rfl hb8 rfl (okd rfl rfl) rfl ?_
      refine AWl.pas rfl rfl rfl rfl hb8 rfl (okd rfl rfl) rfl ?_
      refine AWl.st rfl (OpT.pickT (A := .cel _ _) rfl rfl (okd rfl rfl) (Tm rfl rfl rfl) hb8 Opd.bool rfl) rfl ?_
      exact k1
    refine AWl.nil ?_
    refine AX.pr (Kc 81 (.cel _ _) rfl <| Kc 6 (.cel _ _) rfl <| Kc 3 (.cel _ _) rfl <| Kc 1 (.cel _ _) rfl <| Kc 2 (.cel _ _) rfl <| Kn) ?_
    refine AX.go ?_
    refine AW.cond (t := 81) rfl (by decide) (fun hc4 => ?_) (fun hc4 => ?_)
    ·
      try simp only [decide_eq_true_eq, decide_eq_false_iff_not, Bool.not_eq_true', Bool.not_eq_false'] at hc4
      have hc4' := hc4; try simp only [decide_eq_true_eq, decide_eq_false_iff_not, beq_iff_eq, beq_eq_false_iff_ne, bne_iff_ne, bne_eq_false_iff_eq, ne_eq, Bool.not_eq_true', Bool.not_eq_false', Bool.and_eq_true, Bool.or_eq_true, Bool.or_eq_false_iff, Bool.and_eq_false_iff, Bool.not_true, Bool.not_false] at hc4'
      refine AW.seq ?_
      refine AW.region ?_
      refine AWl.sg rfl (OpT.move (A := .cel _ _) (.inr rfl) rfl (okd rfl rfl) Opd.bool rfl) (Kc 6 (.cel _ _) rfl <| Kc 81 (.cel _ _) rfl <| Kc 3 (.cel _ _) rfl <| Kc 1 (.cel _ _) rfl <| Kc 2 (.cel _ _) rfl <| Kn) ?_
      refine AWl.nil ?_
      refine AX.pr (Kc 6 (.cel _ _) rfl <| Kc 3 (.cel _ _) rfl <| Kc 1 (.cel _ _) rfl <| Kc 2 (.cel _ _) rfl <| Kn) ?_
      refine AX.go ?_
      refine AW.ret ?_
      refine AX.ret_then ?_
      exact AX.rt (rs := [.tmp 6]) (ts := [some 6]) (.inl rfl) rfl (ROs.cons (RO.tmp (At.self (by decide)) (Kv rfl (by first | exact tt_no (fun h => absurd (((knot_leaf hc1').1 h).1 z (by omega)) (mt (leafI_iff ha hvp).1 (by omega))) | exact tt_no (fun h => absurd (((knot_ask hc1').1 h).2 z (by omega)) (mt (askI_iff hv hn hvp).1 (by omega))) | exact (leaf_end hI.2 (by omega)).trans (congrArg tt (propext (knot_leaf hc1').symm)) | exact tt_yes ((knot_ask hc1').2 ⟨by unfold askH; omega, all_end hI.2 (by omega)⟩) | exact tt_no (fun h => by have := ((knot_ask hc1').1 h).1; unfold askH at this; omega))) rfl) <| ROs.nil) (by decide) OutsOK.nil
    ·
      try simp only [decide_eq_true_eq, decide_eq_false_iff_not, Bool.not_eq_true', Bool.not_eq_false'] at hc4
      have hc4' := hc4; try simp only [decide_eq_true_eq, decide_eq_false_iff_not, beq_iff_eq, beq_eq_false_iff_ne, bne_iff_ne, bne_eq_false_iff_eq, ne_eq, Bool.not_eq_true', Bool.not_eq_false', Bool.and_eq_true, Bool.or_eq_true, Bool.or_eq_false_iff, Bool.and_eq_false_iff, Bool.not_true, Bool.not_false] at hc4'
      refine AW.skip ?_
      refine AX.pr (Kc 6 (.cel _ _) rfl <| Kc 3 (.cel _ _) rfl <| Kc 1 (.cel _ _) rfl <| Kc 2 (.cel _ _) rfl <| Kn) ?_
      refine AX.go ?_
      refine AW.seq ?_
      refine AW.seq ?_
      refine AW.region ?_
      refine AWl.st rfl (OpT.fieldAddr rfl rfl (okd rfl rfl) (Tm rfl rfl rfl) fd106_1 sz50 (by decide) sb106_1) rfl ?_
      refine AWl.st rfl (OpT.load rfl rfl (okd rfl rfl) (Tm rfl rfl rfl) ag50 rfl) rfl ?_
      refine AWl.st rfl (OpT.len rfl rfl (okd rfl rfl) (Tm rfl rfl rfl) el50) rfl ?_
      refine AWl.st rfl (OpT.move (A := .cel _ _) (.inl rfl) rfl (okd rfl rfl) (I rfl) rfl) rfl ?_
      refine AWl.nil ?_
      refine AX.pr (Kc 85 (.cel _ _) rfl <| Kc 84 (.cel _ _) rfl <| Kc 83 (.cel _ _) rfl <| Kc 6 (.cel _ _) rfl <| Kc 3 (.cel _ _) rfl <| Kc 1 (.cel _ _) rfl <| Kc 2 (.cel _ _) rfl <| Kn) ?_
      refine AX.go ?_
      refine AW.block ?_
      refine AW.loop (fun z : Nat => z ≤ x.2.1.length ∧ ∀ i, i < z → askI x p m i) (fun z : Nat => keep [(1, .cel (Kd.int .i64) p), (2, .cel (Kd.int .i64) m), (3, .cel (Kd.ptr kKnot) x), (83, .cel (Kd.slice (Kd.int .i64)) x.2.1), (84, .cel (Kd.int .i64) ((x.2.1.length : Nat) : Int)), (85, .cel (Kd.int .i64) (z : Int))]) (fun z : Nat => x.2.1.length - z) (0) ⟨Nat.zero_le _, all_none⟩ (Kc 1 _ (Kv rfl rfl) <| Kc 2 _ (Kv rfl rfl) <| Kc 3 _ (Kv rfl rfl) <| Kc 83 _ (Kv rfl rfl) <| Kc 84 _ (Kv rfl rfl) <| Kc 85 _ (Kv rfl rfl) <| Kn) ?_
      intro z hI
      refine AW.seq ?_
      refine AW.region ?_
      refine AWl.st rfl (OpT.lss rfl rfl (okd rfl rfl) (Tm rfl rfl rfl) (Tm rfl rfl rfl)) rfl ?_
      refine AWl.nil ?_
      refine AX.go ?_
      refine AW.seq ?_
      refine AW.cond (t := 86) rfl (by decide) (fun hc5 => ?_) (fun hc5 => ?_)
      ·
        try simp only [decide_eq_true_eq, decide_eq_false_iff_not, Bool.not_eq_true', Bool.not_eq_false'] at hc5
        have hc5' := hc5; try simp only [decide_eq_true_eq, decide_eq_false_iff_not, beq_iff_eq, beq_eq_false_iff_ne, bne_iff_ne, bne_eq_false_iff_eq, ne_eq, Bool.not_eq_true', Bool.not_eq_false', Bool.and_eq_true, Bool.or_eq_true, Bool.or_eq_false_iff, Bool.and_eq_false_iff, Bool.not_true, Bool.not_false] at hc5'
        obtain ⟨v, hv⟩ := getI (x := x.2.1) (z := z) (by omega); obtain ⟨n, hn⟩ := getI (x := x.2.2.1) (z := z) (by omega); obtain ⟨vp, hvp⟩ := getPr (x := x.2.1) (z := z) hI.1; have hnr := hok n (mem_getI hn)
        refine AW.skip ?_
        refine AX.go ?_
        refine AW.seq ?_
        refine AW.block ?_
        refine AW.seq ?_
        refine AW.region ?_
        refine AWl.st rfl (OpT.move (A := .cel _ _) (.inl rfl) rfl (okd rfl rfl) (Tm rfl rfl rfl) rfl) rfl ?_
        refine AWl.st rfl (OpT.indexAddr rfl rfl (okd rfl rfl) (Tm rfl rfl rfl) (Tm rfl rfl rfl) el50 sz2 (by omega) (by assumption)) rfl ?_
        refine AWl.st rfl (OpT.load rfl rfl (okd rfl rfl) (Tm rfl rfl rfl) ag2 rfl) rfl ?_
        refine AWl.st rfl (OpT.move (A := .cel _ _) (.inr rfl) rfl (okd rfl rfl) (Tm rfl rfl rfl) rfl) rfl ?_
        refine AWl.st rfl (OpT.move (A := .cel _ _) (.inr rfl) rfl (okd rfl rfl) (Tm rfl rfl rfl) rfl) rfl ?_
        refine AWl.nil ?_
        refine AX.go ?_
        refine AW.seq ?_
        refine AW.region ?_
        refine AWl.st rfl (OpT.move (A := .cel _ _) (.inl rfl) rfl (okd rfl rfl) (Tm rfl rfl rfl) rfl) rfl ?_
        refine AWl.st rfl (OpT.lss rfl rfl (okd rfl rfl) (Tm rfl rfl rfl) (I rfl)) rfl ?_
        refine AWl.st rfl (OpT.move (A := .cel _ _) (.inl rfl) rfl (okd rfl rfl) (Tm rfl rfl rfl) rfl) rfl ?_
        apply AWl.or (d := 105) (t := 92) rfl
        · intro hb9 Q1 k1
          have hb9' := hb9; try simp only [decide_eq_true_eq, decide_eq_false_iff_not, beq_iff_eq, beq_eq_false_iff_ne, bne_iff_ne, bne_eq_false_iff_eq, ne_eq, Bool.not_eq_true', Bool.not_eq_false', Bool.and_eq_true, Bool.or_eq_true, Bool.or_eq_false_iff, Bool.and_eq_false_iff, Bool.not_true, Bool.not_false] at hb9'
          refine AWl.rs rfl rfl rfl rfl hb9 (OpT.move (A := .cel _ _) (.inl rfl) rfl (okd rfl rfl) (Tm rfl rfl rfl) rfl) rfl ?_
          refine AWl.rs rfl rfl rfl rfl hb9 (OpT.gtr rfl rfl (okd rfl rfl) (Tm rfl rfl rfl) (I rfl)) rfl ?_
          refine AWl.rs rfl rfl rfl rfl hb9 (OpT.move (A := .cel _ _) (.inl rfl) rfl (okd rfl rfl) (Tm rfl rfl rfl) rfl) rfl ?_
          apply AWl.and (d := 104) (t := 95) rfl
          · intro hb10 Q1 k1
            have hb10' := hb10; try simp only [decide_eq_true_eq, decide_eq_false_iff_not, beq_iff_eq, beq_eq_false_iff_ne, bne_iff_ne, bne_eq_false_iff_eq, ne_eq, Bool.not_eq_true', Bool.not_eq_false', Bool.and_eq_true, Bool.or_eq_true, Bool.or_eq_false_iff, Bool.and_eq_false_iff, Bool.not_true, Bool.not_false] at hb10'
            have hvp1 := hvp (by omega)
            refine AWl.rs rfl rfl rfl rfl hb10 (OpT.fieldAddr rfl rfl (okd rfl rfl) (Tm rfl rfl rfl) fd106_1 sz50 (by decide) sb106_1) rfl ?_
            refine AWl.rs rfl rfl rfl rfl hb10 (OpT.load rfl rfl (okd rfl rfl) (Tm rfl rfl rfl) ag50 rfl) rfl ?_
            refine AWl.rs rfl rfl rfl rfl hb10 (OpT.move (A := .cel _ _) (.inl rfl) rfl (okd rfl rfl) (Tm rfl rfl rfl) rfl) rfl ?_
            refine AWl.rs rfl rfl rfl rfl hb10 (OpT.sub rfl rfl (okd rfl rfl) (Tm rfl rfl rfl) (I rfl) (nw (by omega))) rfl ?_
            refine AWl.rs rfl rfl rfl rfl hb10 (OpT.indexAddr rfl rfl (okd rfl rfl) (Tm rfl rfl rfl) (Tm rfl rfl rfl) el50 sz2 (by omega) (by assumption)) rfl ?_
            refine AWl.rs rfl rfl rfl rfl hb10 (OpT.load rfl rfl (okd rfl rfl) (Tm rfl rfl rfl) ag2 rfl) rfl ?_
            refine AWl.rs rfl rfl rfl rfl hb10 (OpT.move (A := .cel _ _) (.inl rfl) rfl (okd rfl rfl) (Tm rfl rfl rfl) rfl) rfl ?_
            refine AWl.rs rfl rfl rfl rfl hb10 (OpT.geq rfl rfl (okd rfl rfl) (Tm rfl rfl rfl) (Tm rfl rfl rfl)) rfl ?_
            refine AWl.rs rfl rfl rfl rfl hb9 (OpT.pickT (A := .cel _ _) rfl rfl (okd rfl rfl) (Tm rfl rfl rfl) hb10 (Tm rfl rfl rfl) rfl) rfl ?_
            exact AWl.to (junk 8 rfl) k1
          · intro hb10 Q1 k1
            refine AWl.pas rfl rfl rfl rfl hb10 rfl (okd rfl rfl) rfl ?_
            refine AWl.pas rfl rfl rfl rfl hb10 rfl (okd rfl rfl) rfl ?_
            refine AWl.pas rfl rfl rfl rfl hb10 rfl (okd rfl rfl) rfl ?_
            refine AWl.pas rfl rfl rfl rfl hb10 rfl (okd rfl rfl) rfl ?_
            refine AWl.pas rfl rfl rfl rfl hb10 rfl (okd rfl rfl) rfl ?_
            refine AWl.pas rfl rfl rfl rfl hb10 rfl (okd rfl rfl) rfl ?_
            refine AWl.pas rfl rfl rfl rfl hb10 rfl (okd rfl rfl) rfl ?_
            refine AWl.pas rfl rfl rfl rfl hb10 rfl (okd rfl rfl) rfl ?_
            refine AWl.rs rfl rfl rfl rfl hb9 (OpT.pickF (A := .cel _ _) rfl rfl (okd rfl rfl) (Tm rfl rfl rfl) hb10 Opd.bool rfl) rfl ?_
            exact k1
          refine AWl.st rfl (OpT.pickF (A := .cel _ _) rfl rfl (okd rfl rfl) (Tm rfl rfl rfl) hb9 (Tm rfl rfl rfl) rfl) rfl ?_
          exact AWl.to (junk 4 rfl) k1
        · intro hb9 Q1 k1
          refine AWl.pas rfl rfl rfl rfl hb9 rfl (okd rfl rfl) rfl ?_
          refine AWl.pas rfl rfl rfl rfl hb9 rfl (okd rfl rfl) rfl ?_
          refine AWl.pasv rfl rfl rfl rfl hb9 rfl (okd rfl rfl) rfl ?_
          refine AWl.pasu rfl rfl rfl rfl rfl (okd rfl rfl) rfl ?_
          refine AWl.pasu rfl rfl rfl rfl rfl (okd rfl rfl) rfl ?_
          refine AWl.pasu rfl rfl rfl rfl rfl (okd rfl rfl) rfl ?_
          refine AWl.pasu rfl rfl rfl rfl rfl (okd rfl rfl) rfl ?_
          refine AWl.pasu rfl rfl rfl rfl rfl (okd rfl rfl) rfl ?_
          refine AWl.pasu rfl rfl rfl rfl rfl (okd rfl rfl) rfl ?_
          refine AWl.pasu rfl rfl rfl rfl rfl (okd rfl rfl) rfl ?_
          refine AWl.pasu rfl rfl rfl rfl rfl (okd rfl rfl) rfl ?_
          refine AWl.pas rfl rfl rfl rfl hb9 rfl (okd rfl rfl) rfl ?_
          refine AWl.st rfl (OpT.pickT (A := .cel _ _) rfl rfl (okd rfl rfl) (Tm rfl rfl rfl) hb9 Opd.bool rfl) rfl ?_
          exact AWl.to (junk 9 rfl) k1
        refine AWl.st rfl (OpT.move (A := .cel _ _) (.inl rfl) rfl (okd rfl rfl) (Tm rfl rfl rfl) rfl) rfl ?_
        apply AWl.or (d := 115) (t := 106) rfl
        · intro hb11 Q1 k1
          have hb11' := hb11; try simp only [decide_eq_true_eq, decide_eq_false_iff_not, beq_iff_eq, beq_eq_false_iff_ne, bne_iff_ne, bne_eq_false_iff_eq, ne_eq, Bool.not_eq_true', Bool.not_eq_false', Bool.and_eq_true, Bool.or_eq_true, Bool.or_eq_false_iff, Bool.and_eq_false_iff, Bool.not_true, Bool.not_false] at hb11'
          refine AWl.rs rfl rfl rfl rfl hb11 (OpT.fieldAddr rfl rfl (okd rfl rfl) (Tm rfl rfl rfl) fd106_2 sz101 (by decide) sb106_2) rfl ?_
          refine AWl.rs rfl rfl rfl rfl hb11 (OpT.load rfl rfl (okd rfl rfl) (Tm rfl rfl rfl) ag101 rfl) rfl ?_
          refine AWl.rs rfl rfl rfl rfl hb11 (OpT.move (A := .cel _ _) (.inl rfl) rfl (okd rfl rfl) (Tm rfl rfl rfl) rfl) rfl ?_
          refine AWl.rs rfl rfl rfl rfl hb11 (OpT.indexAddr rfl rfl (okd rfl rfl) (Tm rfl rfl rfl) (Tm rfl rfl rfl) el101 sz31 (by omega) (by assumption)) rfl ?_
          refine AWl.rs rfl rfl rfl rfl hb11 (OpT.load rfl rfl (okd rfl rfl) (Tm rfl rfl rfl) ag31 rfl) rfl ?_
          refine AWl.rs rfl rfl rfl rfl hb11 (OpT.conv rfl rfl (okd rfl rfl) us31 Try.underlying3 (Tm rfl rfl rfl) (nw (by omega))) rfl ?_
          refine AWl.rs rfl rfl rfl rfl hb11 (OpT.move (A := .cel _ _) (.inl rfl) rfl (okd rfl rfl) (Tm rfl rfl rfl) rfl) rfl ?_
          refine AWl.rs rfl rfl rfl rfl hb11 (OpT.leq rfl rfl (okd rfl rfl) (Tm rfl rfl rfl) (Tm rfl rfl rfl)) rfl ?_
          refine AWl.st rfl (OpT.pickF (A := .cel _ _) rfl rfl (okd rfl rfl) (Tm rfl rfl rfl) hb11 (Tm rfl rfl rfl) rfl) rfl ?_
          exact AWl.to (junk 8 rfl) k1
        · intro hb11 Q1 k1
          refine AWl.pas rfl rfl rfl rfl hb11 rfl (okd rfl rfl) rfl ?_
          refine AWl.pas rfl rfl rfl rfl hb11 rfl (okd rfl rfl) rfl ?_
          refine AWl.pas rfl rfl rfl rfl hb11 rfl (okd rfl rfl) rfl ?_
          refine AWl.pas rfl rfl rfl rfl hb11 rfl (okd rfl rfl) rfl ?_
          refine AWl.pas rfl rfl rfl rfl hb11 rfl (okd rfl rfl) rfl ?_
          refine AWl.pas rfl rfl rfl rfl hb11 rfl (okd rfl rfl) rfl ?_
          refine AWl.pas rfl rfl rfl rfl hb11 rfl (okd rfl rfl) rfl ?_
          refine AWl.pas rfl rfl rfl rfl hb11 rfl (okd rfl rfl) rfl ?_
          refine AWl.st rfl (OpT.pickT (A := .cel _ _) rfl rfl (okd rfl rfl) (Tm rfl rfl rfl) hb11 Opd.bool rfl) rfl ?_
          exact k1
        refine AWl.st rfl (OpT.move (A := .cel _ _) (.inl rfl) rfl (okd rfl rfl) (Tm rfl rfl rfl) rfl) rfl ?_
        apply AWl.or (d := 125) (t := 116) rfl
        · intro hb12 Q1 k1
          have hb12' := hb12; try simp only [decide_eq_true_eq, decide_eq_false_iff_not, beq_iff_eq, beq_eq_false_iff_ne, bne_iff_ne, bne_eq_false_iff_eq, ne_eq, Bool.not_eq_true', Bool.not_eq_false', Bool.and_eq_true, Bool.or_eq_true, Bool.or_eq_false_iff, Bool.and_eq_false_iff, Bool.not_true, Bool.not_false] at hb12'
          refine AWl.rs rfl rfl rfl rfl hb12 (OpT.fieldAddr rfl rfl (okd rfl rfl) (Tm rfl rfl rfl) fd106_2 sz101 (by decide) sb106_2) rfl ?_
          refine AWl.rs rfl rfl rfl rfl hb12 (OpT.load rfl rfl (okd rfl rfl) (Tm rfl rfl rfl) ag101 rfl) rfl ?_
          refine AWl.rs rfl rfl rfl rfl hb12 (OpT.move (A := .cel _ _) (.inl rfl) rfl (okd rfl rfl) (Tm rfl rfl rfl) rfl) rfl ?_
          refine AWl.rs rfl rfl rfl rfl hb12 (OpT.indexAddr rfl rfl (okd rfl rfl) (Tm rfl rfl rfl) (Tm rfl rfl rfl) el101 sz31 (by omega) (by assumption)) rfl ?_
          refine AWl.rs rfl rfl rfl rfl hb12 (OpT.load rfl rfl (okd rfl rfl) (Tm rfl rfl rfl) ag31 rfl) rfl ?_
          refine AWl.rs rfl rfl rfl rfl hb12 (OpT.conv rfl rfl (okd rfl rfl) us31 Try.underlying3 (Tm rfl rfl rfl) (nw (by omega))) rfl ?_
          refine AWl.rs rfl rfl rfl rfl hb12 (OpT.move (A := .cel _ _) (.inl rfl) rfl (okd rfl rfl) (Tm rfl rfl rfl) rfl) rfl ?_
          refine AWl.rs rfl rfl rfl rfl hb12 (OpT.geq rfl rfl (okd rfl rfl) (Tm rfl rfl rfl) (Tm rfl rfl rfl)) rfl ?_
          refine AWl.st rfl (OpT.pickF (A := .cel _ _) rfl rfl (okd rfl rfl) (Tm rfl rfl rfl) hb12 (Tm rfl rfl rfl) rfl) rfl ?_
          exact AWl.to (junk 8 rfl) k1
        · intro hb12 Q1 k1
          refine AWl.pas rfl rfl rfl rfl hb12 rfl (okd rfl rfl) rfl ?_
          refine AWl.pas rfl rfl rfl rfl hb12 rfl (okd rfl rfl) rfl ?_
          refine AWl.pas rfl rfl rfl rfl hb12 rfl (okd rfl rfl) rfl ?_
          refine AWl.pas rfl rfl rfl rfl hb12 rfl (okd rfl rfl) rfl ?_
          refine AWl.pas rfl rfl rfl rfl hb12 rfl (okd rfl rfl) rfl ?_
          refine AWl.pas rfl rfl rfl rfl hb12 rfl (okd rfl rfl) rfl ?_
          refine AWl.pas rfl rfl rfl rfl hb12 rfl (okd rfl rfl) rfl ?_
          refine AWl.pas rfl rfl rfl rfl hb12 rfl (okd rfl rfl) rfl ?_
          refine AWl.st rfl (OpT.pickT (A := .cel _ _) rfl rfl (okd rfl rfl) (Tm rfl rfl rfl) hb12 Opd.bool rfl) rfl ?_
          exact k1
        refine AWl.nil ?_
        refine AX.go ?_
        refine AW.cond (t := 125) rfl (by decide) (fun hc6 => ?_) (fun hc6 => ?_)
        ·
          try simp only [decide_eq_true_eq, decide_eq_false_iff_not, Bool.not_eq_true', Bool.not_eq_false'] at hc6
          have hc6' := hc6; try simp only [decide_eq_true_eq, decide_eq_false_iff_not, beq_iff_eq, beq_eq_false_iff_ne, bne_iff_ne, bne_eq_false_iff_eq, ne_eq, Bool.not_eq_true', Bool.not_eq_false', Bool.and_eq_true, Bool.or_eq_true, Bool.or_eq_false_iff, Bool.and_eq_false_iff, Bool.not_true, Bool.not_false] at hc6'
          refine AW.seq ?_
          refine AW.region ?_
          refine AWl.st rfl (OpT.move (A := .cel _ _) (.inr rfl) rfl (okd rfl rfl) Opd.bool rfl) rfl ?_
          refine AWl.nil ?_
          refine AX.go ?_
          refine AW.ret ?_
          refine AX.ret_block ?_
          refine AX.ret_then ?_
          refine AX.ret_then ?_
          refine AX.ret_block ?_
          refine AX.ret_then ?_
          exact AX.rt (rs := [.tmp 6]) (ts := [some 6]) (.inl rfl) rfl (ROs.cons (RO.tmp (At.self (by decide)) (Kv rfl (by first | exact tt_no (fun h => absurd (((knot_leaf hc1').1 h).1 z (by omega)) (mt (leafI_iff ha hvp).1 (by omega))) | exact tt_no (fun h => absurd (((knot_ask hc1').1 h).2 z (by omega)) (mt (askI_iff hv hn hvp).1 (by omega))) | exact (leaf_end hI.2 (by omega)).trans (congrArg tt (propext (knot_leaf hc1').symm)) | exact tt_yes ((knot_ask hc1').2 ⟨by unfold askH; omega, all_end hI.2 (by omega)⟩) | exact tt_no (fun h => by have := ((knot_ask hc1').1 h).1; unfold askH at this; omega))) rfl) <| ROs.nil) (by decide) OutsOK.nil
        ·
          try simp only [decide_eq_true_eq, decide_eq_false_iff_not, Bool.not_eq_true', Bool.not_eq_false'] at hc6
          have hc6' := hc6; try simp only [decide_eq_true_eq, decide_eq_false_iff_not, beq_iff_eq, beq_eq_false_iff_ne, bne_iff_ne, bne_eq_false_iff_eq, ne_eq, Bool.not_eq_true', Bool.not_eq_false', Bool.and_eq_true, Bool.or_eq_true, Bool.or_eq_false_iff, Bool.and_eq_false_iff, Bool.not_true, Bool.not_false] at hc6'
          refine AW.skip ?_
          refine AX.normal_block ?_
          refine AX.go ?_
          refine AW.region ?_
          refine AWl.st rfl (OpT.add rfl rfl (okd rfl rfl) (Tm rfl rfl rfl) (I rfl) (nw (by omega))) rfl ?_
          refine AWl.sg rfl (OpT.move (A := .cel _ _) (.inl rfl) rfl (okd rfl rfl) (Tm rfl rfl rfl) rfl) (Kc 85 (.cel _ _) rfl <| Kc 126 (.cel _ _) rfl <| Kc 125 (.cel _ _) rfl <| Kc 116 (.cel _ _) rfl <| Kc 115 (.cel _ _) rfl <| Kc 106 (.cel _ _) rfl <| Kc 105 (.cel _ _) rfl <| Kc 92 (.cel _ _) rfl <| Kc 91 (.cel _ _) rfl <| Kc 90 (.cel _ _) rfl <| Kc 10 (.cel _ _) rfl <| Kc 9 (.cel _ _) rfl <| Kc 89 (.cel _ _) rfl <| Kc 88 (.cel _ _) rfl <| Kc 87 (.cel _ _) rfl <| Kc 86 (.cel _ _) rfl <| Kc 1 (.cel _ _) rfl <| Kc 2 (.cel _ _) rfl <| Kc 3 (.cel _ _) rfl <| Kc 83 (.cel _ _) rfl <| Kc 84 (.cel _ _) rfl <| Kn) ?_
          refine AWl.nil ?_
          exact AX.again (z + 1) ⟨by omega, all_step hI.2 ((askI_iff hv hn hvp).2 (by omega))⟩ (by omega) (Kc 1 _ (Kv rfl rfl) <| Kc 2 _ (Kv rfl rfl) <| Kc 3 _ (Kv rfl rfl) <| Kc 83 _ (Kv rfl rfl) <| Kc 84 _ (Kv rfl rfl) <| Kc 85 _ (Kv rfl (by omega)) <| Kn)
      ·
        try simp only [decide_eq_true_eq, decide_eq_false_iff_not, Bool.not_eq_true', Bool.not_eq_false'] at hc5
        have hc5' := hc5; try simp only [decide_eq_true_eq, decide_eq_false_iff_not, beq_iff_eq, beq_eq_false_iff_ne, bne_iff_ne, bne_eq_false_iff_eq, ne_eq, Bool.not_eq_true', Bool.not_eq_false', Bool.and_eq_true, Bool.or_eq_true, Bool.or_eq_false_iff, Bool.and_eq_false_iff, Bool.not_true, Bool.not_false] at hc5'
        refine AW.exit ?_
        refine AX.exit_then ?_
        refine AX.exit_then ?_
        refine AX.exit_hit ?_
        refine AX.pr (Kn) ?_
        refine AX.go ?_
        refine AW.seq ?_
        refine AW.region ?_
        refine AWl.st rfl (OpT.move (A := .cel _ _) (.inr rfl) rfl (okd rfl rfl) Opd.bool rfl) rfl ?_
        refine AWl.nil ?_
        refine AX.go ?_
        refine AW.ret ?_
        exact AX.rt (rs := [.tmp 6]) (ts := [some 6]) (.inl rfl) rfl (ROs.cons (RO.tmp (At.self (by decide)) (Kv rfl (by first | exact tt_no (fun h => absurd (((knot_leaf hc1').1 h).1 z (by omega)) (mt (leafI_iff ha hvp).1 (by omega))) | exact tt_no (fun h => absurd (((knot_ask hc1').1 h).2 z (by omega)) (mt (askI_iff hv hn hvp).1 (by omega))) | exact (leaf_end hI.2 (by omega)).trans (congrArg tt (propext (knot_leaf hc1').symm)) | exact tt_yes ((knot_ask hc1').2 ⟨by unfold askH; omega, all_end hI.2 (by omega)⟩) | exact tt_no (fun h => by have := ((knot_ask hc1').1 h).1; unfold askH at this; omega))) rfl) <| ROs.nil) (by decide) OutsOK.nil

set_option maxHeartbeats 4000000 in
/-- impl.isTree -/
theorem c_impl_isTree (x : List DKnot) (hn : okKS x) : AC Try.prog 83 [.cel (Kd.slice kKnot) x] [.cel Kd.bool (tt (treeOK x))] [] := by
  refine ⟨ACall.intro (N := 51) Try.func83 (c := _) (rfl : Func.body _ = some _) rfl (Nat.le_of_ble_eq_true rfl) (Nat.le_of_ble_eq_true rfl) rfl (Nat.le_of_ble_eq_true rfl) fun w0 hd s0 ar har => ?_, _, Try.func83, rfl, by decide⟩
  refine AW.to (Kc 0 (.cel _ _) rfl <| Kn) ?_
  refine AW.fact (fun a w hr => (ok_slice (R_ok (t := 0) rfl hr)).2) (fun hl0 => ?_)
  refine AW.seq ?_
  refine AW.region ?_
  refine AWl.st rfl (OpT.move (A := .cel _ _) (.inr rfl) rfl (okd rfl rfl) Opd.bool rfl) rfl ?_
  refine AWl.nil ?_
  refine AX.go ?_
  refine AW.seq ?_
  refine AW.seq ?_
  refine AW.region ?_
  refine AWl.st rfl (OpT.move (A := .cel _ _) (.inl rfl) rfl (okd rfl rfl) (Tm rfl rfl rfl) rfl) rfl ?_
  refine AWl.st rfl (OpT.len rfl rfl (okd rfl rfl) (Tm rfl rfl rfl) el66) rfl ?_
  refine AWl.st rfl (OpT.lss rfl rfl (okd rfl rfl) (Tm rfl rfl rfl) (I rfl)) rfl ?_
  refine AWl.st rfl (OpT.move (A := .cel _ _) (.inl rfl) rfl (okd rfl rfl) (Tm rfl rfl rfl) rfl) rfl ?_
  apply AWl.or (d := 15) (t := 11) rfl
  · intro hb1 Q1 k1
    have hb1' := hb1; try simp only [decide_eq_true_eq, decide_eq_false_iff_not, beq_iff_eq, beq_eq_false_iff_ne, bne_iff_ne, bne_eq_false_iff_eq, ne_eq, Bool.not_eq_true', Bool.not_eq_false', Bool.and_eq_true, Bool.or_eq_true, Bool.or_eq_false_iff, Bool.and_eq_false_iff, Bool.not_true, Bool.not_false] at hb1'
    refine AWl.rs rfl rfl rfl rfl hb1 (OpT.move (A := .cel _ _) (.inl rfl) rfl (okd rfl rfl) (Tm rfl rfl rfl) rfl) rfl ?_
    refine AWl.rs rfl rfl rfl rfl hb1 (OpT.len rfl rfl (okd rfl rfl) (Tm rfl rfl rfl) el66) rfl ?_
    refine AWl.rs rfl rfl rfl rfl hb1 (OpT.gtr rfl rfl (okd rfl rfl) (Tm rfl rfl rfl) (I rfl)) rfl ?_
    refine AWl.st rfl (OpT.pickF (A := .cel _ _) rfl rfl (okd rfl rfl) (Tm rfl rfl rfl) hb1 (Tm rfl rfl rfl) rfl) rfl ?_
    exact AWl.to (junk 3 rfl) k1
  · intro hb1 Q1 k1
    refine AWl.pas rfl rfl rfl rfl hb1 rfl (okd rfl rfl) rfl ?_
    refine AWl.pas rfl rfl rfl rfl hb1 rfl (okd rfl rfl) rfl ?_
    refine AWl.pas rfl rfl rfl rfl hb1 rfl (okd rfl rfl) rfl ?_
    refine AWl.st rfl (OpT.pickT (A := .cel _ _) rfl rfl (okd rfl rfl) (Tm rfl rfl rfl) hb1 Opd.bool rfl) rfl ?_
    exact k1
  refine AWl.nil ?_
  refine AX.pr (Kc 15 (.cel _ _) rfl <| Kc 2 (.cel _ _) rfl <| Kc 0 (.cel _ _) rfl <| Kn) ?_
  refine AX.go ?_
  refine AW.cond (t := 15) rfl (by decide) (fun hc1 => ?_) (fun hc1 => ?_)
  ·
    try simp only [decide_eq_true_eq, decide_eq_false_iff_not, Bool.not_eq_true', Bool.not_eq_false'] at hc1
    have hc1' := hc1; try simp only [decide_eq_true_eq, decide_eq_false_iff_not, beq_iff_eq, beq_eq_false_iff_ne, bne_iff_ne, bne_eq_false_iff_eq, ne_eq, Bool.not_eq_true', Bool.not_eq_false', Bool.and_eq_true, Bool.or_eq_true, Bool.or_eq_false_iff, Bool.and_eq_false_iff, Bool.not_true, Bool.not_false] at hc1'
    refine AW.seq ?_
    refine AW.region ?_
    refine AWl.sg rfl (OpT.move (A := .cel _ _) (.inr rfl) rfl (okd rfl rfl) Opd.bool rfl) (Kc 2 (.cel _ _) rfl <| Kc 15 (.cel _ _) rfl <| Kc 0 (.cel _ _) rfl <| Kn) ?_
    refine AWl.nil ?_
    refine AX.pr (Kc 2 (.cel _ _) rfl <| Kc 0 (.cel _ _) rfl <| Kn) ?_
    refine AX.go ?_
    refine AW.ret ?_
    refine AX.ret_then ?_
    exact AX.rt (rs := [.tmp 2]) (ts := [some 2]) (.inl rfl) rfl (ROs.cons (RO.tmp (At.self (by decide)) (Kv rfl (by first | exact tree_no ha (by omega) (tt_false.1 (by simpa using hc3)) | exact tree_end (by omega) hI.2 (by omega) | exact tree_len (by omega))) rfl) <| ROs.nil) (by decide) OutsOK.nil
  ·
    try simp only [decide_eq_true_eq, decide_eq_false_iff_not, Bool.not_eq_true', Bool.not_eq_false'] at hc1
    have hc1' := hc1; try simp only [decide_eq_true_eq, decide_eq_false_iff_not, beq_iff_eq, beq_eq_false_iff_ne, bne_iff_ne, bne_eq_false_iff_eq, ne_eq, Bool.not_eq_true', Bool.not_eq_false', Bool.and_eq_true, Bool.or_eq_true, Bool.or_eq_false_iff, Bool.and_eq_false_iff, Bool.not_true, Bool.not_false] at hc1'
    refine AW.skip ?_
    refine AX.pr (Kc 2 (.cel _ _) rfl <| Kc 0 (.cel _ _) rfl <| Kn) ?_
    refine AX.go ?_
    refine AW.seq ?_
    refine AW.region ?_
    refine AWl.st rfl (OpT.move (A := .cel _ _) (.inl rfl) rfl (okd rfl rfl) (Tm rfl rfl rfl) rfl) rfl ?_
    refine AWl.st rfl (OpT.len rfl rfl (okd rfl rfl) (Tm rfl rfl rfl) el66) rfl ?_
    refine AWl.st rfl (OpT.make rfl rfl (okd rfl rfl) (Tm rfl rfl rfl) (Tm rfl rfl rfl) el127 zr3 sz3 by3 (by decide) zk3 (by omega) (by omega)) rfl ?_
    refine AWl.sg rfl (OpT.take (.inl rfl) rfl (okd rfl rfl) (Root.self (by decide)) rfl rfl (by decide)) (Kc 3 (.own _ _ _) rfl <| Kc 17 (.cel _ _) rfl <| Kc 16 (.cel _ _) rfl <| Kc 2 (.cel _ _) rfl <| Kc 0 (.cel _ _) rfl <| Kn) ?_
    refine AWl.nil ?_
    refine AX.pr (Kc 3 (.own _ _ _) rfl <| Kc 2 (.cel _ _) rfl <| Kc 0 (.cel _ _) rfl <| Kn) ?_
    refine AX.go ?_
    refine AW.seq ?_
    refine AW.seq ?_
    refine AW.region ?_
    refine AWl.st rfl (OpT.move (A := .cel _ _) (.inl rfl) rfl (okd rfl rfl) (Tm rfl rfl rfl) rfl) rfl ?_
    refine AWl.st rfl (OpT.len rfl rfl (okd rfl rfl) (Tm rfl rfl rfl) el66) rfl ?_
    refine AWl.st rfl (OpT.move (A := .cel _ _) (.inl rfl) rfl (okd rfl rfl) (I rfl) rfl) rfl ?_
    refine AWl.nil ?_
    refine AX.go ?_
    refine AW.block ?_
    refine AW.loop (fun z : Nat => z ≤ x.length ∧ ∀ i, i < z → knotI x i) (fun z : Nat => keep [(0, .cel (Kd.slice kKnot) x), (3, .own 3 (Kd.int .i64) (cntL 0 x.length (nexts (x.take z)))), (19, .cel (Kd.slice kKnot) x), (20, .cel (Kd.int .i64) ((x.length : Nat) : Int)), (21, .cel (Kd.int .i64) (z : Int))]) (fun z : Nat => x.length - z) (0) ⟨Nat.zero_le _, all_none⟩ (Kc 0 _ (Kv rfl rfl) <| Kc 3 _ (Ko rfl cntL_nil) <| Kc 19 _ (Kv rfl rfl) <| Kc 20 _ (Kv rfl rfl) <| Kc 21 _ (Kv rfl rfl) <| Kn) ?_
    intro z hI
    refine AW.seq ?_
    refine AW.region ?_
    refine AWl.st rfl (OpT.lss rfl rfl (okd rfl rfl) (Tm rfl rfl rfl) (Tm rfl rfl rfl)) rfl ?_
    refine AWl.nil ?_
    refine AX.go ?_
    refine AW.seq ?_
    refine AW.cond (t := 22) rfl (by decide) (fun hc2 => ?_) (fun hc2 => ?_)
    ·
      try simp only [decide_eq_true_eq, decide_eq_false_iff_not, Bool.not_eq_true', Bool.not_eq_false'] at hc2
      have hc2' := hc2; try simp only [decide_eq_true_eq, decide_eq_false_iff_not, beq_iff_eq, beq_eq_false_iff_ne, bne_iff_ne, bne_eq_false_iff_eq, ne_eq, Bool.not_eq_true', Bool.not_eq_false', Bool.and_eq_true, Bool.or_eq_true, Bool.or_eq_false_iff, Bool.and_eq_false_iff, Bool.not_true, Bool.not_false] at hc2'
      obtain ⟨a, ha⟩ := getI (x := x) (z := z) (by omega)
      refine AW.skip ?_
      refine AX.go ?_
      refine AW.seq ?_
      refine AW.block ?_
      refine AW.seq ?_
      refine AW.region ?_
      refine AWl.st rfl (OpT.move (A := .cel _ _) (.inl rfl) rfl (okd rfl rfl) (Tm rfl rfl rfl) rfl) rfl ?_
      refine AWl.st rfl (OpT.indexAddr rfl rfl (okd rfl rfl) (Tm rfl rfl rfl) (Tm rfl rfl rfl) el66 sz106 (by omega) (by assumption)) rfl ?_
      refine AWl.st rfl (OpT.loadA rfl rfl (okd rfl rfl) (Tm rfl rfl rfl) ag106 sz106) rfl ?_
      refine AWl.st rfl (OpT.alloc rfl rfl (okd rfl rfl) zr106 zk106) rfl ?_
      refine AWl.st rfl (OpT.move (A := .cel _ _) (.inr rfl) rfl (okd rfl rfl) (Tm rfl rfl rfl) rfl) rfl ?_
      refine AWl.sg rfl (OpT.storeBA rfl rfl (Opd.whole (Root.self (by decide)) rfl) rfl sz106 (by decide) (Tm rfl rfl rfl)) (Kc 4 (.cel _ _) rfl <| Kc 5 (.box _ _ _) rfl <| Kc 25 (.agg _ _) rfl <| Kc 24 (.cel _ _) rfl <| Kc 23 (.cel _ _) rfl <| Kc 22 (.cel _ _) rfl <| Kc 0 (.cel _ _) rfl <| Kc 3 (.own _ _ _) rfl <| Kc 19 (.cel _ _) rfl <| Kc 20 (.cel _ _) rfl <| Kc 21 (.cel _ _) rfl <| Kn) ?_
      refine AWl.nil ?_
      refine AX.go ?_
      refine AW.seq ?_
      refine AW.seq ?_
      refine AW.region ?_
      refine AWl.st rfl (OpT.loadB rfl rfl (okd rfl rfl) (Root.self (by decide)) rfl ag106 sz106) rfl ?_
      refine AWl.st rfl (OpT.move (A := .cel _ _) (.inl rfl) rfl (okd rfl rfl) (Tm rfl rfl rfl) rfl) rfl ?_
      refine AWl.st rfl (OpT.move (A := .cel _ _) (.inl rfl) rfl (okd rfl rfl) (Tm rfl rfl rfl) rfl) rfl ?_
      refine AWl.st rfl (OpT.len rfl rfl (okd rfl rfl) (Tm rfl rfl rfl) el66) rfl ?_
      refine AWl.st rfl (OpT.c1 (ms := [.flat, .flat, .flat]) (c_impl_isKnot _ _ _) rfl rfl (okd rfl rfl) (Af (Tm rfl rfl rfl) rfl rfl <| Af (Tm rfl rfl rfl) rfl rfl <| Af (Tm rfl rfl rfl) rfl rfl <| An) rfl rfl) rfl ?_
      refine AWl.st rfl (OpT.not rfl rfl (okd rfl rfl) (Tm rfl rfl rfl)) rfl ?_
      refine AWl.nil ?_
      refine AX.go ?_
      refine AW.cond (t := 31) rfl (by decide) (fun hc3 => ?_) (fun hc3 => ?_)
      ·
        try simp only [decide_eq_true_eq, decide_eq_false_iff_not, Bool.not_eq_true', Bool.not_eq_false'] at hc3
        have hc3' := hc3; try simp only [decide_eq_true_eq, decide_eq_false_iff_not, beq_iff_eq, beq_eq_false_iff_ne, bne_iff_ne, bne_eq_false_iff_eq, ne_eq, Bool.not_eq_true', Bool.not_eq_false', Bool.and_eq_true, Bool.or_eq_true, Bool.or_eq_false_iff, Bool.and_eq_false_iff, Bool.not_true, Bool.not_false] at hc3'
        refine AW.seq ?_
        refine AW.region ?_
        refine AWl.st rfl (OpT.move (A := .cel _ _) (.inr rfl) rfl (okd rfl rfl) Opd.bool rfl) rfl ?_
        refine AWl.nil ?_
        refine AX.go ?_
        refine AW.ret ?_
        refine AX.ret_then ?_
        refine AX.ret_block ?_
        refine AX.ret_then ?_
        refine AX.ret_then ?_
        refine AX.ret_block ?_
        refine AX.ret_then ?_
        exact AX.rt (rs := [.tmp 2]) (ts := [some 2]) (.inl rfl) rfl (ROs.cons (RO.tmp (At.self (by decide)) (Kv rfl (by first | exact tree_no ha (by omega) (tt_false.1 (by simpa using hc3)) | exact tree_end (by omega) hI.2 (by omega) | exact tree_len (by omega))) rfl) <| ROs.nil) (by decide) OutsOK.nil
      ·
        try simp only [decide_eq_true_eq, decide_eq_false_iff_not, Bool.not_eq_true', Bool.not_eq_false'] at hc3
        have hc3' := hc3; try simp only [decide_eq_true_eq, decide_eq_false_iff_not, beq_iff_eq, beq_eq_false_iff_ne, bne_iff_ne, bne_eq_false_iff_eq, ne_eq, Bool.not_eq_true', Bool.not_eq_false', Bool.and_eq_true, Bool.or_eq_true, Bool.or_eq_false_iff, Bool.and_eq_false_iff, Bool.not_true, Bool.not_false] at hc3'
        refine AW.skip ?_
        refine AX.go ?_
        refine AW.seq ?_
        refine AW.region ?_
        refine AWl.st rfl (OpT.fieldAddrB rfl rfl (okd rfl rfl) (Root.self (by decide)) rfl (by decide) fd106_2 sz101 (by decide) sb106_2) rfl ?_
        refine AWl.st rfl (OpT.loadP rfl rfl (okd rfl rfl) (Tm rfl rfl rfl) (.inl ⟨_, rfl, rfl⟩) ag101 rfl) rfl ?_
        refine AWl.st rfl (OpT.len rfl rfl (okd rfl rfl) (Tm rfl rfl rfl) el101) rfl ?_
        refine AWl.st rfl (OpT.move (A := .cel _ _) (.inl rfl) rfl (okd rfl rfl) (I rfl) rfl) rfl ?_
        refine AWl.nil ?_
        refine AX.go ?_
        refine AW.block ?_
        have hI0 := hI
        have hkn : knotOK a (z : Int) x.length := tt_iff.1 (by simpa using hc3)
        have hla := (hn.2 a (mem_getI ha)).2.1
        refine AW.loop (fun y : Nat => y ≤ a.2.2.1.length) (fun y : Nat => keep [(0, .cel (Kd.slice kKnot) x), (3, .own 3 (Kd.int .i64) (cntL 0 x.length (nexts (x.take z) ++ a.2.2.1.take y))), (19, .cel (Kd.slice kKnot) x), (20, .cel (Kd.int .i64) ((x.length : Nat) : Int)), (21, .cel (Kd.int .i64) (z : Int)), (33, .cel (Kd.slice (Kd.int .i16)) a.2.2.1), (34, .cel (Kd.int .i64) ((a.2.2.1.length : Nat) : Int)), (35, .cel (Kd.int .i64) (y : Int))]) (fun y : Nat => a.2.2.1.length - y) (0) (Nat.zero_le _) (Kc 0 _ (Kv rfl rfl) <| Kc 3 _ (Ko rfl (by rw [List.take_zero, List.append_nil])) <| Kc 19 _ (Kv rfl rfl) <| Kc 20 _ (Kv rfl rfl) <| Kc 21 _ (Kv rfl rfl) <| Kc 33 _ (Kv rfl rfl) <| Kc 34 _ (Kv rfl rfl) <| Kc 35 _ (Kv rfl rfl) <| Kn) ?_
        intro y hI
        refine AW.seq ?_
        refine AW.region ?_
        refine AWl.st rfl (OpT.lss rfl rfl (okd rfl rfl) (Tm rfl rfl rfl) (Tm rfl rfl rfl)) rfl ?_
        refine AWl.nil ?_
        refine AX.go ?_
        refine AW.seq ?_
        refine AW.cond (t := 36) rfl (by decide) (fun hc4 => ?_) (fun hc4 => ?_)
        ·
          try simp only [decide_eq_true_eq, decide_eq_false_iff_not, Bool.not_eq_true', Bool.not_eq_false'] at hc4
          have hc4' := hc4; try simp only [decide_eq_true_eq, decide_eq_false_iff_not, beq_iff_eq, beq_eq_false_iff_ne, bne_iff_ne, bne_eq_false_iff_eq, ne_eq, Bool.not_eq_true', Bool.not_eq_false', Bool.and_eq_true, Bool.or_eq_true, Bool.or_eq_false_iff, Bool.and_eq_false_iff, Bool.not_true, Bool.not_false] at hc4'
          obtain ⟨n, hn2⟩ := getI (x := a.2.2.1) (z := y) (by omega); have hnx := knot_next hkn hn2; have hlen : (nexts (x.take z) ++ a.2.2.1.take y).length ≤ 1152921504606846976 := by (rw [List.length_append, List.length_take]; have := nexts_lenK hn (z := z) (by omega); have := (hn.2 a (mem_getI ha)).2.1; omega)
          obtain ⟨cv, hcv, hcv1⟩ := cntL_in (b := 0) (a := n) (n := x.length) (l := nexts (x.take z) ++ a.2.2.1.take y) (by omega) (by omega)
          refine AW.skip ?_
          refine AX.go ?_
          refine AW.seq ?_
          refine AW.block ?_
          refine AW.seq ?_
          refine AW.region ?_
          refine AWl.st rfl (OpT.indexAddr rfl rfl (okd rfl rfl) (Tm rfl rfl rfl) (Tm rfl rfl rfl) el101 sz31 (by omega) (by assumption)) rfl ?_
          refine AWl.st rfl (OpT.load rfl rfl (okd rfl rfl) (Tm rfl rfl rfl) ag31 rfl) rfl ?_
          refine AWl.st rfl (OpT.move (A := .cel _ _) (.inr rfl) rfl (okd rfl rfl) (Tm rfl rfl rfl) rfl) rfl ?_
          refine AWl.nil ?_
          refine AX.go ?_
          refine AW.region ?_
          refine AWl.st rfl (OpT.alias rfl rfl (okd rfl rfl) (by decide) (by decide)) rfl ?_
          refine AWl.st rfl (OpT.move (A := .cel _ _) (.inl rfl) rfl (okd rfl rfl) (Tm rfl rfl rfl) rfl) rfl ?_
          refine AWl.st rfl (OpT.indexAddrO rfl rfl (okd rfl rfl) (Root.ali rfl (by decide) (by decide)) rfl (by decide) (Tm rfl rfl rfl) el127 sz3 (by omega) (by assumption)) rfl ?_
          refine AWl.st rfl (OpT.loadP rfl rfl (okd rfl rfl) (Tm rfl rfl rfl) (.inr ⟨_, _, rfl, (by assumption)⟩) ag3 rfl) rfl ?_
          refine AWl.st rfl (OpT.add rfl rfl (okd rfl rfl) (Tm rfl rfl rfl) (I rfl) (nw (by omega))) rfl ?_
          refine AWl.st rfl (OpT.indexAddrO rfl rfl (okd rfl rfl) (Root.ali rfl (by decide) (by decide)) rfl (by decide) (Tm rfl rfl rfl) el127 sz3 (by omega) (by assumption)) rfl ?_
          refine AWl.sg rfl (OpT.storeO rfl rfl (Tm rfl rfl rfl) rfl (by assumption) sz3 rfl (Tm rfl rfl rfl)) (Kc 44 (.pel _ _ _ _ _ _ _) rfl <| Kc 43 (.cel _ _) rfl <| Kc 42 (.cel _ _) rfl <| Kc 41 (.pel _ _ _ _ _ _ _) rfl <| Kc 40 (.cel _ _) rfl <| Kc 39 (.ali _) rfl <| Kc 7 (.cel _ _) rfl <| Kc 38 (.cel _ _) rfl <| Kc 37 (.cel _ _) rfl <| Kc 36 (.cel _ _) rfl <| Kc 0 (.cel _ _) rfl <| Kc 3 (.own _ _ _) rfl <| Kc 19 (.cel _ _) rfl <| Kc 20 (.cel _ _) rfl <| Kc 21 (.cel _ _) rfl <| Kc 33 (.cel _ _) rfl <| Kc 34 (.cel _ _) rfl <| Kc 35 (.cel _ _) rfl <| Kn) ?_
          refine AWl.nil ?_
          refine AX.normal_block ?_
          refine AX.go ?_
          refine AW.region ?_
          refine AWl.st rfl (OpT.add rfl rfl (okd rfl rfl) (Tm rfl rfl rfl) (I rfl) (nw (by omega))) rfl ?_
          refine AWl.sg rfl (OpT.move (A := .cel _ _) (.inl rfl) rfl (okd rfl rfl) (Tm rfl rfl rfl) rfl) (Kc 35 (.cel _ _) rfl <| Kc 45 (.cel _ _) rfl <| Kc 44 (.pel _ _ _ _ _ _ _) rfl <| Kc 43 (.cel _ _) rfl <| Kc 42 (.cel _ _) rfl <| Kc 41 (.pel _ _ _ _ _ _ _) rfl <| Kc 40 (.cel _ _) rfl <| Kc 39 (.ali _) rfl <| Kc 7 (.cel _ _) rfl <| Kc 38 (.cel _ _) rfl <| Kc 37 (.cel _ _) rfl <| Kc 36 (.cel _ _) rfl <| Kc 0 (.cel _ _) rfl <| Kc 3 (.own _ _ _) rfl <| Kc 19 (.cel _ _) rfl <| Kc 20 (.cel _ _) rfl <| Kc 21 (.cel _ _) rfl <| Kc 33 (.cel _ _) rfl <| Kc 34 (.cel _ _) rfl <| Kn) ?_
          refine AWl.nil ?_
          exact AX.again (y + 1) (by omega) (by omega) (Kc 0 _ (Kv rfl rfl) <| Kc 3 _ (Ko rfl (cnt_next hn2 (by omega) hcv)) <| Kc 19 _ (Kv rfl rfl) <| Kc 20 _ (Kv rfl rfl) <| Kc 21 _ (Kv rfl rfl) <| Kc 33 _ (Kv rfl rfl) <| Kc 34 _ (Kv rfl rfl) <| Kc 35 _ (Kv rfl (by omega)) <| Kn)
        ·
          try simp only [decide_eq_true_eq, decide_eq_false_iff_not, Bool.not_eq_true', Bool.not_eq_false'] at hc4
          have hc4' := hc4; try simp only [decide_eq_true_eq, decide_eq_false_iff_not, beq_iff_eq, beq_eq_false_iff_ne, bne_iff_ne, bne_eq_false_iff_eq, ne_eq, Bool.not_eq_true', Bool.not_eq_false', Bool.and_eq_true, Bool.or_eq_true, Bool.or_eq_false_iff, Bool.and_eq_false_iff, Bool.not_true, Bool.not_false] at hc4'
          refine AW.exit ?_
          refine AX.exit_then ?_
          refine AX.exit_then ?_
          refine AX.exit_hit ?_
          refine AX.normal_block ?_
          refine AX.go ?_
          refine AW.region ?_
          refine AWl.st rfl (OpT.add rfl rfl (okd rfl rfl) (Tm rfl rfl rfl) (I rfl) (nw (by omega))) rfl ?_
          refine AWl.sg rfl (OpT.move (A := .cel _ _) (.inl rfl) rfl (okd rfl rfl) (Tm rfl rfl rfl) rfl) (Kc 21 (.cel _ _) rfl <| Kc 46 (.cel _ _) rfl <| Kc 36 (.cel _ _) rfl <| Kc 0 (.cel _ _) rfl <| Kc 3 (.own _ _ _) rfl <| Kc 19 (.cel _ _) rfl <| Kc 20 (.cel _ _) rfl <| Kc 33 (.cel _ _) rfl <| Kc 34 (.cel _ _) rfl <| Kc 35 (.cel _ _) rfl <| Kn) ?_
          refine AWl.nil ?_
          exact AX.again (z + 1) ⟨by omega, all_step hI0.2 ((knotI_iff ha).2 hkn)⟩ (by omega) (Kc 0 _ (Kv rfl rfl) <| Kc 3 _ (Ko rfl (cnt_all ha (by omega))) <| Kc 19 _ (Kv rfl rfl) <| Kc 20 _ (Kv rfl rfl) <| Kc 21 _ (Kv rfl (by omega)) <| Kn)
    ·
      try simp only [decide_eq_true_eq, decide_eq_false_iff_not, Bool.not_eq_true', Bool.not_eq_false'] at hc2
      have hc2' := hc2; try simp only [decide_eq_true_eq, decide_eq_false_iff_not, beq_iff_eq, beq_eq_false_iff_ne, bne_iff_ne, bne_eq_false_iff_eq, ne_eq, Bool.not_eq_true', Bool.not_eq_false', Bool.and_eq_true, Bool.or_eq_true, Bool.or_eq_false_iff, Bool.and_eq_false_iff, Bool.not_true, Bool.not_false] at hc2'
      refine AW.exit ?_
      refine AX.freeze (t := 3) rfl ?_
      refine AX.pr (Kc 22 (.cel _ _) rfl <| Kc 0 (.cel _ _) rfl <| Kc 3 (.cel _ _) rfl <| Kc 19 (.cel _ _) rfl <| Kc 20 (.cel _ _) rfl <| Kc 21 (.cel _ _) rfl <| Kn) ?_
      refine AX.exit_then ?_
      refine AX.exit_then ?_
      refine AX.exit_hit ?_
      refine AX.pr (Kc 3 (.cel _ _) rfl <| Kn) ?_
      refine AX.go ?_
      refine AW.seq ?_
      refine AW.region ?_
      refine AWl.st rfl (OpT.move (A := .cel _ _) (.inl rfl) rfl (okd rfl rfl) (Tm rfl rfl rfl) rfl) rfl ?_
      refine AWl.st rfl (OpT.cutL rfl rfl (okd rfl rfl) (Tm rfl rfl rfl) (I rfl) el127 sz3 (by rw [cntL_len]; omega)) rfl ?_
      refine AWl.st rfl (OpT.c1 (ms := [.flat, .flat]) (c_slices_ContainsFunc_int_int _) rfl rfl (okd rfl rfl) (Af (Tm rfl rfl rfl) rfl rfl <| Af Opd.func rfl rfl <| An) rfl rfl) rfl ?_
      refine AWl.st rfl (OpT.not rfl rfl (okd rfl rfl) (Tm rfl rfl rfl)) rfl ?_
      refine AWl.st rfl (OpT.move (A := .cel _ _) (.inr rfl) rfl (okd rfl rfl) (Tm rfl rfl rfl) rfl) rfl ?_
      refine AWl.nil ?_
      refine AX.pr (Kc 2 (.cel _ _) rfl <| Kn) ?_
      refine AX.go ?_
      refine AW.ret ?_
      exact AX.rt (rs := [.tmp 2]) (ts := [some 2]) (.inl rfl) rfl (ROs.cons (RO.tmp (At.self (by decide)) (Kv rfl (by first | exact tree_no ha (by omega) (tt_false.1 (by simpa using hc3)) | exact tree_end (by omega) hI.2 (by omega) | exact tree_len (by omega))) rfl) <| ROs.nil) (by decide) OutsOK.nil

/-- impl.ValidTree -/
theorem c_impl_ValidTree (x : List DKnot) (hn : okKS x) : AC Try.prog 39 [.cel (Kd.slice kKnot) x] [.cel Kd.bool (tt (treeOK x))] [] := by
  refine ⟨ACall.intro (N := 5) Try.func39 (c := _) (rfl : Func.body _ = some _) rfl (Nat.le_of_ble_eq_true rfl) (Nat.le_of_ble_eq_true rfl) rfl (Nat.le_of_ble_eq_true rfl) fun w0 hd s0 ar har => ?_, _, Try.func39, rfl, by decide⟩
  refine AW.to (Kc 0 (.cel _ _) rfl <| Kn) ?_
  refine AW.seq ?_
  refine AW.region ?_
  refine AWl.st rfl (OpT.move (A := .cel _ _) (.inr rfl) rfl (okd rfl rfl) Opd.bool rfl) rfl ?_
  refine AWl.nil ?_
  refine AX.go ?_
  refine AW.seq ?_
  refine AW.region ?_
  refine AWl.st rfl (OpT.move (A := .cel _ _) (.inl rfl) rfl (okd rfl rfl) (Tm rfl rfl rfl) rfl) rfl ?_
  refine AWl.st rfl (OpT.c1 (ms := [.flat]) (c_impl_isTree _ hn) rfl rfl (okd rfl rfl) (Af (Tm rfl rfl rfl) rfl rfl <| An) rfl rfl) rfl ?_
  refine AWl.sg rfl (OpT.move (A := .cel _ _) (.inr rfl) rfl (okd rfl rfl) (Tm rfl rfl rfl) rfl) (Kc 2 (.cel _ _) rfl <| Kc 4 (.cel _ _) rfl <| Kc 3 (.cel _ _) rfl <| Kc 0 (.cel _ _) rfl <| Kn) ?_
  refine AWl.nil ?_
  refine AX.pr (Kc 2 (.cel _ _) rfl <| Kn) ?_
  refine AX.go ?_
  refine AW.ret ?_
  exact AX.rt (rs := [.tmp 2]) (ts := [some 2]) (.inl rfl) rfl (ROs.cons (RO.tmp (At.self (by decide)) (Kv rfl rfl) rfl) <| ROs.nil) (by decide) OutsOK.nil

/-- laws.FnExactValidTree -/
theorem c_laws_FnExactValidTree (x : List DKnot) : AC Try.prog 10 [.cel (Kd.slice kKnot) x] [.cel Kd.bool true] [] := by
  refine ⟨ACall.intro (N := 27) Try.func10 (c := _) (rfl : Func.body _ = some _) rfl (Nat.le_of_ble_eq_true rfl) (Nat.le_of_ble_eq_true rfl) rfl (Nat.le_of_ble_eq_true rfl) fun w0 hd s0 ar har => ?_, _, Try.func10, rfl, by decide⟩
  refine AW.to (Kc 0 (.cel _ _) rfl <| Kn) ?_
  refine AW.seq ?_
  refine AW.region ?_
  refine AWl.st rfl (OpT.move (A := .cel _ _) (.inr rfl) rfl (okd rfl rfl) Opd.bool rfl) rfl ?_
  refine AWl.nil ?_
  refine AX.go ?_
  refine AW.seq ?_
  refine AW.region ?_
  refine AWl.st rfl (OpT.move (A := .cel _ _) (.inr rfl) rfl (okd rfl rfl) (I rfl) rfl) rfl ?_
  refine AWl.nil ?_
  refine AX.go ?_
  refine AW.seq ?_
  refine AW.region ?_
  refine AWl.st rfl (OpT.move (A := .cel _ _) (.inl rfl) rfl (okd rfl rfl) (Tm rfl rfl rfl) rfl) rfl ?_
  refine AWl.st rfl (OpT.move (A := .cel _ _) (.inl rfl) rfl (okd rfl rfl) (Tm rfl rfl rfl) rfl) rfl ?_
  refine AWl.st rfl (OpT.c1 (ms := [.flat, .flat]) (c_laws_szKnotS _ _ (by omega)) rfl rfl (okd rfl rfl) (Af (Tm rfl rfl rfl) rfl rfl <| Af (Tm rfl rfl rfl) rfl rfl <| An) rfl rfl) rfl ?_
  refine AWl.sg rfl (OpT.move (A := .cel _ _) (.inr rfl) rfl (okd rfl rfl) (Tm rfl rfl rfl) rfl) (Kc 3 (.cel _ _) rfl <| Kc 9 (.cel _ _) rfl <| Kc 8 (.cel _ _) rfl <| Kc 7 (.cel _ _) rfl <| Kc 2 (.cel _ _) rfl <| Kc 0 (.cel _ _) rfl <| Kn) ?_
  refine AWl.nil ?_
  refine AX.pr (Kc 3 (.cel _ _) rfl <| Kc 2 (.cel _ _) rfl <| Kc 0 (.cel _ _) rfl <| Kn) ?_
  refine AX.go ?_
  refine AW.seq ?_
  refine AW.seq ?_
  refine AW.region ?_
  refine AWl.st rfl (OpT.move (A := .cel _ _) (.inl rfl) rfl (okd rfl rfl) (Tm rfl rfl rfl) rfl) rfl ?_
  refine AWl.st rfl (OpT.lss rfl rfl (okd rfl rfl) (Tm rfl rfl rfl) (I rfl)) rfl ?_
  refine AWl.nil ?_
  refine AX.pr (Kc 11 (.cel _ _) rfl <| Kc 2 (.cel _ _) rfl <| Kc 0 (.cel _ _) rfl <| Kn) ?_
  refine AX.go ?_
  refine AW.cond (t := 11) rfl (by decide) (fun hc1 => ?_) (fun hc1 => ?_)
  ·
    try simp only [decide_eq_true_eq, decide_eq_false_iff_not, Bool.not_eq_true', Bool.not_eq_false'] at hc1
    refine AW.seq ?_
    refine AW.region ?_
    refine AWl.sg rfl (OpT.move (A := .cel _ _) (.inr rfl) rfl (okd rfl rfl) Opd.bool rfl) (Kc 2 (.cel _ _) rfl <| Kc 11 (.cel _ _) rfl <| Kc 0 (.cel _ _) rfl <| Kn) ?_
    refine AWl.nil ?_
    refine AX.pr (Kc 2 (.cel _ _) rfl <| Kc 0 (.cel _ _) rfl <| Kn) ?_
    refine AX.go ?_
    refine AW.ret ?_
    refine AX.ret_then ?_
    exact AX.rt (rs := [.tmp 2]) (ts := [some 2]) (.inl rfl) rfl (ROs.cons (RO.tmp (At.self (by decide)) (Kv rfl (by simp_all [eqv_self])) rfl) <| ROs.nil) (by decide) OutsOK.nil
  ·
    try simp only [decide_eq_true_eq, decide_eq_false_iff_not, Bool.not_eq_true', Bool.not_eq_false'] at hc1
    have k0 := szKS_in x (l := 1048576) (by omega)
    have k1 := k0.2.2 (by omega)
    refine AW.skip ?_
    refine AX.pr (Kc 2 (.cel _ _) rfl <| Kc 0 (.cel _ _) rfl <| Kn) ?_
    refine AX.go ?_
    refine AW.seq ?_
    refine AW.region ?_
    refine AWl.st rfl (OpT.move (A := .cel _ _) (.inl rfl) rfl (okd rfl rfl) (Tm rfl rfl rfl) rfl) rfl ?_
    refine AWl.st rfl (OpT.c1 (ms := [.flat]) (c_laws_toKnotS x k1) rfl rfl (okd rfl rfl) (Af (Tm rfl rfl rfl) rfl rfl <| An) rfl rfl) rfl ?_
    refine AWl.st rfl (OpT.c1 (ms := [.flat]) (c_spec_ValidTree x k1) rfl rfl (okd rfl rfl) (Af (Tm rfl rfl rfl) rfl rfl <| An) rfl rfl) rfl ?_
    refine AWl.st rfl (OpT.move (A := .cel _ _) (.inr rfl) rfl (okd rfl rfl) (Tm rfl rfl rfl) rfl) rfl ?_
    refine AWl.nil ?_
    refine AX.pr (Kc 4 (.cel _ _) rfl <| Kc 2 (.cel _ _) rfl <| Kc 0 (.cel _ _) rfl <| Kn) ?_
    refine AX.go ?_
    refine AW.seq ?_
    refine AW.region ?_
    refine AWl.st rfl (OpT.move (A := .cel _ _) (.inl rfl) rfl (okd rfl rfl) (Tm rfl rfl rfl) rfl) rfl ?_
    refine AWl.st rfl (OpT.c1 (ms := [.flat]) (c_laws_toKnotS x k1) rfl rfl (okd rfl rfl) (Af (Tm rfl rfl rfl) rfl rfl <| An) rfl rfl) rfl ?_
    refine AWl.st rfl (OpT.move (A := .cel _ _) (.inr rfl) rfl (okd rfl rfl) (Tm rfl rfl rfl) rfl) rfl ?_
    refine AWl.nil ?_
    refine AX.pr (Kc 5 (.cel _ _) rfl <| Kc 4 (.cel _ _) rfl <| Kc 2 (.cel _ _) rfl <| Kc 0 (.cel _ _) rfl <| Kn) ?_
    refine AX.go ?_
    refine AW.seq ?_
    refine AW.region ?_
    refine AWl.st rfl (OpT.move (A := .cel _ _) (.inl rfl) rfl (okd rfl rfl) (Tm rfl rfl rfl) rfl) rfl ?_
    refine AWl.st rfl (OpT.c1 (ms := [.flat]) (c_impl_ValidTree x k1) rfl rfl (okd rfl rfl) (Af (Tm rfl rfl rfl) rfl rfl <| An) rfl rfl) rfl ?_
    refine AWl.st rfl (OpT.move (A := .cel _ _) (.inr rfl) rfl (okd rfl rfl) (Tm rfl rfl rfl) rfl) rfl ?_
    refine AWl.nil ?_
    refine AX.pr (Kc 6 (.cel _ _) rfl <| Kc 5 (.cel _ _) rfl <| Kc 4 (.cel _ _) rfl <| Kc 2 (.cel _ _) rfl <| Kc 0 (.cel _ _) rfl <| Kn) ?_
    refine AX.go ?_
    refine AW.seq ?_
    refine AW.seq ?_
    refine AW.region ?_
    refine AWl.st rfl (OpT.move (A := .cel _ _) (.inl rfl) rfl (okd rfl rfl) (Tm rfl rfl rfl) rfl) rfl ?_
    refine AWl.st rfl (OpT.move (A := .cel _ _) (.inl rfl) rfl (okd rfl rfl) (Tm rfl rfl rfl) rfl) rfl ?_
    refine AWl.st rfl (OpT.bneq rfl rfl (okd rfl rfl) Try.underlying4 (Tm rfl rfl rfl) (Tm rfl rfl rfl)) rfl ?_
    refine AWl.nil ?_
    refine AX.pr (Kc 21 (.cel _ _) rfl <| Kc 5 (.cel _ _) rfl <| Kc 2 (.cel _ _) rfl <| Kc 0 (.cel _ _) rfl <| Kn) ?_
    refine AX.go ?_
    refine AW.cond (t := 21) rfl (by decide) (fun hc2 => ?_) (fun hc2 => ?_)
    ·
      try simp only [decide_eq_true_eq, decide_eq_false_iff_not, Bool.not_eq_true', Bool.not_eq_false'] at hc2
      refine AW.seq ?_
      refine AW.region ?_
      refine AWl.sg rfl (OpT.move (A := .cel _ _) (.inr rfl) rfl (okd rfl rfl) Opd.bool rfl) (Kc 2 (.cel _ _) rfl <| Kc 21 (.cel _ _) rfl <| Kc 5 (.cel _ _) rfl <| Kc 0 (.cel _ _) rfl <| Kn) ?_
      refine AWl.nil ?_
      refine AX.pr (Kc 2 (.cel _ _) rfl <| Kc 5 (.cel _ _) rfl <| Kc 0 (.cel _ _) rfl <| Kn) ?_
      refine AX.go ?_
      refine AW.ret ?_
      refine AX.ret_then ?_
      exact AX.rt (rs := [.tmp 2]) (ts := [some 2]) (.inl rfl) rfl (ROs.cons (RO.tmp (At.self (by decide)) (Kv rfl (by simp_all [eqv_self])) rfl) <| ROs.nil) (by decide) OutsOK.nil
    ·
      try simp only [decide_eq_true_eq, decide_eq_false_iff_not, Bool.not_eq_true', Bool.not_eq_false'] at hc2
      refine AW.skip ?_
      refine AX.pr (Kc 5 (.cel _ _) rfl <| Kc 2 (.cel _ _) rfl <| Kc 0 (.cel _ _) rfl <| Kn) ?_
      refine AX.go ?_
      refine AW.seq ?_
      refine AW.seq ?_
      refine AW.region ?_
      refine AWl.st rfl (OpT.move (A := .cel _ _) (.inl rfl) rfl (okd rfl rfl) (Tm rfl rfl rfl) rfl) rfl ?_
      refine AWl.st rfl (OpT.move (A := .cel _ _) (.inl rfl) rfl (okd rfl rfl) (Tm rfl rfl rfl) rfl) rfl ?_
      refine AWl.st rfl (OpT.c1 (ms := [.flat]) (c_laws_toKnotS x k1) rfl rfl (okd rfl rfl) (Af (Tm rfl rfl rfl) rfl rfl <| An) rfl rfl) rfl ?_
      refine AWl.st rfl (OpT.c1 (ms := [.flat, .flat]) (c_laws_eqKnotS _ _) rfl rfl (okd rfl rfl) (Af (Tm rfl rfl rfl) rfl rfl <| Af (Tm rfl rfl rfl) rfl rfl <| An) rfl rfl) rfl ?_
      refine AWl.st rfl (OpT.not rfl rfl (okd rfl rfl) (Tm rfl rfl rfl)) rfl ?_
      refine AWl.nil ?_
      refine AX.pr (Kc 26 (.cel _ _) rfl <| Kc 2 (.cel _ _) rfl <| Kn) ?_
      refine AX.go ?_
      refine AW.cond (t := 26) rfl (by decide) (fun hc3 => ?_) (fun hc3 => ?_)
      ·
        try simp only [decide_eq_true_eq, decide_eq_false_iff_not, Bool.not_eq_true', Bool.not_eq_false'] at hc3
        refine AW.seq ?_
        refine AW.region ?_
        refine AWl.sg rfl (OpT.move (A := .cel _ _) (.inr rfl) rfl (okd rfl rfl) Opd.bool rfl) (Kc 2 (.cel _ _) rfl <| Kc 26 (.cel _ _) rfl <| Kn) ?_
        refine AWl.nil ?_
        refine AX.pr (Kc 2 (.cel _ _) rfl <| Kn) ?_
        refine AX.go ?_
        refine AW.ret ?_
        refine AX.ret_then ?_
        exact AX.rt (rs := [.tmp 2]) (ts := [some 2]) (.inl rfl) rfl (ROs.cons (RO.tmp (At.self (by decide)) (Kv rfl (by simp_all [eqv_self])) rfl) <| ROs.nil) (by decide) OutsOK.nil
      ·
        try simp only [decide_eq_true_eq, decide_eq_false_iff_not, Bool.not_eq_true', Bool.not_eq_false'] at hc3
        refine AW.skip ?_
        refine AX.pr (Kc 2 (.cel _ _) rfl <| Kn) ?_
        refine AX.go ?_
        refine AW.seq ?_
        refine AW.region ?_
        refine AWl.sg rfl (OpT.move (A := .cel _ _) (.inr rfl) rfl (okd rfl rfl) Opd.bool rfl) (Kc 2 (.cel _ _) rfl <| Kn) ?_
        refine AWl.nil ?_
        refine AX.go ?_
        refine AW.ret ?_
        exact AX.rt (rs := [.tmp 2]) (ts := [some 2]) (.inl rfl) rfl (ROs.cons (RO.tmp (At.self (by decide)) (Kv rfl (by simp_all [eqv_self])) rfl) <| ROs.nil) (by decide) OutsOK.nil
end Go.Proofs.Ytdjbdaidnlbhhaa.VL
