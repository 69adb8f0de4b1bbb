/- Proved here: what some functions of the program take and give: walks with the words of VA..VQ. Printed by program. -/
import Derived.Test.YtdjbdaidnlbhhaaWT
import Derived.Test.YtdjbdaidnlbhhaaPE
import Derived.Test.YtdjbdaidnlbhhaaWA
set_option linter.unusedVariables false
set_option linter.unusedSimpArgs false
set_option maxRecDepth 4000
namespace Go.Proofs.Ytdjbdaidnlbhhaa.VL
open Go
/-- spec.l06Leaf -/
theorem c_spec_l06Leaf (x : DKnot) : AC Try.prog 105 [.cel (Kd.ptr kKnot) x] [.cel Kd.bool (tt (leafOK x))] [] := by
  refine ⟨ACall.intro (N := 46) Try.func105 (c := _) (rfl : Func.body _ = some _) rfl (Nat.le_of_ble_eq_true rfl) (Nat.le_of_ble_eq_true rfl) rfl (Nat.le_of_ble_eq_true rfl) fun w0 hd s0 ar har => ?_, _, Try.func105, rfl, by decide⟩
  refine AW.to (Kc 0 (.cel _ _) rfl <| Kn) ?_
  refine AW.fact (fun a w hr => (ok_slice ((ok_pair (ok_pair (ok_pair (ok_ptr (R_ok (t := 0) rfl hr))).2).2).2)).2) (fun hl0 => ?_)
  refine AW.seq ?_
  refine AW.region ?_
  refine AWl.st rfl (OpT.move (A := .cel _ _) (.inr rfl) rfl (okd rfl rfl) Opd.bool rfl) rfl ?_
  refine AWl.nil ?_
  refine AX.go ?_
  refine AW.seq ?_
  refine AW.region ?_
  refine AWl.st rfl (OpT.move (A := .cel _ _) (.inr rfl) rfl (okd rfl rfl) (I rfl) rfl) rfl ?_
  refine AWl.nil ?_
  refine AX.go ?_
  refine AW.seq ?_
  refine AW.seq ?_
  refine AW.region ?_
  refine AWl.st rfl (OpT.move (A := .cel _ _) (.inr rfl) rfl (okd rfl rfl) (I rfl) rfl) rfl ?_
  refine AWl.nil ?_
  refine AX.go ?_
  refine AW.block ?_
  refine AW.loop (fun z : Nat => z ≤ x.2.2.2.length ∧ ∀ i, i < z → leafI x.2.2.2 i) (fun z : Nat => keep [(0, .cel (Kd.ptr kKnot) x), (3, .cel (Kd.int .i64) (lastV x.2.2.2 z)), (4, .cel (Kd.int .i64) (z : Int))]) (fun z : Nat => x.2.2.2.length - z) (0) ⟨Nat.zero_le _, all_none⟩ (Kc 0 _ (Kv rfl rfl) <| Kc 3 _ (Kv rfl rfl) <| Kc 4 _ (Kv rfl rfl) <| Kn) ?_
  intro z hI
  have hlv := lastV_in hI.2
  refine AW.seq ?_
  refine AW.seq ?_
  refine AW.region ?_
  refine AWl.st rfl (OpT.move (A := .cel _ _) (.inl rfl) rfl (okd rfl rfl) (Tm rfl rfl rfl) rfl) rfl ?_
  refine AWl.st rfl (OpT.move (A := .cel _ _) (.inl rfl) rfl (okd rfl rfl) (Tm rfl rfl rfl) rfl) rfl ?_
  refine AWl.st rfl (OpT.nilCheck rfl rfl (okd rfl rfl) (Tm rfl rfl rfl)) rfl ?_
  refine AWl.st rfl (OpT.fieldAddr rfl rfl (okd rfl rfl) (Tm rfl rfl rfl) fd106_3 sz50 (by decide) sb106_3) rfl ?_
  refine AWl.st rfl (OpT.load rfl rfl (okd rfl rfl) (Tm rfl rfl rfl) ag50 rfl) rfl ?_
  refine AWl.st rfl (OpT.len rfl rfl (okd rfl rfl) (Tm rfl rfl rfl) el50) rfl ?_
  refine AWl.st rfl (OpT.lss rfl rfl (okd rfl rfl) (Tm rfl rfl rfl) (Tm rfl rfl rfl)) rfl ?_
  refine AWl.nil ?_
  refine AX.go ?_
  refine AW.cond (t := 11) rfl (by decide) (fun hc1 => ?_) (fun hc1 => ?_)
  ·
    try simp only [decide_eq_true_eq, decide_eq_false_iff_not, Bool.not_eq_true', Bool.not_eq_false'] at hc1
    have hc1' := hc1; try simp only [decide_eq_true_eq, decide_eq_false_iff_not, beq_iff_eq, beq_eq_false_iff_ne, bne_iff_ne, bne_eq_false_iff_eq, ne_eq, Bool.not_eq_true', Bool.not_eq_false', Bool.and_eq_true, Bool.or_eq_true, Bool.or_eq_false_iff, Bool.and_eq_false_iff, Bool.not_true, Bool.not_false] at hc1'
    obtain ⟨a, ha⟩ := getI (x := x.2.2.2) (z := z) (by omega)
    refine AW.skip ?_
    refine AX.go ?_
    refine AW.seq ?_
    refine AW.block ?_
    refine AW.seq ?_
    refine AW.seq ?_
    refine AW.region ?_
    refine AWl.st rfl (OpT.move (A := .cel _ _) (.inl rfl) rfl (okd rfl rfl) (Tm rfl rfl rfl) rfl) rfl ?_
    refine AWl.st rfl (OpT.nilCheck rfl rfl (okd rfl rfl) (Tm rfl rfl rfl)) rfl ?_
    refine AWl.st rfl (OpT.fieldAddr rfl rfl (okd rfl rfl) (Tm rfl rfl rfl) fd106_3 sz50 (by decide) sb106_3) rfl ?_
    refine AWl.st rfl (OpT.load rfl rfl (okd rfl rfl) (Tm rfl rfl rfl) ag50 rfl) rfl ?_
    refine AWl.st rfl (OpT.move (A := .cel _ _) (.inl rfl) rfl (okd rfl rfl) (Tm rfl rfl rfl) rfl) rfl ?_
    refine AWl.st rfl (OpT.indexAddr rfl rfl (okd rfl rfl) (Tm rfl rfl rfl) (Tm rfl rfl rfl) el50 sz2 (by omega) (by assumption)) rfl ?_
    refine AWl.st rfl (OpT.load rfl rfl (okd rfl rfl) (Tm rfl rfl rfl) ag2 rfl) rfl ?_
    refine AWl.st rfl (OpT.move (A := .cel _ _) (.inl rfl) rfl (okd rfl rfl) (Tm rfl rfl rfl) rfl) rfl ?_
    refine AWl.st rfl (OpT.add rfl rfl (okd rfl rfl) (Tm rfl rfl rfl) (I rfl) (nw (by omega))) rfl ?_
    refine AWl.st rfl (OpT.c1 (ms := [.flat, .flat, .flat]) (c_spec_l00In _ _ _) rfl rfl (okd rfl rfl) (Af (Tm rfl rfl rfl) rfl rfl <| Af (Tm rfl rfl rfl) rfl rfl <| Af (I rfl) rfl rfl <| An) rfl rfl) rfl ?_
    refine AWl.st rfl (OpT.not rfl rfl (okd rfl rfl) (Tm rfl rfl rfl)) rfl ?_
    refine AWl.nil ?_
    refine AX.go ?_
    refine AW.cond (t := 24) rfl (by decide) (fun hc2 => ?_) (fun hc2 => ?_)
    ·
      try simp only [decide_eq_true_eq, decide_eq_false_iff_not, Bool.not_eq_true', Bool.not_eq_false'] at hc2
      have hc2' := hc2; try simp only [decide_eq_true_eq, decide_eq_false_iff_not, beq_iff_eq, beq_eq_false_iff_ne, bne_iff_ne, bne_eq_false_iff_eq, ne_eq, Bool.not_eq_true', Bool.not_eq_false', Bool.and_eq_true, Bool.or_eq_true, Bool.or_eq_false_iff, Bool.and_eq_false_iff, Bool.not_true, Bool.not_false] at hc2'
      refine AW.seq ?_
      refine AW.region ?_
      refine AWl.st rfl (OpT.move (A := .cel _ _) (.inr rfl) rfl (okd rfl rfl) Opd.bool rfl) rfl ?_
      refine AWl.nil ?_
      refine AX.go ?_
      refine AW.ret ?_
      refine AX.ret_then ?_
      refine AX.ret_block ?_
      refine AX.ret_then ?_
      refine AX.ret_then ?_
      refine AX.ret_block ?_
      refine AX.ret_then ?_
      exact AX.rt (rs := [.tmp 2]) (ts := [some 2]) (.inl rfl) rfl (ROs.cons (RO.tmp (At.self (by decide)) (Kv rfl (by first | exact leaf_no (by omega) (mt (lastV_iff hI.2 ha).1 (by simp [hc2'])) | exact leaf_end hI.2 (by omega))) rfl) <| ROs.nil) (by decide) OutsOK.nil
    ·
      try simp only [decide_eq_true_eq, decide_eq_false_iff_not, Bool.not_eq_true', Bool.not_eq_false'] at hc2
      have hc2' := hc2; try simp only [decide_eq_true_eq, decide_eq_false_iff_not, beq_iff_eq, beq_eq_false_iff_ne, bne_iff_ne, bne_eq_false_iff_eq, ne_eq, Bool.not_eq_true', Bool.not_eq_false', Bool.and_eq_true, Bool.or_eq_true, Bool.or_eq_false_iff, Bool.and_eq_false_iff, Bool.not_true, Bool.not_false] at hc2'
      refine AW.skip ?_
      refine AX.go ?_
      refine AW.region ?_
      refine AWl.st rfl (OpT.move (A := .cel _ _) (.inl rfl) rfl (okd rfl rfl) (Tm rfl rfl rfl) rfl) rfl ?_
      refine AWl.st rfl (OpT.nilCheck rfl rfl (okd rfl rfl) (Tm rfl rfl rfl)) rfl ?_
      refine AWl.st rfl (OpT.fieldAddr rfl rfl (okd rfl rfl) (Tm rfl rfl rfl) fd106_3 sz50 (by decide) sb106_3) rfl ?_
      refine AWl.st rfl (OpT.load rfl rfl (okd rfl rfl) (Tm rfl rfl rfl) ag50 rfl) rfl ?_
      refine AWl.st rfl (OpT.move (A := .cel _ _) (.inl rfl) rfl (okd rfl rfl) (Tm rfl rfl rfl) rfl) rfl ?_
      refine AWl.st rfl (OpT.indexAddr rfl rfl (okd rfl rfl) (Tm rfl rfl rfl) (Tm rfl rfl rfl) el50 sz2 (by omega) (by assumption)) rfl ?_
      refine AWl.st rfl (OpT.load rfl rfl (okd rfl rfl) (Tm rfl rfl rfl) ag2 rfl) rfl ?_
      refine AWl.sg rfl (OpT.move (A := .cel _ _) (.inr rfl) rfl (okd rfl rfl) (Tm rfl rfl rfl) rfl) (Kc 3 (.cel _ _) rfl <| Kc 31 (.cel _ _) rfl <| Kc 30 (.cel _ _) rfl <| Kc 29 (.cel _ _) rfl <| Kc 28 (.cel _ _) rfl <| Kc 27 (.cel _ _) rfl <| Kc 26 (.cel _ _) rfl <| Kc 25 (.cel _ _) rfl <| Kc 24 (.cel _ _) rfl <| Kc 23 (.cel _ _) rfl <| Kc 22 (.cel _ _) rfl <| Kc 21 (.cel _ _) rfl <| Kc 20 (.cel _ _) rfl <| Kc 19 (.cel _ _) rfl <| Kc 18 (.cel _ _) rfl <| Kc 17 (.cel _ _) rfl <| Kc 16 (.cel _ _) rfl <| Kc 15 (.cel _ _) rfl <| Kc 14 (.cel _ _) rfl <| Kc 11 (.cel _ _) rfl <| Kc 10 (.cel _ _) rfl <| Kc 9 (.cel _ _) rfl <| Kc 8 (.cel _ _) rfl <| Kc 7 (.cel _ _) rfl <| Kc 6 (.cel _ _) rfl <| Kc 5 (.cel _ _) rfl <| Kc 0 (.cel _ _) rfl <| Kc 4 (.cel _ _) rfl <| Kn) ?_
      refine AWl.nil ?_
      refine AX.normal_block ?_
      refine AX.go ?_
      refine AW.region ?_
      refine AWl.st rfl (OpT.move (A := .cel _ _) (.inl rfl) rfl (okd rfl rfl) (Tm rfl rfl rfl) rfl) rfl ?_
      refine AWl.st rfl (OpT.add rfl rfl (okd rfl rfl) (Tm rfl rfl rfl) (I rfl) (nw (by omega))) rfl ?_
      refine AWl.sg rfl (OpT.move (A := .cel _ _) (.inr rfl) rfl (okd rfl rfl) (Tm rfl rfl rfl) rfl) (Kc 4 (.cel _ _) rfl <| Kc 13 (.cel _ _) rfl <| Kc 12 (.cel _ _) rfl <| Kc 3 (.cel _ _) rfl <| Kc 31 (.cel _ _) rfl <| Kc 30 (.cel _ _) rfl <| Kc 29 (.cel _ _) rfl <| Kc 28 (.cel _ _) rfl <| Kc 27 (.cel _ _) rfl <| Kc 26 (.cel _ _) rfl <| Kc 25 (.cel _ _) rfl <| Kc 24 (.cel _ _) rfl <| Kc 23 (.cel _ _) rfl <| Kc 22 (.cel _ _) rfl <| Kc 21 (.cel _ _) rfl <| Kc 20 (.cel _ _) rfl <| Kc 19 (.cel _ _) rfl <| Kc 18 (.cel _ _) rfl <| Kc 17 (.cel _ _) rfl <| Kc 16 (.cel _ _) rfl <| Kc 15 (.cel _ _) rfl <| Kc 14 (.cel _ _) rfl <| Kc 11 (.cel _ _) rfl <| Kc 10 (.cel _ _) rfl <| Kc 9 (.cel _ _) rfl <| Kc 8 (.cel _ _) rfl <| Kc 7 (.cel _ _) rfl <| Kc 6 (.cel _ _) rfl <| Kc 5 (.cel _ _) rfl <| Kc 0 (.cel _ _) rfl <| Kn) ?_
      refine AWl.nil ?_
      exact AX.again (z + 1) ⟨by omega, all_step hI.2 ((lastV_iff hI.2 ha).2 hc2')⟩ (by omega) (Kc 0 _ (Kv rfl rfl) <| Kc 3 _ (Kv rfl (lastV_succ ha)) <| Kc 4 _ (Kv rfl (by omega)) <| Kn)
  ·
    try simp only [decide_eq_true_eq, decide_eq_false_iff_not, Bool.not_eq_true', Bool.not_eq_false'] at hc1
    have hc1' := hc1; try simp only [decide_eq_true_eq, decide_eq_false_iff_not, beq_iff_eq, beq_eq_false_iff_ne, bne_iff_ne, bne_eq_false_iff_eq, ne_eq, Bool.not_eq_true', Bool.not_eq_false', Bool.and_eq_true, Bool.or_eq_true, Bool.or_eq_false_iff, Bool.and_eq_false_iff, Bool.not_true, Bool.not_false] at hc1'
    refine AW.exit ?_
    refine AX.exit_then ?_
    refine AX.exit_then ?_
    refine AX.exit_hit ?_
    refine AX.pr (Kc 0 (.cel _ _) rfl <| Kn) ?_
    refine AX.go ?_
    refine AW.seq ?_
    refine AW.region ?_
    refine AWl.st rfl (OpT.move (A := .cel _ _) (.inl rfl) rfl (okd rfl rfl) (Tm rfl rfl rfl) rfl) rfl ?_
    refine AWl.st rfl (OpT.nilCheck rfl rfl (okd rfl rfl) (Tm rfl rfl rfl)) rfl ?_
    refine AWl.st rfl (OpT.fieldAddr rfl rfl (okd rfl rfl) (Tm rfl rfl rfl) fd106_1 sz50 (by decide) sb106_1) rfl ?_
    refine AWl.st rfl (OpT.load rfl rfl (okd rfl rfl) (Tm rfl rfl rfl) ag50 rfl) rfl ?_
    refine AWl.st rfl (OpT.len rfl rfl (okd rfl rfl) (Tm rfl rfl rfl) el50) rfl ?_
    refine AWl.st rfl (OpT.eql rfl rfl (okd rfl rfl) (Tm rfl rfl rfl) (I rfl)) rfl ?_
    refine AWl.st rfl (OpT.move (A := .cel _ _) (.inl rfl) rfl (okd rfl rfl) (Tm rfl rfl rfl) rfl) rfl ?_
    apply AWl.and (d := 45) (t := 38) rfl
    · intro hb1 Q1 k1
      have hb1' := hb1; try simp only [decide_eq_true_eq, decide_eq_false_iff_not, beq_iff_eq, beq_eq_false_iff_ne, bne_iff_ne, bne_eq_false_iff_eq, ne_eq, Bool.not_eq_true', Bool.not_eq_false', Bool.and_eq_true, Bool.or_eq_true, Bool.or_eq_false_iff, Bool.and_eq_false_iff, Bool.not_true, Bool.not_false] at hb1'
      refine AWl.rs rfl rfl rfl rfl hb1 (OpT.move (A := .cel _ _) (.inl rfl) rfl (okd rfl rfl) (Tm rfl rfl rfl) rfl) rfl ?_
      refine AWl.rs rfl rfl rfl rfl hb1 (OpT.nilCheck rfl rfl (okd rfl rfl) (Tm rfl rfl rfl)) rfl ?_
      refine AWl.rs rfl rfl rfl rfl hb1 (OpT.fieldAddr rfl rfl (okd rfl rfl) (Tm rfl rfl rfl) fd106_2 sz101 (by decide) sb106_2) rfl ?_
      refine AWl.rs rfl rfl rfl rfl hb1 (OpT.load rfl rfl (okd rfl rfl) (Tm rfl rfl rfl) ag101 rfl) rfl ?_
      refine AWl.rs rfl rfl rfl rfl hb1 (OpT.len rfl rfl (okd rfl rfl) (Tm rfl rfl rfl) el101) rfl ?_
      refine AWl.rs rfl rfl rfl rfl hb1 (OpT.eql rfl rfl (okd rfl rfl) (Tm rfl rfl rfl) (I rfl)) rfl ?_
      refine AWl.st rfl (OpT.pickT (A := .cel _ _) rfl rfl (okd rfl rfl) (Tm rfl rfl rfl) hb1 (Tm rfl rfl rfl) rfl) rfl ?_
      exact AWl.to (junk 6 rfl) k1
    · intro hb1 Q1 k1
      refine AWl.pas rfl rfl rfl rfl hb1 rfl (okd rfl rfl) rfl ?_
      refine AWl.pas rfl rfl rfl rfl hb1 rfl (okd rfl rfl) rfl ?_
      refine AWl.pas rfl rfl rfl rfl hb1 rfl (okd rfl rfl) rfl ?_
      refine AWl.pas rfl rfl rfl rfl hb1 rfl (okd rfl rfl) rfl ?_
      refine AWl.pas rfl rfl rfl rfl hb1 rfl (okd rfl rfl) rfl ?_
      refine AWl.pas rfl rfl rfl rfl hb1 rfl (okd rfl rfl) rfl ?_
      refine AWl.st rfl (OpT.pickF (A := .cel _ _) rfl rfl (okd rfl rfl) (Tm rfl rfl rfl) hb1 Opd.bool rfl) rfl ?_
      exact k1
    refine AWl.st rfl (OpT.move (A := .cel _ _) (.inr rfl) rfl (okd rfl rfl) (Tm rfl rfl rfl) rfl) rfl ?_
    refine AWl.nil ?_
    refine AX.pr (Kc 2 (.cel _ _) rfl <| Kn) ?_
    refine AX.go ?_
    refine AW.ret ?_
    exact AX.rt (rs := [.tmp 2]) (ts := [some 2]) (.inl rfl) rfl (ROs.cons (RO.tmp (At.self (by decide)) (Kv rfl (by first | exact leaf_no (by omega) (mt (lastV_iff hI.2 ha).1 (by simp [hc2'])) | exact leaf_end hI.2 (by omega))) rfl) <| ROs.nil) (by decide) OutsOK.nil

set_option maxHeartbeats 4000000 in
/-- spec.l06Asker -/
theorem c_spec_l06Asker (x : DKnot) (p b : Int) (m : Nat) (l : List Int) (hh : 0 ≤ p ∧ p ≤ 120 ∧ 0 ≤ b ∧ b ≤ 1 ∧ m ≤ 120 ∧ l.length + x.2.2.1.length ≤ 1152921504606846976) : AC Try.prog 106 [.cel (Kd.ptr kKnot) x, .cel (Kd.int .i64) p, .own 2 (Kd.int .i64) (cntL b m l)] [.cel Kd.bool (tt (askOK x p m))] [.any, .any, .own 2 (Kd.int .i64) (cntL b m (l ++ x.2.2.1.take (askN x p m)))] := by
  refine ⟨ACall.intro (N := 125) Try.func106 (c := _) (rfl : Func.body _ = some _) rfl (Nat.le_of_ble_eq_true rfl) (Nat.le_of_ble_eq_true rfl) rfl (Nat.le_of_ble_eq_true rfl) fun w0 hd s0 ar har => ?_, _, Try.func106, rfl, by decide⟩
  refine AW.to (Kc 0 (.cel _ _) rfl <| Kc 1 (.cel _ _) rfl <| Kc 2 (.own _ _ _) rfl <| Kn) ?_
  refine AW.fact (fun a w hr => (ok_slice ((ok_pair (ok_pair (ok_ptr (R_ok (t := 0) rfl hr))).2).1)).2) (fun hl0 => ?_)
  refine AW.fact (fun a w hr => (ok_slice ((ok_pair (ok_pair (ok_pair (ok_ptr (R_ok (t := 0) rfl hr))).2).2).1)).1) (fun hk => ?_)
  have hok := fun n hn => ok_i16 (hk n hn)
  refine AW.seq ?_
  refine AW.region ?_
  refine AWl.st rfl (OpT.move (A := .cel _ _) (.inr rfl) rfl (okd rfl rfl) Opd.bool rfl) rfl ?_
  refine AWl.nil ?_
  refine AX.go ?_
  refine AW.seq ?_
  refine AW.seq ?_
  rcases Bool.eq_false_or_eq_true (decide (x.1 < (0 : Int))) with hd1 | hd1
  ·
    have hd1' := hd1; try simp only [decide_eq_true_eq, decide_eq_false_iff_not, beq_iff_eq, beq_eq_false_iff_ne, bne_iff_ne, bne_eq_false_iff_eq, ne_eq, Bool.not_eq_true', Bool.not_eq_false', Bool.and_eq_true, Bool.or_eq_true, Bool.or_eq_false_iff, Bool.and_eq_false_iff, Bool.not_true, Bool.not_false] at hd1'
    refine AW.dg fomo ?_
    refine DG.fr (d := 8) [0] (DS rfl fun v h => OpT.move (A := .cel _ _) (.inl rfl) rfl (okd rfl rfl) (D h rfl rfl rfl rfl) rfl) rfl rfl ?_
    refine DG.fr (d := 9) [8] (DS rfl fun v h => OpT.nilCheck rfl rfl (okd rfl rfl) (D h rfl rfl rfl rfl)) rfl rfl ?_
    refine DG.fr (d := 10) [9] (DS rfl fun v h => OpT.fieldAddr rfl rfl (okd rfl rfl) (D h rfl rfl rfl rfl) fd106_0 sz31 (by decide) sb106_0) rfl rfl ?_
    refine DG.fr (d := 11) [10] (DS rfl fun v h => OpT.load rfl rfl (okd rfl rfl) (D h rfl rfl rfl rfl) ag31 rfl) rfl rfl ?_
    refine DG.fr (d := 12) [11] (DS rfl fun v h => OpT.lss rfl rfl (okd rfl rfl) (D h rfl rfl rfl rfl) (I rfl)) rfl rfl ?_
    refine DG.fr (d := 13) [12] (DS rfl fun v h => OpT.move (A := .cel _ _) (.inl rfl) rfl (okd rfl rfl) (D h rfl rfl rfl rfl) rfl) rfl rfl ?_
    refine DG.pas (d := 14) [13] (DSp rfl rfl rfl rfl rfl hd1 rfl (okd rfl rfl)) rfl rfl ?_
    refine DG.pas (d := 15) [13] (DSp rfl rfl rfl rfl rfl hd1 rfl (okd rfl rfl)) rfl rfl ?_
    refine DG.pas (d := 16) [13] (DSp rfl rfl rfl rfl rfl hd1 rfl (okd rfl rfl)) rfl rfl ?_
    refine DG.pas (d := 17) [13] (DSp rfl rfl rfl rfl rfl hd1 rfl (okd rfl rfl)) rfl rfl ?_
    refine DG.pas (d := 18) [13] (DSp rfl rfl rfl rfl rfl hd1 rfl (okd rfl rfl)) rfl rfl ?_
    refine DG.fr (d := 19) [13] (DS rfl fun v h => OpT.pickT (A := .cel _ _) rfl rfl (okd rfl rfl) (D h rfl rfl rfl rfl) hd1 Opd.bool rfl) rfl rfl ?_
    refine DG.fr (d := 20) [19] (DS rfl fun v h => OpT.move (A := .cel _ _) (.inl rfl) rfl (okd rfl rfl) (D h rfl rfl rfl rfl) rfl) rfl rfl ?_
    refine DG.pas (d := 21) [20] (DSp rfl rfl rfl rfl rfl rfl rfl (okd rfl rfl)) rfl rfl ?_
    refine DG.pas (d := 22) [20] (DSp rfl rfl rfl rfl rfl rfl rfl (okd rfl rfl)) rfl rfl ?_
    refine DG.pas (d := 23) [20] (DSp rfl rfl rfl rfl rfl rfl rfl (okd rfl rfl)) rfl rfl ?_
    refine DG.pas (d := 24) [20] (DSp rfl rfl rfl rfl rfl rfl rfl (okd rfl rfl)) rfl rfl ?_
    refine DG.pas (d := 25) [20] (DSp rfl rfl rfl rfl rfl rfl rfl (okd rfl rfl)) rfl rfl ?_
    refine DG.pas (d := 26) [20] (DSp rfl rfl rfl rfl rfl rfl rfl (okd rfl rfl)) rfl rfl ?_
    refine DG.fr (d := 27) [20] (DS rfl fun v h => OpT.pickT (A := .cel _ _) rfl rfl (okd rfl rfl) (D h rfl rfl rfl rfl) rfl Opd.bool rfl) rfl rfl ?_
    refine DG.fr (d := 28) [27] (DS rfl fun v h => OpT.move (A := .cel _ _) (.inl rfl) rfl (okd rfl rfl) (D h rfl rfl rfl rfl) rfl) rfl rfl ?_
    refine DG.pas (d := 29) [28] (DSp rfl rfl rfl rfl rfl rfl rfl (okd rfl rfl)) rfl rfl ?_
    refine DG.pas (d := 30) [28] (DSp rfl rfl rfl rfl rfl rfl rfl (okd rfl rfl)) rfl rfl ?_
    refine DG.pas (d := 31) [28] (DSp rfl rfl rfl rfl rfl rfl rfl (okd rfl rfl)) rfl rfl ?_
    refine DG.pas (d := 32) [28] (DSp rfl rfl rfl rfl rfl rfl rfl (okd rfl rfl)) rfl rfl ?_
    refine DG.pas (d := 33) [28] (DSp rfl rfl rfl rfl rfl rfl rfl (okd rfl rfl)) rfl rfl ?_
    refine DG.pas (d := 34) [28] (DSp rfl rfl rfl rfl rfl rfl rfl (okd rfl rfl)) rfl rfl ?_
    refine DG.fr (d := 35) [28] (DS rfl fun v h => OpT.pickT (A := .cel _ _) rfl rfl (okd rfl rfl) (D h rfl rfl rfl rfl) rfl Opd.bool rfl) rfl rfl ?_
    refine DG.fr (d := 36) [35] (DS rfl fun v h => OpT.move (A := .cel _ _) (.inl rfl) rfl (okd rfl rfl) (D h rfl rfl rfl rfl) rfl) rfl rfl ?_
    refine DG.pas (d := 37) [36] (DSp rfl rfl rfl rfl rfl rfl rfl (okd rfl rfl)) rfl rfl ?_
    refine DG.pas (d := 38) [36] (DSp rfl rfl rfl rfl rfl rfl rfl (okd rfl rfl)) rfl rfl ?_
    refine DG.pas (d := 39) [36] (DSp rfl rfl rfl rfl rfl rfl rfl (okd rfl rfl)) rfl rfl ?_
    refine DG.pas (d := 40) [36] (DSp rfl rfl rfl rfl rfl rfl rfl (okd rfl rfl)) rfl rfl ?_
    refine DG.pas (d := 41) [36] (DSp rfl rfl rfl rfl rfl rfl rfl (okd rfl rfl)) rfl rfl ?_
    refine DG.pas (d := 42) [36] (DSp rfl rfl rfl rfl rfl rfl rfl (okd rfl rfl)) rfl rfl ?_
    refine DG.pas (d := 43) [36] (DSp rfl rfl rfl rfl rfl rfl rfl (okd rfl rfl)) rfl rfl ?_
    refine DG.pas (d := 44) [36] (DSp rfl rfl rfl rfl rfl rfl rfl (okd rfl rfl)) rfl rfl ?_
    refine DG.pas (d := 45) [36] (DSp rfl rfl rfl rfl rfl rfl rfl (okd rfl rfl)) rfl rfl ?_
    refine DG.pas (d := 46) [36] (DSp rfl rfl rfl rfl rfl rfl rfl (okd rfl rfl)) rfl rfl ?_
    refine DG.pas (d := 47) [36] (DSp rfl rfl rfl rfl rfl rfl rfl (okd rfl rfl)) rfl rfl ?_
    refine DG.fr (d := 48) [36] (DS rfl fun v h => OpT.pickT (A := .cel _ _) rfl rfl (okd rfl rfl) (D h rfl rfl rfl rfl) rfl Opd.bool rfl) rfl rfl ?_
    refine DG.nil ⟨by kernel_rfl, by kernel_rfl, ?_⟩
    refine AX.pr (Kc 48 (.cel _ _) rfl <| Kc 6 (.cel _ _) rfl <| Kc 0 (.cel _ _) rfl <| Kc 1 (.cel _ _) rfl <| Kc 2 (.own _ _ _) rfl <| Kn) ?_
    refine AX.go ?_
    refine AW.cond (t := 48) rfl (by decide) (fun hc1 => ?_) (fun hc1 => ?_)
    ·
      try simp only [decide_eq_true_eq, decide_eq_false_iff_not, Bool.not_eq_true', Bool.not_eq_false'] at hc1
      have hc1' := hc1; try simp only [decide_eq_true_eq, decide_eq_false_iff_not, beq_iff_eq, beq_eq_false_iff_ne, bne_iff_ne, bne_eq_false_iff_eq, ne_eq, Bool.not_eq_true', Bool.not_eq_false', Bool.and_eq_true, Bool.or_eq_true, Bool.or_eq_false_iff, Bool.and_eq_false_iff, Bool.not_true, Bool.not_false] at hc1'
      refine AW.seq ?_
      refine AW.region ?_
      refine AWl.sg rfl (OpT.move (A := .cel _ _) (.inr rfl) rfl (okd rfl rfl) Opd.bool rfl) (Kc 6 (.cel _ _) rfl <| Kc 48 (.cel _ _) rfl <| Kc 0 (.cel _ _) rfl <| Kc 1 (.cel _ _) rfl <| Kc 2 (.own _ _ _) rfl <| Kn) ?_
      refine AWl.nil ?_
      refine AX.pr (Kc 6 (.cel _ _) rfl <| Kc 0 (.cel _ _) rfl <| Kc 1 (.cel _ _) rfl <| Kc 2 (.own _ _ _) rfl <| Kn) ?_
      refine AX.go ?_
      refine AW.ret ?_
      refine AX.ret_then ?_
      exact AX.rt (rs := [.tmp 6]) (ts := [some 6]) (.inl rfl) rfl (ROs.cons (RO.tmp (At.self (by decide)) (Kv rfl (by first | exact ask_at (z := z) (mt (askI_iff hv hn hvp).1 (by omega)) (by omega) | exact ask_all (by unfold askH; omega) hI.2 (by omega) | exact ask_head (by unfold askH; omega))) rfl) <| ROs.nil) (by decide) (fun i => match i with | 0 => .inl rfl | 1 => .inl rfl | 2 => .inr ⟨rfl, Ko rfl (by first | rw [askN_at (z := z) (by unfold askH; omega) hI.2 (mt (askI_iff hv hn hvp).1 (by omega)) (by omega)] | rw [askN_all (by unfold askH; omega) hI.2 (by omega), List.take_of_length_le (by omega), List.take_of_length_le (by omega)] | rw [askN_head (by unfold askH; omega), List.take_zero, List.append_nil]), rfl, by decide⟩ | _ + 3 => .inl rfl)
    ·
      try simp only [decide_eq_true_eq, decide_eq_false_iff_not, Bool.not_eq_true', Bool.not_eq_false'] at hc1
      have hc1' := hc1; try simp only [decide_eq_true_eq, decide_eq_false_iff_not, beq_iff_eq, beq_eq_false_iff_ne, bne_iff_ne, bne_eq_false_iff_eq, ne_eq, Bool.not_eq_true', Bool.not_eq_false', Bool.and_eq_true, Bool.or_eq_true, Bool.or_eq_false_iff, Bool.and_eq_false_iff, Bool.not_true, Bool.not_false] at hc1'
      exact absurd hc1 (by decide)
  ·
    have hd1' := hd1; try simp only [decide_eq_true_eq, decide_eq_false_iff_not, beq_iff_eq, beq_eq_false_iff_ne, bne_iff_ne, bne_eq_false_iff_eq, ne_eq, Bool.not_eq_true', Bool.not_eq_false', Bool.and_eq_true, Bool.or_eq_true, Bool.or_eq_false_iff, Bool.and_eq_false_iff, Bool.not_true, Bool.not_false] at hd1'
    rcases Bool.eq_false_or_eq_true (decide (x.1 ≥ (12 : Int))) with hd2 | hd2
    ·
      have hd2' := hd2; try simp only [decide_eq_true_eq, decide_eq_false_iff_not, beq_iff_eq, beq_eq_false_iff_ne, bne_iff_ne, bne_eq_false_iff_eq, ne_eq, Bool.not_eq_true', Bool.not_eq_false', Bool.and_eq_true, Bool.or_eq_true, Bool.or_eq_false_iff, Bool.and_eq_false_iff, Bool.not_true, Bool.not_false] at hd2'
      refine AW.dg fomo ?_
      refine DG.fr (d := 8) [0] (DS rfl fun v h => OpT.move (A := .cel _ _) (.inl rfl) rfl (okd rfl rfl) (D h rfl rfl rfl rfl) rfl) rfl rfl ?_
      refine DG.fr (d := 9) [8] (DS rfl fun v h => OpT.nilCheck rfl rfl (okd rfl rfl) (D h rfl rfl rfl rfl)) rfl rfl ?_
      refine DG.fr (d := 10) [9] (DS rfl fun v h => OpT.fieldAddr rfl rfl (okd rfl rfl) (D h rfl rfl rfl rfl) fd106_0 sz31 (by decide) sb106_0) rfl rfl ?_
      refine DG.fr (d := 11) [10] (DS rfl fun v h => OpT.load rfl rfl (okd rfl rfl) (D h rfl rfl rfl rfl) ag31 rfl) rfl rfl ?_
      refine DG.fr (d := 12) [11] (DS rfl fun v h => OpT.lss rfl rfl (okd rfl rfl) (D h rfl rfl rfl rfl) (I rfl)) rfl rfl ?_
      refine DG.fr (d := 13) [12] (DS rfl fun v h => OpT.move (A := .cel _ _) (.inl rfl) rfl (okd rfl rfl) (D h rfl rfl rfl rfl) rfl) rfl rfl ?_
      refine DG.fr (d := 14) [0, 13] (DSr rfl rfl rfl rfl rfl hd1 fun v h => OpT.move (A := .cel _ _) (.inl rfl) rfl (okd rfl rfl) (D h rfl rfl rfl rfl) rfl) rfl rfl ?_
      refine DG.fr (d := 15) [13, 14] (DSr rfl rfl rfl rfl rfl hd1 fun v h => OpT.nilCheck rfl rfl (okd rfl rfl) (D h rfl rfl rfl rfl)) rfl rfl ?_
      refine DG.fr (d := 16) [13, 15] (DSr rfl rfl rfl rfl rfl hd1 fun v h => OpT.fieldAddr rfl rfl (okd rfl rfl) (D h rfl rfl rfl rfl) fd106_0 sz31 (by decide) sb106_0) rfl rfl ?_
      refine DG.fr (d := 17) [13, 16] (DSr rfl rfl rfl rfl rfl hd1 fun v h => OpT.load rfl rfl (okd rfl rfl) (D h rfl rfl rfl rfl) ag31 rfl) rfl rfl ?_
      refine DG.fr (d := 18) [13, 17] (DSr rfl rfl rfl rfl rfl hd1 fun v h => OpT.geq rfl rfl (okd rfl rfl) (D h rfl rfl rfl rfl) (I rfl)) rfl rfl ?_
      refine DG.fr (d := 19) [13, 18] (DS rfl fun v h => OpT.pickF (A := .cel _ _) rfl rfl (okd rfl rfl) (D h rfl rfl rfl rfl) hd1 (D h rfl rfl rfl rfl) rfl) rfl rfl ?_
      refine DG.fr (d := 20) [19] (DS rfl fun v h => OpT.move (A := .cel _ _) (.inl rfl) rfl (okd rfl rfl) (D h rfl rfl rfl rfl) rfl) rfl rfl ?_
      refine DG.pas (d := 21) [20] (DSp rfl rfl rfl rfl rfl hd2 rfl (okd rfl rfl)) rfl rfl ?_
      refine DG.pas (d := 22) [20] (DSp rfl rfl rfl rfl rfl hd2 rfl (okd rfl rfl)) rfl rfl ?_
      refine DG.pas (d := 23) [20] (DSp rfl rfl rfl rfl rfl hd2 rfl (okd rfl rfl)) rfl rfl ?_
      refine DG.pas (d := 24) [20] (DSp rfl rfl rfl rfl rfl hd2 rfl (okd rfl rfl)) rfl rfl ?_
      refine DG.pas (d := 25) [20] (DSp rfl rfl rfl rfl rfl hd2 rfl (okd rfl rfl)) rfl rfl ?_
      refine DG.pas (d := 26) [20] (DSp rfl rfl rfl rfl rfl hd2 rfl (okd rfl rfl)) rfl rfl ?_
      refine DG.fr (d := 27) [20] (DS rfl fun v h => OpT.pickT (A := .cel _ _) rfl rfl (okd rfl rfl) (D h rfl rfl rfl rfl) hd2 Opd.bool rfl) rfl rfl ?_
      refine DG.fr (d := 28) [27] (DS rfl fun v h => OpT.move (A := .cel _ _) (.inl rfl) rfl (okd rfl rfl) (D h rfl rfl rfl rfl) rfl) rfl rfl ?_
      refine DG.pas (d := 29) [28] (DSp rfl rfl rfl rfl rfl rfl rfl (okd rfl rfl)) rfl rfl ?_
      refine DG.pas (d := 30) [28] (DSp rfl rfl rfl rfl rfl rfl rfl (okd rfl rfl)) rfl rfl ?_
      refine DG.pas (d := 31) [28] (DSp rfl rfl rfl rfl rfl rfl rfl (okd rfl rfl)) rfl rfl ?_
      refine DG.pas (d := 32) [28] (DSp rfl rfl rfl rfl rfl rfl rfl (okd rfl rfl)) rfl rfl ?_
      refine DG.pas (d := 33) [28] (DSp rfl rfl rfl rfl rfl rfl rfl (okd rfl rfl)) rfl rfl ?_
      refine DG.pas (d := 34) [28] (DSp rfl rfl rfl rfl rfl rfl rfl (okd rfl rfl)) rfl rfl ?_
      refine DG.fr (d := 35) [28] (DS rfl fun v h => OpT.pickT (A := .cel _ _) rfl rfl (okd rfl rfl) (D h rfl rfl rfl rfl) rfl Opd.bool rfl) rfl rfl ?_
      refine DG.fr (d := 36) [35] (DS rfl fun v h => OpT.move (A := .cel _ _) (.inl rfl) rfl (okd rfl rfl) (D h rfl rfl rfl rfl) rfl) rfl rfl ?_
      refine DG.pas (d := 37) [36] (DSp rfl rfl rfl rfl rfl rfl rfl (okd rfl rfl)) rfl rfl ?_
      refine DG.pas (d := 38) [36] (DSp rfl rfl rfl rfl rfl rfl rfl (okd rfl rfl)) rfl rfl ?_
      refine DG.pas (d := 39) [36] (DSp rfl rfl rfl rfl rfl rfl rfl (okd rfl rfl)) rfl rfl ?_
      refine DG.pas (d := 40) [36] (DSp rfl rfl rfl rfl rfl rfl rfl (okd rfl rfl)) rfl rfl ?_
      refine DG.pas (d := 41) [36] (DSp rfl rfl rfl rfl rfl rfl rfl (okd rfl rfl)) rfl rfl ?_
      refine DG.pas (d := 42) [36] (DSp rfl rfl rfl rfl rfl rfl rfl (okd rfl rfl)) rfl rfl ?_
      refine DG.pas (d := 43) [36] (DSp rfl rfl rfl rfl rfl rfl rfl (okd rfl rfl)) rfl rfl ?_
      refine DG.pas (d := 44) [36] (DSp rfl rfl rfl rfl rfl rfl rfl (okd rfl rfl)) rfl rfl ?_
      refine DG.pas (d := 45) [36] (DSp rfl rfl rfl rfl rfl rfl rfl (okd rfl rfl)) rfl rfl ?_
      refine DG.pas (d := 46) [36] (DSp rfl rfl rfl rfl rfl rfl rfl (okd rfl rfl)) rfl rfl ?_
      refine DG.pas (d := 47) [36] (DSp rfl rfl rfl rfl rfl rfl rfl (okd rfl rfl)) rfl rfl ?_
      refine DG.fr (d := 48) [36] (DS rfl fun v h => OpT.pickT (A := .cel _ _) rfl rfl (okd rfl rfl) (D h rfl rfl rfl rfl) rfl Opd.bool rfl) rfl rfl ?_
      refine DG.nil ⟨by kernel_rfl, by kernel_rfl, ?_⟩
      refine AX.pr (Kc 48 (.cel _ _) rfl <| Kc 6 (.cel _ _) rfl <| Kc 0 (.cel _ _) rfl <| Kc 1 (.cel _ _) rfl <| Kc 2 (.own _ _ _) rfl <| Kn) ?_
      refine AX.go ?_
      refine AW.cond (t := 48) rfl (by decide) (fun hc2 => ?_) (fun hc2 => ?_)
      ·
        try simp only [decide_eq_true_eq, decide_eq_false_iff_not, Bool.not_eq_true', Bool.not_eq_false'] at hc2
        have hc2' := hc2; try simp only [decide_eq_true_eq, decide_eq_false_iff_not, beq_iff_eq, beq_eq_false_iff_ne, bne_iff_ne, bne_eq_false_iff_eq, ne_eq, Bool.not_eq_true', Bool.not_eq_false', Bool.and_eq_true, Bool.or_eq_true, Bool.or_eq_false_iff, Bool.and_eq_false_iff, Bool.not_true, Bool.not_false] at hc2'
        refine AW.seq ?_
        refine AW.region ?_
        refine AWl.sg rfl (OpT.move (A := .cel _ _) (.inr rfl) rfl (okd rfl rfl) Opd.bool rfl) (Kc 6 (.cel _ _) rfl <| Kc 48 (.cel _ _) rfl <| Kc 0 (.cel _ _) rfl <| Kc 1 (.cel _ _) rfl <| Kc 2 (.own _ _ _) rfl <| Kn) ?_
        refine AWl.nil ?_
        refine AX.pr (Kc 6 (.cel _ _) rfl <| Kc 0 (.cel _ _) rfl <| Kc 1 (.cel _ _) rfl <| Kc 2 (.own _ _ _) rfl <| Kn) ?_
        refine AX.go ?_
        refine AW.ret ?_
        refine AX.ret_then ?_
        exact AX.rt (rs := [.tmp 6]) (ts := [some 6]) (.inl rfl) rfl (ROs.cons (RO.tmp (At.self (by decide)) (Kv rfl (by first | exact ask_at (z := z) (mt (askI_iff hv hn hvp).1 (by omega)) (by omega) | exact ask_all (by unfold askH; omega) hI.2 (by omega) | exact ask_head (by unfold askH; omega))) rfl) <| ROs.nil) (by decide) (fun i => match i with | 0 => .inl rfl | 1 => .inl rfl | 2 => .inr ⟨rfl, Ko rfl (by first | rw [askN_at (z := z) (by unfold askH; omega) hI.2 (mt (askI_iff hv hn hvp).1 (by omega)) (by omega)] | rw [askN_all (by unfold askH; omega) hI.2 (by omega), List.take_of_length_le (by omega), List.take_of_length_le (by omega)] | rw [askN_head (by unfold askH; omega), List.take_zero, List.append_nil]), rfl, by decide⟩ | _ + 3 => .inl rfl)
      ·
        try simp only [decide_eq_true_eq, decide_eq_false_iff_not, Bool.not_eq_true', Bool.not_eq_false'] at hc2
        have hc2' := hc2; try simp only [decide_eq_true_eq, decide_eq_false_iff_not, beq_iff_eq, beq_eq_false_iff_ne, bne_iff_ne, bne_eq_false_iff_eq, ne_eq, Bool.not_eq_true', Bool.not_eq_false', Bool.and_eq_true, Bool.or_eq_true, Bool.or_eq_false_iff, Bool.and_eq_false_iff, Bool.not_true, Bool.not_false] at hc2'
        exact absurd hc2 (by decide)
    ·
      have hd2' := hd2; try simp only [decide_eq_true_eq, decide_eq_false_iff_not, beq_iff_eq, beq_eq_false_iff_ne, bne_iff_ne, bne_eq_false_iff_eq, ne_eq, Bool.not_eq_true', Bool.not_eq_false', Bool.and_eq_true, Bool.or_eq_true, Bool.or_eq_false_iff, Bool.and_eq_false_iff, Bool.not_true, Bool.not_false] at hd2'
      rcases Bool.eq_false_or_eq_true (decide (((x.2.2.2).length : Int) > (0 : Int))) with hd3 | hd3
      ·
        have hd3' := hd3; try simp only [decide_eq_true_eq, decide_eq_false_iff_not, beq_iff_eq, beq_eq_false_iff_ne, bne_iff_ne, bne_eq_false_iff_eq, ne_eq, Bool.not_eq_true', Bool.not_eq_false', Bool.and_eq_true, Bool.or_eq_true, Bool.or_eq_false_iff, Bool.and_eq_false_iff, Bool.not_true, Bool.not_false] at hd3'
        refine AW.dg fomo ?_
        refine DG.fr (d := 8) [0] (DS rfl fun v h => OpT.move (A := .cel _ _) (.inl rfl) rfl (okd rfl rfl) (D h rfl rfl rfl rfl) rfl) rfl rfl ?_
        refine DG.fr (d := 9) [8] (DS rfl fun v h => OpT.nilCheck rfl rfl (okd rfl rfl) (D h rfl rfl rfl rfl)) rfl rfl ?_
        refine DG.fr (d := 10) [9] (DS rfl fun v h => OpT.fieldAddr rfl rfl (okd rfl rfl) (D h rfl rfl rfl rfl) fd106_0 sz31 (by decide) sb106_0) rfl rfl ?_
        refine DG.fr (d := 11) [10] (DS rfl fun v h => OpT.load rfl rfl (okd rfl rfl) (D h rfl rfl rfl rfl) ag31 rfl) rfl rfl ?_
        refine DG.fr (d := 12) [11] (DS rfl fun v h => OpT.lss rfl rfl (okd rfl rfl) (D h rfl rfl rfl rfl) (I rfl)) rfl rfl ?_
        refine DG.fr (d := 13) [12] (DS rfl fun v h => OpT.move (A := .cel _ _) (.inl rfl) rfl (okd rfl rfl) (D h rfl rfl rfl rfl) rfl) rfl rfl ?_
        refine DG.fr (d := 14) [0, 13] (DSr rfl rfl rfl rfl rfl hd1 fun v h => OpT.move (A := .cel _ _) (.inl rfl) rfl (okd rfl rfl) (D h rfl rfl rfl rfl) rfl) rfl rfl ?_
        refine DG.fr (d := 15) [13, 14] (DSr rfl rfl rfl rfl rfl hd1 fun v h => OpT.nilCheck rfl rfl (okd rfl rfl) (D h rfl rfl rfl rfl)) rfl rfl ?_
        refine DG.fr (d := 16) [13, 15] (DSr rfl rfl rfl rfl rfl hd1 fun v h => OpT.fieldAddr rfl rfl (okd rfl rfl) (D h rfl rfl rfl rfl) fd106_0 sz31 (by decide) sb106_0) rfl rfl ?_
        refine DG.fr (d := 17) [13, 16] (DSr rfl rfl rfl rfl rfl hd1 fun v h => OpT.load rfl rfl (okd rfl rfl) (D h rfl rfl rfl rfl) ag31 rfl) rfl rfl ?_
        refine DG.fr (d := 18) [13, 17] (DSr rfl rfl rfl rfl rfl hd1 fun v h => OpT.geq rfl rfl (okd rfl rfl) (D h rfl rfl rfl rfl) (I rfl)) rfl rfl ?_
        refine DG.fr (d := 19) [13, 18] (DS rfl fun v h => OpT.pickF (A := .cel _ _) rfl rfl (okd rfl rfl) (D h rfl rfl rfl rfl) hd1 (D h rfl rfl rfl rfl) rfl) rfl rfl ?_
        refine DG.fr (d := 20) [19] (DS rfl fun v h => OpT.move (A := .cel _ _) (.inl rfl) rfl (okd rfl rfl) (D h rfl rfl rfl rfl) rfl) rfl rfl ?_
        refine DG.fr (d := 21) [0, 20] (DSr rfl rfl rfl rfl rfl hd2 fun v h => OpT.move (A := .cel _ _) (.inl rfl) rfl (okd rfl rfl) (D h rfl rfl rfl rfl) rfl) rfl rfl ?_
        refine DG.fr (d := 22) [20, 21] (DSr rfl rfl rfl rfl rfl hd2 fun v h => OpT.nilCheck rfl rfl (okd rfl rfl) (D h rfl rfl rfl rfl)) rfl rfl ?_
        refine DG.fr (d := 23) [20, 22] (DSr rfl rfl rfl rfl rfl hd2 fun v h => OpT.fieldAddr rfl rfl (okd rfl rfl) (D h rfl rfl rfl rfl) fd106_3 sz50 (by decide) sb106_3) rfl rfl ?_
        refine DG.fr (d := 24) [20, 23] (DSr rfl rfl rfl rfl rfl hd2 fun v h => OpT.load rfl rfl (okd rfl rfl) (D h rfl rfl rfl rfl) ag50 rfl) rfl rfl ?_
        refine DG.fr (d := 25) [20, 24] (DSr rfl rfl rfl rfl rfl hd2 fun v h => OpT.len rfl rfl (okd rfl rfl) (D h rfl rfl rfl rfl) el50) rfl rfl ?_
        refine DG.fr (d := 26) [20, 25] (DSr rfl rfl rfl rfl rfl hd2 fun v h => OpT.gtr rfl rfl (okd rfl rfl) (D h rfl rfl rfl rfl) (I rfl)) rfl rfl ?_
        refine DG.fr (d := 27) [20, 26] (DS rfl fun v h => OpT.pickF (A := .cel _ _) rfl rfl (okd rfl rfl) (D h rfl rfl rfl rfl) hd2 (D h rfl rfl rfl rfl) rfl) rfl rfl ?_
        refine DG.fr (d := 28) [27] (DS rfl fun v h => OpT.move (A := .cel _ _) (.inl rfl) rfl (okd rfl rfl) (D h rfl rfl rfl rfl) rfl) rfl rfl ?_
        refine DG.pas (d := 29) [28] (DSp rfl rfl rfl rfl rfl hd3 rfl (okd rfl rfl)) rfl rfl ?_
        refine DG.pas (d := 30) [28] (DSp rfl rfl rfl rfl rfl hd3 rfl (okd rfl rfl)) rfl rfl ?_
        refine DG.pas (d := 31) [28] (DSp rfl rfl rfl rfl rfl hd3 rfl (okd rfl rfl)) rfl rfl ?_
        refine DG.pas (d := 32) [28] (DSp rfl rfl rfl rfl rfl hd3 rfl (okd rfl rfl)) rfl rfl ?_
        refine DG.pas (d := 33) [28] (DSp rfl rfl rfl rfl rfl hd3 rfl (okd rfl rfl)) rfl rfl ?_
        refine DG.pas (d := 34) [28] (DSp rfl rfl rfl rfl rfl hd3 rfl (okd rfl rfl)) rfl rfl ?_
        refine DG.fr (d := 35) [28] (DS rfl fun v h => OpT.pickT (A := .cel _ _) rfl rfl (okd rfl rfl) (D h rfl rfl rfl rfl) hd3 Opd.bool rfl) rfl rfl ?_
        refine DG.fr (d := 36) [35] (DS rfl fun v h => OpT.move (A := .cel _ _) (.inl rfl) rfl (okd rfl rfl) (D h rfl rfl rfl rfl) rfl) rfl rfl ?_
        refine DG.pas (d := 37) [36] (DSp rfl rfl rfl rfl rfl rfl rfl (okd rfl rfl)) rfl rfl ?_
        refine DG.pas (d := 38) [36] (DSp rfl rfl rfl rfl rfl rfl rfl (okd rfl rfl)) rfl rfl ?_
        refine DG.pas (d := 39) [36] (DSp rfl rfl rfl rfl rfl rfl rfl (okd rfl rfl)) rfl rfl ?_
        refine DG.pas (d := 40) [36] (DSp rfl rfl rfl rfl rfl rfl rfl (okd rfl rfl)) rfl rfl ?_
        refine DG.pas (d := 41) [36] (DSp rfl rfl rfl rfl rfl rfl rfl (okd rfl rfl)) rfl rfl ?_
        refine DG.pas (d := 42) [36] (DSp rfl rfl rfl rfl rfl rfl rfl (okd rfl rfl)) rfl rfl ?_
        refine DG.pas (d := 43) [36] (DSp rfl rfl rfl rfl rfl rfl rfl (okd rfl rfl)) rfl rfl ?_
        refine DG.pas (d := 44) [36] (DSp rfl rfl rfl rfl rfl rfl rfl (okd rfl rfl)) rfl rfl ?_
        refine DG.pas (d := 45) [36] (DSp rfl rfl rfl rfl rfl rfl rfl (okd rfl rfl)) rfl rfl ?_
        refine DG.pas (d := 46) [36] (DSp rfl rfl rfl rfl rfl rfl rfl (okd rfl rfl)) rfl rfl ?_
        refine DG.pas (d := 47) [36] (DSp rfl rfl rfl rfl rfl rfl rfl (okd rfl rfl)) rfl rfl ?_
        refine DG.fr (d := 48) [36] (DS rfl fun v h => OpT.pickT (A := .cel _ _) rfl rfl (okd rfl rfl) (D h rfl rfl rfl rfl) rfl Opd.bool rfl) rfl rfl ?_
        refine DG.nil ⟨by kernel_rfl, by kernel_rfl, ?_⟩
        refine AX.pr (Kc 48 (.cel _ _) rfl <| Kc 6 (.cel _ _) rfl <| Kc 0 (.cel _ _) rfl <| Kc 1 (.cel _ _) rfl <| Kc 2 (.own _ _ _) rfl <| Kn) ?_
        refine AX.go ?_
        refine AW.cond (t := 48) rfl (by decide) (fun hc3 => ?_) (fun hc3 => ?_)
        ·
          try simp only [decide_eq_true_eq, decide_eq_false_iff_not, Bool.not_eq_true', Bool.not_eq_false'] at hc3
          have hc3' := hc3; try simp only [decide_eq_true_eq, decide_eq_false_iff_not, beq_iff_eq, beq_eq_false_iff_ne, bne_iff_ne, bne_eq_false_iff_eq, ne_eq, Bool.not_eq_true', Bool.not_eq_false', Bool.and_eq_true, Bool.or_eq_true, Bool.or_eq_false_iff, Bool.and_eq_false_iff, Bool.not_true, Bool.not_false] at hc3'
          refine AW.seq ?_
          refine AW.region ?_
          refine AWl.sg rfl (OpT.move (A := .cel _ _) (.inr rfl) rfl (okd rfl rfl) Opd.bool rfl) (Kc 6 (.cel _ _) rfl <| Kc 48 (.cel _ _) rfl <| Kc 0 (.cel _ _) rfl <| Kc 1 (.cel _ _) rfl <| Kc 2 (.own _ _ _) rfl <| Kn) ?_
          refine AWl.nil ?_
          refine AX.pr (Kc 6 (.cel _ _) rfl <| Kc 0 (.cel _ _) rfl <| Kc 1 (.cel _ _) rfl <| Kc 2 (.own _ _ _) rfl <| Kn) ?_
          refine AX.go ?_
          refine AW.ret ?_
          refine AX.ret_then ?_
          exact AX.rt (rs := [.tmp 6]) (ts := [some 6]) (.inl rfl) rfl (ROs.cons (RO.tmp (At.self (by decide)) (Kv rfl (by first | exact ask_at (z := z) (mt (askI_iff hv hn hvp).1 (by omega)) (by omega) | exact ask_all (by unfold askH; omega) hI.2 (by omega) | exact ask_head (by unfold askH; omega))) rfl) <| ROs.nil) (by decide) (fun i => match i with | 0 => .inl rfl | 1 => .inl rfl | 2 => .inr ⟨rfl, Ko rfl (by first | rw [askN_at (z := z) (by unfold askH; omega) hI.2 (mt (askI_iff hv hn hvp).1 (by omega)) (by omega)] | rw [askN_all (by unfold askH; omega) hI.2 (by omega), List.take_of_length_le (by omega), List.take_of_length_le (by omega)] | rw [askN_head (by unfold askH; omega), List.take_zero, List.append_nil]), rfl, by decide⟩ | _ + 3 => .inl rfl)
        ·
          try simp only [decide_eq_true_eq, decide_eq_false_iff_not, Bool.not_eq_true', Bool.not_eq_false'] at hc3
          have hc3' := hc3; try simp only [decide_eq_true_eq, decide_eq_false_iff_not, beq_iff_eq, beq_eq_false_iff_ne, bne_iff_ne, bne_eq_false_iff_eq, ne_eq, Bool.not_eq_true', Bool.not_eq_false', Bool.and_eq_true, Bool.or_eq_true, Bool.or_eq_false_iff, Bool.and_eq_false_iff, Bool.not_true, Bool.not_false] at hc3'
          exact absurd hc3 (by decide)
      ·
        have hd3' := hd3; try simp only [decide_eq_true_eq, decide_eq_false_iff_not, beq_iff_eq, beq_eq_false_iff_ne, bne_iff_ne, bne_eq_false_iff_eq, ne_eq, Bool.not_eq_true', Bool.not_eq_false', Bool.and_eq_true, Bool.or_eq_true, Bool.or_eq_false_iff, Bool.and_eq_false_iff, Bool.not_true, Bool.not_false] at hd3'
        rcases Bool.eq_false_or_eq_true (((x.2.1).length : Int) == (0 : Int)) with hd4 | hd4
        ·
          have hd4' := hd4; try simp only [decide_eq_true_eq, decide_eq_false_iff_not, beq_iff_eq, beq_eq_false_iff_ne, bne_iff_ne, bne_eq_false_iff_eq, ne_eq, Bool.not_eq_true', Bool.not_eq_false', Bool.and_eq_true, Bool.or_eq_true, Bool.or_eq_false_iff, Bool.and_eq_false_iff, Bool.not_true, Bool.not_false] at hd4'
          refine AW.dg fomo ?_
          refine DG.fr (d := 8) [0] (DS rfl fun v h => OpT.move (A := .cel _ _) (.inl rfl) rfl (okd rfl rfl) (D h rfl rfl rfl rfl) rfl) rfl rfl ?_
          refine DG.fr (d := 9) [8] (DS rfl fun v h => OpT.nilCheck rfl rfl (okd rfl rfl) (D h rfl rfl rfl rfl)) rfl rfl ?_
          refine DG.fr (d := 10) [9] (DS rfl fun v h => OpT.fieldAddr rfl rfl (okd rfl rfl) (D h rfl rfl rfl rfl) fd106_0 sz31 (by decide) sb106_0) rfl rfl ?_
          refine DG.fr (d := 11) [10] (DS rfl fun v h => OpT.load rfl rfl (okd rfl rfl) (D h rfl rfl rfl rfl) ag31 rfl) rfl rfl ?_
          refine DG.fr (d := 12) [11] (DS rfl fun v h => OpT.lss rfl rfl (okd rfl rfl) (D h rfl rfl rfl rfl) (I rfl)) rfl rfl ?_
          refine DG.fr (d := 13) [12] (DS rfl fun v h => OpT.move (A := .cel _ _) (.inl rfl) rfl (okd rfl rfl) (D h rfl rfl rfl rfl) rfl) rfl rfl ?_
          refine DG.fr (d := 14) [0, 13] (DSr rfl rfl rfl rfl rfl hd1 fun v h => OpT.move (A := .cel _ _) (.inl rfl) rfl (okd rfl rfl) (D h rfl rfl rfl rfl) rfl) rfl rfl ?_
          refine DG.fr (d := 15) [13, 14] (DSr rfl rfl rfl rfl rfl hd1 fun v h => OpT.nilCheck rfl rfl (okd rfl rfl) (D h rfl rfl rfl rfl)) rfl rfl ?_
          refine DG.fr (d := 16) [13, 15] (DSr rfl rfl rfl rfl rfl hd1 fun v h => OpT.fieldAddr rfl rfl (okd rfl rfl) (D h rfl rfl rfl rfl) fd106_0 sz31 (by decide) sb106_0) rfl rfl ?_
          refine DG.fr (d := 17) [13, 16] (DSr rfl rfl rfl rfl rfl hd1 fun v h => OpT.load rfl rfl (okd rfl rfl) (D h rfl rfl rfl rfl) ag31 rfl) rfl rfl ?_
          refine DG.fr (d := 18) [13, 17] (DSr rfl rfl rfl rfl rfl hd1 fun v h => OpT.geq rfl rfl (okd rfl rfl) (D h rfl rfl rfl rfl) (I rfl)) rfl rfl ?_
          refine DG.fr (d := 19) [13, 18] (DS rfl fun v h => OpT.pickF (A := .cel _ _) rfl rfl (okd rfl rfl) (D h rfl rfl rfl rfl) hd1 (D h rfl rfl rfl rfl) rfl) rfl rfl ?_
          refine DG.fr (d := 20) [19] (DS rfl fun v h => OpT.move (A := .cel _ _) (.inl rfl) rfl (okd rfl rfl) (D h rfl rfl rfl rfl) rfl) rfl rfl ?_
          refine DG.fr (d := 21) [0, 20] (DSr rfl rfl rfl rfl rfl hd2 fun v h => OpT.move (A := .cel _ _) (.inl rfl) rfl (okd rfl rfl) (D h rfl rfl rfl rfl) rfl) rfl rfl ?_
          refine DG.fr (d := 22) [20, 21] (DSr rfl rfl rfl rfl rfl hd2 fun v h => OpT.nilCheck rfl rfl (okd rfl rfl) (D h rfl rfl rfl rfl)) rfl rfl ?_
          refine DG.fr (d := 23) [20, 22] (DSr rfl rfl rfl rfl rfl hd2 fun v h => OpT.fieldAddr rfl rfl (okd rfl rfl) (D h rfl rfl rfl rfl) fd106_3 sz50 (by decide) sb106_3) rfl rfl ?_
          refine DG.fr (d := 24) [20, 23] (DSr rfl rfl rfl rfl rfl hd2 fun v h => OpT.load rfl rfl (okd rfl rfl) (D h rfl rfl rfl rfl) ag50 rfl) rfl rfl ?_
          refine DG.fr (d := 25) [20, 24] (DSr rfl rfl rfl rfl rfl hd2 fun v h => OpT.len rfl rfl (okd rfl rfl) (D h rfl rfl rfl rfl) el50) rfl rfl ?_
          refine DG.fr (d := 26) [20, 25] (DSr rfl rfl rfl rfl rfl hd2 fun v h => OpT.gtr rfl rfl (okd rfl rfl) (D h rfl rfl rfl rfl) (I rfl)) rfl rfl ?_
          refine DG.fr (d := 27) [20, 26] (DS rfl fun v h => OpT.pickF (A := .cel _ _) rfl rfl (okd rfl rfl) (D h rfl rfl rfl rfl) hd2 (D h rfl rfl rfl rfl) rfl) rfl rfl ?_
          refine DG.fr (d := 28) [27] (DS rfl fun v h => OpT.move (A := .cel _ _) (.inl rfl) rfl (okd rfl rfl) (D h rfl rfl rfl rfl) rfl) rfl rfl ?_
          refine DG.fr (d := 29) [0, 28] (DSr rfl rfl rfl rfl rfl hd3 fun v h => OpT.move (A := .cel _ _) (.inl rfl) rfl (okd rfl rfl) (D h rfl rfl rfl rfl) rfl) rfl rfl ?_
          refine DG.fr (d := 30) [28, 29] (DSr rfl rfl rfl rfl rfl hd3 fun v h => OpT.nilCheck rfl rfl (okd rfl rfl) (D h rfl rfl rfl rfl)) rfl rfl ?_
          refine DG.fr (d := 31) [28, 30] (DSr rfl rfl rfl rfl rfl hd3 fun v h => OpT.fieldAddr rfl rfl (okd rfl rfl) (D h rfl rfl rfl rfl) fd106_1 sz50 (by decide) sb106_1) rfl rfl ?_
          refine DG.fr (d := 32) [28, 31] (DSr rfl rfl rfl rfl rfl hd3 fun v h => OpT.load rfl rfl (okd rfl rfl) (D h rfl rfl rfl rfl) ag50 rfl) rfl rfl ?_
          refine DG.fr (d := 33) [28, 32] (DSr rfl rfl rfl rfl rfl hd3 fun v h => OpT.len rfl rfl (okd rfl rfl) (D h rfl rfl rfl rfl) el50) rfl rfl ?_
          refine DG.fr (d := 34) [28, 33] (DSr rfl rfl rfl rfl rfl hd3 fun v h => OpT.eql rfl rfl (okd rfl rfl) (D h rfl rfl rfl rfl) (I rfl)) rfl rfl ?_
          refine DG.fr (d := 35) [28, 34] (DS rfl fun v h => OpT.pickF (A := .cel _ _) rfl rfl (okd rfl rfl) (D h rfl rfl rfl rfl) hd3 (D h rfl rfl rfl rfl) rfl) rfl rfl ?_
          refine DG.fr (d := 36) [35] (DS rfl fun v h => OpT.move (A := .cel _ _) (.inl rfl) rfl (okd rfl rfl) (D h rfl rfl rfl rfl) rfl) rfl rfl ?_
          refine DG.pas (d := 37) [36] (DSp rfl rfl rfl rfl rfl hd4 rfl (okd rfl rfl)) rfl rfl ?_
          refine DG.pas (d := 38) [36] (DSp rfl rfl rfl rfl rfl hd4 rfl (okd rfl rfl)) rfl rfl ?_
          refine DG.pas (d := 39) [36] (DSp rfl rfl rfl rfl rfl hd4 rfl (okd rfl rfl)) rfl rfl ?_
          refine DG.pas (d := 40) [36] (DSp rfl rfl rfl rfl rfl hd4 rfl (okd rfl rfl)) rfl rfl ?_
          refine DG.pas (d := 41) [36] (DSp rfl rfl rfl rfl rfl hd4 rfl (okd rfl rfl)) rfl rfl ?_
          refine DG.pas (d := 42) [36] (DSp rfl rfl rfl rfl rfl hd4 rfl (okd rfl rfl)) rfl rfl ?_
          refine DG.pas (d := 43) [36] (DSp rfl rfl rfl rfl rfl hd4 rfl (okd rfl rfl)) rfl rfl ?_
          refine DG.pas (d := 44) [36] (DSp rfl rfl rfl rfl rfl hd4 rfl (okd rfl rfl)) rfl rfl ?_
          refine DG.pas (d := 45) [36] (DSp rfl rfl rfl rfl rfl hd4 rfl (okd rfl rfl)) rfl rfl ?_
          refine DG.pas (d := 46) [36] (DSp rfl rfl rfl rfl rfl hd4 rfl (okd rfl rfl)) rfl rfl ?_
          refine DG.pas (d := 47) [36] (DSp rfl rfl rfl rfl rfl hd4 rfl (okd rfl rfl)) rfl rfl ?_
          refine DG.fr (d := 48) [36] (DS rfl fun v h => OpT.pickT (A := .cel _ _) rfl rfl (okd rfl rfl) (D h rfl rfl rfl rfl) hd4 Opd.bool rfl) rfl rfl ?_
          refine DG.nil ⟨by kernel_rfl, by kernel_rfl, ?_⟩
          refine AX.pr (Kc 48 (.cel _ _) rfl <| Kc 6 (.cel _ _) rfl <| Kc 0 (.cel _ _) rfl <| Kc 1 (.cel _ _) rfl <| Kc 2 (.own _ _ _) rfl <| Kn) ?_
          refine AX.go ?_
          refine AW.cond (t := 48) rfl (by decide) (fun hc4 => ?_) (fun hc4 => ?_)
          ·
            try simp only [decide_eq_true_eq, decide_eq_false_iff_not, Bool.not_eq_true', Bool.not_eq_false'] at hc4
            have hc4' := hc4; try simp only [decide_eq_true_eq, decide_eq_false_iff_not, beq_iff_eq, beq_eq_false_iff_ne, bne_iff_ne, bne_eq_false_iff_eq, ne_eq, Bool.not_eq_true', Bool.not_eq_false', Bool.and_eq_true, Bool.or_eq_true, Bool.or_eq_false_iff, Bool.and_eq_false_iff, Bool.not_true, Bool.not_false] at hc4'
            refine AW.seq ?_
            refine AW.region ?_
            refine AWl.sg rfl (OpT.move (A := .cel _ _) (.inr rfl) rfl (okd rfl rfl) Opd.bool rfl) (Kc 6 (.cel _ _) rfl <| Kc 48 (.cel _ _) rfl <| Kc 0 (.cel _ _) rfl <| Kc 1 (.cel _ _) rfl <| Kc 2 (.own _ _ _) rfl <| Kn) ?_
            refine AWl.nil ?_
            refine AX.pr (Kc 6 (.cel _ _) rfl <| Kc 0 (.cel _ _) rfl <| Kc 1 (.cel _ _) rfl <| Kc 2 (.own _ _ _) rfl <| Kn) ?_
            refine AX.go ?_
            refine AW.ret ?_
            refine AX.ret_then ?_
            exact AX.rt (rs := [.tmp 6]) (ts := [some 6]) (.inl rfl) rfl (ROs.cons (RO.tmp (At.self (by decide)) (Kv rfl (by first | exact ask_at (z := z) (mt (askI_iff hv hn hvp).1 (by omega)) (by omega) | exact ask_all (by unfold askH; omega) hI.2 (by omega) | exact ask_head (by unfold askH; omega))) rfl) <| ROs.nil) (by decide) (fun i => match i with | 0 => .inl rfl | 1 => .inl rfl | 2 => .inr ⟨rfl, Ko rfl (by first | rw [askN_at (z := z) (by unfold askH; omega) hI.2 (mt (askI_iff hv hn hvp).1 (by omega)) (by omega)] | rw [askN_all (by unfold askH; omega) hI.2 (by omega), List.take_of_length_le (by omega), List.take_of_length_le (by omega)] | rw [askN_head (by unfold askH; omega), List.take_zero, List.append_nil]), rfl, by decide⟩ | _ + 3 => .inl rfl)
          ·
            try simp only [decide_eq_true_eq, decide_eq_false_iff_not, Bool.not_eq_true', Bool.not_eq_false'] at hc4
            have hc4' := hc4; try simp only [decide_eq_true_eq, decide_eq_false_iff_not, beq_iff_eq, beq_eq_false_iff_ne, bne_iff_ne, bne_eq_false_iff_eq, ne_eq, Bool.not_eq_true', Bool.not_eq_false', Bool.and_eq_true, Bool.or_eq_true, Bool.or_eq_false_iff, Bool.and_eq_false_iff, Bool.not_true, Bool.not_false] at hc4'
            exact absurd hc4 (by decide)
        ·
          have hd4' := hd4; try simp only [decide_eq_true_eq, decide_eq_false_iff_not, beq_iff_eq, beq_eq_false_iff_ne, bne_iff_ne, bne_eq_false_iff_eq, ne_eq, Bool.not_eq_true', Bool.not_eq_false', Bool.and_eq_true, Bool.or_eq_true, Bool.or_eq_false_iff, Bool.and_eq_false_iff, Bool.not_true, Bool.not_false] at hd4'
          refine AW.dg fomo ?_
          refine DG.fr (d := 8) [0] (DS rfl fun v h => OpT.move (A := .cel _ _) (.inl rfl) rfl (okd rfl rfl) (D h rfl rfl rfl rfl) rfl) rfl rfl ?_
          refine DG.fr (d := 9) [8] (DS rfl fun v h => OpT.nilCheck rfl rfl (okd rfl rfl) (D h rfl rfl rfl rfl)) rfl rfl ?_
          refine DG.fr (d := 10) [9] (DS rfl fun v h => OpT.fieldAddr rfl rfl (okd rfl rfl) (D h rfl rfl rfl rfl) fd106_0 sz31 (by decide) sb106_0) rfl rfl ?_
          refine DG.fr (d := 11) [10] (DS rfl fun v h => OpT.load rfl rfl (okd rfl rfl) (D h rfl rfl rfl rfl) ag31 rfl) rfl rfl ?_
          refine DG.fr (d := 12) [11] (DS rfl fun v h => OpT.lss rfl rfl (okd rfl rfl) (D h rfl rfl rfl rfl) (I rfl)) rfl rfl ?_
          refine DG.fr (d := 13) [12] (DS rfl fun v h => OpT.move (A := .cel _ _) (.inl rfl) rfl (okd rfl rfl) (D h rfl rfl rfl rfl) rfl) rfl rfl ?_
          refine DG.fr (d := 14) [0, 13] (DSr rfl rfl rfl rfl rfl hd1 fun v h => OpT.move (A := .cel _ _) (.inl rfl) rfl (okd rfl rfl) (D h rfl rfl rfl rfl) rfl) rfl rfl ?_
          refine DG.fr (d := 15) [13, 14] (DSr rfl rfl rfl rfl rfl hd1 fun v h => OpT.nilCheck rfl rfl (okd rfl rfl) (D h rfl rfl rfl rfl)) rfl rfl ?_
          refine DG.fr (d := 16) [13, 15] (DSr rfl rfl rfl rfl rfl hd1 fun v h => OpT.fieldAddr rfl rfl (okd rfl rfl) (D h rfl rfl rfl rfl) fd106_0 sz31 (by decide) sb106_0) rfl rfl ?_
          refine DG.fr (d := 17) [13, 16] (DSr rfl rfl rfl rfl rfl hd1 fun v h => OpT.load rfl rfl (okd rfl rfl) (D h rfl rfl rfl rfl) ag31 rfl) rfl rfl ?_
          refine DG.fr (d := 18) [13, 17] (DSr rfl rfl rfl rfl rfl hd1 fun v h => OpT.geq rfl rfl (okd rfl rfl) (D h rfl rfl rfl rfl) (I rfl)) rfl rfl ?_
          refine DG.fr (d := 19) [13, 18] (DS rfl fun v h => OpT.pickF (A := .cel _ _) rfl rfl (okd rfl rfl) (D h rfl rfl rfl rfl) hd1 (D h rfl rfl rfl rfl) rfl) rfl rfl ?_
          refine DG.fr (d := 20) [19] (DS rfl fun v h => OpT.move (A := .cel _ _) (.inl rfl) rfl (okd rfl rfl) (D h rfl rfl rfl rfl) rfl) rfl rfl ?_
          refine DG.fr (d := 21) [0, 20] (DSr rfl rfl rfl rfl rfl hd2 fun v h => OpT.move (A := .cel _ _) (.inl rfl) rfl (okd rfl rfl) (D h rfl rfl rfl rfl) rfl) rfl rfl ?_
          refine DG.fr (d := 22) [20, 21] (DSr rfl rfl rfl rfl rfl hd2 fun v h => OpT.nilCheck rfl rfl (okd rfl rfl) (D h rfl rfl rfl rfl)) rfl rfl ?_
          refine DG.fr (d := 23) [20, 22] (DSr rfl rfl rfl rfl rfl hd2 fun v h => OpT.fieldAddr rfl rfl (okd rfl rfl) (D h rfl rfl rfl rfl) fd106_3 sz50 (by decide) sb106_3) rfl rfl ?_
          refine DG.fr (d := 24) [20, 23] (DSr rfl rfl rfl rfl rfl hd2 fun v h => OpT.load rfl rfl (okd rfl rfl) (D h rfl rfl rfl rfl) ag50 rfl) rfl rfl ?_
          refine DG.fr (d := 25) [20, 24] (DSr rfl rfl rfl rfl rfl hd2 fun v h => OpT.len rfl rfl (okd rfl rfl) (D h rfl rfl rfl rfl) el50) rfl rfl ?_
          refine DG.fr (d := 26) [20, 25] (DSr rfl rfl rfl rfl rfl hd2 fun v h => OpT.gtr rfl rfl (okd rfl rfl) (D h rfl rfl rfl rfl) (I rfl)) rfl rfl ?_
          refine DG.fr (d := 27) [20, 26] (DS rfl fun v h => OpT.pickF (A := .cel _ _) rfl rfl (okd rfl rfl) (D h rfl rfl rfl rfl) hd2 (D h rfl rfl rfl rfl) rfl) rfl rfl ?_
          refine DG.fr (d := 28) [27] (DS rfl fun v h => OpT.move (A := .cel _ _) (.inl rfl) rfl (okd rfl rfl) (D h rfl rfl rfl rfl) rfl) rfl rfl ?_
          refine DG.fr (d := 29) [0, 28] (DSr rfl rfl rfl rfl rfl hd3 fun v h => OpT.move (A := .cel _ _) (.inl rfl) rfl (okd rfl rfl) (D h rfl rfl rfl rfl) rfl) rfl rfl ?_
          refine DG.fr (d := 30) [28, 29] (DSr rfl rfl rfl rfl rfl hd3 fun v h => OpT.nilCheck rfl rfl (okd rfl rfl) (D h rfl rfl rfl rfl)) rfl rfl ?_
          refine DG.fr (d := 31) [28, 30] (DSr rfl rfl rfl rfl rfl hd3 fun v h => OpT.fieldAddr rfl rfl (okd rfl rfl) (D h rfl rfl rfl rfl) fd106_1 sz50 (by decide) sb106_1) rfl rfl ?_
          refine DG.fr (d := 32) [28, 31] (DSr rfl rfl rfl rfl rfl hd3 fun v h => OpT.load rfl rfl (okd rfl rfl) (D h rfl rfl rfl rfl) ag50 rfl) rfl rfl ?_
          refine DG.fr (d := 33) [28, 32] (DSr rfl rfl rfl rfl rfl hd3 fun v h => OpT.len rfl rfl (okd rfl rfl) (D h rfl rfl rfl rfl) el50) rfl rfl ?_
          refine DG.fr (d := 34) [28, 33] (DSr rfl rfl rfl rfl rfl hd3 fun v h => OpT.eql rfl rfl (okd rfl rfl) (D h rfl rfl rfl rfl) (I rfl)) rfl rfl ?_
          refine DG.fr (d := 35) [28, 34] (DS rfl fun v h => OpT.pickF (A := .cel _ _) rfl rfl (okd rfl rfl) (D h rfl rfl rfl rfl) hd3 (D h rfl rfl rfl rfl) rfl) rfl rfl ?_
          refine DG.fr (d := 36) [35] (DS rfl fun v h => OpT.move (A := .cel _ _) (.inl rfl) rfl (okd rfl rfl) (D h rfl rfl rfl rfl) rfl) rfl rfl ?_
          refine DG.fr (d := 37) [0, 36] (DSr rfl rfl rfl rfl rfl hd4 fun v h => OpT.move (A := .cel _ _) (.inl rfl) rfl (okd rfl rfl) (D h rfl rfl rfl rfl) rfl) rfl rfl ?_
          refine DG.fr (d := 38) [36, 37] (DSr rfl rfl rfl rfl rfl hd4 fun v h => OpT.nilCheck rfl rfl (okd rfl rfl) (D h rfl rfl rfl rfl)) rfl rfl ?_
          refine DG.fr (d := 39) [36, 38] (DSr rfl rfl rfl rfl rfl hd4 fun v h => OpT.fieldAddr rfl rfl (okd rfl rfl) (D h rfl rfl rfl rfl) fd106_2 sz101 (by decide) sb106_2) rfl rfl ?_
          refine DG.fr (d := 40) [36, 39] (DSr rfl rfl rfl rfl rfl hd4 fun v h => OpT.load rfl rfl (okd rfl rfl) (D h rfl rfl rfl rfl) ag101 rfl) rfl rfl ?_
          refine DG.fr (d := 41) [36, 40] (DSr rfl rfl rfl rfl rfl hd4 fun v h => OpT.len rfl rfl (okd rfl rfl) (D h rfl rfl rfl rfl) el101) rfl rfl ?_
          refine DG.fr (d := 42) [0, 36] (DSr rfl rfl rfl rfl rfl hd4 fun v h => OpT.move (A := .cel _ _) (.inl rfl) rfl (okd rfl rfl) (D h rfl rfl rfl rfl) rfl) rfl rfl ?_
          refine DG.fr (d := 43) [36, 42] (DSr rfl rfl rfl rfl rfl hd4 fun v h => OpT.nilCheck rfl rfl (okd rfl rfl) (D h rfl rfl rfl rfl)) rfl rfl ?_
          refine DG.fr (d := 44) [36, 43] (DSr rfl rfl rfl rfl rfl hd4 fun v h => OpT.fieldAddr rfl rfl (okd rfl rfl) (D h rfl rfl rfl rfl) fd106_1 sz50 (by decide) sb106_1) rfl rfl ?_
          refine DG.fr (d := 45) [36, 44] (DSr rfl rfl rfl rfl rfl hd4 fun v h => OpT.load rfl rfl (okd rfl rfl) (D h rfl rfl rfl rfl) ag50 rfl) rfl rfl ?_
          refine DG.fr (d := 46) [36, 45] (DSr rfl rfl rfl rfl rfl hd4 fun v h => OpT.len rfl rfl (okd rfl rfl) (D h rfl rfl rfl rfl) el50) rfl rfl ?_
          refine DG.fr (d := 47) [36, 41, 46] (DSr rfl rfl rfl rfl rfl hd4 fun v h => OpT.neq rfl rfl (okd rfl rfl) (D h rfl rfl rfl rfl) (D h rfl rfl rfl rfl)) rfl rfl ?_
          refine DG.fr (d := 48) [36, 47] (DS rfl fun v h => OpT.pickF (A := .cel _ _) rfl rfl (okd rfl rfl) (D h rfl rfl rfl rfl) hd4 (D h rfl rfl rfl rfl) rfl) rfl rfl ?_
          refine DG.nil ⟨by kernel_rfl, by kernel_rfl, ?_⟩
          refine AX.pr (Kc 48 (.cel _ _) rfl <| Kc 6 (.cel _ _) rfl <| Kc 0 (.cel _ _) rfl <| Kc 1 (.cel _ _) rfl <| Kc 2 (.own _ _ _) rfl <| Kn) ?_
          refine AX.go ?_
          refine AW.cond (t := 48) rfl (by decide) (fun hc5 => ?_) (fun hc5 => ?_)
          ·
            try simp only [decide_eq_true_eq, decide_eq_false_iff_not, Bool.not_eq_true', Bool.not_eq_false'] at hc5
            have hc5' := hc5; try simp only [decide_eq_true_eq, decide_eq_false_iff_not, beq_iff_eq, beq_eq_false_iff_ne, bne_iff_ne, bne_eq_false_iff_eq, ne_eq, Bool.not_eq_true', Bool.not_eq_false', Bool.and_eq_true, Bool.or_eq_true, Bool.or_eq_false_iff, Bool.and_eq_false_iff, Bool.not_true, Bool.not_false] at hc5'
            refine AW.seq ?_
            refine AW.region ?_
            refine AWl.sg rfl (OpT.move (A := .cel _ _) (.inr rfl) rfl (okd rfl rfl) Opd.bool rfl) (Kc 6 (.cel _ _) rfl <| Kc 48 (.cel _ _) rfl <| Kc 0 (.cel _ _) rfl <| Kc 1 (.cel _ _) rfl <| Kc 2 (.own _ _ _) rfl <| Kn) ?_
            refine AWl.nil ?_
            refine AX.pr (Kc 6 (.cel _ _) rfl <| Kc 0 (.cel _ _) rfl <| Kc 1 (.cel _ _) rfl <| Kc 2 (.own _ _ _) rfl <| Kn) ?_
            refine AX.go ?_
            refine AW.ret ?_
            refine AX.ret_then ?_
            exact AX.rt (rs := [.tmp 6]) (ts := [some 6]) (.inl rfl) rfl (ROs.cons (RO.tmp (At.self (by decide)) (Kv rfl (by first | exact ask_at (z := z) (mt (askI_iff hv hn hvp).1 (by omega)) (by omega) | exact ask_all (by unfold askH; omega) hI.2 (by omega) | exact ask_head (by unfold askH; omega))) rfl) <| ROs.nil) (by decide) (fun i => match i with | 0 => .inl rfl | 1 => .inl rfl | 2 => .inr ⟨rfl, Ko rfl (by first | rw [askN_at (z := z) (by unfold askH; omega) hI.2 (mt (askI_iff hv hn hvp).1 (by omega)) (by omega)] | rw [askN_all (by unfold askH; omega) hI.2 (by omega), List.take_of_length_le (by omega), List.take_of_length_le (by omega)] | rw [askN_head (by unfold askH; omega), List.take_zero, List.append_nil]), rfl, by decide⟩ | _ + 3 => .inl rfl)
          ·
            try simp only [decide_eq_true_eq, decide_eq_false_iff_not, Bool.not_eq_true', Bool.not_eq_false'] at hc5
            have hc5' := hc5; try simp only [decide_eq_true_eq, decide_eq_false_iff_not, beq_iff_eq, beq_eq_false_iff_ne, bne_iff_ne, bne_eq_false_iff_eq, ne_eq, Bool.not_eq_true', Bool.not_eq_false', Bool.and_eq_true, Bool.or_eq_true, Bool.or_eq_false_iff, Bool.and_eq_false_iff, Bool.not_true, Bool.not_false] at hc5'
            refine AW.skip ?_
            refine AX.pr (Kc 6 (.cel _ _) rfl <| Kc 0 (.cel _ _) rfl <| Kc 1 (.cel _ _) rfl <| Kc 2 (.own _ _ _) rfl <| Kn) ?_
            refine AX.go ?_
            refine AW.seq ?_
            refine AW.seq ?_
            refine AW.region ?_
            refine AWl.st rfl (OpT.move (A := .cel _ _) (.inr rfl) rfl (okd rfl rfl) (I rfl) rfl) rfl ?_
            refine AWl.nil ?_
            refine AX.go ?_
            refine AW.block ?_
            refine AW.loop (fun z : Nat => z ≤ x.2.1.length ∧ ∀ i, i < z → askI x p m i) (fun z : Nat => keep [(0, .cel (Kd.ptr kKnot) x), (1, .cel (Kd.int .i64) p), (2, .own 2 (Kd.int .i64) (cntL b m (l ++ x.2.2.1.take z))), (7, .cel (Kd.int .i64) (z : Int))]) (fun z : Nat => x.2.1.length - z) (0) ⟨Nat.zero_le _, all_none⟩ (Kc 0 _ (Kv rfl rfl) <| Kc 1 _ (Kv rfl rfl) <| Kc 2 _ (Ko rfl (by rw [List.take_zero, List.append_nil])) <| Kc 7 _ (Kv rfl rfl) <| Kn) ?_
            intro z hI
            refine AW.seq ?_
            refine AW.seq ?_
            refine AW.region ?_
            refine AWl.st rfl (OpT.move (A := .cel _ _) (.inl rfl) rfl (okd rfl rfl) (Tm rfl rfl rfl) rfl) rfl ?_
            refine AWl.st rfl (OpT.move (A := .cel _ _) (.inl rfl) rfl (okd rfl rfl) (Tm rfl rfl rfl) rfl) rfl ?_
            refine AWl.st rfl (OpT.nilCheck rfl rfl (okd rfl rfl) (Tm rfl rfl rfl)) rfl ?_
            refine AWl.st rfl (OpT.fieldAddr rfl rfl (okd rfl rfl) (Tm rfl rfl rfl) fd106_1 sz50 (by decide) sb106_1) rfl ?_
            refine AWl.st rfl (OpT.load rfl rfl (okd rfl rfl) (Tm rfl rfl rfl) ag50 rfl) rfl ?_
            refine AWl.st rfl (OpT.len rfl rfl (okd rfl rfl) (Tm rfl rfl rfl) el50) rfl ?_
            refine AWl.st rfl (OpT.lss rfl rfl (okd rfl rfl) (Tm rfl rfl rfl) (Tm rfl rfl rfl)) rfl ?_
            refine AWl.nil ?_
            refine AX.go ?_
            refine AW.cond (t := 55) rfl (by decide) (fun hc6 => ?_) (fun hc6 => ?_)
            ·
              try simp only [decide_eq_true_eq, decide_eq_false_iff_not, Bool.not_eq_true', Bool.not_eq_false'] at hc6
              have hc6' := hc6; try simp only [decide_eq_true_eq, decide_eq_false_iff_not, beq_iff_eq, beq_eq_false_iff_ne, bne_iff_ne, bne_eq_false_iff_eq, ne_eq, Bool.not_eq_true', Bool.not_eq_false', Bool.and_eq_true, Bool.or_eq_true, Bool.or_eq_false_iff, Bool.and_eq_false_iff, Bool.not_true, Bool.not_false] at hc6'
              obtain ⟨v, hv⟩ := getI (x := x.2.1) (z := z) (by omega); obtain ⟨n, hn⟩ := getI (x := x.2.2.1) (z := z) (by omega); obtain ⟨vp, hvp⟩ := getPr (x := x.2.1) (z := z) hI.1; have hnr := hok n (mem_getI hn)
              refine AW.skip ?_
              refine AX.go ?_
              refine AW.seq ?_
              refine AW.block ?_
              refine AW.seq ?_
              refine AW.seq ?_
              rcases Bool.eq_false_or_eq_true (decide (v < (-2 : Int))) with hd5 | hd5
              ·
                have hd5' := hd5; try simp only [decide_eq_true_eq, decide_eq_false_iff_not, beq_iff_eq, beq_eq_false_iff_ne, bne_iff_ne, bne_eq_false_iff_eq, ne_eq, Bool.not_eq_true', Bool.not_eq_false', Bool.and_eq_true, Bool.or_eq_true, Bool.or_eq_false_iff, Bool.and_eq_false_iff, Bool.not_true, Bool.not_false] at hd5'
                refine AW.dg fomo ?_
                refine DG.fr (d := 58) [0] (DS rfl fun v h => OpT.move (A := .cel _ _) (.inl rfl) rfl (okd rfl rfl) (D h rfl rfl rfl rfl) rfl) rfl rfl ?_
                refine DG.fr (d := 59) [58] (DS rfl fun v h => OpT.nilCheck rfl rfl (okd rfl rfl) (D h rfl rfl rfl rfl)) rfl rfl ?_
                refine DG.fr (d := 60) [59] (DS rfl fun v h => OpT.fieldAddr rfl rfl (okd rfl rfl) (D h rfl rfl rfl rfl) fd106_1 sz50 (by decide) sb106_1) rfl rfl ?_
                refine DG.fr (d := 61) [60] (DS rfl fun v h => OpT.load rfl rfl (okd rfl rfl) (D h rfl rfl rfl rfl) ag50 rfl) rfl rfl ?_
                refine DG.fr (d := 62) [7] (DS rfl fun v h => OpT.move (A := .cel _ _) (.inl rfl) rfl (okd rfl rfl) (D h rfl rfl rfl rfl) rfl) rfl rfl ?_
                refine DG.fr (d := 63) [61, 62] (DS rfl fun v h => OpT.indexAddr rfl rfl (okd rfl rfl) (D h rfl rfl rfl rfl) (D h rfl rfl rfl rfl) el50 sz2 (by omega) (by assumption)) rfl rfl ?_
                refine DG.fr (d := 64) [63] (DS rfl fun v h => OpT.load rfl rfl (okd rfl rfl) (D h rfl rfl rfl rfl) ag2 rfl) rfl rfl ?_
                refine DG.fr (d := 65) [64] (DS rfl fun v h => OpT.lss rfl rfl (okd rfl rfl) (D h rfl rfl rfl rfl) (I rfl)) rfl rfl ?_
                refine DG.fr (d := 66) [65] (DS rfl fun v h => OpT.move (A := .cel _ _) (.inl rfl) rfl (okd rfl rfl) (D h rfl rfl rfl rfl) rfl) rfl rfl ?_
                refine DG.pas (d := 67) [66] (DSp rfl rfl rfl rfl rfl hd5 rfl (okd rfl rfl)) rfl rfl ?_
                refine DG.pas (d := 68) [66] (DSp rfl rfl rfl rfl rfl hd5 rfl (okd rfl rfl)) rfl rfl ?_
                refine DG.fr (d := 69) [66] (DSq rfl rfl rfl rfl rfl hd5 rfl (okd rfl rfl)) rfl rfl ?_
                refine DG.pas (d := 70) [69] (DSpu rfl rfl rfl rfl rfl rfl (okd rfl rfl)) rfl rfl ?_
                refine DG.pas (d := 71) [69] (DSpu rfl rfl rfl rfl rfl rfl (okd rfl rfl)) rfl rfl ?_
                refine DG.pas (d := 72) [69] (DSpu rfl rfl rfl rfl rfl rfl (okd rfl rfl)) rfl rfl ?_
                refine DG.pas (d := 73) [69] (DSpu rfl rfl rfl rfl rfl rfl (okd rfl rfl)) rfl rfl ?_
                refine DG.pas (d := 74) [69] (DSpu rfl rfl rfl rfl rfl rfl (okd rfl rfl)) rfl rfl ?_
                refine DG.pas (d := 75) [69] (DSpu rfl rfl rfl rfl rfl rfl (okd rfl rfl)) rfl rfl ?_
                refine DG.pas (d := 76) [69] (DSpu rfl rfl rfl rfl rfl rfl (okd rfl rfl)) rfl rfl ?_
                refine DG.pas (d := 77) [69] (DSpu rfl rfl rfl rfl rfl rfl (okd rfl rfl)) rfl rfl ?_
                refine DG.pas (d := 78) [69] (DSpu rfl rfl rfl rfl rfl rfl (okd rfl rfl)) rfl rfl ?_
                refine DG.pas (d := 79) [69] (DSpu rfl rfl rfl rfl rfl rfl (okd rfl rfl)) rfl rfl ?_
                refine DG.pas (d := 80) [69] (DSpu rfl rfl rfl rfl rfl rfl (okd rfl rfl)) rfl rfl ?_
                refine DG.pas (d := 81) [69] (DSpu rfl rfl rfl rfl rfl rfl (okd rfl rfl)) rfl rfl ?_
                refine DG.pas (d := 82) [69] (DSpu rfl rfl rfl rfl rfl rfl (okd rfl rfl)) rfl rfl ?_
                refine DG.pas (d := 83) [69] (DSpu rfl rfl rfl rfl rfl rfl (okd rfl rfl)) rfl rfl ?_
                refine DG.pas (d := 84) [69] (DSpu rfl rfl rfl rfl rfl rfl (okd rfl rfl)) rfl rfl ?_
                refine DG.pas (d := 85) [69] (DSpu rfl rfl rfl rfl rfl rfl (okd rfl rfl)) rfl rfl ?_
                refine DG.pas (d := 86) [66] (DSp rfl rfl rfl rfl rfl hd5 rfl (okd rfl rfl)) rfl rfl ?_
                refine DG.fr (d := 87) [66] (DS rfl fun v h => OpT.pickT (A := .cel _ _) rfl rfl (okd rfl rfl) (D h rfl rfl rfl rfl) hd5 Opd.bool rfl) rfl rfl ?_
                refine DG.fr (d := 88) [87] (DS rfl fun v h => OpT.move (A := .cel _ _) (.inl rfl) rfl (okd rfl rfl) (D h rfl rfl rfl rfl) rfl) rfl rfl ?_
                refine DG.pas (d := 89) [88] (DSp rfl rfl rfl rfl rfl rfl rfl (okd rfl rfl)) rfl rfl ?_
                refine DG.pas (d := 90) [88] (DSp rfl rfl rfl rfl rfl rfl rfl (okd rfl rfl)) rfl rfl ?_
                refine DG.pas (d := 91) [88] (DSp rfl rfl rfl rfl rfl rfl rfl (okd rfl rfl)) rfl rfl ?_
                refine DG.pas (d := 92) [88] (DSp rfl rfl rfl rfl rfl rfl rfl (okd rfl rfl)) rfl rfl ?_
                refine DG.pas (d := 93) [88] (DSp rfl rfl rfl rfl rfl rfl rfl (okd rfl rfl)) rfl rfl ?_
                refine DG.pas (d := 94) [88] (DSp rfl rfl rfl rfl rfl rfl rfl (okd rfl rfl)) rfl rfl ?_
                refine DG.pas (d := 95) [88] (DSp rfl rfl rfl rfl rfl rfl rfl (okd rfl rfl)) rfl rfl ?_
                refine DG.pas (d := 96) [88] (DSp rfl rfl rfl rfl rfl rfl rfl (okd rfl rfl)) rfl rfl ?_
                refine DG.pas (d := 97) [88] (DSp rfl rfl rfl rfl rfl rfl rfl (okd rfl rfl)) rfl rfl ?_
                refine DG.pas (d := 98) [88] (DSp rfl rfl rfl rfl rfl rfl rfl (okd rfl rfl)) rfl rfl ?_
                refine DG.fr (d := 99) [88] (DS rfl fun v h => OpT.pickT (A := .cel _ _) rfl rfl (okd rfl rfl) (D h rfl rfl rfl rfl) rfl Opd.bool rfl) rfl rfl ?_
                refine DG.fr (d := 100) [99] (DS rfl fun v h => OpT.move (A := .cel _ _) (.inl rfl) rfl (okd rfl rfl) (D h rfl rfl rfl rfl) rfl) rfl rfl ?_
                refine DG.pas (d := 101) [100] (DSp rfl rfl rfl rfl rfl rfl rfl (okd rfl rfl)) rfl rfl ?_
                refine DG.pas (d := 102) [100] (DSp rfl rfl rfl rfl rfl rfl rfl (okd rfl rfl)) rfl rfl ?_
                refine DG.pas (d := 103) [100] (DSp rfl rfl rfl rfl rfl rfl rfl (okd rfl rfl)) rfl rfl ?_
                refine DG.pas (d := 104) [100] (DSp rfl rfl rfl rfl rfl rfl rfl (okd rfl rfl)) rfl rfl ?_
                refine DG.pas (d := 105) [100] (DSp rfl rfl rfl rfl rfl rfl rfl (okd rfl rfl)) rfl rfl ?_
                refine DG.pas (d := 106) [100] (DSp rfl rfl rfl rfl rfl rfl rfl (okd rfl rfl)) rfl rfl ?_
                refine DG.pas (d := 107) [100] (DSp rfl rfl rfl rfl rfl rfl rfl (okd rfl rfl)) rfl rfl ?_
                refine DG.pas (d := 108) [100] (DSp rfl rfl rfl rfl rfl rfl rfl (okd rfl rfl)) rfl rfl ?_
                refine DG.pas (d := 109) [100] (DSp rfl rfl rfl rfl rfl rfl rfl (okd rfl rfl)) rfl rfl ?_
                refine DG.pas (d := 110) [100] (DSp rfl rfl rfl rfl rfl rfl rfl (okd rfl rfl)) rfl rfl ?_
                refine DG.pas (d := 111) [100] (DSp rfl rfl rfl rfl rfl rfl rfl (okd rfl rfl)) rfl rfl ?_
                refine DG.fr (d := 112) [100] (DS rfl fun v h => OpT.pickT (A := .cel _ _) rfl rfl (okd rfl rfl) (D h rfl rfl rfl rfl) rfl Opd.bool rfl) rfl rfl ?_
                refine DG.nil ⟨by kernel_rfl, by kernel_rfl, ?_⟩
                refine AX.go ?_
                refine AW.cond (t := 112) rfl (by decide) (fun hc7 => ?_) (fun hc7 => ?_)
                ·
                  try simp only [decide_eq_true_eq, decide_eq_false_iff_not, Bool.not_eq_true', Bool.not_eq_false'] at hc7
                  have hc7' := hc7; try simp only [decide_eq_true_eq, decide_eq_false_iff_not, beq_iff_eq, beq_eq_false_iff_ne, bne_iff_ne, bne_eq_false_iff_eq, ne_eq, Bool.not_eq_true', Bool.not_eq_false', Bool.and_eq_true, Bool.or_eq_true, Bool.or_eq_false_iff, Bool.and_eq_false_iff, Bool.not_true, Bool.not_false] at hc7'
                  refine AW.seq ?_
                  refine AW.region ?_
                  refine AWl.st rfl (OpT.move (A := .cel _ _) (.inr rfl) rfl (okd rfl rfl) Opd.bool rfl) rfl ?_
                  refine AWl.nil ?_
                  refine AX.go ?_
                  refine AW.ret ?_
                  refine AX.ret_then ?_
                  refine AX.ret_block ?_
                  refine AX.ret_then ?_
                  refine AX.ret_then ?_
                  refine AX.ret_block ?_
                  refine AX.ret_then ?_
                  exact AX.rt (rs := [.tmp 6]) (ts := [some 6]) (.inl rfl) rfl (ROs.cons (RO.tmp (At.self (by decide)) (Kv rfl (by first | exact ask_at (z := z) (mt (askI_iff hv hn hvp).1 (by omega)) (by omega) | exact ask_all (by unfold askH; omega) hI.2 (by omega) | exact ask_head (by unfold askH; omega))) rfl) <| ROs.nil) (by decide) (fun i => match i with | 0 => .inl rfl | 1 => .inl rfl | 2 => .inr ⟨rfl, Ko rfl (by first | rw [askN_at (z := z) (by unfold askH; omega) hI.2 (mt (askI_iff hv hn hvp).1 (by omega)) (by omega)] | rw [askN_all (by unfold askH; omega) hI.2 (by omega), List.take_of_length_le (by omega), List.take_of_length_le (by omega)] | rw [askN_head (by unfold askH; omega), List.take_zero, List.append_nil]), rfl, by decide⟩ | _ + 3 => .inl rfl)
                ·
                  try simp only [decide_eq_true_eq, decide_eq_false_iff_not, Bool.not_eq_true', Bool.not_eq_false'] at hc7
                  have hc7' := hc7; try simp only [decide_eq_true_eq, decide_eq_false_iff_not, beq_iff_eq, beq_eq_false_iff_ne, bne_iff_ne, bne_eq_false_iff_eq, ne_eq, Bool.not_eq_true', Bool.not_eq_false', Bool.and_eq_true, Bool.or_eq_true, Bool.or_eq_false_iff, Bool.and_eq_false_iff, Bool.not_true, Bool.not_false] at hc7'
                  exact absurd hc7 (by decide)
              ·
                have hd5' := hd5; try simp only [decide_eq_true_eq, decide_eq_false_iff_not, beq_iff_eq, beq_eq_false_iff_ne, bne_iff_ne, bne_eq_false_iff_eq, ne_eq, Bool.not_eq_true', Bool.not_eq_false', Bool.and_eq_true, Bool.or_eq_true, Bool.or_eq_false_iff, Bool.and_eq_false_iff, Bool.not_true, Bool.not_false] at hd5'
                rcases Bool.eq_false_or_eq_true (decide ((z : Int) > (0 : Int))) with hd6 | hd6
                ·
                  have hd6' := hd6; try simp only [decide_eq_true_eq, decide_eq_false_iff_not, beq_iff_eq, beq_eq_false_iff_ne, bne_iff_ne, bne_eq_false_iff_eq, ne_eq, Bool.not_eq_true', Bool.not_eq_false', Bool.and_eq_true, Bool.or_eq_true, Bool.or_eq_false_iff, Bool.and_eq_false_iff, Bool.not_true, Bool.not_false] at hd6'
                  have hvp1 := hvp (by omega)
                  rcases Bool.eq_false_or_eq_true (decide (v ≤ vp)) with hd7 | hd7
                  ·
                    have hd7' := hd7; try simp only [decide_eq_true_eq, decide_eq_false_iff_not, beq_iff_eq, beq_eq_false_iff_ne, bne_iff_ne, bne_eq_false_iff_eq, ne_eq, Bool.not_eq_true', Bool.not_eq_false', Bool.and_eq_true, Bool.or_eq_true, Bool.or_eq_false_iff, Bool.and_eq_false_iff, Bool.not_true, Bool.not_false] at hd7'
                    refine AW.dg fomo ?_
                    refine DG.fr (d := 58) [0] (DS rfl fun v h => OpT.move (A := .cel _ _) (.inl rfl) rfl (okd rfl rfl) (D h rfl rfl rfl rfl) rfl) rfl rfl ?_
                    refine DG.fr (d := 59) [58] (DS rfl fun v h => OpT.nilCheck rfl rfl (okd rfl rfl) (D h rfl rfl rfl rfl)) rfl rfl ?_
                    refine DG.fr (d := 60) [59] (DS rfl fun v h => OpT.fieldAddr rfl rfl (okd rfl rfl) (D h rfl rfl rfl rfl) fd106_1 sz50 (by decide) sb106_1) rfl rfl ?_
                    refine DG.fr (d := 61) [60] (DS rfl fun v h => OpT.load rfl rfl (okd rfl rfl) (D h rfl rfl rfl rfl) ag50 rfl) rfl rfl ?_
                    refine DG.fr (d := 62) [7] (DS rfl fun v h => OpT.move (A := .cel _ _) (.inl rfl) rfl (okd rfl rfl) (D h rfl rfl rfl rfl) rfl) rfl rfl ?_
                    refine DG.fr (d := 63) [61, 62] (DS rfl fun v h => OpT.indexAddr rfl rfl (okd rfl rfl) (D h rfl rfl rfl rfl) (D h rfl rfl rfl rfl) el50 sz2 (by omega) (by assumption)) rfl rfl ?_
                    refine DG.fr (d := 64) [63] (DS rfl fun v h => OpT.load rfl rfl (okd rfl rfl) (D h rfl rfl rfl rfl) ag2 rfl) rfl rfl ?_
                    refine DG.fr (d := 65) [64] (DS rfl fun v h => OpT.lss rfl rfl (okd rfl rfl) (D h rfl rfl rfl rfl) (I rfl)) rfl rfl ?_
                    refine DG.fr (d := 66) [65] (DS rfl fun v h => OpT.move (A := .cel _ _) (.inl rfl) rfl (okd rfl rfl) (D h rfl rfl rfl rfl) rfl) rfl rfl ?_
                    refine DG.fr (d := 67) [7, 66] (DSr rfl rfl rfl rfl rfl hd5 fun v h => OpT.move (A := .cel _ _) (.inl rfl) rfl (okd rfl rfl) (D h rfl rfl rfl rfl) rfl) rfl rfl ?_
                    refine DG.fr (d := 68) [66, 67] (DSr rfl rfl rfl rfl rfl hd5 fun v h => OpT.gtr rfl rfl (okd rfl rfl) (D h rfl rfl rfl rfl) (I rfl)) rfl rfl ?_
                    refine DG.fr (d := 69) [66, 68] (DSr rfl rfl rfl rfl rfl hd5 fun v h => OpT.move (A := .cel _ _) (.inl rfl) rfl (okd rfl rfl) (D h rfl rfl rfl rfl) rfl) rfl rfl ?_
                    refine DG.fr (d := 70) [0, 69] (DSr rfl rfl rfl rfl rfl hd6 fun v h => OpT.move (A := .cel _ _) (.inl rfl) rfl (okd rfl rfl) (D h rfl rfl rfl rfl) rfl) rfl rfl ?_
                    refine DG.fr (d := 71) [69, 70] (DSr rfl rfl rfl rfl rfl hd6 fun v h => OpT.nilCheck rfl rfl (okd rfl rfl) (D h rfl rfl rfl rfl)) rfl rfl ?_
                    refine DG.fr (d := 72) [69, 71] (DSr rfl rfl rfl rfl rfl hd6 fun v h => OpT.fieldAddr rfl rfl (okd rfl rfl) (D h rfl rfl rfl rfl) fd106_1 sz50 (by decide) sb106_1) rfl rfl ?_
                    refine DG.fr (d := 73) [69, 72] (DSr rfl rfl rfl rfl rfl hd6 fun v h => OpT.load rfl rfl (okd rfl rfl) (D h rfl rfl rfl rfl) ag50 rfl) rfl rfl ?_
                    refine DG.fr (d := 74) [7, 69] (DSr rfl rfl rfl rfl rfl hd6 fun v h => OpT.move (A := .cel _ _) (.inl rfl) rfl (okd rfl rfl) (D h rfl rfl rfl rfl) rfl) rfl rfl ?_
                    refine DG.fr (d := 75) [69, 73, 74] (DSr rfl rfl rfl rfl rfl hd6 fun v h => OpT.indexAddr rfl rfl (okd rfl rfl) (D h rfl rfl rfl rfl) (D h rfl rfl rfl rfl) el50 sz2 (by omega) (by assumption)) rfl rfl ?_
                    refine DG.fr (d := 76) [69, 75] (DSr rfl rfl rfl rfl rfl hd6 fun v h => OpT.load rfl rfl (okd rfl rfl) (D h rfl rfl rfl rfl) ag2 rfl) rfl rfl ?_
                    refine DG.fr (d := 77) [0, 69] (DSr rfl rfl rfl rfl rfl hd6 fun v h => OpT.move (A := .cel _ _) (.inl rfl) rfl (okd rfl rfl) (D h rfl rfl rfl rfl) rfl) rfl rfl ?_
                    refine DG.fr (d := 78) [69, 77] (DSr rfl rfl rfl rfl rfl hd6 fun v h => OpT.nilCheck rfl rfl (okd rfl rfl) (D h rfl rfl rfl rfl)) rfl rfl ?_
                    refine DG.fr (d := 79) [69, 78] (DSr rfl rfl rfl rfl rfl hd6 fun v h => OpT.fieldAddr rfl rfl (okd rfl rfl) (D h rfl rfl rfl rfl) fd106_1 sz50 (by decide) sb106_1) rfl rfl ?_
                    refine DG.fr (d := 80) [69, 79] (DSr rfl rfl rfl rfl rfl hd6 fun v h => OpT.load rfl rfl (okd rfl rfl) (D h rfl rfl rfl rfl) ag50 rfl) rfl rfl ?_
                    refine DG.fr (d := 81) [7, 69] (DSr rfl rfl rfl rfl rfl hd6 fun v h => OpT.move (A := .cel _ _) (.inl rfl) rfl (okd rfl rfl) (D h rfl rfl rfl rfl) rfl) rfl rfl ?_
                    refine DG.fr (d := 82) [69, 81] (DSr rfl rfl rfl rfl rfl hd6 fun v h => OpT.sub rfl rfl (okd rfl rfl) (D h rfl rfl rfl rfl) (I rfl) (nw (by omega))) rfl rfl ?_
                    refine DG.fr (d := 83) [69, 80, 82] (DSr rfl rfl rfl rfl rfl hd6 fun v h => OpT.indexAddr rfl rfl (okd rfl rfl) (D h rfl rfl rfl rfl) (D h rfl rfl rfl rfl) el50 sz2 (by omega) (by assumption)) rfl rfl ?_
                    refine DG.fr (d := 84) [69, 83] (DSr rfl rfl rfl rfl rfl hd6 fun v h => OpT.load rfl rfl (okd rfl rfl) (D h rfl rfl rfl rfl) ag2 rfl) rfl rfl ?_
                    refine DG.fr (d := 85) [69, 76, 84] (DSr rfl rfl rfl rfl rfl hd6 fun v h => OpT.leq rfl rfl (okd rfl rfl) (D h rfl rfl rfl rfl) (D h rfl rfl rfl rfl)) rfl rfl ?_
                    refine DG.fr (d := 86) [66, 69, 85] (DSr rfl rfl rfl rfl rfl hd5 fun v h => OpT.pickT (A := .cel _ _) rfl rfl (okd rfl rfl) (D h rfl rfl rfl rfl) hd6 (D h rfl rfl rfl rfl) rfl) rfl rfl ?_
                    refine DG.fr (d := 87) [66, 86] (DS rfl fun v h => OpT.pickF (A := .cel _ _) rfl rfl (okd rfl rfl) (D h rfl rfl rfl rfl) hd5 (D h rfl rfl rfl rfl) rfl) rfl rfl ?_
                    refine DG.fr (d := 88) [87] (DS rfl fun v h => OpT.move (A := .cel _ _) (.inl rfl) rfl (okd rfl rfl) (D h rfl rfl rfl rfl) rfl) rfl rfl ?_
                    refine DG.pas (d := 89) [88] (DSp rfl rfl rfl rfl rfl hd7 rfl (okd rfl rfl)) rfl rfl ?_
                    refine DG.pas (d := 90) [88] (DSp rfl rfl rfl rfl rfl hd7 rfl (okd rfl rfl)) rfl rfl ?_
                    refine DG.pas (d := 91) [88] (DSp rfl rfl rfl rfl rfl hd7 rfl (okd rfl rfl)) rfl rfl ?_
                    refine DG.pas (d := 92) [88] (DSp rfl rfl rfl rfl rfl hd7 rfl (okd rfl rfl)) rfl rfl ?_
                    refine DG.pas (d := 93) [88] (DSp rfl rfl rfl rfl rfl hd7 rfl (okd rfl rfl)) rfl rfl ?_
                    refine DG.pas (d := 94) [88] (DSp rfl rfl rfl rfl rfl hd7 rfl (okd rfl rfl)) rfl rfl ?_
                    refine DG.pas (d := 95) [88] (DSp rfl rfl rfl rfl rfl hd7 rfl (okd rfl rfl)) rfl rfl ?_
                    refine DG.pas (d := 96) [88] (DSp rfl rfl rfl rfl rfl hd7 rfl (okd rfl rfl)) rfl rfl ?_
                    refine DG.pas (d := 97) [88] (DSp rfl rfl rfl rfl rfl hd7 rfl (okd rfl rfl)) rfl rfl ?_
                    refine DG.pas (d := 98) [88] (DSp rfl rfl rfl rfl rfl hd7 rfl (okd rfl rfl)) rfl rfl ?_
                    refine DG.fr (d := 99) [88] (DS rfl fun v h => OpT.pickT (A := .cel _ _) rfl rfl (okd rfl rfl) (D h rfl rfl rfl rfl) hd7 Opd.bool rfl) rfl rfl ?_
                    refine DG.fr (d := 100) [99] (DS rfl fun v h => OpT.move (A := .cel _ _) (.inl rfl) rfl (okd rfl rfl) (D h rfl rfl rfl rfl) rfl) rfl rfl ?_
                    refine DG.pas (d := 101) [100] (DSp rfl rfl rfl rfl rfl rfl rfl (okd rfl rfl)) rfl rfl ?_
                    refine DG.pas (d := 102) [100] (DSp rfl rfl rfl rfl rfl rfl rfl (okd rfl rfl)) rfl rfl ?_
                    refine DG.pas (d := 103) [100] (DSp rfl rfl rfl rfl rfl rfl rfl (okd rfl rfl)) rfl rfl ?_
                    refine DG.pas (d := 104) [100] (DSp rfl rfl rfl rfl rfl rfl rfl (okd rfl rfl)) rfl rfl ?_
                    refine DG.pas (d := 105) [100] (DSp rfl rfl rfl rfl rfl rfl rfl (okd rfl rfl)) rfl rfl ?_
                    refine DG.pas (d := 106) [100] (DSp rfl rfl rfl rfl rfl rfl rfl (okd rfl rfl)) rfl rfl ?_
                    refine DG.pas (d := 107) [100] (DSp rfl rfl rfl rfl rfl rfl rfl (okd rfl rfl)) rfl rfl ?_
                    refine DG.pas (d := 108) [100] (DSp rfl rfl rfl rfl rfl rfl rfl (okd rfl rfl)) rfl rfl ?_
                    refine DG.pas (d := 109) [100] (DSp rfl rfl rfl rfl rfl rfl rfl (okd rfl rfl)) rfl rfl ?_
                    refine DG.pas (d := 110) [100] (DSp rfl rfl rfl rfl rfl rfl rfl (okd rfl rfl)) rfl rfl ?_
                    refine DG.pas (d := 111) [100] (DSp rfl rfl rfl rfl rfl rfl rfl (okd rfl rfl)) rfl rfl ?_
                    refine DG.fr (d := 112) [100] (DS rfl fun v h => OpT.pickT (A := .cel _ _) rfl rfl (okd rfl rfl) (D h rfl rfl rfl rfl) rfl Opd.bool rfl) rfl rfl ?_
                    refine DG.nil ⟨by kernel_rfl, by kernel_rfl, ?_⟩
                    refine AX.go ?_
                    refine AW.cond (t := 112) rfl (by decide) (fun hc8 => ?_) (fun hc8 => ?_)
                    ·
                      try simp only [decide_eq_true_eq, decide_eq_false_iff_not, Bool.not_eq_true', Bool.not_eq_false'] at hc8
                      have hc8' := hc8; try simp only [decide_eq_true_eq, decide_eq_false_iff_not, beq_iff_eq, beq_eq_false_iff_ne, bne_iff_ne, bne_eq_false_iff_eq, ne_eq, Bool.not_eq_true', Bool.not_eq_false', Bool.and_eq_true, Bool.or_eq_true, Bool.or_eq_false_iff, Bool.and_eq_false_iff, Bool.not_true, Bool.not_false] at hc8'
                      refine AW.seq ?_
                      refine AW.region ?_
                      refine AWl.st rfl (OpT.move (A := .cel _ _) (.inr rfl) rfl (okd rfl rfl) Opd.bool rfl) rfl ?_
                      refine AWl.nil ?_
                      refine AX.go ?_
                      refine AW.ret ?_
                      refine AX.ret_then ?_
                      refine AX.ret_block ?_
                      refine AX.ret_then ?_
                      refine AX.ret_then ?_
                      refine AX.ret_block ?_
                      refine AX.ret_then ?_
                      exact AX.rt (rs := [.tmp 6]) (ts := [some 6]) (.inl rfl) rfl (ROs.cons (RO.tmp (At.self (by decide)) (Kv rfl (by first | exact ask_at (z := z) (mt (askI_iff hv hn hvp).1 (by omega)) (by omega) | exact ask_all (by unfold askH; omega) hI.2 (by omega) | exact ask_head (by unfold askH; omega))) rfl) <| ROs.nil) (by decide) (fun i => match i with | 0 => .inl rfl | 1 => .inl rfl | 2 => .inr ⟨rfl, Ko rfl (by first | rw [askN_at (z := z) (by unfold askH; omega) hI.2 (mt (askI_iff hv hn hvp).1 (by omega)) (by omega)] | rw [askN_all (by unfold askH; omega) hI.2 (by omega), List.take_of_length_le (by omega), List.take_of_length_le (by omega)] | rw [askN_head (by unfold askH; omega), List.take_zero, List.append_nil]), rfl, by decide⟩ | _ + 3 => .inl rfl)
                    ·
                      try simp only [decide_eq_true_eq, decide_eq_false_iff_not, Bool.not_eq_true', Bool.not_eq_false'] at hc8
                      have hc8' := hc8; try simp only [decide_eq_true_eq, decide_eq_false_iff_not, beq_iff_eq, beq_eq_false_iff_ne, bne_iff_ne, bne_eq_false_iff_eq, ne_eq, Bool.not_eq_true', Bool.not_eq_false', Bool.and_eq_true, Bool.or_eq_true, Bool.or_eq_false_iff, Bool.and_eq_false_iff, Bool.not_true, Bool.not_false] at hc8'
                      exact absurd hc8 (by decide)
                  ·
                    have hd7' := hd7; try simp only [decide_eq_true_eq, decide_eq_false_iff_not, beq_iff_eq, beq_eq_false_iff_ne, bne_iff_ne, bne_eq_false_iff_eq, ne_eq, Bool.not_eq_true', Bool.not_eq_false', Bool.and_eq_true, Bool.or_eq_true, Bool.or_eq_false_iff, Bool.and_eq_false_iff, Bool.not_true, Bool.not_false] at hd7'
                    rcases Bool.eq_false_or_eq_true (decide (n ≤ p)) with hd8 | hd8
                    ·
                      have hd8' := hd8; try simp only [decide_eq_true_eq, decide_eq_false_iff_not, beq_iff_eq, beq_eq_false_iff_ne, bne_iff_ne, bne_eq_false_iff_eq, ne_eq, Bool.not_eq_true', Bool.not_eq_false', Bool.and_eq_true, Bool.or_eq_true, Bool.or_eq_false_iff, Bool.and_eq_false_iff, Bool.not_true, Bool.not_false] at hd8'
                      refine AW.dg fomo ?_
                      refine DG.fr (d := 58) [0] (DS rfl fun v h => OpT.move (A := .cel _ _) (.inl rfl) rfl (okd rfl rfl) (D h rfl rfl rfl rfl) rfl) rfl rfl ?_
                      refine DG.fr (d := 59) [58] (DS rfl fun v h => OpT.nilCheck rfl rfl (okd rfl rfl) (D h rfl rfl rfl rfl)) rfl rfl ?_
                      refine DG.fr (d := 60) [59] (DS rfl fun v h => OpT.fieldAddr rfl rfl (okd rfl rfl) (D h rfl rfl rfl rfl) fd106_1 sz50 (by decide) sb106_1) rfl rfl ?_
                      refine DG.fr (d := 61) [60] (DS rfl fun v h => OpT.load rfl rfl (okd rfl rfl) (D h rfl rfl rfl rfl) ag50 rfl) rfl rfl ?_
                      refine DG.fr (d := 62) [7] (DS rfl fun v h => OpT.move (A := .cel _ _) (.inl rfl) rfl (okd rfl rfl) (D h rfl rfl rfl rfl) rfl) rfl rfl ?_
                      refine DG.fr (d := 63) [61, 62] (DS rfl fun v h => OpT.indexAddr rfl rfl (okd rfl rfl) (D h rfl rfl rfl rfl) (D h rfl rfl rfl rfl) el50 sz2 (by omega) (by assumption)) rfl rfl ?_
                      refine DG.fr (d := 64) [63] (DS rfl fun v h => OpT.load rfl rfl (okd rfl rfl) (D h rfl rfl rfl rfl) ag2 rfl) rfl rfl ?_
                      refine DG.fr (d := 65) [64] (DS rfl fun v h => OpT.lss rfl rfl (okd rfl rfl) (D h rfl rfl rfl rfl) (I rfl)) rfl rfl ?_
                      refine DG.fr (d := 66) [65] (DS rfl fun v h => OpT.move (A := .cel _ _) (.inl rfl) rfl (okd rfl rfl) (D h rfl rfl rfl rfl) rfl) rfl rfl ?_
                      refine DG.fr (d := 67) [7, 66] (DSr rfl rfl rfl rfl rfl hd5 fun v h => OpT.move (A := .cel _ _) (.inl rfl) rfl (okd rfl rfl) (D h rfl rfl rfl rfl) rfl) rfl rfl ?_
                      refine DG.fr (d := 68) [66, 67] (DSr rfl rfl rfl rfl rfl hd5 fun v h => OpT.gtr rfl rfl (okd rfl rfl) (D h rfl rfl rfl rfl) (I rfl)) rfl rfl ?_
                      refine DG.fr (d := 69) [66, 68] (DSr rfl rfl rfl rfl rfl hd5 fun v h => OpT.move (A := .cel _ _) (.inl rfl) rfl (okd rfl rfl) (D h rfl rfl rfl rfl) rfl) rfl rfl ?_
                      refine DG.fr (d := 70) [0, 69] (DSr rfl rfl rfl rfl rfl hd6 fun v h => OpT.move (A := .cel _ _) (.inl rfl) rfl (okd rfl rfl) (D h rfl rfl rfl rfl) rfl) rfl rfl ?_
                      refine DG.fr (d := 71) [69, 70] (DSr rfl rfl rfl rfl rfl hd6 fun v h => OpT.nilCheck rfl rfl (okd rfl rfl) (D h rfl rfl rfl rfl)) rfl rfl ?_
                      refine DG.fr (d := 72) [69, 71] (DSr rfl rfl rfl rfl rfl hd6 fun v h => OpT.fieldAddr rfl rfl (okd rfl rfl) (D h rfl rfl rfl rfl) fd106_1 sz50 (by decide) sb106_1) rfl rfl ?_
                      refine DG.fr (d := 73) [69, 72] (DSr rfl rfl rfl rfl rfl hd6 fun v h => OpT.load rfl rfl (okd rfl rfl) (D h rfl rfl rfl rfl) ag50 rfl) rfl rfl ?_
                      refine DG.fr (d := 74) [7, 69] (DSr rfl rfl rfl rfl rfl hd6 fun v h => OpT.move (A := .cel _ _) (.inl rfl) rfl (okd rfl rfl) (D h rfl rfl rfl rfl) rfl) rfl rfl ?_
                      refine DG.fr (d := 75) [69, 73, 74] (DSr rfl rfl rfl rfl rfl hd6 fun v h => OpT.indexAddr rfl rfl (okd rfl rfl) (D h rfl rfl rfl rfl) (D h rfl rfl rfl rfl) el50 sz2 (by omega) (by assumption)) rfl rfl ?_
                      refine DG.fr (d := 76) [69, 75] (DSr rfl rfl rfl rfl rfl hd6 fun v h => OpT.load rfl rfl (okd rfl rfl) (D h rfl rfl rfl rfl) ag2 rfl) rfl rfl ?_
                      refine DG.fr (d := 77) [0, 69] (DSr rfl rfl rfl rfl rfl hd6 fun v h => OpT.move (A := .cel _ _) (.inl rfl) rfl (okd rfl rfl) (D h rfl rfl rfl rfl) rfl) rfl rfl ?_
                      refine DG.fr (d := 78) [69, 77] (DSr rfl rfl rfl rfl rfl hd6 fun v h => OpT.nilCheck rfl rfl (okd rfl rfl) (D h rfl rfl rfl rfl)) rfl rfl ?_
                      refine DG.fr (d := 79) [69, 78] (DSr rfl rfl rfl rfl rfl hd6 fun v h => OpT.fieldAddr rfl rfl (okd rfl rfl) (D h rfl rfl rfl rfl) fd106_1 sz50 (by decide) sb106_1) rfl rfl ?_
                      refine DG.fr (d := 80) [69, 79] (DSr rfl rfl rfl rfl rfl hd6 fun v h => OpT.load rfl rfl (okd rfl rfl) (D h rfl rfl rfl rfl) ag50 rfl) rfl rfl ?_
                      refine DG.fr (d := 81) [7, 69] (DSr rfl rfl rfl rfl rfl hd6 fun v h => OpT.move (A := .cel _ _) (.inl rfl) rfl (okd rfl rfl) (D h rfl rfl rfl rfl) rfl) rfl rfl ?_
                      refine DG.fr (d := 82) [69, 81] (DSr rfl rfl rfl rfl rfl hd6 fun v h => OpT.sub rfl rfl (okd rfl rfl) (D h rfl rfl rfl rfl) (I rfl) (nw (by omega))) rfl rfl ?_
                      refine DG.fr (d := 83) [69, 80, 82] (DSr rfl rfl rfl rfl rfl hd6 fun v h => OpT.indexAddr rfl rfl (okd rfl rfl) (D h rfl rfl rfl rfl) (D h rfl rfl rfl rfl) el50 sz2 (by omega) (by assumption)) rfl rfl ?_
                      refine DG.fr (d := 84) [69, 83] (DSr rfl rfl rfl rfl rfl hd6 fun v h => OpT.load rfl rfl (okd rfl rfl) (D h rfl rfl rfl rfl) ag2 rfl) rfl rfl ?_
                      refine DG.fr (d := 85) [69, 76, 84] (DSr rfl rfl rfl rfl rfl hd6 fun v h => OpT.leq rfl rfl (okd rfl rfl) (D h rfl rfl rfl rfl) (D h rfl rfl rfl rfl)) rfl rfl ?_
                      refine DG.fr (d := 86) [66, 69, 85] (DSr rfl rfl rfl rfl rfl hd5 fun v h => OpT.pickT (A := .cel _ _) rfl rfl (okd rfl rfl) (D h rfl rfl rfl rfl) hd6 (D h rfl rfl rfl rfl) rfl) rfl rfl ?_
                      refine DG.fr (d := 87) [66, 86] (DS rfl fun v h => OpT.pickF (A := .cel _ _) rfl rfl (okd rfl rfl) (D h rfl rfl rfl rfl) hd5 (D h rfl rfl rfl rfl) rfl) rfl rfl ?_
                      refine DG.fr (d := 88) [87] (DS rfl fun v h => OpT.move (A := .cel _ _) (.inl rfl) rfl (okd rfl rfl) (D h rfl rfl rfl rfl) rfl) rfl rfl ?_
                      refine DG.fr (d := 89) [0, 88] (DSr rfl rfl rfl rfl rfl hd7 fun v h => OpT.move (A := .cel _ _) (.inl rfl) rfl (okd rfl rfl) (D h rfl rfl rfl rfl) rfl) rfl rfl ?_
                      refine DG.fr (d := 90) [88, 89] (DSr rfl rfl rfl rfl rfl hd7 fun v h => OpT.nilCheck rfl rfl (okd rfl rfl) (D h rfl rfl rfl rfl)) rfl rfl ?_
                      refine DG.fr (d := 91) [88, 90] (DSr rfl rfl rfl rfl rfl hd7 fun v h => OpT.fieldAddr rfl rfl (okd rfl rfl) (D h rfl rfl rfl rfl) fd106_2 sz101 (by decide) sb106_2) rfl rfl ?_
                      refine DG.fr (d := 92) [88, 91] (DSr rfl rfl rfl rfl rfl hd7 fun v h => OpT.load rfl rfl (okd rfl rfl) (D h rfl rfl rfl rfl) ag101 rfl) rfl rfl ?_
                      refine DG.fr (d := 93) [7, 88] (DSr rfl rfl rfl rfl rfl hd7 fun v h => OpT.move (A := .cel _ _) (.inl rfl) rfl (okd rfl rfl) (D h rfl rfl rfl rfl) rfl) rfl rfl ?_
                      refine DG.fr (d := 94) [88, 92, 93] (DSr rfl rfl rfl rfl rfl hd7 fun v h => OpT.indexAddr rfl rfl (okd rfl rfl) (D h rfl rfl rfl rfl) (D h rfl rfl rfl rfl) el101 sz31 (by omega) (by assumption)) rfl rfl ?_
                      refine DG.fr (d := 95) [88, 94] (DSr rfl rfl rfl rfl rfl hd7 fun v h => OpT.load rfl rfl (okd rfl rfl) (D h rfl rfl rfl rfl) ag31 rfl) rfl rfl ?_
                      refine DG.fr (d := 96) [88, 95] (DSr rfl rfl rfl rfl rfl hd7 fun v h => OpT.conv rfl rfl (okd rfl rfl) us31 Try.underlying3 (D h rfl rfl rfl rfl) (nw (by omega))) rfl rfl ?_
                      refine DG.fr (d := 97) [1, 88] (DSr rfl rfl rfl rfl rfl hd7 fun v h => OpT.move (A := .cel _ _) (.inl rfl) rfl (okd rfl rfl) (D h rfl rfl rfl rfl) rfl) rfl rfl ?_
                      refine DG.fr (d := 98) [88, 96, 97] (DSr rfl rfl rfl rfl rfl hd7 fun v h => OpT.leq rfl rfl (okd rfl rfl) (D h rfl rfl rfl rfl) (D h rfl rfl rfl rfl)) rfl rfl ?_
                      refine DG.fr (d := 99) [88, 98] (DS rfl fun v h => OpT.pickF (A := .cel _ _) rfl rfl (okd rfl rfl) (D h rfl rfl rfl rfl) hd7 (D h rfl rfl rfl rfl) rfl) rfl rfl ?_
                      refine DG.fr (d := 100) [99] (DS rfl fun v h => OpT.move (A := .cel _ _) (.inl rfl) rfl (okd rfl rfl) (D h rfl rfl rfl rfl) rfl) rfl rfl ?_
                      refine DG.pas (d := 101) [100] (DSp rfl rfl rfl rfl rfl hd8 rfl (okd rfl rfl)) rfl rfl ?_
                      refine DG.pas (d := 102) [100] (DSp rfl rfl rfl rfl rfl hd8 rfl (okd rfl rfl)) rfl rfl ?_
                      refine DG.pas (d := 103) [100] (DSp rfl rfl rfl rfl rfl hd8 rfl (okd rfl rfl)) rfl rfl ?_
                      refine DG.pas (d := 104) [100] (DSp rfl rfl rfl rfl rfl hd8 rfl (okd rfl rfl)) rfl rfl ?_
                      refine DG.pas (d := 105) [100] (DSp rfl rfl rfl rfl rfl hd8 rfl (okd rfl rfl)) rfl rfl ?_
                      refine DG.pas (d := 106) [100] (DSp rfl rfl rfl rfl rfl hd8 rfl (okd rfl rfl)) rfl rfl ?_
                      refine DG.pas (d := 107) [100] (DSp rfl rfl rfl rfl rfl hd8 rfl (okd rfl rfl)) rfl rfl ?_
                      refine DG.pas (d := 108) [100] (DSp rfl rfl rfl rfl rfl hd8 rfl (okd rfl rfl)) rfl rfl ?_
                      refine DG.pas (d := 109) [100] (DSp rfl rfl rfl rfl rfl hd8 rfl (okd rfl rfl)) rfl rfl ?_
                      refine DG.pas (d := 110) [100] (DSp rfl rfl rfl rfl rfl hd8 rfl (okd rfl rfl)) rfl rfl ?_
                      refine DG.pas (d := 111) [100] (DSp rfl rfl rfl rfl rfl hd8 rfl (okd rfl rfl)) rfl rfl ?_
                      refine DG.fr (d := 112) [100] (DS rfl fun v h => OpT.pickT (A := .cel _ _) rfl rfl (okd rfl rfl) (D h rfl rfl rfl rfl) hd8 Opd.bool rfl) rfl rfl ?_
                      refine DG.nil ⟨by kernel_rfl, by kernel_rfl, ?_⟩
                      refine AX.go ?_
                      refine AW.cond (t := 112) rfl (by decide) (fun hc9 => ?_) (fun hc9 => ?_)
                      ·
                        try simp only [decide_eq_true_eq, decide_eq_false_iff_not, Bool.not_eq_true', Bool.not_eq_false'] at hc9
                        have hc9' := hc9; try simp only [decide_eq_true_eq, decide_eq_false_iff_not, beq_iff_eq, beq_eq_false_iff_ne, bne_iff_ne, bne_eq_false_iff_eq, ne_eq, Bool.not_eq_true', Bool.not_eq_false', Bool.and_eq_true, Bool.or_eq_true, Bool.or_eq_false_iff, Bool.and_eq_false_iff, Bool.not_true, Bool.not_false] at hc9'
                        refine AW.seq ?_
                        refine AW.region ?_
                        refine AWl.st rfl (OpT.move (A := .cel _ _) (.inr rfl) rfl (okd rfl rfl) Opd.bool rfl) rfl ?_
                        refine AWl.nil ?_
                        refine AX.go ?_
                        refine AW.ret ?_
                        refine AX.ret_then ?_
                        refine AX.ret_block ?_
                        refine AX.ret_then ?_
                        refine AX.ret_then ?_
                        refine AX.ret_block ?_
                        refine AX.ret_then ?_
                        exact AX.rt (rs := [.tmp 6]) (ts := [some 6]) (.inl rfl) rfl (ROs.cons (RO.tmp (At.self (by decide)) (Kv rfl (by first | exact ask_at (z := z) (mt (askI_iff hv hn hvp).1 (by omega)) (by omega) | exact ask_all (by unfold askH; omega) hI.2 (by omega) | exact ask_head (by unfold askH; omega))) rfl) <| ROs.nil) (by decide) (fun i => match i with | 0 => .inl rfl | 1 => .inl rfl | 2 => .inr ⟨rfl, Ko rfl (by first | rw [askN_at (z := z) (by unfold askH; omega) hI.2 (mt (askI_iff hv hn hvp).1 (by omega)) (by omega)] | rw [askN_all (by unfold askH; omega) hI.2 (by omega), List.take_of_length_le (by omega), List.take_of_length_le (by omega)] | rw [askN_head (by unfold askH; omega), List.take_zero, List.append_nil]), rfl, by decide⟩ | _ + 3 => .inl rfl)
                      ·
                        try simp only [decide_eq_true_eq, decide_eq_false_iff_not, Bool.not_eq_true', Bool.not_eq_false'] at hc9
                        have hc9' := hc9; try simp only [decide_eq_true_eq, decide_eq_false_iff_not, beq_iff_eq, beq_eq_false_iff_ne, bne_iff_ne, bne_eq_false_iff_eq, ne_eq, Bool.not_eq_true', Bool.not_eq_false', Bool.and_eq_true, Bool.or_eq_true, Bool.or_eq_false_iff, Bool.and_eq_false_iff, Bool.not_true, Bool.not_false] at hc9'
                        exact absurd hc9 (by decide)
                    ·
                      have hd8' := hd8; try simp only [decide_eq_true_eq, decide_eq_false_iff_not, beq_iff_eq, beq_eq_false_iff_ne, bne_iff_ne, bne_eq_false_iff_eq, ne_eq, Bool.not_eq_true', Bool.not_eq_false', Bool.and_eq_true, Bool.or_eq_true, Bool.or_eq_false_iff, Bool.and_eq_false_iff, Bool.not_true, Bool.not_false] at hd8'
                      refine AW.dg fomo ?_
                      refine DG.fr (d := 58) [0] (DS rfl fun v h => OpT.move (A := .cel _ _) (.inl rfl) rfl (okd rfl rfl) (D h rfl rfl rfl rfl) rfl) rfl rfl ?_
                      refine DG.fr (d := 59) [58] (DS rfl fun v h => OpT.nilCheck rfl rfl (okd rfl rfl) (D h rfl rfl rfl rfl)) rfl rfl ?_
                      refine DG.fr (d := 60) [59] (DS rfl fun v h => OpT.fieldAddr rfl rfl (okd rfl rfl) (D h rfl rfl rfl rfl) fd106_1 sz50 (by decide) sb106_1) rfl rfl ?_
                      refine DG.fr (d := 61) [60] (DS rfl fun v h => OpT.load rfl rfl (okd rfl rfl) (D h rfl rfl rfl rfl) ag50 rfl) rfl rfl ?_
                      refine DG.fr (d := 62) [7] (DS rfl fun v h => OpT.move (A := .cel _ _) (.inl rfl) rfl (okd rfl rfl) (D h rfl rfl rfl rfl) rfl) rfl rfl ?_
                      refine DG.fr (d := 63) [61, 62] (DS rfl fun v h => OpT.indexAddr rfl rfl (okd rfl rfl) (D h rfl rfl rfl rfl) (D h rfl rfl rfl rfl) el50 sz2 (by omega) (by assumption)) rfl rfl ?_
                      refine DG.fr (d := 64) [63] (DS rfl fun v h => OpT.load rfl rfl (okd rfl rfl) (D h rfl rfl rfl rfl) ag2 rfl) rfl rfl ?_
                      refine DG.fr (d := 65) [64] (DS rfl fun v h => OpT.lss rfl rfl (okd rfl rfl) (D h rfl rfl rfl rfl) (I rfl)) rfl rfl ?_
                      refine DG.fr (d := 66) [65] (DS rfl fun v h => OpT.move (A := .cel _ _) (.inl rfl) rfl (okd rfl rfl) (D h rfl rfl rfl rfl) rfl) rfl rfl ?_
                      refine DG.fr (d := 67) [7, 66] (DSr rfl rfl rfl rfl rfl hd5 fun v h => OpT.move (A := .cel _ _) (.inl rfl) rfl (okd rfl rfl) (D h rfl rfl rfl rfl) rfl) rfl rfl ?_
                      refine DG.fr (d := 68) [66, 67] (DSr rfl rfl rfl rfl rfl hd5 fun v h => OpT.gtr rfl rfl (okd rfl rfl) (D h rfl rfl rfl rfl) (I rfl)) rfl rfl ?_
                      refine DG.fr (d := 69) [66, 68] (DSr rfl rfl rfl rfl rfl hd5 fun v h => OpT.move (A := .cel _ _) (.inl rfl) rfl (okd rfl rfl) (D h rfl rfl rfl rfl) rfl) rfl rfl ?_
                      refine DG.fr (d := 70) [0, 69] (DSr rfl rfl rfl rfl rfl hd6 fun v h => OpT.move (A := .cel _ _) (.inl rfl) rfl (okd rfl rfl) (D h rfl rfl rfl rfl) rfl) rfl rfl ?_
                      refine DG.fr (d := 71) [69, 70] (DSr rfl rfl rfl rfl rfl hd6 fun v h => OpT.nilCheck rfl rfl (okd rfl rfl) (D h rfl rfl rfl rfl)) rfl rfl ?_
                      refine DG.fr (d := 72) [69, 71] (DSr rfl rfl rfl rfl rfl hd6 fun v h => OpT.fieldAddr rfl rfl (okd rfl rfl) (D h rfl rfl rfl rfl) fd106_1 sz50 (by decide) sb106_1) rfl rfl ?_
                      refine DG.fr (d := 73) [69, 72] (DSr rfl rfl rfl rfl rfl hd6 fun v h => OpT.load rfl rfl (okd rfl rfl) (D h rfl rfl rfl rfl) ag50 rfl) rfl rfl ?_
                      refine DG.fr (d := 74) [7, 69] (DSr rfl rfl rfl rfl rfl hd6 fun v h => OpT.move (A := .cel _ _) (.inl rfl) rfl (okd rfl rfl) (D h rfl rfl rfl rfl) rfl) rfl rfl ?_
                      refine DG.fr (d := 75) [69, 73, 74] (DSr rfl rfl rfl rfl rfl hd6 fun v h => OpT.indexAddr rfl rfl (okd rfl rfl) (D h rfl rfl rfl rfl) (D h rfl rfl rfl rfl) el50 sz2 (by omega) (by assumption)) rfl rfl ?_
                      refine DG.fr (d := 76) [69, 75] (DSr rfl rfl rfl rfl rfl hd6 fun v h => OpT.load rfl rfl (okd rfl rfl) (D h rfl rfl rfl rfl) ag2 rfl) rfl rfl ?_
                      refine DG.fr (d := 77) [0, 69] (DSr rfl rfl rfl rfl rfl hd6 fun v h => OpT.move (A := .cel _ _) (.inl rfl) rfl (okd rfl rfl) (D h rfl rfl rfl rfl) rfl) rfl rfl ?_
                      refine DG.fr (d := 78) [69, 77] (DSr rfl rfl rfl rfl rfl hd6 fun v h => OpT.nilCheck rfl rfl (okd rfl rfl) (D h rfl rfl rfl rfl)) rfl rfl ?_
                      refine DG.fr (d := 79) [69, 78] (DSr rfl rfl rfl rfl rfl hd6 fun v h => OpT.fieldAddr rfl rfl (okd rfl rfl) (D h rfl rfl rfl rfl) fd106_1 sz50 (by decide) sb106_1) rfl rfl ?_
                      refine DG.fr (d := 80) [69, 79] (DSr rfl rfl rfl rfl rfl hd6 fun v h => OpT.load rfl rfl (okd rfl rfl) (D h rfl rfl rfl rfl) ag50 rfl) rfl rfl ?_
                      refine DG.fr (d := 81) [7, 69] (DSr rfl rfl rfl rfl rfl hd6 fun v h => OpT.move (A := .cel _ _) (.inl rfl) rfl (okd rfl rfl) (D h rfl rfl rfl rfl) rfl) rfl rfl ?_
                      refine DG.fr (d := 82) [69, 81] (DSr rfl rfl rfl rfl rfl hd6 fun v h => OpT.sub rfl rfl (okd rfl rfl) (D h rfl rfl rfl rfl) (I rfl) (nw (by omega))) rfl rfl ?_
                      refine DG.fr (d := 83) [69, 80, 82] (DSr rfl rfl rfl rfl rfl hd6 fun v h => OpT.indexAddr rfl rfl (okd rfl rfl) (D h rfl rfl rfl rfl) (D h rfl rfl rfl rfl) el50 sz2 (by omega) (by assumption)) rfl rfl ?_
                      refine DG.fr (d := 84) [69, 83] (DSr rfl rfl rfl rfl rfl hd6 fun v h => OpT.load rfl rfl (okd rfl rfl) (D h rfl rfl rfl rfl) ag2 rfl) rfl rfl ?_
                      refine DG.fr (d := 85) [69, 76, 84] (DSr rfl rfl rfl rfl rfl hd6 fun v h => OpT.leq rfl rfl (okd rfl rfl) (D h rfl rfl rfl rfl) (D h rfl rfl rfl rfl)) rfl rfl ?_
                      refine DG.fr (d := 86) [66, 69, 85] (DSr rfl rfl rfl rfl rfl hd5 fun v h => OpT.pickT (A := .cel _ _) rfl rfl (okd rfl rfl) (D h rfl rfl rfl rfl) hd6 (D h rfl rfl rfl rfl) rfl) rfl rfl ?_
                      refine DG.fr (d := 87) [66, 86] (DS rfl fun v h => OpT.pickF (A := .cel _ _) rfl rfl (okd rfl rfl) (D h rfl rfl rfl rfl) hd5 (D h rfl rfl rfl rfl) rfl) rfl rfl ?_
                      refine DG.fr (d := 88) [87] (DS rfl fun v h => OpT.move (A := .cel _ _) (.inl rfl) rfl (okd rfl rfl) (D h rfl rfl rfl rfl) rfl) rfl rfl ?_
                      refine DG.fr (d := 89) [0, 88] (DSr rfl rfl rfl rfl rfl hd7 fun v h => OpT.move (A := .cel _ _) (.inl rfl) rfl (okd rfl rfl) (D h rfl rfl rfl rfl) rfl) rfl rfl ?_
                      refine DG.fr (d := 90) [88, 89] (DSr rfl rfl rfl rfl rfl hd7 fun v h => OpT.nilCheck rfl rfl (okd rfl rfl) (D h rfl rfl rfl rfl)) rfl rfl ?_
                      refine DG.fr (d := 91) [88, 90] (DSr rfl rfl rfl rfl rfl hd7 fun v h => OpT.fieldAddr rfl rfl (okd rfl rfl) (D h rfl rfl rfl rfl) fd106_2 sz101 (by decide) sb106_2) rfl rfl ?_
                      refine DG.fr (d := 92) [88, 91] (DSr rfl rfl rfl rfl rfl hd7 fun v h => OpT.load rfl rfl (okd rfl rfl) (D h rfl rfl rfl rfl) ag101 rfl) rfl rfl ?_
                      refine DG.fr (d := 93) [7, 88] (DSr rfl rfl rfl rfl rfl hd7 fun v h => OpT.move (A := .cel _ _) (.inl rfl) rfl (okd rfl rfl) (D h rfl rfl rfl rfl) rfl) rfl rfl ?_
                      refine DG.fr (d := 94) [88, 92, 93] (DSr rfl rfl rfl rfl rfl hd7 fun v h => OpT.indexAddr rfl rfl (okd rfl rfl) (D h rfl rfl rfl rfl) (D h rfl rfl rfl rfl) el101 sz31 (by omega) (by assumption)) rfl rfl ?_
                      refine DG.fr (d := 95) [88, 94] (DSr rfl rfl rfl rfl rfl hd7 fun v h => OpT.load rfl rfl (okd rfl rfl) (D h rfl rfl rfl rfl) ag31 rfl) rfl rfl ?_
                      refine DG.fr (d := 96) [88, 95] (DSr rfl rfl rfl rfl rfl hd7 fun v h => OpT.conv rfl rfl (okd rfl rfl) us31 Try.underlying3 (D h rfl rfl rfl rfl) (nw (by omega))) rfl rfl ?_
                      refine DG.fr (d := 97) [1, 88] (DSr rfl rfl rfl rfl rfl hd7 fun v h => OpT.move (A := .cel _ _) (.inl rfl) rfl (okd rfl rfl) (D h rfl rfl rfl rfl) rfl) rfl rfl ?_
                      refine DG.fr (d := 98) [88, 96, 97] (DSr rfl rfl rfl rfl rfl hd7 fun v h => OpT.leq rfl rfl (okd rfl rfl) (D h rfl rfl rfl rfl) (D h rfl rfl rfl rfl)) rfl rfl ?_
                      refine DG.fr (d := 99) [88, 98] (DS rfl fun v h => OpT.pickF (A := .cel _ _) rfl rfl (okd rfl rfl) (D h rfl rfl rfl rfl) hd7 (D h rfl rfl rfl rfl) rfl) rfl rfl ?_
                      refine DG.fr (d := 100) [99] (DS rfl fun v h => OpT.move (A := .cel _ _) (.inl rfl) rfl (okd rfl rfl) (D h rfl rfl rfl rfl) rfl) rfl rfl ?_
                      refine DG.fr (d := 101) [0, 100] (DSr rfl rfl rfl rfl rfl hd8 fun v h => OpT.move (A := .cel _ _) (.inl rfl) rfl (okd rfl rfl) (D h rfl rfl rfl rfl) rfl) rfl rfl ?_
                      refine DG.fr (d := 102) [100, 101] (DSr rfl rfl rfl rfl rfl hd8 fun v h => OpT.nilCheck rfl rfl (okd rfl rfl) (D h rfl rfl rfl rfl)) rfl rfl ?_
                      refine DG.fr (d := 103) [100, 102] (DSr rfl rfl rfl rfl rfl hd8 fun v h => OpT.fieldAddr rfl rfl (okd rfl rfl) (D h rfl rfl rfl rfl) fd106_2 sz101 (by decide) sb106_2) rfl rfl ?_
                      refine DG.fr (d := 104) [100, 103] (DSr rfl rfl rfl rfl rfl hd8 fun v h => OpT.load rfl rfl (okd rfl rfl) (D h rfl rfl rfl rfl) ag101 rfl) rfl rfl ?_
                      refine DG.fr (d := 105) [7, 100] (DSr rfl rfl rfl rfl rfl hd8 fun v h => OpT.move (A := .cel _ _) (.inl rfl) rfl (okd rfl rfl) (D h rfl rfl rfl rfl) rfl) rfl rfl ?_
                      refine DG.fr (d := 106) [100, 104, 105] (DSr rfl rfl rfl rfl rfl hd8 fun v h => OpT.indexAddr rfl rfl (okd rfl rfl) (D h rfl rfl rfl rfl) (D h rfl rfl rfl rfl) el101 sz31 (by omega) (by assumption)) rfl rfl ?_
                      refine DG.fr (d := 107) [100, 106] (DSr rfl rfl rfl rfl rfl hd8 fun v h => OpT.load rfl rfl (okd rfl rfl) (D h rfl rfl rfl rfl) ag31 rfl) rfl rfl ?_
                      refine DG.fr (d := 108) [100, 107] (DSr rfl rfl rfl rfl rfl hd8 fun v h => OpT.conv rfl rfl (okd rfl rfl) us31 Try.underlying3 (D h rfl rfl rfl rfl) (nw (by omega))) rfl rfl ?_
                      refine DG.fr (d := 109) [100] (DSr rfl rfl rfl rfl rfl hd8 fun v h => OpT.alias rfl rfl (okd rfl rfl) (by decide) (by decide)) rfl rfl ?_
                      refine DG.fr (d := 110) [2, 100, 109] (DSr rfl rfl rfl rfl rfl hd8 fun v h => OpT.lenO rfl rfl (okd rfl rfl) (Root.ali ((h _ (List.elem_iff.1 rfl)).trans rfl) (by decide) (by decide)) ((h _ (List.elem_iff.1 rfl)).trans rfl) el50) rfl rfl ?_
                      refine DG.fr (d := 111) [100, 108, 110] (DSr rfl rfl rfl rfl rfl hd8 fun v h => OpT.geq rfl rfl (okd rfl rfl) (D h rfl rfl rfl rfl) (D h rfl rfl rfl rfl)) rfl rfl ?_
                      refine DG.fr (d := 112) [100, 111] (DS rfl fun v h => OpT.pickF (A := .cel _ _) rfl rfl (okd rfl rfl) (D h rfl rfl rfl rfl) hd8 (D h rfl rfl rfl rfl) rfl) rfl rfl ?_
                      refine DG.nil ⟨by kernel_rfl, by kernel_rfl, ?_⟩
                      refine AX.go ?_
                      refine AW.cond (t := 112) rfl (by decide) (fun hc10 => ?_) (fun hc10 => ?_)
                      ·
                        try simp only [decide_eq_true_eq, decide_eq_false_iff_not, Bool.not_eq_true', Bool.not_eq_false'] at hc10
                        have hc10' := hc10; try simp only [decide_eq_true_eq, decide_eq_false_iff_not, beq_iff_eq, beq_eq_false_iff_ne, bne_iff_ne, bne_eq_false_iff_eq, ne_eq, Bool.not_eq_true', Bool.not_eq_false', Bool.and_eq_true, Bool.or_eq_true, Bool.or_eq_false_iff, Bool.and_eq_false_iff, Bool.not_true, Bool.not_false] at hc10'
                        simp only [cntL_len] at hc10'
                        refine AW.seq ?_
                        refine AW.region ?_
                        refine AWl.st rfl (OpT.move (A := .cel _ _) (.inr rfl) rfl (okd rfl rfl) Opd.bool rfl) rfl ?_
                        refine AWl.nil ?_
                        refine AX.go ?_
                        refine AW.ret ?_
                        refine AX.ret_then ?_
                        refine AX.ret_block ?_
                        refine AX.ret_then ?_
                        refine AX.ret_then ?_
                        refine AX.ret_block ?_
                        refine AX.ret_then ?_
                        exact AX.rt (rs := [.tmp 6]) (ts := [some 6]) (.inl rfl) rfl (ROs.cons (RO.tmp (At.self (by decide)) (Kv rfl (by first | exact ask_at (z := z) (mt (askI_iff hv hn hvp).1 (by omega)) (by omega) | exact ask_all (by unfold askH; omega) hI.2 (by omega) | exact ask_head (by unfold askH; omega))) rfl) <| ROs.nil) (by decide) (fun i => match i with | 0 => .inl rfl | 1 => .inl rfl | 2 => .inr ⟨rfl, Ko rfl (by first | rw [askN_at (z := z) (by unfold askH; omega) hI.2 (mt (askI_iff hv hn hvp).1 (by omega)) (by omega)] | rw [askN_all (by unfold askH; omega) hI.2 (by omega), List.take_of_length_le (by omega), List.take_of_length_le (by omega)] | rw [askN_head (by unfold askH; omega), List.take_zero, List.append_nil]), rfl, by decide⟩ | _ + 3 => .inl rfl)
                      ·
                        try simp only [decide_eq_true_eq, decide_eq_false_iff_not, Bool.not_eq_true', Bool.not_eq_false'] at hc10
                        have hc10' := hc10; try simp only [decide_eq_true_eq, decide_eq_false_iff_not, beq_iff_eq, beq_eq_false_iff_ne, bne_iff_ne, bne_eq_false_iff_eq, ne_eq, Bool.not_eq_true', Bool.not_eq_false', Bool.and_eq_true, Bool.or_eq_true, Bool.or_eq_false_iff, Bool.and_eq_false_iff, Bool.not_true, Bool.not_false] at hc10'
                        simp only [cntL_len] at hc10'
                        have hlen : (l ++ x.2.2.1.take z).length ≤ 1152921504606846976 := by (rw [List.length_append, List.length_take]; omega)
                        obtain ⟨cv, hcv, hcv1⟩ := cntL_in (b := b) (a := n) (n := m) (l := l ++ x.2.2.1.take z) (by omega) (by omega)
                        refine AW.skip ?_
                        refine AX.go ?_
                        refine AW.region ?_
                        refine AWl.st rfl (OpT.alias rfl rfl (okd rfl rfl) (by decide) (by decide)) rfl ?_
                        refine AWl.st rfl (OpT.move (A := .cel _ _) (.inl rfl) rfl (okd rfl rfl) (Tm rfl rfl rfl) rfl) rfl ?_
                        refine AWl.st rfl (OpT.nilCheck rfl rfl (okd rfl rfl) (Tm rfl rfl rfl)) rfl ?_
                        refine AWl.st rfl (OpT.fieldAddr rfl rfl (okd rfl rfl) (Tm rfl rfl rfl) fd106_2 sz101 (by decide) sb106_2) rfl ?_
                        refine AWl.st rfl (OpT.load rfl rfl (okd rfl rfl) (Tm rfl rfl rfl) ag101 rfl) rfl ?_
                        refine AWl.st rfl (OpT.move (A := .cel _ _) (.inl rfl) rfl (okd rfl rfl) (Tm rfl rfl rfl) rfl) rfl ?_
                        refine AWl.st rfl (OpT.indexAddr rfl rfl (okd rfl rfl) (Tm rfl rfl rfl) (Tm rfl rfl rfl) el101 sz31 (by omega) (by assumption)) rfl ?_
                        refine AWl.st rfl (OpT.load rfl rfl (okd rfl rfl) (Tm rfl rfl rfl) ag31 rfl) rfl ?_
                        refine AWl.st rfl (OpT.indexAddrO rfl rfl (okd rfl rfl) (Root.ali rfl (by decide) (by decide)) rfl (by decide) (Tm rfl rfl rfl) el50 sz2 (by omega) (by assumption)) rfl ?_
                        refine AWl.st rfl (OpT.loadP rfl rfl (okd rfl rfl) (Tm rfl rfl rfl) (.inr ⟨_, _, rfl, (by assumption)⟩) ag2 rfl) rfl ?_
                        refine AWl.st rfl (OpT.add rfl rfl (okd rfl rfl) (Tm rfl rfl rfl) (I rfl) (nw (by omega))) rfl ?_
                        refine AWl.st rfl (OpT.indexAddrO rfl rfl (okd rfl rfl) (Root.ali rfl (by decide) (by decide)) rfl (by decide) (Tm rfl rfl rfl) el50 sz2 (by omega) (by assumption)) rfl ?_
                        refine AWl.sg rfl (OpT.storeO rfl rfl (Tm rfl rfl rfl) rfl (by assumption) sz2 rfl (Tm rfl rfl rfl)) (Kc 124 (.pel _ _ _ _ _ _ _) rfl <| Kc 123 (.cel _ _) rfl <| Kc 122 (.cel _ _) rfl <| Kc 121 (.pel _ _ _ _ _ _ _) rfl <| Kc 120 (.cel _ _) rfl <| Kc 119 (.cel _ _) rfl <| Kc 118 (.cel _ _) rfl <| Kc 117 (.cel _ _) rfl <| Kc 116 (.cel _ _) rfl <| Kc 115 (.cel _ _) rfl <| Kc 114 (.cel _ _) rfl <| Kc 113 (.ali _) rfl <| Kc 112 (.cel _ _) rfl <| Kc 111 (.cel _ _) rfl <| Kc 110 (.cel _ _) rfl <| Kc 109 (.ali _) rfl <| Kc 108 (.cel _ _) rfl <| Kc 107 (.cel _ _) rfl <| Kc 106 (.cel _ _) rfl <| Kc 105 (.cel _ _) rfl <| Kc 104 (.cel _ _) rfl <| Kc 103 (.cel _ _) rfl <| Kc 102 (.cel _ _) rfl <| Kc 101 (.cel _ _) rfl <| Kc 100 (.cel _ _) rfl <| Kc 99 (.cel _ _) rfl <| Kc 98 (.cel _ _) rfl <| Kc 97 (.cel _ _) rfl <| Kc 96 (.cel _ _) rfl <| Kc 95 (.cel _ _) rfl <| Kc 94 (.cel _ _) rfl <| Kc 93 (.cel _ _) rfl <| Kc 92 (.cel _ _) rfl <| Kc 91 (.cel _ _) rfl <| Kc 90 (.cel _ _) rfl <| Kc 89 (.cel _ _) rfl <| Kc 88 (.cel _ _) rfl <| Kc 87 (.cel _ _) rfl <| Kc 86 (.cel _ _) rfl <| Kc 85 (.cel _ _) rfl <| Kc 84 (.cel _ _) rfl <| Kc 83 (.cel _ _) rfl <| Kc 82 (.cel _ _) rfl <| Kc 81 (.cel _ _) rfl <| Kc 80 (.cel _ _) rfl <| Kc 79 (.cel _ _) rfl <| Kc 78 (.cel _ _) rfl <| Kc 77 (.cel _ _) rfl <| Kc 76 (.cel _ _) rfl <| Kc 75 (.cel _ _) rfl <| Kc 74 (.cel _ _) rfl <| Kc 73 (.cel _ _) rfl <| Kc 72 (.cel _ _) rfl <| Kc 71 (.cel _ _) rfl <| Kc 70 (.cel _ _) rfl <| Kc 69 (.cel _ _) rfl <| Kc 68 (.cel _ _) rfl <| Kc 67 (.cel _ _) rfl <| Kc 66 (.cel _ _) rfl <| Kc 65 (.cel _ _) rfl <| Kc 64 (.cel _ _) rfl <| Kc 63 (.cel _ _) rfl <| Kc 62 (.cel _ _) rfl <| Kc 61 (.cel _ _) rfl <| Kc 60 (.cel _ _) rfl <| Kc 59 (.cel _ _) rfl <| Kc 58 (.cel _ _) rfl <| Kc 55 (.cel _ _) rfl <| Kc 54 (.cel _ _) rfl <| Kc 53 (.cel _ _) rfl <| Kc 52 (.cel _ _) rfl <| Kc 51 (.cel _ _) rfl <| Kc 50 (.cel _ _) rfl <| Kc 49 (.cel _ _) rfl <| Kc 0 (.cel _ _) rfl <| Kc 1 (.cel _ _) rfl <| Kc 2 (.own _ _ _) rfl <| Kc 7 (.cel _ _) rfl <| Kn) ?_
                        refine AWl.nil ?_
                        refine AX.normal_block ?_
                        refine AX.go ?_
                        refine AW.region ?_
                        refine AWl.st rfl (OpT.move (A := .cel _ _) (.inl rfl) rfl (okd rfl rfl) (Tm rfl rfl rfl) rfl) rfl ?_
                        refine AWl.st rfl (OpT.add rfl rfl (okd rfl rfl) (Tm rfl rfl rfl) (I rfl) (nw (by omega))) rfl ?_
                        refine AWl.sg rfl (OpT.move (A := .cel _ _) (.inr rfl) rfl (okd rfl rfl) (Tm rfl rfl rfl) rfl) (Kc 7 (.cel _ _) rfl <| Kc 57 (.cel _ _) rfl <| Kc 56 (.cel _ _) rfl <| Kc 124 (.pel _ _ _ _ _ _ _) rfl <| Kc 123 (.cel _ _) rfl <| Kc 122 (.cel _ _) rfl <| Kc 121 (.pel _ _ _ _ _ _ _) rfl <| Kc 120 (.cel _ _) rfl <| Kc 119 (.cel _ _) rfl <| Kc 118 (.cel _ _) rfl <| Kc 117 (.cel _ _) rfl <| Kc 116 (.cel _ _) rfl <| Kc 115 (.cel _ _) rfl <| Kc 114 (.cel _ _) rfl <| Kc 113 (.ali _) rfl <| Kc 112 (.cel _ _) rfl <| Kc 111 (.cel _ _) rfl <| Kc 110 (.cel _ _) rfl <| Kc 109 (.ali _) rfl <| Kc 108 (.cel _ _) rfl <| Kc 107 (.cel _ _) rfl <| Kc 106 (.cel _ _) rfl <| Kc 105 (.cel _ _) rfl <| Kc 104 (.cel _ _) rfl <| Kc 103 (.cel _ _) rfl <| Kc 102 (.cel _ _) rfl <| Kc 101 (.cel _ _) rfl <| Kc 100 (.cel _ _) rfl <| Kc 99 (.cel _ _) rfl <| Kc 98 (.cel _ _) rfl <| Kc 97 (.cel _ _) rfl <| Kc 96 (.cel _ _) rfl <| Kc 95 (.cel _ _) rfl <| Kc 94 (.cel _ _) rfl <| Kc 93 (.cel _ _) rfl <| Kc 92 (.cel _ _) rfl <| Kc 91 (.cel _ _) rfl <| Kc 90 (.cel _ _) rfl <| Kc 89 (.cel _ _) rfl <| Kc 88 (.cel _ _) rfl <| Kc 87 (.cel _ _) rfl <| Kc 86 (.cel _ _) rfl <| Kc 85 (.cel _ _) rfl <| Kc 84 (.cel _ _) rfl <| Kc 83 (.cel _ _) rfl <| Kc 82 (.cel _ _) rfl <| Kc 81 (.cel _ _) rfl <| Kc 80 (.cel _ _) rfl <| Kc 79 (.cel _ _) rfl <| Kc 78 (.cel _ _) rfl <| Kc 77 (.cel _ _) rfl <| Kc 76 (.cel _ _) rfl <| Kc 75 (.cel _ _) rfl <| Kc 74 (.cel _ _) rfl <| Kc 73 (.cel _ _) rfl <| Kc 72 (.cel _ _) rfl <| Kc 71 (.cel _ _) rfl <| Kc 70 (.cel _ _) rfl <| Kc 69 (.cel _ _) rfl <| Kc 68 (.cel _ _) rfl <| Kc 67 (.cel _ _) rfl <| Kc 66 (.cel _ _) rfl <| Kc 65 (.cel _ _) rfl <| Kc 64 (.cel _ _) rfl <| Kc 63 (.cel _ _) rfl <| Kc 62 (.cel _ _) rfl <| Kc 61 (.cel _ _) rfl <| Kc 60 (.cel _ _) rfl <| Kc 59 (.cel _ _) rfl <| Kc 58 (.cel _ _) rfl <| Kc 55 (.cel _ _) rfl <| Kc 54 (.cel _ _) rfl <| Kc 53 (.cel _ _) rfl <| Kc 52 (.cel _ _) rfl <| Kc 51 (.cel _ _) rfl <| Kc 50 (.cel _ _) rfl <| Kc 49 (.cel _ _) rfl <| Kc 0 (.cel _ _) rfl <| Kc 1 (.cel _ _) rfl <| Kc 2 (.own _ _ _) rfl <| Kn) ?_
                        refine AWl.nil ?_
                        exact AX.again (z + 1) ⟨by omega, all_step hI.2 ((askI_iff hv hn hvp).2 (by omega))⟩ (by omega) (Kc 0 _ (Kv rfl rfl) <| Kc 1 _ (Kv rfl rfl) <| Kc 2 _ (Ko rfl (cnt_next hn (by omega) hcv)) <| Kc 7 _ (Kv rfl (by omega)) <| Kn)
                ·
                  have hd6' := hd6; try simp only [decide_eq_true_eq, decide_eq_false_iff_not, beq_iff_eq, beq_eq_false_iff_ne, bne_iff_ne, bne_eq_false_iff_eq, ne_eq, Bool.not_eq_true', Bool.not_eq_false', Bool.and_eq_true, Bool.or_eq_true, Bool.or_eq_false_iff, Bool.and_eq_false_iff, Bool.not_true, Bool.not_false] at hd6'
                  rcases Bool.eq_false_or_eq_true (decide (n ≤ p)) with hd9 | hd9
                  ·
                    have hd9' := hd9; try simp only [decide_eq_true_eq, decide_eq_false_iff_not, beq_iff_eq, beq_eq_false_iff_ne, bne_iff_ne, bne_eq_false_iff_eq, ne_eq, Bool.not_eq_true', Bool.not_eq_false', Bool.and_eq_true, Bool.or_eq_true, Bool.or_eq_false_iff, Bool.and_eq_false_iff, Bool.not_true, Bool.not_false] at hd9'
                    refine AW.dg fomo ?_
                    refine DG.fr (d := 58) [0] (DS rfl fun v h => OpT.move (A := .cel _ _) (.inl rfl) rfl (okd rfl rfl) (D h rfl rfl rfl rfl) rfl) rfl rfl ?_
                    refine DG.fr (d := 59) [58] (DS rfl fun v h => OpT.nilCheck rfl rfl (okd rfl rfl) (D h rfl rfl rfl rfl)) rfl rfl ?_
                    refine DG.fr (d := 60) [59] (DS rfl fun v h => OpT.fieldAddr rfl rfl (okd rfl rfl) (D h rfl rfl rfl rfl) fd106_1 sz50 (by decide) sb106_1) rfl rfl ?_
                    refine DG.fr (d := 61) [60] (DS rfl fun v h => OpT.load rfl rfl (okd rfl rfl) (D h rfl rfl rfl rfl) ag50 rfl) rfl rfl ?_
                    refine DG.fr (d := 62) [7] (DS rfl fun v h => OpT.move (A := .cel _ _) (.inl rfl) rfl (okd rfl rfl) (D h rfl rfl rfl rfl) rfl) rfl rfl ?_
                    refine DG.fr (d := 63) [61, 62] (DS rfl fun v h => OpT.indexAddr rfl rfl (okd rfl rfl) (D h rfl rfl rfl rfl) (D h rfl rfl rfl rfl) el50 sz2 (by omega) (by assumption)) rfl rfl ?_
                    refine DG.fr (d := 64) [63] (DS rfl fun v h => OpT.load rfl rfl (okd rfl rfl) (D h rfl rfl rfl rfl) ag2 rfl) rfl rfl ?_
                    refine DG.fr (d := 65) [64] (DS rfl fun v h => OpT.lss rfl rfl (okd rfl rfl) (D h rfl rfl rfl rfl) (I rfl)) rfl rfl ?_
                    refine DG.fr (d := 66) [65] (DS rfl fun v h => OpT.move (A := .cel _ _) (.inl rfl) rfl (okd rfl rfl) (D h rfl rfl rfl rfl) rfl) rfl rfl ?_
                    refine DG.fr (d := 67) [7, 66] (DSr rfl rfl rfl rfl rfl hd5 fun v h => OpT.move (A := .cel _ _) (.inl rfl) rfl (okd rfl rfl) (D h rfl rfl rfl rfl) rfl) rfl rfl ?_
                    refine DG.fr (d := 68) [66, 67] (DSr rfl rfl rfl rfl rfl hd5 fun v h => OpT.gtr rfl rfl (okd rfl rfl) (D h rfl rfl rfl rfl) (I rfl)) rfl rfl ?_
                    refine DG.fr (d := 69) [66, 68] (DSr rfl rfl rfl rfl rfl hd5 fun v h => OpT.move (A := .cel _ _) (.inl rfl) rfl (okd rfl rfl) (D h rfl rfl rfl rfl) rfl) rfl rfl ?_
                    refine DG.pas (d := 70) [69] (DSp rfl rfl rfl rfl rfl hd6 rfl (okd rfl rfl)) rfl rfl ?_
                    refine DG.pas (d := 71) [69] (DSp rfl rfl rfl rfl rfl hd6 rfl (okd rfl rfl)) rfl rfl ?_
                    refine DG.pas (d := 72) [69] (DSp rfl rfl rfl rfl rfl hd6 rfl (okd rfl rfl)) rfl rfl ?_
                    refine DG.pas (d := 73) [69] (DSp rfl rfl rfl rfl rfl hd6 rfl (okd rfl rfl)) rfl rfl ?_
                    refine DG.pas (d := 74) [69] (DSp rfl rfl rfl rfl rfl hd6 rfl (okd rfl rfl)) rfl rfl ?_
                    refine DG.pas (d := 75) [69] (DSp rfl rfl rfl rfl rfl hd6 rfl (okd rfl rfl)) rfl rfl ?_
                    refine DG.pas (d := 76) [69] (DSp rfl rfl rfl rfl rfl hd6 rfl (okd rfl rfl)) rfl rfl ?_
                    refine DG.pas (d := 77) [69] (DSp rfl rfl rfl rfl rfl hd6 rfl (okd rfl rfl)) rfl rfl ?_
                    refine DG.pas (d := 78) [69] (DSp rfl rfl rfl rfl rfl hd6 rfl (okd rfl rfl)) rfl rfl ?_
                    refine DG.pas (d := 79) [69] (DSp rfl rfl rfl rfl rfl hd6 rfl (okd rfl rfl)) rfl rfl ?_
                    refine DG.pas (d := 80) [69] (DSp rfl rfl rfl rfl rfl hd6 rfl (okd rfl rfl)) rfl rfl ?_
                    refine DG.pas (d := 81) [69] (DSp rfl rfl rfl rfl rfl hd6 rfl (okd rfl rfl)) rfl rfl ?_
                    refine DG.pas (d := 82) [69] (DSp rfl rfl rfl rfl rfl hd6 rfl (okd rfl rfl)) rfl rfl ?_
                    refine DG.pas (d := 83) [69] (DSp rfl rfl rfl rfl rfl hd6 rfl (okd rfl rfl)) rfl rfl ?_
                    refine DG.pas (d := 84) [69] (DSp rfl rfl rfl rfl rfl hd6 rfl (okd rfl rfl)) rfl rfl ?_
                    refine DG.pas (d := 85) [69] (DSp rfl rfl rfl rfl rfl hd6 rfl (okd rfl rfl)) rfl rfl ?_
                    refine DG.fr (d := 86) [66, 69] (DSr rfl rfl rfl rfl rfl hd5 fun v h => OpT.pickF (A := .cel _ _) rfl rfl (okd rfl rfl) (D h rfl rfl rfl rfl) hd6 Opd.bool rfl) rfl rfl ?_
                    refine DG.fr (d := 87) [66, 86] (DS rfl fun v h => OpT.pickF (A := .cel _ _) rfl rfl (okd rfl rfl) (D h rfl rfl rfl rfl) hd5 (D h rfl rfl rfl rfl) rfl) rfl rfl ?_
                    refine DG.fr (d := 88) [87] (DS rfl fun v h => OpT.move (A := .cel _ _) (.inl rfl) rfl (okd rfl rfl) (D h rfl rfl rfl rfl) rfl) rfl rfl ?_
                    refine DG.fr (d := 89) [0, 88] (DSr rfl rfl rfl rfl rfl rfl fun v h => OpT.move (A := .cel _ _) (.inl rfl) rfl (okd rfl rfl) (D h rfl rfl rfl rfl) rfl) rfl rfl ?_
                    refine DG.fr (d := 90) [88, 89] (DSr rfl rfl rfl rfl rfl rfl fun v h => OpT.nilCheck rfl rfl (okd rfl rfl) (D h rfl rfl rfl rfl)) rfl rfl ?_
                    refine DG.fr (d := 91) [88, 90] (DSr rfl rfl rfl rfl rfl rfl fun v h => OpT.fieldAddr rfl rfl (okd rfl rfl) (D h rfl rfl rfl rfl) fd106_2 sz101 (by decide) sb106_2) rfl rfl ?_
                    refine DG.fr (d := 92) [88, 91] (DSr rfl rfl rfl rfl rfl rfl fun v h => OpT.load rfl rfl (okd rfl rfl) (D h rfl rfl rfl rfl) ag101 rfl) rfl rfl ?_
                    refine DG.fr (d := 93) [7, 88] (DSr rfl rfl rfl rfl rfl rfl fun v h => OpT.move (A := .cel _ _) (.inl rfl) rfl (okd rfl rfl) (D h rfl rfl rfl rfl) rfl) rfl rfl ?_
                    refine DG.fr (d := 94) [88, 92, 93] (DSr rfl rfl rfl rfl rfl rfl fun v h => OpT.indexAddr rfl rfl (okd rfl rfl) (D h rfl rfl rfl rfl) (D h rfl rfl rfl rfl) el101 sz31 (by omega) (by assumption)) rfl rfl ?_
                    refine DG.fr (d := 95) [88, 94] (DSr rfl rfl rfl rfl rfl rfl fun v h => OpT.load rfl rfl (okd rfl rfl) (D h rfl rfl rfl rfl) ag31 rfl) rfl rfl ?_
                    refine DG.fr (d := 96) [88, 95] (DSr rfl rfl rfl rfl rfl rfl fun v h => OpT.conv rfl rfl (okd rfl rfl) us31 Try.underlying3 (D h rfl rfl rfl rfl) (nw (by omega))) rfl rfl ?_
                    refine DG.fr (d := 97) [1, 88] (DSr rfl rfl rfl rfl rfl rfl fun v h => OpT.move (A := .cel _ _) (.inl rfl) rfl (okd rfl rfl) (D h rfl rfl rfl rfl) rfl) rfl rfl ?_
                    refine DG.fr (d := 98) [88, 96, 97] (DSr rfl rfl rfl rfl rfl rfl fun v h => OpT.leq rfl rfl (okd rfl rfl) (D h rfl rfl rfl rfl) (D h rfl rfl rfl rfl)) rfl rfl ?_
                    refine DG.fr (d := 99) [88, 98] (DS rfl fun v h => OpT.pickF (A := .cel _ _) rfl rfl (okd rfl rfl) (D h rfl rfl rfl rfl) rfl (D h rfl rfl rfl rfl) rfl) rfl rfl ?_
                    refine DG.fr (d := 100) [99] (DS rfl fun v h => OpT.move (A := .cel _ _) (.inl rfl) rfl (okd rfl rfl) (D h rfl rfl rfl rfl) rfl) rfl rfl ?_
                    refine DG.pas (d := 101) [100] (DSp rfl rfl rfl rfl rfl hd9 rfl (okd rfl rfl)) rfl rfl ?_
                    refine DG.pas (d := 102) [100] (DSp rfl rfl rfl rfl rfl hd9 rfl (okd rfl rfl)) rfl rfl ?_
                    refine DG.pas (d := 103) [100] (DSp rfl rfl rfl rfl rfl hd9 rfl (okd rfl rfl)) rfl rfl ?_
                    refine DG.pas (d := 104) [100] (DSp rfl rfl rfl rfl rfl hd9 rfl (okd rfl rfl)) rfl rfl ?_
                    refine DG.pas (d := 105) [100] (DSp rfl rfl rfl rfl rfl hd9 rfl (okd rfl rfl)) rfl rfl ?_
                    refine DG.pas (d := 106) [100] (DSp rfl rfl rfl rfl rfl hd9 rfl (okd rfl rfl)) rfl rfl ?_
                    refine DG.pas (d := 107) [100] (DSp rfl rfl rfl rfl rfl hd9 rfl (okd rfl rfl)) rfl rfl ?_
                    refine DG.pas (d := 108) [100] (DSp rfl rfl rfl rfl rfl hd9 rfl (okd rfl rfl)) rfl rfl ?_
                    refine DG.pas (d := 109) [100] (DSp rfl rfl rfl rfl rfl hd9 rfl (okd rfl rfl)) rfl rfl ?_
                    refine DG.pas (d := 110) [100] (DSp rfl rfl rfl rfl rfl hd9 rfl (okd rfl rfl)) rfl rfl ?_
                    refine DG.pas (d := 111) [100] (DSp rfl rfl rfl rfl rfl hd9 rfl (okd rfl rfl)) rfl rfl ?_
                    refine DG.fr (d := 112) [100] (DS rfl fun v h => OpT.pickT (A := .cel _ _) rfl rfl (okd rfl rfl) (D h rfl rfl rfl rfl) hd9 Opd.bool rfl) rfl rfl ?_
                    refine DG.nil ⟨by kernel_rfl, by kernel_rfl, ?_⟩
                    refine AX.go ?_
                    refine AW.cond (t := 112) rfl (by decide) (fun hc11 => ?_) (fun hc11 => ?_)
                    ·
                      try simp only [decide_eq_true_eq, decide_eq_false_iff_not, Bool.not_eq_true', Bool.not_eq_false'] at hc11
                      have hc11' := hc11; try simp only [decide_eq_true_eq, decide_eq_false_iff_not, beq_iff_eq, beq_eq_false_iff_ne, bne_iff_ne, bne_eq_false_iff_eq, ne_eq, Bool.not_eq_true', Bool.not_eq_false', Bool.and_eq_true, Bool.or_eq_true, Bool.or_eq_false_iff, Bool.and_eq_false_iff, Bool.not_true, Bool.not_false] at hc11'
                      refine AW.seq ?_
                      refine AW.region ?_
                      refine AWl.st rfl (OpT.move (A := .cel _ _) (.inr rfl) rfl (okd rfl rfl) Opd.bool rfl) rfl ?_
                      refine AWl.nil ?_
                      refine AX.go ?_
                      refine AW.ret ?_
                      refine AX.ret_then ?_
                      refine AX.ret_block ?_
                      refine AX.ret_then ?_
                      refine AX.ret_then ?_
                      refine AX.ret_block ?_
                      refine AX.ret_then ?_
                      exact AX.rt (rs := [.tmp 6]) (ts := [some 6]) (.inl rfl) rfl (ROs.cons (RO.tmp (At.self (by decide)) (Kv rfl (by first | exact ask_at (z := z) (mt (askI_iff hv hn hvp).1 (by omega)) (by omega) | exact ask_all (by unfold askH; omega) hI.2 (by omega) | exact ask_head (by unfold askH; omega))) rfl) <| ROs.nil) (by decide) (fun i => match i with | 0 => .inl rfl | 1 => .inl rfl | 2 => .inr ⟨rfl, Ko rfl (by first | rw [askN_at (z := z) (by unfold askH; omega) hI.2 (mt (askI_iff hv hn hvp).1 (by omega)) (by omega)] | rw [askN_all (by unfold askH; omega) hI.2 (by omega), List.take_of_length_le (by omega), List.take_of_length_le (by omega)] | rw [askN_head (by unfold askH; omega), List.take_zero, List.append_nil]), rfl, by decide⟩ | _ + 3 => .inl rfl)
                    ·
                      try simp only [decide_eq_true_eq, decide_eq_false_iff_not, Bool.not_eq_true', Bool.not_eq_false'] at hc11
                      have hc11' := hc11; try simp only [decide_eq_true_eq, decide_eq_false_iff_not, beq_iff_eq, beq_eq_false_iff_ne, bne_iff_ne, bne_eq_false_iff_eq, ne_eq, Bool.not_eq_true', Bool.not_eq_false', Bool.and_eq_true, Bool.or_eq_true, Bool.or_eq_false_iff, Bool.and_eq_false_iff, Bool.not_true, Bool.not_false] at hc11'
                      exact absurd hc11 (by decide)
                  ·
                    have hd9' := hd9; try simp only [decide_eq_true_eq, decide_eq_false_iff_not, beq_iff_eq, beq_eq_false_iff_ne, bne_iff_ne, bne_eq_false_iff_eq, ne_eq, Bool.not_eq_true', Bool.not_eq_false', Bool.and_eq_true, Bool.or_eq_true, Bool.or_eq_false_iff, Bool.and_eq_false_iff, Bool.not_true, Bool.not_false] at hd9'
                    refine AW.dg fomo ?_
                    refine DG.fr (d := 58) [0] (DS rfl fun v h => OpT.move (A := .cel _ _) (.inl rfl) rfl (okd rfl rfl) (D h rfl rfl rfl rfl) rfl) rfl rfl ?_
                    refine DG.fr (d := 59) [58] (DS rfl fun v h => OpT.nilCheck rfl rfl (okd rfl rfl) (D h rfl rfl rfl rfl)) rfl rfl ?_
                    refine DG.fr (d := 60) [59] (DS rfl fun v h => OpT.fieldAddr rfl rfl (okd rfl rfl) (D h rfl rfl rfl rfl) fd106_1 sz50 (by decide) sb106_1) rfl rfl ?_
                    refine DG.fr (d := 61) [60] (DS rfl fun v h => OpT.load rfl rfl (okd rfl rfl) (D h rfl rfl rfl rfl) ag50 rfl) rfl rfl ?_
                    refine DG.fr (d := 62) [7] (DS rfl fun v h => OpT.move (A := .cel _ _) (.inl rfl) rfl (okd rfl rfl) (D h rfl rfl rfl rfl) rfl) rfl rfl ?_
                    refine DG.fr (d := 63) [61, 62] (DS rfl fun v h => OpT.indexAddr rfl rfl (okd rfl rfl) (D h rfl rfl rfl rfl) (D h rfl rfl rfl rfl) el50 sz2 (by omega) (by assumption)) rfl rfl ?_
                    refine DG.fr (d := 64) [63] (DS rfl fun v h => OpT.load rfl rfl (okd rfl rfl) (D h rfl rfl rfl rfl) ag2 rfl) rfl rfl ?_
                    refine DG.fr (d := 65) [64] (DS rfl fun v h => OpT.lss rfl rfl (okd rfl rfl) (D h rfl rfl rfl rfl) (I rfl)) rfl rfl ?_
                    refine DG.fr (d := 66) [65] (DS rfl fun v h => OpT.move (A := .cel _ _) (.inl rfl) rfl (okd rfl rfl) (D h rfl rfl rfl rfl) rfl) rfl rfl ?_
                    refine DG.fr (d := 67) [7, 66] (DSr rfl rfl rfl rfl rfl hd5 fun v h => OpT.move (A := .cel _ _) (.inl rfl) rfl (okd rfl rfl) (D h rfl rfl rfl rfl) rfl) rfl rfl ?_
                    refine DG.fr (d := 68) [66, 67] (DSr rfl rfl rfl rfl rfl hd5 fun v h => OpT.gtr rfl rfl (okd rfl rfl) (D h rfl rfl rfl rfl) (I rfl)) rfl rfl ?_
                    refine DG.fr (d := 69) [66, 68] (DSr rfl rfl rfl rfl rfl hd5 fun v h => OpT.move (A := .cel _ _) (.inl rfl) rfl (okd rfl rfl) (D h rfl rfl rfl rfl) rfl) rfl rfl ?_
                    refine DG.pas (d := 70) [69] (DSp rfl rfl rfl rfl rfl hd6 rfl (okd rfl rfl)) rfl rfl ?_
                    refine DG.pas (d := 71) [69] (DSp rfl rfl rfl rfl rfl hd6 rfl (okd rfl rfl)) rfl rfl ?_
                    refine DG.pas (d := 72) [69] (DSp rfl rfl rfl rfl rfl hd6 rfl (okd rfl rfl)) rfl rfl ?_
                    refine DG.pas (d := 73) [69] (DSp rfl rfl rfl rfl rfl hd6 rfl (okd rfl rfl)) rfl rfl ?_
                    refine DG.pas (d := 74) [69] (DSp rfl rfl rfl rfl rfl hd6 rfl (okd rfl rfl)) rfl rfl ?_
                    refine DG.pas (d := 75) [69] (DSp rfl rfl rfl rfl rfl hd6 rfl (okd rfl rfl)) rfl rfl ?_
                    refine DG.pas (d := 76) [69] (DSp rfl rfl rfl rfl rfl hd6 rfl (okd rfl rfl)) rfl rfl ?_
                    refine DG.pas (d := 77) [69] (DSp rfl rfl rfl rfl rfl hd6 rfl (okd rfl rfl)) rfl rfl ?_
                    refine DG.pas (d := 78) [69] (DSp rfl rfl rfl rfl rfl hd6 rfl (okd rfl rfl)) rfl rfl ?_
                    refine DG.pas (d := 79) [69] (DSp rfl rfl rfl rfl rfl hd6 rfl (okd rfl rfl)) rfl rfl ?_
                    refine DG.pas (d := 80) [69] (DSp rfl rfl rfl rfl rfl hd6 rfl (okd rfl rfl)) rfl rfl ?_
                    refine DG.pas (d := 81) [69] (DSp rfl rfl rfl rfl rfl hd6 rfl (okd rfl rfl)) rfl rfl ?_
                    refine DG.pas (d := 82) [69] (DSp rfl rfl rfl rfl rfl hd6 rfl (okd rfl rfl)) rfl rfl ?_
                    refine DG.pas (d := 83) [69] (DSp rfl rfl rfl rfl rfl hd6 rfl (okd rfl rfl)) rfl rfl ?_
                    refine DG.pas (d := 84) [69] (DSp rfl rfl rfl rfl rfl hd6 rfl (okd rfl rfl)) rfl rfl ?_
                    refine DG.pas (d := 85) [69] (DSp rfl rfl rfl rfl rfl hd6 rfl (okd rfl rfl)) rfl rfl ?_
                    refine DG.fr (d := 86) [66, 69] (DSr rfl rfl rfl rfl rfl hd5 fun v h => OpT.pickF (A := .cel _ _) rfl rfl (okd rfl rfl) (D h rfl rfl rfl rfl) hd6 Opd.bool rfl) rfl rfl ?_
                    refine DG.fr (d := 87) [66, 86] (DS rfl fun v h => OpT.pickF (A := .cel _ _) rfl rfl (okd rfl rfl) (D h rfl rfl rfl rfl) hd5 (D h rfl rfl rfl rfl) rfl) rfl rfl ?_
                    refine DG.fr (d := 88) [87] (DS rfl fun v h => OpT.move (A := .cel _ _) (.inl rfl) rfl (okd rfl rfl) (D h rfl rfl rfl rfl) rfl) rfl rfl ?_
                    refine DG.fr (d := 89) [0, 88] (DSr rfl rfl rfl rfl rfl rfl fun v h => OpT.move (A := .cel _ _) (.inl rfl) rfl (okd rfl rfl) (D h rfl rfl rfl rfl) rfl) rfl rfl ?_
                    refine DG.fr (d := 90) [88, 89] (DSr rfl rfl rfl rfl rfl rfl fun v h => OpT.nilCheck rfl rfl (okd rfl rfl) (D h rfl rfl rfl rfl)) rfl rfl ?_
                    refine DG.fr (d := 91) [88, 90] (DSr rfl rfl rfl rfl rfl rfl fun v h => OpT.fieldAddr rfl rfl (okd rfl rfl) (D h rfl rfl rfl rfl) fd106_2 sz101 (by decide) sb106_2) rfl rfl ?_
                    refine DG.fr (d := 92) [88, 91] (DSr rfl rfl rfl rfl rfl rfl fun v h => OpT.load rfl rfl (okd rfl rfl) (D h rfl rfl rfl rfl) ag101 rfl) rfl rfl ?_
                    refine DG.fr (d := 93) [7, 88] (DSr rfl rfl rfl rfl rfl rfl fun v h => OpT.move (A := .cel _ _) (.inl rfl) rfl (okd rfl rfl) (D h rfl rfl rfl rfl) rfl) rfl rfl ?_
                    refine DG.fr (d := 94) [88, 92, 93] (DSr rfl rfl rfl rfl rfl rfl fun v h => OpT.indexAddr rfl rfl (okd rfl rfl) (D h rfl rfl rfl rfl) (D h rfl rfl rfl rfl) el101 sz31 (by omega) (by assumption)) rfl rfl ?_
                    refine DG.fr (d := 95) [88, 94] (DSr rfl rfl rfl rfl rfl rfl fun v h => OpT.load rfl rfl (okd rfl rfl) (D h rfl rfl rfl rfl) ag31 rfl) rfl rfl ?_
                    refine DG.fr (d := 96) [88, 95] (DSr rfl rfl rfl rfl rfl rfl fun v h => OpT.conv rfl rfl (okd rfl rfl) us31 Try.underlying3 (D h rfl rfl rfl rfl) (nw (by omega))) rfl rfl ?_
                    refine DG.fr (d := 97) [1, 88] (DSr rfl rfl rfl rfl rfl rfl fun v h => OpT.move (A := .cel _ _) (.inl rfl) rfl (okd rfl rfl) (D h rfl rfl rfl rfl) rfl) rfl rfl ?_
                    refine DG.fr (d := 98) [88, 96, 97] (DSr rfl rfl rfl rfl rfl rfl fun v h => OpT.leq rfl rfl (okd rfl rfl) (D h rfl rfl rfl rfl) (D h rfl rfl rfl rfl)) rfl rfl ?_
                    refine DG.fr (d := 99) [88, 98] (DS rfl fun v h => OpT.pickF (A := .cel _ _) rfl rfl (okd rfl rfl) (D h rfl rfl rfl rfl) rfl (D h rfl rfl rfl rfl) rfl) rfl rfl ?_
                    refine DG.fr (d := 100) [99] (DS rfl fun v h => OpT.move (A := .cel _ _) (.inl rfl) rfl (okd rfl rfl) (D h rfl rfl rfl rfl) rfl) rfl rfl ?_
                    refine DG.fr (d := 101) [0, 100] (DSr rfl rfl rfl rfl rfl hd9 fun v h => OpT.move (A := .cel _ _) (.inl rfl) rfl (okd rfl rfl) (D h rfl rfl rfl rfl) rfl) rfl rfl ?_
                    refine DG.fr (d := 102) [100, 101] (DSr rfl rfl rfl rfl rfl hd9 fun v h => OpT.nilCheck rfl rfl (okd rfl rfl) (D h rfl rfl rfl rfl)) rfl rfl ?_
                    refine DG.fr (d := 103) [100, 102] (DSr rfl rfl rfl rfl rfl hd9 fun v h => OpT.fieldAddr rfl rfl (okd rfl rfl) (D h rfl rfl rfl rfl) fd106_2 sz101 (by decide) sb106_2) rfl rfl ?_
                    refine DG.fr (d := 104) [100, 103] (DSr rfl rfl rfl rfl rfl hd9 fun v h => OpT.load rfl rfl (okd rfl rfl) (D h rfl rfl rfl rfl) ag101 rfl) rfl rfl ?_
                    refine DG.fr (d := 105) [7, 100] (DSr rfl rfl rfl rfl rfl hd9 fun v h => OpT.move (A := .cel _ _) (.inl rfl) rfl (okd rfl rfl) (D h rfl rfl rfl rfl) rfl) rfl rfl ?_
                    refine DG.fr (d := 106) [100, 104, 105] (DSr rfl rfl rfl rfl rfl hd9 fun v h => OpT.indexAddr rfl rfl (okd rfl rfl) (D h rfl rfl rfl rfl) (D h rfl rfl rfl rfl) el101 sz31 (by omega) (by assumption)) rfl rfl ?_
                    refine DG.fr (d := 107) [100, 106] (DSr rfl rfl rfl rfl rfl hd9 fun v h => OpT.load rfl rfl (okd rfl rfl) (D h rfl rfl rfl rfl) ag31 rfl) rfl rfl ?_
                    refine DG.fr (d := 108) [100, 107] (DSr rfl rfl rfl rfl rfl hd9 fun v h => OpT.conv rfl rfl (okd rfl rfl) us31 Try.underlying3 (D h rfl rfl rfl rfl) (nw (by omega))) rfl rfl ?_
                    refine DG.fr (d := 109) [100] (DSr rfl rfl rfl rfl rfl hd9 fun v h => OpT.alias rfl rfl (okd rfl rfl) (by decide) (by decide)) rfl rfl ?_
                    refine DG.fr (d := 110) [2, 100, 109] (DSr rfl rfl rfl rfl rfl hd9 fun v h => OpT.lenO rfl rfl (okd rfl rfl) (Root.ali ((h _ (List.elem_iff.1 rfl)).trans rfl) (by decide) (by decide)) ((h _ (List.elem_iff.1 rfl)).trans rfl) el50) rfl rfl ?_
                    refine DG.fr (d := 111) [100, 108, 110] (DSr rfl rfl rfl rfl rfl hd9 fun v h => OpT.geq rfl rfl (okd rfl rfl) (D h rfl rfl rfl rfl) (D h rfl rfl rfl rfl)) rfl rfl ?_
                    refine DG.fr (d := 112) [100, 111] (DS rfl fun v h => OpT.pickF (A := .cel _ _) rfl rfl (okd rfl rfl) (D h rfl rfl rfl rfl) hd9 (D h rfl rfl rfl rfl) rfl) rfl rfl ?_
                    refine DG.nil ⟨by kernel_rfl, by kernel_rfl, ?_⟩
                    refine AX.go ?_
                    refine AW.cond (t := 112) rfl (by decide) (fun hc12 => ?_) (fun hc12 => ?_)
                    ·
                      try simp only [decide_eq_true_eq, decide_eq_false_iff_not, Bool.not_eq_true', Bool.not_eq_false'] at hc12
                      have hc12' := hc12; try simp only [decide_eq_true_eq, decide_eq_false_iff_not, beq_iff_eq, beq_eq_false_iff_ne, bne_iff_ne, bne_eq_false_iff_eq, ne_eq, Bool.not_eq_true', Bool.not_eq_false', Bool.and_eq_true, Bool.or_eq_true, Bool.or_eq_false_iff, Bool.and_eq_false_iff, Bool.not_true, Bool.not_false] at hc12'
                      simp only [cntL_len] at hc12'
                      refine AW.seq ?_
                      refine AW.region ?_
                      refine AWl.st rfl (OpT.move (A := .cel _ _) (.inr rfl) rfl (okd rfl rfl) Opd.bool rfl) rfl ?_
                      refine AWl.nil ?_
                      refine AX.go ?_
                      refine AW.ret ?_
                      refine AX.ret_then ?_
                      refine AX.ret_block ?_
                      refine AX.ret_then ?_
                      refine AX.ret_then ?_
                      refine AX.ret_block ?_
                      refine AX.ret_then ?_
                      exact AX.rt (rs := [.tmp 6]) (ts := [some 6]) (.inl rfl) rfl (ROs.cons (RO.tmp (At.self (by decide)) (Kv rfl (by first | exact ask_at (z := z) (mt (askI_iff hv hn hvp).1 (by omega)) (by omega) | exact ask_all (by unfold askH; omega) hI.2 (by omega) | exact ask_head (by unfold askH; omega))) rfl) <| ROs.nil) (by decide) (fun i => match i with | 0 => .inl rfl | 1 => .inl rfl | 2 => .inr ⟨rfl, Ko rfl (by first | rw [askN_at (z := z) (by unfold askH; omega) hI.2 (mt (askI_iff hv hn hvp).1 (by omega)) (by omega)] | rw [askN_all (by unfold askH; omega) hI.2 (by omega), List.take_of_length_le (by omega), List.take_of_length_le (by omega)] | rw [askN_head (by unfold askH; omega), List.take_zero, List.append_nil]), rfl, by decide⟩ | _ + 3 => .inl rfl)
                    ·
                      try simp only [decide_eq_true_eq, decide_eq_false_iff_not, Bool.not_eq_true', Bool.not_eq_false'] at hc12
                      have hc12' := hc12; try simp only [decide_eq_true_eq, decide_eq_false_iff_not, beq_iff_eq, beq_eq_false_iff_ne, bne_iff_ne, bne_eq_false_iff_eq, ne_eq, Bool.not_eq_true', Bool.not_eq_false', Bool.and_eq_true, Bool.or_eq_true, Bool.or_eq_false_iff, Bool.and_eq_false_iff, Bool.not_true, Bool.not_false] at hc12'
                      simp only [cntL_len] at hc12'
                      have hlen : (l ++ x.2.2.1.take z).length ≤ 1152921504606846976 := by (rw [List.length_append, List.length_take]; omega)
                      obtain ⟨cv, hcv, hcv1⟩ := cntL_in (b := b) (a := n) (n := m) (l := l ++ x.2.2.1.take z) (by omega) (by omega)
                      refine AW.skip ?_
                      refine AX.go ?_
                      refine AW.region ?_
                      refine AWl.st rfl (OpT.alias rfl rfl (okd rfl rfl) (by decide) (by decide)) rfl ?_
                      refine AWl.st rfl (OpT.move (A := .cel _ _) (.inl rfl) rfl (okd rfl rfl) (Tm rfl rfl rfl) rfl) rfl ?_
                      refine AWl.st rfl (OpT.nilCheck rfl rfl (okd rfl rfl) (Tm rfl rfl rfl)) rfl ?_
                      refine AWl.st rfl (OpT.fieldAddr rfl rfl (okd rfl rfl) (Tm rfl rfl rfl) fd106_2 sz101 (by decide) sb106_2) rfl ?_
                      refine AWl.st rfl (OpT.load rfl rfl (okd rfl rfl) (Tm rfl rfl rfl) ag101 rfl) rfl ?_
                      refine AWl.st rfl (OpT.move (A := .cel _ _) (.inl rfl) rfl (okd rfl rfl) (Tm rfl rfl rfl) rfl) rfl ?_
                      refine AWl.st rfl (OpT.indexAddr rfl rfl (okd rfl rfl) (Tm rfl rfl rfl) (Tm rfl rfl rfl) el101 sz31 (by omega) (by assumption)) rfl ?_
                      refine AWl.st rfl (OpT.load rfl rfl (okd rfl rfl) (Tm rfl rfl rfl) ag31 rfl) rfl ?_
                      refine AWl.st rfl (OpT.indexAddrO rfl rfl (okd rfl rfl) (Root.ali rfl (by decide) (by decide)) rfl (by decide) (Tm rfl rfl rfl) el50 sz2 (by omega) (by assumption)) rfl ?_
                      refine AWl.st rfl (OpT.loadP rfl rfl (okd rfl rfl) (Tm rfl rfl rfl) (.inr ⟨_, _, rfl, (by assumption)⟩) ag2 rfl) rfl ?_
                      refine AWl.st rfl (OpT.add rfl rfl (okd rfl rfl) (Tm rfl rfl rfl) (I rfl) (nw (by omega))) rfl ?_
                      refine AWl.st rfl (OpT.indexAddrO rfl rfl (okd rfl rfl) (Root.ali rfl (by decide) (by decide)) rfl (by decide) (Tm rfl rfl rfl) el50 sz2 (by omega) (by assumption)) rfl ?_
                      refine AWl.sg rfl (OpT.storeO rfl rfl (Tm rfl rfl rfl) rfl (by assumption) sz2 rfl (Tm rfl rfl rfl)) (Kc 124 (.pel _ _ _ _ _ _ _) rfl <| Kc 123 (.cel _ _) rfl <| Kc 122 (.cel _ _) rfl <| Kc 121 (.pel _ _ _ _ _ _ _) rfl <| Kc 120 (.cel _ _) rfl <| Kc 119 (.cel _ _) rfl <| Kc 118 (.cel _ _) rfl <| Kc 117 (.cel _ _) rfl <| Kc 116 (.cel _ _) rfl <| Kc 115 (.cel _ _) rfl <| Kc 114 (.cel _ _) rfl <| Kc 113 (.ali _) rfl <| Kc 112 (.cel _ _) rfl <| Kc 111 (.cel _ _) rfl <| Kc 110 (.cel _ _) rfl <| Kc 109 (.ali _) rfl <| Kc 108 (.cel _ _) rfl <| Kc 107 (.cel _ _) rfl <| Kc 106 (.cel _ _) rfl <| Kc 105 (.cel _ _) rfl <| Kc 104 (.cel _ _) rfl <| Kc 103 (.cel _ _) rfl <| Kc 102 (.cel _ _) rfl <| Kc 101 (.cel _ _) rfl <| Kc 100 (.cel _ _) rfl <| Kc 99 (.cel _ _) rfl <| Kc 98 (.cel _ _) rfl <| Kc 97 (.cel _ _) rfl <| Kc 96 (.cel _ _) rfl <| Kc 95 (.cel _ _) rfl <| Kc 94 (.cel _ _) rfl <| Kc 93 (.cel _ _) rfl <| Kc 92 (.cel _ _) rfl <| Kc 91 (.cel _ _) rfl <| Kc 90 (.cel _ _) rfl <| Kc 89 (.cel _ _) rfl <| Kc 88 (.cel _ _) rfl <| Kc 87 (.cel _ _) rfl <| Kc 86 (.cel _ _) rfl <| Kc 69 (.cel _ _) rfl <| Kc 68 (.cel _ _) rfl <| Kc 67 (.cel _ _) rfl <| Kc 66 (.cel _ _) rfl <| Kc 65 (.cel _ _) rfl <| Kc 64 (.cel _ _) rfl <| Kc 63 (.cel _ _) rfl <| Kc 62 (.cel _ _) rfl <| Kc 61 (.cel _ _) rfl <| Kc 60 (.cel _ _) rfl <| Kc 59 (.cel _ _) rfl <| Kc 58 (.cel _ _) rfl <| Kc 55 (.cel _ _) rfl <| Kc 54 (.cel _ _) rfl <| Kc 53 (.cel _ _) rfl <| Kc 52 (.cel _ _) rfl <| Kc 51 (.cel _ _) rfl <| Kc 50 (.cel _ _) rfl <| Kc 49 (.cel _ _) rfl <| Kc 0 (.cel _ _) rfl <| Kc 1 (.cel _ _) rfl <| Kc 2 (.own _ _ _) rfl <| Kc 7 (.cel _ _) rfl <| Kn) ?_
                      refine AWl.nil ?_
                      refine AX.normal_block ?_
                      refine AX.go ?_
                      refine AW.region ?_
                      refine AWl.st rfl (OpT.move (A := .cel _ _) (.inl rfl) rfl (okd rfl rfl) (Tm rfl rfl rfl) rfl) rfl ?_
                      refine AWl.st rfl (OpT.add rfl rfl (okd rfl rfl) (Tm rfl rfl rfl) (I rfl) (nw (by omega))) rfl ?_
                      refine AWl.sg rfl (OpT.move (A := .cel _ _) (.inr rfl) rfl (okd rfl rfl) (Tm rfl rfl rfl) rfl) (Kc 7 (.cel _ _) rfl <| Kc 57 (.cel _ _) rfl <| Kc 56 (.cel _ _) rfl <| Kc 124 (.pel _ _ _ _ _ _ _) rfl <| Kc 123 (.cel _ _) rfl <| Kc 122 (.cel _ _) rfl <| Kc 121 (.pel _ _ _ _ _ _ _) rfl <| Kc 120 (.cel _ _) rfl <| Kc 119 (.cel _ _) rfl <| Kc 118 (.cel _ _) rfl <| Kc 117 (.cel _ _) rfl <| Kc 116 (.cel _ _) rfl <| Kc 115 (.cel _ _) rfl <| Kc 114 (.cel _ _) rfl <| Kc 113 (.ali _) rfl <| Kc 112 (.cel _ _) rfl <| Kc 111 (.cel _ _) rfl <| Kc 110 (.cel _ _) rfl <| Kc 109 (.ali _) rfl <| Kc 108 (.cel _ _) rfl <| Kc 107 (.cel _ _) rfl <| Kc 106 (.cel _ _) rfl <| Kc 105 (.cel _ _) rfl <| Kc 104 (.cel _ _) rfl <| Kc 103 (.cel _ _) rfl <| Kc 102 (.cel _ _) rfl <| Kc 101 (.cel _ _) rfl <| Kc 100 (.cel _ _) rfl <| Kc 99 (.cel _ _) rfl <| Kc 98 (.cel _ _) rfl <| Kc 97 (.cel _ _) rfl <| Kc 96 (.cel _ _) rfl <| Kc 95 (.cel _ _) rfl <| Kc 94 (.cel _ _) rfl <| Kc 93 (.cel _ _) rfl <| Kc 92 (.cel _ _) rfl <| Kc 91 (.cel _ _) rfl <| Kc 90 (.cel _ _) rfl <| Kc 89 (.cel _ _) rfl <| Kc 88 (.cel _ _) rfl <| Kc 87 (.cel _ _) rfl <| Kc 86 (.cel _ _) rfl <| Kc 69 (.cel _ _) rfl <| Kc 68 (.cel _ _) rfl <| Kc 67 (.cel _ _) rfl <| Kc 66 (.cel _ _) rfl <| Kc 65 (.cel _ _) rfl <| Kc 64 (.cel _ _) rfl <| Kc 63 (.cel _ _) rfl <| Kc 62 (.cel _ _) rfl <| Kc 61 (.cel _ _) rfl <| Kc 60 (.cel _ _) rfl <| Kc 59 (.cel _ _) rfl <| Kc 58 (.cel _ _) rfl <| Kc 55 (.cel _ _) rfl <| Kc 54 (.cel _ _) rfl <| Kc 53 (.cel _ _) rfl <| Kc 52 (.cel _ _) rfl <| Kc 51 (.cel _ _) rfl <| Kc 50 (.cel _ _) rfl <| Kc 49 (.cel _ _) rfl <| Kc 0 (.cel _ _) rfl <| Kc 1 (.cel _ _) rfl <| Kc 2 (.own _ _ _) rfl <| Kn) ?_
                      refine AWl.nil ?_
                      exact AX.again (z + 1) ⟨by omega, all_step hI.2 ((askI_iff hv hn hvp).2 (by omega))⟩ (by omega) (Kc 0 _ (Kv rfl rfl) <| Kc 1 _ (Kv rfl rfl) <| Kc 2 _ (Ko rfl (cnt_next hn (by omega) hcv)) <| Kc 7 _ (Kv rfl (by omega)) <| Kn)
            ·
              try simp only [decide_eq_true_eq, decide_eq_false_iff_not, Bool.not_eq_true', Bool.not_eq_false'] at hc6
              have hc6' := hc6; try simp only [decide_eq_true_eq, decide_eq_false_iff_not, beq_iff_eq, beq_eq_false_iff_ne, bne_iff_ne, bne_eq_false_iff_eq, ne_eq, Bool.not_eq_true', Bool.not_eq_false', Bool.and_eq_true, Bool.or_eq_true, Bool.or_eq_false_iff, Bool.and_eq_false_iff, Bool.not_true, Bool.not_false] at hc6'
              refine AW.exit ?_
              refine AX.exit_then ?_
              refine AX.exit_then ?_
              refine AX.exit_hit ?_
              refine AX.pr (Kc 2 (.own _ _ _) rfl <| Kn) ?_
              refine AX.go ?_
              refine AW.seq ?_
              refine AW.region ?_
              refine AWl.st rfl (OpT.move (A := .cel _ _) (.inr rfl) rfl (okd rfl rfl) Opd.bool rfl) rfl ?_
              refine AWl.nil ?_
              refine AX.go ?_
              refine AW.ret ?_
              exact AX.rt (rs := [.tmp 6]) (ts := [some 6]) (.inl rfl) rfl (ROs.cons (RO.tmp (At.self (by decide)) (Kv rfl (by first | exact ask_at (z := z) (mt (askI_iff hv hn hvp).1 (by omega)) (by omega) | exact ask_all (by unfold askH; omega) hI.2 (by omega) | exact ask_head (by unfold askH; omega))) rfl) <| ROs.nil) (by decide) (fun i => match i with | 0 => .inl rfl | 1 => .inl rfl | 2 => .inr ⟨rfl, Ko rfl (by first | rw [askN_at (z := z) (by unfold askH; omega) hI.2 (mt (askI_iff hv hn hvp).1 (by omega)) (by omega)] | rw [askN_all (by unfold askH; omega) hI.2 (by omega), List.take_of_length_le (by omega), List.take_of_length_le (by omega)] | rw [askN_head (by unfold askH; omega), List.take_zero, List.append_nil]), rfl, by decide⟩ | _ + 3 => .inl rfl)
end Go.Proofs.Ytdjbdaidnlbhhaa.VL
