/- Proved here: what some functions of the program take and give: walks with the words of VA..VQ. Printed by program. -/
import Derived.Test.YtdjbdaidnlbhhaaWT
import Derived.Test.YtdjbdaidnlbhhaaPF
import Derived.Test.YtdjbdaidnlbhhaaWG
import Derived.Test.YtdjbdaidnlbhhaaWA
import Derived.Test.YtdjbdaidnlbhhaaWH
import Derived.Test.YtdjbdaidnlbhhaaWE
import Derived.Test.YtdjbdaidnlbhhaaWC
set_option linter.unusedVariables false
set_option linter.unusedSimpArgs false
set_option maxRecDepth 4000
namespace Go.Proofs.Ytdjbdaidnlbhhaa.VL
open Go
/-- spec.l06Depths -/
theorem c_spec_l06Depths (x : List DKnot) (ht : treeOK x) : AC Try.prog 84 [.cel (Kd.slice kKnot) x] [.cel (Kd.slice (Kd.int .i64)) (depA x x.length)] [] := by
  refine ⟨ACall.intro (N := 41) Try.func84 (c := _) (rfl : Func.body _ = some _) rfl (Nat.le_of_ble_eq_true rfl) (Nat.le_of_ble_eq_true rfl) rfl (Nat.le_of_ble_eq_true rfl) fun w0 hd s0 ar har => ?_, _, Try.func84, rfl, by decide⟩
  refine AW.to (Kc 0 (.cel _ _) rfl <| Kn) ?_
  have htl := ht.1
  have htl2 := ht.2.1
  refine AW.fact (fun a w hr => (ok_slice (R_ok (t := 0) rfl hr)).2) (fun hl0 => ?_)
  refine AW.fact (fun a w hr => (ok_slice (R_ok (t := 0) rfl hr)).1) (fun hk => ?_)
  have hsl : ∀ a ∈ x, a.2.2.1.length ≤ 9223372036854775807 := fun a ha => (ok_slice (ok_pair (ok_pair (ok_pair (hk a ha)).2).2).1).2
  refine AW.seq ?_
  refine AW.region ?_
  refine AWl.st rfl (OpT.move (A := .cel _ _) (.inr rfl) rfl (okd rfl rfl) (Opd.nilslice (Kd.int .i64)) rfl) rfl ?_
  refine AWl.nil ?_
  refine AX.go ?_
  refine AW.seq ?_
  refine AW.region ?_
  refine AWl.st rfl (OpT.move (A := .cel _ _) (.inl rfl) rfl (okd rfl rfl) (Tm rfl rfl rfl) rfl) rfl ?_
  refine AWl.st rfl (OpT.len rfl rfl (okd rfl rfl) (Tm rfl rfl rfl) el66) rfl ?_
  refine AWl.st rfl (OpT.make rfl rfl (okd rfl rfl) (Tm rfl rfl rfl) (Tm rfl rfl rfl) el50 zr2 sz2 by2 (by decide) zk2 (by omega) (by omega)) rfl ?_
  refine AWl.sg rfl (OpT.take (.inl rfl) rfl (okd rfl rfl) (Root.self (by decide)) rfl rfl (by decide)) (Kc 3 (.own _ _ _) rfl <| Kc 7 (.cel _ _) rfl <| Kc 6 (.cel _ _) rfl <| Kc 2 (.cel _ _) rfl <| Kc 0 (.cel _ _) rfl <| Kn) ?_
  refine AWl.nil ?_
  refine AX.pr (Kc 3 (.own _ _ _) rfl <| Kc 2 (.cel _ _) rfl <| Kc 0 (.cel _ _) rfl <| Kn) ?_
  refine AX.go ?_
  refine AW.seq ?_
  refine AW.seq ?_
  refine AW.region ?_
  refine AWl.st rfl (OpT.move (A := .cel _ _) (.inr rfl) rfl (okd rfl rfl) (I rfl) rfl) rfl ?_
  refine AWl.nil ?_
  refine AX.go ?_
  refine AW.block ?_
  refine AW.loop (fun z : Nat => z ≤ x.length) (fun z : Nat => keep [(0, .cel (Kd.slice kKnot) x), (3, .own 2 (Kd.int .i64) (depA x z)), (4, .cel (Kd.int .i64) (z : Int))]) (fun z : Nat => x.length - z) (0) (Nat.zero_le _) (Kc 0 _ (Kv rfl rfl) <| Kc 3 _ (Ko rfl rfl) <| Kc 4 _ (Kv rfl rfl) <| Kn) ?_
  intro z hI
  refine AW.seq ?_
  refine AW.seq ?_
  refine AW.region ?_
  refine AWl.st rfl (OpT.move (A := .cel _ _) (.inl rfl) rfl (okd rfl rfl) (Tm rfl rfl rfl) rfl) rfl ?_
  refine AWl.st rfl (OpT.move (A := .cel _ _) (.inl rfl) rfl (okd rfl rfl) (Tm rfl rfl rfl) rfl) rfl ?_
  refine AWl.st rfl (OpT.len rfl rfl (okd rfl rfl) (Tm rfl rfl rfl) el66) rfl ?_
  refine AWl.st rfl (OpT.lss rfl rfl (okd rfl rfl) (Tm rfl rfl rfl) (Tm rfl rfl rfl)) rfl ?_
  refine AWl.nil ?_
  refine AX.go ?_
  refine AW.cond (t := 12) rfl (by decide) (fun hc1 => ?_) (fun hc1 => ?_)
  ·
    try simp only [decide_eq_true_eq, decide_eq_false_iff_not, Bool.not_eq_true', Bool.not_eq_false'] at hc1
    have hc1' := hc1; try simp only [decide_eq_true_eq, decide_eq_false_iff_not, beq_iff_eq, beq_eq_false_iff_ne, bne_iff_ne, bne_eq_false_iff_eq, ne_eq, Bool.not_eq_true', Bool.not_eq_false', Bool.and_eq_true, Bool.or_eq_true, Bool.or_eq_false_iff, Bool.and_eq_false_iff, Bool.not_true, Bool.not_false] at hc1'
    obtain ⟨a, ha⟩ := getI (x := x) (z := z) (by omega)
    refine AW.skip ?_
    refine AX.go ?_
    refine AW.seq ?_
    refine AW.block ?_
    refine AW.seq ?_
    refine AW.region ?_
    refine AWl.st rfl (OpT.move (A := .cel _ _) (.inr rfl) rfl (okd rfl rfl) (I rfl) rfl) rfl ?_
    refine AWl.nil ?_
    refine AX.go ?_
    refine AW.block ?_
    refine AW.loop (fun y : Nat => y ≤ a.2.2.1.length) (fun y : Nat => keep [(0, .cel (Kd.slice kKnot) x), (3, .own 2 (Kd.int .i64) (dep1 z (depA x z) (a.2.2.1.take y))), (4, .cel (Kd.int .i64) (z : Int)), (5, .cel (Kd.int .i64) (y : Int))]) (fun y : Nat => a.2.2.1.length - y) (0) (Nat.zero_le _) (Kc 0 _ (Kv rfl rfl) <| Kc 3 _ (Ko rfl rfl) <| Kc 4 _ (Kv rfl rfl) <| Kc 5 _ (Kv rfl rfl) <| Kn) ?_
    intro y hI
    have hlb : a.2.2.1.length ≤ 9223372036854775807 := hsl a (mem_getI ha)
    refine AW.seq ?_
    refine AW.seq ?_
    refine AW.region ?_
    refine AWl.st rfl (OpT.move (A := .cel _ _) (.inl rfl) rfl (okd rfl rfl) (Tm rfl rfl rfl) rfl) rfl ?_
    refine AWl.st rfl (OpT.move (A := .cel _ _) (.inl rfl) rfl (okd rfl rfl) (Tm rfl rfl rfl) rfl) rfl ?_
    refine AWl.st rfl (OpT.move (A := .cel _ _) (.inl rfl) rfl (okd rfl rfl) (Tm rfl rfl rfl) rfl) rfl ?_
    refine AWl.st rfl (OpT.indexAddr rfl rfl (okd rfl rfl) (Tm rfl rfl rfl) (Tm rfl rfl rfl) el66 sz106 (by omega) (by assumption)) rfl ?_
    refine AWl.st rfl (OpT.fieldAddr rfl rfl (okd rfl rfl) (Tm rfl rfl rfl) fd106_2 sz101 (by decide) sb106_2) rfl ?_
    refine AWl.st rfl (OpT.load rfl rfl (okd rfl rfl) (Tm rfl rfl rfl) ag101 rfl) rfl ?_
    refine AWl.st rfl (OpT.len rfl rfl (okd rfl rfl) (Tm rfl rfl rfl) el101) rfl ?_
    refine AWl.st rfl (OpT.lss rfl rfl (okd rfl rfl) (Tm rfl rfl rfl) (Tm rfl rfl rfl)) rfl ?_
    refine AWl.nil ?_
    refine AX.go ?_
    refine AW.cond (t := 22) rfl (by decide) (fun hc2 => ?_) (fun hc2 => ?_)
    ·
      try simp only [decide_eq_true_eq, decide_eq_false_iff_not, Bool.not_eq_true', Bool.not_eq_false'] at hc2
      have hc2' := hc2; try simp only [decide_eq_true_eq, decide_eq_false_iff_not, beq_iff_eq, beq_eq_false_iff_ne, bne_iff_ne, bne_eq_false_iff_eq, ne_eq, Bool.not_eq_true', Bool.not_eq_false', Bool.and_eq_true, Bool.or_eq_true, Bool.or_eq_false_iff, Bool.and_eq_false_iff, Bool.not_true, Bool.not_false] at hc2'
      obtain ⟨n, hn2⟩ := getI (x := a.2.2.1) (z := y) (by omega); have hnx := knot_next ((knotI_iff ha).1 (ht.2.2.1 z (by omega))) hn2; have hdd := okD_at ht.2.2.1 (by omega) ha y; obtain ⟨v, hv, hv1⟩ := okD_get hdd (j := (z : Int)) (by omega); obtain ⟨u, hu, hu1⟩ := okD_get hdd (j := n) (by omega)
      refine AW.skip ?_
      refine AX.go ?_
      refine AW.seq ?_
      refine AW.block ?_
      refine AW.dg fomo ?_
      refine DG.fr (d := 25) [] (DS rfl fun v h => OpT.alias rfl rfl (okd rfl rfl) (by decide) (by decide)) rfl rfl ?_
      refine DG.fr (d := 26) [0] (DS rfl fun v h => OpT.move (A := .cel _ _) (.inl rfl) rfl (okd rfl rfl) (D h rfl rfl rfl rfl) rfl) rfl rfl ?_
      refine DG.fr (d := 27) [4] (DS rfl fun v h => OpT.move (A := .cel _ _) (.inl rfl) rfl (okd rfl rfl) (D h rfl rfl rfl rfl) rfl) rfl rfl ?_
      refine DG.fr (d := 28) [26, 27] (DS rfl fun v h => OpT.indexAddr rfl rfl (okd rfl rfl) (D h rfl rfl rfl rfl) (D h rfl rfl rfl rfl) el66 sz106 (by omega) (by assumption)) rfl rfl ?_
      refine DG.fr (d := 29) [28] (DS rfl fun v h => OpT.fieldAddr rfl rfl (okd rfl rfl) (D h rfl rfl rfl rfl) fd106_2 sz101 (by decide) sb106_2) rfl rfl ?_
      refine DG.fr (d := 30) [29] (DS rfl fun v h => OpT.load rfl rfl (okd rfl rfl) (D h rfl rfl rfl rfl) ag101 rfl) rfl rfl ?_
      refine DG.fr (d := 31) [5] (DS rfl fun v h => OpT.move (A := .cel _ _) (.inl rfl) rfl (okd rfl rfl) (D h rfl rfl rfl rfl) rfl) rfl rfl ?_
      refine DG.fr (d := 32) [30, 31] (DS rfl fun v h => OpT.indexAddr rfl rfl (okd rfl rfl) (D h rfl rfl rfl rfl) (D h rfl rfl rfl rfl) el101 sz31 (by omega) (by assumption)) rfl rfl ?_
      refine DG.fr (d := 33) [32] (DS rfl fun v h => OpT.load rfl rfl (okd rfl rfl) (D h rfl rfl rfl rfl) ag31 rfl) rfl rfl ?_
      refine DG.fr (d := 34) [] (DS rfl fun v h => OpT.alias rfl rfl (okd rfl rfl) (by decide) (by decide)) rfl rfl ?_
      refine DG.fr (d := 35) [4] (DS rfl fun v h => OpT.move (A := .cel _ _) (.inl rfl) rfl (okd rfl rfl) (D h rfl rfl rfl rfl) rfl) rfl rfl ?_
      refine DG.fr (d := 36) [3, 34, 35] (DS rfl fun v h => OpT.indexAddrO rfl rfl (okd rfl rfl) (Root.ali ((h _ (List.elem_iff.1 rfl)).trans rfl) (by decide) (by decide)) ((h _ (List.elem_iff.1 rfl)).trans rfl) (by decide) (D h rfl rfl rfl rfl) el50 sz2 (by omega) (by assumption)) rfl rfl ?_
      refine DG.fr (d := 37) [3, 36] (DS rfl fun v h => OpT.loadP rfl rfl (okd rfl rfl) (D h rfl rfl rfl rfl) (.inr ⟨_, _, ((h _ (List.elem_iff.1 rfl)).trans rfl), (by assumption)⟩) ag2 rfl) rfl rfl ?_
      refine DG.fr (d := 38) [37] (DS rfl fun v h => OpT.add rfl rfl (okd rfl rfl) (D h rfl rfl rfl rfl) (I rfl) (nw (by omega))) rfl rfl ?_
      refine DG.fr (d := 39) [3, 25, 33] (DS rfl fun v h => OpT.indexAddrO rfl rfl (okd rfl rfl) (Root.ali ((h _ (List.elem_iff.1 rfl)).trans rfl) (by decide) (by decide)) ((h _ (List.elem_iff.1 rfl)).trans rfl) (by decide) (D h rfl rfl rfl rfl) el50 sz2 (by omega) (by assumption)) rfl rfl ?_
      refine DG.md (t := 3) [3, 38, 39] (DSm rfl fun v h => OpT.storeO rfl rfl (D h rfl rfl rfl rfl) ((h _ (List.elem_iff.1 rfl)).trans rfl) (by assumption) sz2 rfl (D h rfl rfl rfl rfl)) ?_
      refine DG.nil ⟨by kernel_rfl, by kernel_rfl, ?_⟩
      refine AX.normal_block ?_
      refine AX.pr (Kc 3 (.own _ _ _) rfl <| Kc 39 (.pel _ _ _ _ _ _ _) rfl <| Kc 38 (.cel _ _) rfl <| Kc 37 (.cel _ _) rfl <| Kc 36 (.pel _ _ _ _ _ _ _) rfl <| Kc 35 (.cel _ _) rfl <| Kc 34 (.ali _) rfl <| Kc 33 (.cel _ _) rfl <| Kc 32 (.cel _ _) rfl <| Kc 31 (.cel _ _) rfl <| Kc 30 (.cel _ _) rfl <| Kc 29 (.cel _ _) rfl <| Kc 28 (.cel _ _) rfl <| Kc 27 (.cel _ _) rfl <| Kc 26 (.cel _ _) rfl <| Kc 25 (.ali _) rfl <| Kc 22 (.cel _ _) rfl <| Kc 21 (.cel _ _) rfl <| Kc 20 (.cel _ _) rfl <| Kc 19 (.cel _ _) rfl <| Kc 18 (.cel _ _) rfl <| Kc 17 (.cel _ _) rfl <| Kc 16 (.cel _ _) rfl <| Kc 15 (.cel _ _) rfl <| Kc 0 (.cel _ _) rfl <| Kc 4 (.cel _ _) rfl <| Kc 5 (.cel _ _) rfl <| Kn) ?_
      refine AX.go ?_
      refine AW.region ?_
      refine AWl.st rfl (OpT.move (A := .cel _ _) (.inl rfl) rfl (okd rfl rfl) (Tm rfl rfl rfl) rfl) rfl ?_
      refine AWl.st rfl (OpT.add rfl rfl (okd rfl rfl) (Tm rfl rfl rfl) (I rfl) (nw (by omega))) rfl ?_
      refine AWl.sg rfl (OpT.move (A := .cel _ _) (.inr rfl) rfl (okd rfl rfl) (Tm rfl rfl rfl) rfl) (Kc 5 (.cel _ _) rfl <| Kc 24 (.cel _ _) rfl <| Kc 23 (.cel _ _) rfl <| Kc 3 (.own _ _ _) rfl <| Kc 39 (.pel _ _ _ _ _ _ _) rfl <| Kc 38 (.cel _ _) rfl <| Kc 37 (.cel _ _) rfl <| Kc 36 (.pel _ _ _ _ _ _ _) rfl <| Kc 35 (.cel _ _) rfl <| Kc 34 (.ali _) rfl <| Kc 33 (.cel _ _) rfl <| Kc 32 (.cel _ _) rfl <| Kc 31 (.cel _ _) rfl <| Kc 30 (.cel _ _) rfl <| Kc 29 (.cel _ _) rfl <| Kc 28 (.cel _ _) rfl <| Kc 27 (.cel _ _) rfl <| Kc 26 (.cel _ _) rfl <| Kc 25 (.ali _) rfl <| Kc 22 (.cel _ _) rfl <| Kc 21 (.cel _ _) rfl <| Kc 20 (.cel _ _) rfl <| Kc 19 (.cel _ _) rfl <| Kc 18 (.cel _ _) rfl <| Kc 17 (.cel _ _) rfl <| Kc 16 (.cel _ _) rfl <| Kc 15 (.cel _ _) rfl <| Kc 0 (.cel _ _) rfl <| Kc 4 (.cel _ _) rfl <| Kn) ?_
      refine AWl.nil ?_
      exact AX.again (y + 1) (by omega) (by omega) (Kc 0 _ (Kv rfl rfl) <| Kc 3 _ (Ko rfl (dep_step hn2 hv)) <| Kc 4 _ (Kv rfl rfl) <| Kc 5 _ (Kv rfl (by omega)) <| Kn)
    ·
      try simp only [decide_eq_true_eq, decide_eq_false_iff_not, Bool.not_eq_true', Bool.not_eq_false'] at hc2
      have hc2' := hc2; try simp only [decide_eq_true_eq, decide_eq_false_iff_not, beq_iff_eq, beq_eq_false_iff_ne, bne_iff_ne, bne_eq_false_iff_eq, ne_eq, Bool.not_eq_true', Bool.not_eq_false', Bool.and_eq_true, Bool.or_eq_true, Bool.or_eq_false_iff, Bool.and_eq_false_iff, Bool.not_true, Bool.not_false] at hc2'
      refine AW.exit ?_
      refine AX.exit_then ?_
      refine AX.exit_then ?_
      refine AX.exit_hit ?_
      refine AX.normal_block ?_
      refine AX.go ?_
      refine AW.region ?_
      refine AWl.st rfl (OpT.move (A := .cel _ _) (.inl rfl) rfl (okd rfl rfl) (Tm rfl rfl rfl) rfl) rfl ?_
      refine AWl.st rfl (OpT.add rfl rfl (okd rfl rfl) (Tm rfl rfl rfl) (I rfl) (nw (by omega))) rfl ?_
      refine AWl.sg rfl (OpT.move (A := .cel _ _) (.inr rfl) rfl (okd rfl rfl) (Tm rfl rfl rfl) rfl) (Kc 4 (.cel _ _) rfl <| Kc 14 (.cel _ _) rfl <| Kc 13 (.cel _ _) rfl <| Kc 22 (.cel _ _) rfl <| Kc 21 (.cel _ _) rfl <| Kc 20 (.cel _ _) rfl <| Kc 19 (.cel _ _) rfl <| Kc 18 (.cel _ _) rfl <| Kc 17 (.cel _ _) rfl <| Kc 16 (.cel _ _) rfl <| Kc 15 (.cel _ _) rfl <| Kc 0 (.cel _ _) rfl <| Kc 3 (.own _ _ _) rfl <| Kc 5 (.cel _ _) rfl <| Kn) ?_
      refine AWl.nil ?_
      exact AX.again (z + 1) (by omega) (by omega) (Kc 0 _ (Kv rfl rfl) <| Kc 3 _ (Ko rfl (dep_end ha (by omega))) <| Kc 4 _ (Kv rfl (by omega)) <| Kn)
  ·
    try simp only [decide_eq_true_eq, decide_eq_false_iff_not, Bool.not_eq_true', Bool.not_eq_false'] at hc1
    have hc1' := hc1; try simp only [decide_eq_true_eq, decide_eq_false_iff_not, beq_iff_eq, beq_eq_false_iff_ne, bne_iff_ne, bne_eq_false_iff_eq, ne_eq, Bool.not_eq_true', Bool.not_eq_false', Bool.and_eq_true, Bool.or_eq_true, Bool.or_eq_false_iff, Bool.and_eq_false_iff, Bool.not_true, Bool.not_false] at hc1'
    refine AW.exit ?_
    refine AX.freeze (t := 3) rfl ?_
    refine AX.pr (Kc 12 (.cel _ _) rfl <| Kc 11 (.cel _ _) rfl <| Kc 10 (.cel _ _) rfl <| Kc 9 (.cel _ _) rfl <| Kc 0 (.cel _ _) rfl <| Kc 3 (.cel _ _) rfl <| Kc 4 (.cel _ _) rfl <| Kn) ?_
    refine AX.exit_then ?_
    refine AX.exit_then ?_
    refine AX.exit_hit ?_
    refine AX.pr (Kc 3 (.cel _ _) rfl <| Kn) ?_
    refine AX.go ?_
    refine AW.seq ?_
    refine AW.region ?_
    refine AWl.st rfl (OpT.move (A := .cel _ _) (.inl rfl) rfl (okd rfl rfl) (Tm rfl rfl rfl) rfl) rfl ?_
    refine AWl.st rfl (OpT.move (A := .cel _ _) (.inr rfl) rfl (okd rfl rfl) (Tm rfl rfl rfl) rfl) rfl ?_
    refine AWl.nil ?_
    refine AX.pr (Kc 2 (.cel _ _) rfl <| Kn) ?_
    refine AX.go ?_
    refine AW.ret ?_
    exact AX.rt (rs := [.tmp 2]) (ts := [some 2]) (.inl rfl) rfl (ROs.cons (RO.tmp (At.self (by decide)) (Kv rfl (by rw [show z = x.length by omega])) rfl) <| ROs.nil) (by decide) OutsOK.nil

/-- impl.depths -/
theorem c_impl_depths (x : List DKnot) (ht : treeOK x) : AC Try.prog 86 [.cel (Kd.slice kKnot) x] [.cel (Kd.slice (Kd.int .i64)) (depA x x.length)] [] := by
  refine ⟨ACall.intro (N := 36) Try.func86 (c := _) (rfl : Func.body _ = some _) rfl (Nat.le_of_ble_eq_true rfl) (Nat.le_of_ble_eq_true rfl) rfl (Nat.le_of_ble_eq_true rfl) fun w0 hd s0 ar har => ?_, _, Try.func86, rfl, by decide⟩
  refine AW.to (Kc 0 (.cel _ _) rfl <| Kn) ?_
  have htl := ht.1
  have htl2 := ht.2.1
  refine AW.fact (fun a w hr => (ok_slice (R_ok (t := 0) rfl hr)).2) (fun hl0 => ?_)
  refine AW.fact (fun a w hr => (ok_slice (R_ok (t := 0) rfl hr)).1) (fun hk => ?_)
  have hsl : ∀ a ∈ x, a.2.2.1.length ≤ 9223372036854775807 := fun a ha => (ok_slice (ok_pair (ok_pair (ok_pair (hk a ha)).2).2).1).2
  refine AW.seq ?_
  refine AW.region ?_
  refine AWl.st rfl (OpT.move (A := .cel _ _) (.inr rfl) rfl (okd rfl rfl) (Opd.nilslice (Kd.int .i64)) rfl) rfl ?_
  refine AWl.nil ?_
  refine AX.go ?_
  refine AW.seq ?_
  refine AW.region ?_
  refine AWl.st rfl (OpT.move (A := .cel _ _) (.inl rfl) rfl (okd rfl rfl) (Tm rfl rfl rfl) rfl) rfl ?_
  refine AWl.st rfl (OpT.len rfl rfl (okd rfl rfl) (Tm rfl rfl rfl) el66) rfl ?_
  refine AWl.st rfl (OpT.make rfl rfl (okd rfl rfl) (Tm rfl rfl rfl) (Tm rfl rfl rfl) el50 zr2 sz2 by2 (by decide) zk2 (by omega) (by omega)) rfl ?_
  refine AWl.sg rfl (OpT.take (.inl rfl) rfl (okd rfl rfl) (Root.self (by decide)) rfl rfl (by decide)) (Kc 3 (.own _ _ _) rfl <| Kc 9 (.cel _ _) rfl <| Kc 8 (.cel _ _) rfl <| Kc 2 (.cel _ _) rfl <| Kc 0 (.cel _ _) rfl <| Kn) ?_
  refine AWl.nil ?_
  refine AX.pr (Kc 3 (.own _ _ _) rfl <| Kc 2 (.cel _ _) rfl <| Kc 0 (.cel _ _) rfl <| Kn) ?_
  refine AX.go ?_
  refine AW.seq ?_
  refine AW.seq ?_
  refine AW.region ?_
  refine AWl.st rfl (OpT.move (A := .cel _ _) (.inl rfl) rfl (okd rfl rfl) (Tm rfl rfl rfl) rfl) rfl ?_
  refine AWl.st rfl (OpT.len rfl rfl (okd rfl rfl) (Tm rfl rfl rfl) el66) rfl ?_
  refine AWl.st rfl (OpT.move (A := .cel _ _) (.inl rfl) rfl (okd rfl rfl) (I rfl) rfl) rfl ?_
  refine AWl.nil ?_
  refine AX.pr (Kc 13 (.cel _ _) rfl <| Kc 12 (.cel _ _) rfl <| Kc 11 (.cel _ _) rfl <| Kc 3 (.own _ _ _) rfl <| Kc 2 (.cel _ _) rfl <| Kn) ?_
  refine AX.go ?_
  refine AW.block ?_
  refine AW.loop (fun z : Nat => z ≤ x.length) (fun z : Nat => keep [(3, .own 2 (Kd.int .i64) (depA x z)), (11, .cel (Kd.slice kKnot) x), (12, .cel (Kd.int .i64) ((x.length : Nat) : Int)), (13, .cel (Kd.int .i64) (z : Int))]) (fun z : Nat => x.length - z) (0) (Nat.zero_le _) (Kc 3 _ (Ko rfl rfl) <| Kc 11 _ (Kv rfl rfl) <| Kc 12 _ (Kv rfl rfl) <| Kc 13 _ (Kv rfl rfl) <| Kn) ?_
  intro z hI
  refine AW.seq ?_
  refine AW.region ?_
  refine AWl.st rfl (OpT.lss rfl rfl (okd rfl rfl) (Tm rfl rfl rfl) (Tm rfl rfl rfl)) rfl ?_
  refine AWl.nil ?_
  refine AX.go ?_
  refine AW.seq ?_
  refine AW.cond (t := 14) rfl (by decide) (fun hc1 => ?_) (fun hc1 => ?_)
  ·
    try simp only [decide_eq_true_eq, decide_eq_false_iff_not, Bool.not_eq_true', Bool.not_eq_false'] at hc1
    have hc1' := hc1; try simp only [decide_eq_true_eq, decide_eq_false_iff_not, beq_iff_eq, beq_eq_false_iff_ne, bne_iff_ne, bne_eq_false_iff_eq, ne_eq, Bool.not_eq_true', Bool.not_eq_false', Bool.and_eq_true, Bool.or_eq_true, Bool.or_eq_false_iff, Bool.and_eq_false_iff, Bool.not_true, Bool.not_false] at hc1'
    obtain ⟨a, ha⟩ := getI (x := x) (z := z) (by omega)
    refine AW.skip ?_
    refine AX.go ?_
    refine AW.seq ?_
    refine AW.block ?_
    refine AW.seq ?_
    refine AW.region ?_
    refine AWl.st rfl (OpT.move (A := .cel _ _) (.inl rfl) rfl (okd rfl rfl) (Tm rfl rfl rfl) rfl) rfl ?_
    refine AWl.st rfl (OpT.indexAddr rfl rfl (okd rfl rfl) (Tm rfl rfl rfl) (Tm rfl rfl rfl) el66 sz106 (by omega) (by assumption)) rfl ?_
    refine AWl.st rfl (OpT.loadA rfl rfl (okd rfl rfl) (Tm rfl rfl rfl) ag106 sz106) rfl ?_
    refine AWl.st rfl (OpT.alloc rfl rfl (okd rfl rfl) zr106 zk106) rfl ?_
    refine AWl.st rfl (OpT.move (A := .cel _ _) (.inr rfl) rfl (okd rfl rfl) (Tm rfl rfl rfl) rfl) rfl ?_
    refine AWl.sg rfl (OpT.storeBA rfl rfl (Opd.whole (Root.self (by decide)) rfl) rfl sz106 (by decide) (Tm rfl rfl rfl)) (Kc 4 (.cel _ _) rfl <| Kc 5 (.box _ _ _) rfl <| Kc 17 (.agg _ _) rfl <| Kc 16 (.cel _ _) rfl <| Kc 15 (.cel _ _) rfl <| Kc 14 (.cel _ _) rfl <| Kc 3 (.own _ _ _) rfl <| Kc 11 (.cel _ _) rfl <| Kc 12 (.cel _ _) rfl <| Kc 13 (.cel _ _) rfl <| Kn) ?_
    refine AWl.nil ?_
    refine AX.go ?_
    refine AW.seq ?_
    refine AW.region ?_
    refine AWl.st rfl (OpT.fieldAddrB rfl rfl (okd rfl rfl) (Root.self (by decide)) rfl (by decide) fd106_2 sz101 (by decide) sb106_2) rfl ?_
    refine AWl.st rfl (OpT.loadP rfl rfl (okd rfl rfl) (Tm rfl rfl rfl) (.inl ⟨_, rfl, rfl⟩) ag101 rfl) rfl ?_
    refine AWl.st rfl (OpT.len rfl rfl (okd rfl rfl) (Tm rfl rfl rfl) el101) rfl ?_
    refine AWl.st rfl (OpT.move (A := .cel _ _) (.inl rfl) rfl (okd rfl rfl) (I rfl) rfl) rfl ?_
    refine AWl.nil ?_
    refine AX.go ?_
    refine AW.block ?_
    refine AW.loop (fun y : Nat => y ≤ a.2.2.1.length) (fun y : Nat => keep [(3, .own 2 (Kd.int .i64) (dep1 z (depA x z) (a.2.2.1.take y))), (4, .cel (Kd.int .i64) (z : Int)), (11, .cel (Kd.slice kKnot) x), (12, .cel (Kd.int .i64) ((x.length : Nat) : Int)), (13, .cel (Kd.int .i64) (z : Int)), (19, .cel (Kd.slice (Kd.int .i16)) a.2.2.1), (20, .cel (Kd.int .i64) ((a.2.2.1.length : Nat) : Int)), (21, .cel (Kd.int .i64) (y : Int))]) (fun y : Nat => a.2.2.1.length - y) (0) (Nat.zero_le _) (Kc 3 _ (Ko rfl rfl) <| Kc 4 _ (Kv rfl rfl) <| Kc 11 _ (Kv rfl rfl) <| Kc 12 _ (Kv rfl rfl) <| Kc 13 _ (Kv rfl rfl) <| Kc 19 _ (Kv rfl rfl) <| Kc 20 _ (Kv rfl rfl) <| Kc 21 _ (Kv rfl rfl) <| Kn) ?_
    intro y hI
    have hlb : a.2.2.1.length ≤ 9223372036854775807 := hsl a (mem_getI ha)
    refine AW.seq ?_
    refine AW.region ?_
    refine AWl.st rfl (OpT.lss rfl rfl (okd rfl rfl) (Tm rfl rfl rfl) (Tm rfl rfl rfl)) rfl ?_
    refine AWl.nil ?_
    refine AX.go ?_
    refine AW.seq ?_
    refine AW.cond (t := 22) rfl (by decide) (fun hc2 => ?_) (fun hc2 => ?_)
    ·
      try simp only [decide_eq_true_eq, decide_eq_false_iff_not, Bool.not_eq_true', Bool.not_eq_false'] at hc2
      have hc2' := hc2; try simp only [decide_eq_true_eq, decide_eq_false_iff_not, beq_iff_eq, beq_eq_false_iff_ne, bne_iff_ne, bne_eq_false_iff_eq, ne_eq, Bool.not_eq_true', Bool.not_eq_false', Bool.and_eq_true, Bool.or_eq_true, Bool.or_eq_false_iff, Bool.and_eq_false_iff, Bool.not_true, Bool.not_false] at hc2'
      obtain ⟨n, hn2⟩ := getI (x := a.2.2.1) (z := y) (by omega); have hnx := knot_next ((knotI_iff ha).1 (ht.2.2.1 z (by omega))) hn2; have hdd := okD_at ht.2.2.1 (by omega) ha y; obtain ⟨v, hv, hv1⟩ := okD_get hdd (j := (z : Int)) (by omega); obtain ⟨u, hu, hu1⟩ := okD_get hdd (j := n) (by omega)
      refine AW.skip ?_
      refine AX.go ?_
      refine AW.seq ?_
      refine AW.block ?_
      refine AW.seq ?_
      refine AW.region ?_
      refine AWl.st rfl (OpT.indexAddr rfl rfl (okd rfl rfl) (Tm rfl rfl rfl) (Tm rfl rfl rfl) el101 sz31 (by omega) (by assumption)) rfl ?_
      refine AWl.st rfl (OpT.load rfl rfl (okd rfl rfl) (Tm rfl rfl rfl) ag31 rfl) rfl ?_
      refine AWl.st rfl (OpT.move (A := .cel _ _) (.inr rfl) rfl (okd rfl rfl) (Tm rfl rfl rfl) rfl) rfl ?_
      refine AWl.nil ?_
      refine AX.go ?_
      refine AW.region ?_
      refine AWl.st rfl (OpT.alias rfl rfl (okd rfl rfl) (by decide) (by decide)) rfl ?_
      refine AWl.st rfl (OpT.move (A := .cel _ _) (.inl rfl) rfl (okd rfl rfl) (Tm rfl rfl rfl) rfl) rfl ?_
      refine AWl.st rfl (OpT.alias rfl rfl (okd rfl rfl) (by decide) (by decide)) rfl ?_
      refine AWl.st rfl (OpT.move (A := .cel _ _) (.inl rfl) rfl (okd rfl rfl) (Tm rfl rfl rfl) rfl) rfl ?_
      refine AWl.st rfl (OpT.indexAddrO rfl rfl (okd rfl rfl) (Root.ali rfl (by decide) (by decide)) rfl (by decide) (Tm rfl rfl rfl) el50 sz2 (by omega) (by assumption)) rfl ?_
      refine AWl.st rfl (OpT.loadP rfl rfl (okd rfl rfl) (Tm rfl rfl rfl) (.inr ⟨_, _, rfl, (by assumption)⟩) ag2 rfl) rfl ?_
      refine AWl.st rfl (OpT.add rfl rfl (okd rfl rfl) (Tm rfl rfl rfl) (I rfl) (nw (by omega))) rfl ?_
      refine AWl.st rfl (OpT.indexAddrO rfl rfl (okd rfl rfl) (Root.ali rfl (by decide) (by decide)) rfl (by decide) (Tm rfl rfl rfl) el50 sz2 (by omega) (by assumption)) rfl ?_
      refine AWl.sg rfl (OpT.storeO rfl rfl (Tm rfl rfl rfl) rfl (by assumption) sz2 rfl (Tm rfl rfl rfl)) (Kc 32 (.pel _ _ _ _ _ _ _) rfl <| Kc 31 (.cel _ _) rfl <| Kc 30 (.cel _ _) rfl <| Kc 29 (.pel _ _ _ _ _ _ _) rfl <| Kc 28 (.cel _ _) rfl <| Kc 27 (.ali _) rfl <| Kc 26 (.cel _ _) rfl <| Kc 25 (.ali _) rfl <| Kc 7 (.cel _ _) rfl <| Kc 24 (.cel _ _) rfl <| Kc 23 (.cel _ _) rfl <| Kc 22 (.cel _ _) rfl <| Kc 3 (.own _ _ _) rfl <| Kc 4 (.cel _ _) rfl <| Kc 11 (.cel _ _) rfl <| Kc 12 (.cel _ _) rfl <| Kc 13 (.cel _ _) rfl <| Kc 19 (.cel _ _) rfl <| Kc 20 (.cel _ _) rfl <| Kc 21 (.cel _ _) rfl <| Kn) ?_
      refine AWl.nil ?_
      refine AX.normal_block ?_
      refine AX.go ?_
      refine AW.region ?_
      refine AWl.st rfl (OpT.add rfl rfl (okd rfl rfl) (Tm rfl rfl rfl) (I rfl) (nw (by omega))) rfl ?_
      refine AWl.sg rfl (OpT.move (A := .cel _ _) (.inl rfl) rfl (okd rfl rfl) (Tm rfl rfl rfl) rfl) (Kc 21 (.cel _ _) rfl <| Kc 33 (.cel _ _) rfl <| Kc 32 (.pel _ _ _ _ _ _ _) rfl <| Kc 31 (.cel _ _) rfl <| Kc 30 (.cel _ _) rfl <| Kc 29 (.pel _ _ _ _ _ _ _) rfl <| Kc 28 (.cel _ _) rfl <| Kc 27 (.ali _) rfl <| Kc 26 (.cel _ _) rfl <| Kc 25 (.ali _) rfl <| Kc 7 (.cel _ _) rfl <| Kc 24 (.cel _ _) rfl <| Kc 23 (.cel _ _) rfl <| Kc 22 (.cel _ _) rfl <| Kc 3 (.own _ _ _) rfl <| Kc 4 (.cel _ _) rfl <| Kc 11 (.cel _ _) rfl <| Kc 12 (.cel _ _) rfl <| Kc 13 (.cel _ _) rfl <| Kc 19 (.cel _ _) rfl <| Kc 20 (.cel _ _) rfl <| Kn) ?_
      refine AWl.nil ?_
      exact AX.again (y + 1) (by omega) (by omega) (Kc 3 _ (Ko rfl (dep_step hn2 hv)) <| Kc 4 _ (Kv rfl rfl) <| Kc 11 _ (Kv rfl rfl) <| Kc 12 _ (Kv rfl rfl) <| Kc 13 _ (Kv rfl rfl) <| Kc 19 _ (Kv rfl rfl) <| Kc 20 _ (Kv rfl rfl) <| Kc 21 _ (Kv rfl (by omega)) <| Kn)
    ·
      try simp only [decide_eq_true_eq, decide_eq_false_iff_not, Bool.not_eq_true', Bool.not_eq_false'] at hc2
      have hc2' := hc2; try simp only [decide_eq_true_eq, decide_eq_false_iff_not, beq_iff_eq, beq_eq_false_iff_ne, bne_iff_ne, bne_eq_false_iff_eq, ne_eq, Bool.not_eq_true', Bool.not_eq_false', Bool.and_eq_true, Bool.or_eq_true, Bool.or_eq_false_iff, Bool.and_eq_false_iff, Bool.not_true, Bool.not_false] at hc2'
      refine AW.exit ?_
      refine AX.exit_then ?_
      refine AX.exit_then ?_
      refine AX.exit_hit ?_
      refine AX.normal_block ?_
      refine AX.go ?_
      refine AW.region ?_
      refine AWl.st rfl (OpT.add rfl rfl (okd rfl rfl) (Tm rfl rfl rfl) (I rfl) (nw (by omega))) rfl ?_
      refine AWl.sg rfl (OpT.move (A := .cel _ _) (.inl rfl) rfl (okd rfl rfl) (Tm rfl rfl rfl) rfl) (Kc 13 (.cel _ _) rfl <| Kc 34 (.cel _ _) rfl <| Kc 22 (.cel _ _) rfl <| Kc 3 (.own _ _ _) rfl <| Kc 4 (.cel _ _) rfl <| Kc 11 (.cel _ _) rfl <| Kc 12 (.cel _ _) rfl <| Kc 19 (.cel _ _) rfl <| Kc 20 (.cel _ _) rfl <| Kc 21 (.cel _ _) rfl <| Kn) ?_
      refine AWl.nil ?_
      exact AX.again (z + 1) (by omega) (by omega) (Kc 3 _ (Ko rfl (dep_end ha (by omega))) <| Kc 11 _ (Kv rfl rfl) <| Kc 12 _ (Kv rfl rfl) <| Kc 13 _ (Kv rfl (by omega)) <| Kn)
  ·
    try simp only [decide_eq_true_eq, decide_eq_false_iff_not, Bool.not_eq_true', Bool.not_eq_false'] at hc1
    have hc1' := hc1; try simp only [decide_eq_true_eq, decide_eq_false_iff_not, beq_iff_eq, beq_eq_false_iff_ne, bne_iff_ne, bne_eq_false_iff_eq, ne_eq, Bool.not_eq_true', Bool.not_eq_false', Bool.and_eq_true, Bool.or_eq_true, Bool.or_eq_false_iff, Bool.and_eq_false_iff, Bool.not_true, Bool.not_false] at hc1'
    refine AW.exit ?_
    refine AX.freeze (t := 3) rfl ?_
    refine AX.pr (Kc 14 (.cel _ _) rfl <| Kc 3 (.cel _ _) rfl <| Kc 11 (.cel _ _) rfl <| Kc 12 (.cel _ _) rfl <| Kc 13 (.cel _ _) rfl <| Kn) ?_
    refine AX.exit_then ?_
    refine AX.exit_then ?_
    refine AX.exit_hit ?_
    refine AX.pr (Kc 3 (.cel _ _) rfl <| Kn) ?_
    refine AX.go ?_
    refine AW.seq ?_
    refine AW.region ?_
    refine AWl.st rfl (OpT.move (A := .cel _ _) (.inl rfl) rfl (okd rfl rfl) (Tm rfl rfl rfl) rfl) rfl ?_
    refine AWl.st rfl (OpT.move (A := .cel _ _) (.inr rfl) rfl (okd rfl rfl) (Tm rfl rfl rfl) rfl) rfl ?_
    refine AWl.nil ?_
    refine AX.pr (Kc 2 (.cel _ _) rfl <| Kn) ?_
    refine AX.go ?_
    refine AW.ret ?_
    exact AX.rt (rs := [.tmp 2]) (ts := [some 2]) (.inl rfl) rfl (ROs.cons (RO.tmp (At.self (by decide)) (Kv rfl (by rw [show z = x.length by omega])) rfl) <| ROs.nil) (by decide) OutsOK.nil

/-- slices.Max[[]int64,int64] -/
theorem c_slices_Max_int64_int64 (x : List Int) (hx : 0 < x.length) : AC Try.prog 85 [.cel (Kd.slice (Kd.int .i64)) x] [.cel (Kd.int .i64) (x.foldl max (x.getD 0 0))] [] := by
  refine ⟨ACall.intro (N := 25) Try.func85 (c := _) (rfl : Func.body _ = some _) rfl (Nat.le_of_ble_eq_true rfl) (Nat.le_of_ble_eq_true rfl) rfl (Nat.le_of_ble_eq_true rfl) fun w0 hd s0 ar har => ?_, _, Try.func85, rfl, by decide⟩
  refine AW.to (Kc 0 (.cel _ _) rfl <| Kn) ?_
  refine AW.fact (fun a w hr => (ok_slice (R_ok (t := 0) rfl hr)).2) (fun hl0 => ?_)
  have h00 := mx_zero hx
  refine AW.seq ?_
  refine AW.region ?_
  refine AWl.st rfl (OpT.move (A := .cel _ _) (.inr rfl) rfl (okd rfl rfl) (I rfl) rfl) rfl ?_
  refine AWl.nil ?_
  refine AX.go ?_
  refine AW.seq ?_
  refine AW.seq ?_
  refine AW.region ?_
  refine AWl.st rfl (OpT.move (A := .cel _ _) (.inl rfl) rfl (okd rfl rfl) (Tm rfl rfl rfl) rfl) rfl ?_
  refine AWl.st rfl (OpT.len rfl rfl (okd rfl rfl) (Tm rfl rfl rfl) el50) rfl ?_
  refine AWl.st rfl (OpT.lss rfl rfl (okd rfl rfl) (Tm rfl rfl rfl) (I rfl)) rfl ?_
  refine AWl.nil ?_
  refine AX.pr (Kc 7 (.cel _ _) rfl <| Kc 2 (.cel _ _) rfl <| Kc 0 (.cel _ _) rfl <| Kn) ?_
  refine AX.go ?_
  refine AW.cond (t := 7) rfl (by decide) (fun hc1 => ?_) (fun hc1 => ?_)
  ·
    try simp only [decide_eq_true_eq, decide_eq_false_iff_not, Bool.not_eq_true', Bool.not_eq_false'] at hc1
    have hc1' := hc1; try simp only [decide_eq_true_eq, decide_eq_false_iff_not, beq_iff_eq, beq_eq_false_iff_ne, bne_iff_ne, bne_eq_false_iff_eq, ne_eq, Bool.not_eq_true', Bool.not_eq_false', Bool.and_eq_true, Bool.or_eq_true, Bool.or_eq_false_iff, Bool.and_eq_false_iff, Bool.not_true, Bool.not_false] at hc1'
    exact (show False from (by omega)).elim
  ·
    try simp only [decide_eq_true_eq, decide_eq_false_iff_not, Bool.not_eq_true', Bool.not_eq_false'] at hc1
    have hc1' := hc1; try simp only [decide_eq_true_eq, decide_eq_false_iff_not, beq_iff_eq, beq_eq_false_iff_ne, bne_iff_ne, bne_eq_false_iff_eq, ne_eq, Bool.not_eq_true', Bool.not_eq_false', Bool.and_eq_true, Bool.or_eq_true, Bool.or_eq_false_iff, Bool.and_eq_false_iff, Bool.not_true, Bool.not_false] at hc1'
    refine AW.skip ?_
    refine AX.pr (Kc 2 (.cel _ _) rfl <| Kc 0 (.cel _ _) rfl <| Kn) ?_
    refine AX.go ?_
    refine AW.seq ?_
    refine AW.region ?_
    refine AWl.st rfl (OpT.move (A := .cel _ _) (.inl rfl) rfl (okd rfl rfl) (Tm rfl rfl rfl) rfl) rfl ?_
    refine AWl.st rfl (OpT.indexAddr rfl rfl (okd rfl rfl) (Tm rfl rfl rfl) (I rfl) el50 sz2 (by omega) (by assumption)) rfl ?_
    refine AWl.st rfl (OpT.load rfl rfl (okd rfl rfl) (Tm rfl rfl rfl) ag2 rfl) rfl ?_
    refine AWl.st rfl (OpT.move (A := .cel _ _) (.inr rfl) rfl (okd rfl rfl) (Tm rfl rfl rfl) rfl) rfl ?_
    refine AWl.nil ?_
    refine AX.pr (Kc 3 (.cel _ _) rfl <| Kc 2 (.cel _ _) rfl <| Kc 0 (.cel _ _) rfl <| Kn) ?_
    refine AX.go ?_
    refine AW.seq ?_
    refine AW.seq ?_
    refine AW.region ?_
    refine AWl.st rfl (OpT.move (A := .cel _ _) (.inr rfl) rfl (okd rfl rfl) (I rfl) rfl) rfl ?_
    refine AWl.nil ?_
    refine AX.go ?_
    refine AW.block ?_
    refine AW.loop (fun z : Nat => 1 ≤ z ∧ z ≤ x.length) (fun z : Nat => keep [(0, .cel (Kd.slice (Kd.int .i64)) x), (3, .cel (Kd.int .i64) ((x.take z).foldl max (x.getD 0 0))), (4, .cel (Kd.int .i64) (z : Int))]) (fun z : Nat => x.length - z) (1) (by omega) (Kc 0 _ (Kv rfl rfl) <| Kc 3 _ (Kv rfl (mx_one hx)) <| Kc 4 _ (Kv rfl rfl) <| Kn) ?_
    intro z hI
    refine AW.seq ?_
    refine AW.seq ?_
    refine AW.region ?_
    refine AWl.st rfl (OpT.move (A := .cel _ _) (.inl rfl) rfl (okd rfl rfl) (Tm rfl rfl rfl) rfl) rfl ?_
    refine AWl.st rfl (OpT.move (A := .cel _ _) (.inl rfl) rfl (okd rfl rfl) (Tm rfl rfl rfl) rfl) rfl ?_
    refine AWl.st rfl (OpT.len rfl rfl (okd rfl rfl) (Tm rfl rfl rfl) el50) rfl ?_
    refine AWl.st rfl (OpT.lss rfl rfl (okd rfl rfl) (Tm rfl rfl rfl) (Tm rfl rfl rfl)) rfl ?_
    refine AWl.nil ?_
    refine AX.go ?_
    refine AW.cond (t := 15) rfl (by decide) (fun hc2 => ?_) (fun hc2 => ?_)
    ·
      try simp only [decide_eq_true_eq, decide_eq_false_iff_not, Bool.not_eq_true', Bool.not_eq_false'] at hc2
      have hc2' := hc2; try simp only [decide_eq_true_eq, decide_eq_false_iff_not, beq_iff_eq, beq_eq_false_iff_ne, bne_iff_ne, bne_eq_false_iff_eq, ne_eq, Bool.not_eq_true', Bool.not_eq_false', Bool.and_eq_true, Bool.or_eq_true, Bool.or_eq_false_iff, Bool.and_eq_false_iff, Bool.not_true, Bool.not_false] at hc2'
      obtain ⟨a, ha⟩ := getI (x := x) (z := z) (by omega)
      refine AW.skip ?_
      refine AX.go ?_
      refine AW.seq ?_
      refine AW.block ?_
      refine AW.region ?_
      refine AWl.st rfl (OpT.move (A := .cel _ _) (.inl rfl) rfl (okd rfl rfl) (Tm rfl rfl rfl) rfl) rfl ?_
      refine AWl.st rfl (OpT.move (A := .cel _ _) (.inl rfl) rfl (okd rfl rfl) (Tm rfl rfl rfl) rfl) rfl ?_
      refine AWl.st rfl (OpT.move (A := .cel _ _) (.inl rfl) rfl (okd rfl rfl) (Tm rfl rfl rfl) rfl) rfl ?_
      refine AWl.st rfl (OpT.indexAddr rfl rfl (okd rfl rfl) (Tm rfl rfl rfl) (Tm rfl rfl rfl) el50 sz2 (by omega) (by assumption)) rfl ?_
      refine AWl.st rfl (OpT.load rfl rfl (okd rfl rfl) (Tm rfl rfl rfl) ag2 rfl) rfl ?_
      refine AWl.st rfl (OpT.imax rfl rfl (okd rfl rfl) (Tm rfl rfl rfl) (Tm rfl rfl rfl)) rfl ?_
      refine AWl.sg rfl (OpT.move (A := .cel _ _) (.inr rfl) rfl (okd rfl rfl) (Tm rfl rfl rfl) rfl) (Kc 3 (.cel _ _) rfl <| Kc 23 (.cel _ _) rfl <| Kc 22 (.cel _ _) rfl <| Kc 21 (.cel _ _) rfl <| Kc 20 (.cel _ _) rfl <| Kc 19 (.cel _ _) rfl <| Kc 18 (.cel _ _) rfl <| Kc 15 (.cel _ _) rfl <| Kc 14 (.cel _ _) rfl <| Kc 13 (.cel _ _) rfl <| Kc 12 (.cel _ _) rfl <| Kc 0 (.cel _ _) rfl <| Kc 4 (.cel _ _) rfl <| Kn) ?_
      refine AWl.nil ?_
      refine AX.normal_block ?_
      refine AX.go ?_
      refine AW.region ?_
      refine AWl.st rfl (OpT.move (A := .cel _ _) (.inl rfl) rfl (okd rfl rfl) (Tm rfl rfl rfl) rfl) rfl ?_
      refine AWl.st rfl (OpT.add rfl rfl (okd rfl rfl) (Tm rfl rfl rfl) (I rfl) (nw (by omega))) rfl ?_
      refine AWl.sg rfl (OpT.move (A := .cel _ _) (.inr rfl) rfl (okd rfl rfl) (Tm rfl rfl rfl) rfl) (Kc 4 (.cel _ _) rfl <| Kc 17 (.cel _ _) rfl <| Kc 16 (.cel _ _) rfl <| Kc 3 (.cel _ _) rfl <| Kc 23 (.cel _ _) rfl <| Kc 22 (.cel _ _) rfl <| Kc 21 (.cel _ _) rfl <| Kc 20 (.cel _ _) rfl <| Kc 19 (.cel _ _) rfl <| Kc 18 (.cel _ _) rfl <| Kc 15 (.cel _ _) rfl <| Kc 14 (.cel _ _) rfl <| Kc 13 (.cel _ _) rfl <| Kc 12 (.cel _ _) rfl <| Kc 0 (.cel _ _) rfl <| Kn) ?_
      refine AWl.nil ?_
      exact AX.again (z + 1) (by omega) (by omega) (Kc 0 _ (Kv rfl rfl) <| Kc 3 _ (Kv rfl (mx_step ha)) <| Kc 4 _ (Kv rfl (by omega)) <| Kn)
    ·
      try simp only [decide_eq_true_eq, decide_eq_false_iff_not, Bool.not_eq_true', Bool.not_eq_false'] at hc2
      have hc2' := hc2; try simp only [decide_eq_true_eq, decide_eq_false_iff_not, beq_iff_eq, beq_eq_false_iff_ne, bne_iff_ne, bne_eq_false_iff_eq, ne_eq, Bool.not_eq_true', Bool.not_eq_false', Bool.and_eq_true, Bool.or_eq_true, Bool.or_eq_false_iff, Bool.and_eq_false_iff, Bool.not_true, Bool.not_false] at hc2'
      refine AW.exit ?_
      refine AX.exit_then ?_
      refine AX.exit_then ?_
      refine AX.exit_hit ?_
      refine AX.pr (Kc 3 (.cel _ _) rfl <| Kn) ?_
      refine AX.go ?_
      refine AW.seq ?_
      refine AW.region ?_
      refine AWl.st rfl (OpT.move (A := .cel _ _) (.inl rfl) rfl (okd rfl rfl) (Tm rfl rfl rfl) rfl) rfl ?_
      refine AWl.st rfl (OpT.move (A := .cel _ _) (.inr rfl) rfl (okd rfl rfl) (Tm rfl rfl rfl) rfl) rfl ?_
      refine AWl.nil ?_
      refine AX.pr (Kc 2 (.cel _ _) rfl <| Kn) ?_
      refine AX.go ?_
      refine AW.ret ?_
      exact AX.rt (rs := [.tmp 2]) (ts := [some 2]) (.inl rfl) rfl (ROs.cons (RO.tmp (At.self (by decide)) (Kv rfl (by rw [List.take_of_length_le (by omega)])) rfl) <| ROs.nil) (by decide) OutsOK.nil

/-- spec.DeepestOf -/
theorem c_spec_DeepestOf (x : List DKnot) (hn : okKS x) : AC Try.prog 40 [.cel (Kd.slice kKnot) x] [.cel (Kd.int .i64) (deepS x).1, .cel (Kd.int .i64) (deepS x).2] [] := by
  refine ⟨ACall.intro (N := 25) Try.func40 (c := _) (rfl : Func.body _ = some _) rfl (Nat.le_of_ble_eq_true rfl) (Nat.le_of_ble_eq_true rfl) rfl (Nat.le_of_ble_eq_true rfl) fun w0 hd s0 ar har => ?_, _, Try.func40, rfl, by decide⟩
  refine AW.to (Kc 0 (.cel _ _) rfl <| Kn) ?_
  refine AW.seq ?_
  refine AW.region ?_
  refine AWl.st rfl (OpT.move (A := .cel _ _) (.inr rfl) rfl (okd rfl rfl) (I rfl) rfl) rfl ?_
  refine AWl.st rfl (OpT.move (A := .cel _ _) (.inr rfl) rfl (okd rfl rfl) (I rfl) rfl) rfl ?_
  refine AWl.nil ?_
  refine AX.go ?_
  refine AW.seq ?_
  refine AW.seq ?_
  refine AW.region ?_
  refine AWl.st rfl (OpT.move (A := .cel _ _) (.inl rfl) rfl (okd rfl rfl) (Tm rfl rfl rfl) rfl) rfl ?_
  refine AWl.st rfl (OpT.c1 (ms := [.flat]) (c_spec_l06Ok _ hn) rfl rfl (okd rfl rfl) (Af (Tm rfl rfl rfl) rfl rfl <| An) rfl rfl) rfl ?_
  refine AWl.st rfl (OpT.not rfl rfl (okd rfl rfl) (Tm rfl rfl rfl)) rfl ?_
  refine AWl.nil ?_
  refine AX.pr (Kc 9 (.cel _ _) rfl <| Kc 3 (.cel _ _) rfl <| Kc 2 (.cel _ _) rfl <| Kc 0 (.cel _ _) rfl <| Kn) ?_
  refine AX.go ?_
  refine AW.cond (t := 9) rfl (by decide) (fun hc1 => ?_) (fun hc1 => ?_)
  ·
    try simp only [decide_eq_true_eq, decide_eq_false_iff_not, Bool.not_eq_true', Bool.not_eq_false'] at hc1
    have hc1' := hc1; try simp only [decide_eq_true_eq, decide_eq_false_iff_not, beq_iff_eq, beq_eq_false_iff_ne, bne_iff_ne, bne_eq_false_iff_eq, ne_eq, Bool.not_eq_true', Bool.not_eq_false', Bool.and_eq_true, Bool.or_eq_true, Bool.or_eq_false_iff, Bool.and_eq_false_iff, Bool.not_true, Bool.not_false] at hc1'
    refine AW.seq ?_
    refine AW.region ?_
    refine AWl.sg rfl (OpT.move (A := .cel _ _) (.inr rfl) rfl (okd rfl rfl) (I rfl) rfl) (Kc 2 (.cel _ _) rfl <| Kc 9 (.cel _ _) rfl <| Kc 3 (.cel _ _) rfl <| Kc 0 (.cel _ _) rfl <| Kn) ?_
    refine AWl.sg rfl (OpT.move (A := .cel _ _) (.inr rfl) rfl (okd rfl rfl) (I rfl) rfl) (Kc 3 (.cel _ _) rfl <| Kc 2 (.cel _ _) rfl <| Kc 9 (.cel _ _) rfl <| Kc 0 (.cel _ _) rfl <| Kn) ?_
    refine AWl.nil ?_
    refine AX.pr (Kc 3 (.cel _ _) rfl <| Kc 2 (.cel _ _) rfl <| Kc 0 (.cel _ _) rfl <| Kn) ?_
    refine AX.go ?_
    refine AW.ret ?_
    refine AX.ret_then ?_
    exact AX.rt (rs := [.tmp 2, .tmp 3]) (ts := [some 2, some 3]) (.inl rfl) rfl (ROs.cons (RO.tmp (At.self (by decide)) (Kv rfl (by first | (rw [deepS_yes ht]; done) | (rw [deepS_yes ht, List.take_of_length_le (by omega)]; done) | (rw [deepS_no (by simpa using hc1)]; done))) rfl) <| ROs.cons (RO.tmp (At.self (by decide)) (Kv rfl (by first | (rw [deepS_yes ht]; done) | (rw [deepS_yes ht, List.take_of_length_le (by omega)]; done) | (rw [deepS_no (by simpa using hc1)]; done))) rfl) <| ROs.nil) (by decide) OutsOK.nil
  ·
    try simp only [decide_eq_true_eq, decide_eq_false_iff_not, Bool.not_eq_true', Bool.not_eq_false'] at hc1
    have hc1' := hc1; try simp only [decide_eq_true_eq, decide_eq_false_iff_not, beq_iff_eq, beq_eq_false_iff_ne, bne_iff_ne, bne_eq_false_iff_eq, ne_eq, Bool.not_eq_true', Bool.not_eq_false', Bool.and_eq_true, Bool.or_eq_true, Bool.or_eq_false_iff, Bool.and_eq_false_iff, Bool.not_true, Bool.not_false] at hc1'
    have ht : treeOK x := tt_iff.1 (by simpa using hc1)
    have hdl := depA_len ht
    have htl := ht.1
    have htl2 := ht.2.1
    refine AW.skip ?_
    refine AX.pr (Kc 3 (.cel _ _) rfl <| Kc 2 (.cel _ _) rfl <| Kc 0 (.cel _ _) rfl <| Kn) ?_
    refine AX.go ?_
    refine AW.seq ?_
    refine AW.region ?_
    refine AWl.st rfl (OpT.move (A := .cel _ _) (.inl rfl) rfl (okd rfl rfl) (Tm rfl rfl rfl) rfl) rfl ?_
    refine AWl.st rfl (OpT.c1 (ms := [.flat]) (c_spec_l06Depths _ ht) rfl rfl (okd rfl rfl) (Af (Tm rfl rfl rfl) rfl rfl <| An) rfl rfl) rfl ?_
    refine AWl.st rfl (OpT.move (A := .cel _ _) (.inr rfl) rfl (okd rfl rfl) (Tm rfl rfl rfl) rfl) rfl ?_
    refine AWl.nil ?_
    refine AX.pr (Kc 4 (.cel _ _) rfl <| Kc 3 (.cel _ _) rfl <| Kc 2 (.cel _ _) rfl <| Kn) ?_
    refine AX.go ?_
    refine AW.seq ?_
    refine AW.region ?_
    refine AWl.st rfl (OpT.move (A := .cel _ _) (.inr rfl) rfl (okd rfl rfl) (I rfl) rfl) rfl ?_
    refine AWl.nil ?_
    refine AX.go ?_
    refine AW.seq ?_
    refine AW.seq ?_
    refine AW.region ?_
    refine AWl.st rfl (OpT.move (A := .cel _ _) (.inr rfl) rfl (okd rfl rfl) (I rfl) rfl) rfl ?_
    refine AWl.nil ?_
    refine AX.go ?_
    refine AW.block ?_
    refine AW.loop (fun z : Nat => z ≤ (depA x x.length).length) (fun z : Nat => keep [(4, .cel (Kd.slice (Kd.int .i64)) (depA x x.length)), (5, .cel (Kd.int .i64) (((depA x x.length).take z).foldl max 0)), (6, .cel (Kd.int .i64) (z : Int))]) (fun z : Nat => (depA x x.length).length - z) (0) (Nat.zero_le _) (Kc 4 _ (Kv rfl rfl) <| Kc 5 _ (Kv rfl rfl) <| Kc 6 _ (Kv rfl rfl) <| Kn) ?_
    intro z hI
    refine AW.seq ?_
    refine AW.seq ?_
    refine AW.region ?_
    refine AWl.st rfl (OpT.move (A := .cel _ _) (.inl rfl) rfl (okd rfl rfl) (Tm rfl rfl rfl) rfl) rfl ?_
    refine AWl.st rfl (OpT.move (A := .cel _ _) (.inl rfl) rfl (okd rfl rfl) (Tm rfl rfl rfl) rfl) rfl ?_
    refine AWl.st rfl (OpT.len rfl rfl (okd rfl rfl) (Tm rfl rfl rfl) el50) rfl ?_
    refine AWl.st rfl (OpT.lss rfl rfl (okd rfl rfl) (Tm rfl rfl rfl) (Tm rfl rfl rfl)) rfl ?_
    refine AWl.nil ?_
    refine AX.go ?_
    refine AW.cond (t := 15) rfl (by decide) (fun hc2 => ?_) (fun hc2 => ?_)
    ·
      try simp only [decide_eq_true_eq, decide_eq_false_iff_not, Bool.not_eq_true', Bool.not_eq_false'] at hc2
      have hc2' := hc2; try simp only [decide_eq_true_eq, decide_eq_false_iff_not, beq_iff_eq, beq_eq_false_iff_ne, bne_iff_ne, bne_eq_false_iff_eq, ne_eq, Bool.not_eq_true', Bool.not_eq_false', Bool.and_eq_true, Bool.or_eq_true, Bool.or_eq_false_iff, Bool.and_eq_false_iff, Bool.not_true, Bool.not_false] at hc2'
      obtain ⟨a, ha⟩ := getI (x := depA x x.length) (z := z) (by omega)
      refine AW.skip ?_
      refine AX.go ?_
      refine AW.seq ?_
      refine AW.block ?_
      refine AW.region ?_
      refine AWl.st rfl (OpT.move (A := .cel _ _) (.inl rfl) rfl (okd rfl rfl) (Tm rfl rfl rfl) rfl) rfl ?_
      refine AWl.st rfl (OpT.move (A := .cel _ _) (.inl rfl) rfl (okd rfl rfl) (Tm rfl rfl rfl) rfl) rfl ?_
      refine AWl.st rfl (OpT.move (A := .cel _ _) (.inl rfl) rfl (okd rfl rfl) (Tm rfl rfl rfl) rfl) rfl ?_
      refine AWl.st rfl (OpT.indexAddr rfl rfl (okd rfl rfl) (Tm rfl rfl rfl) (Tm rfl rfl rfl) el50 sz2 (by omega) (by assumption)) rfl ?_
      refine AWl.st rfl (OpT.load rfl rfl (okd rfl rfl) (Tm rfl rfl rfl) ag2 rfl) rfl ?_
      refine AWl.st rfl (OpT.c1 (ms := [.flat, .flat]) (c_spec_l00Max _ _) rfl rfl (okd rfl rfl) (Af (Tm rfl rfl rfl) rfl rfl <| Af (Tm rfl rfl rfl) rfl rfl <| An) rfl rfl) rfl ?_
      refine AWl.sg rfl (OpT.move (A := .cel _ _) (.inr rfl) rfl (okd rfl rfl) (Tm rfl rfl rfl) rfl) (Kc 5 (.cel _ _) rfl <| Kc 23 (.cel _ _) rfl <| Kc 22 (.cel _ _) rfl <| Kc 21 (.cel _ _) rfl <| Kc 20 (.cel _ _) rfl <| Kc 19 (.cel _ _) rfl <| Kc 18 (.cel _ _) rfl <| Kc 15 (.cel _ _) rfl <| Kc 14 (.cel _ _) rfl <| Kc 13 (.cel _ _) rfl <| Kc 12 (.cel _ _) rfl <| Kc 4 (.cel _ _) rfl <| Kc 6 (.cel _ _) rfl <| Kn) ?_
      refine AWl.nil ?_
      refine AX.normal_block ?_
      refine AX.go ?_
      refine AW.region ?_
      refine AWl.st rfl (OpT.move (A := .cel _ _) (.inl rfl) rfl (okd rfl rfl) (Tm rfl rfl rfl) rfl) rfl ?_
      refine AWl.st rfl (OpT.add rfl rfl (okd rfl rfl) (Tm rfl rfl rfl) (I rfl) (nw (by omega))) rfl ?_
      refine AWl.sg rfl (OpT.move (A := .cel _ _) (.inr rfl) rfl (okd rfl rfl) (Tm rfl rfl rfl) rfl) (Kc 6 (.cel _ _) rfl <| Kc 17 (.cel _ _) rfl <| Kc 16 (.cel _ _) rfl <| Kc 5 (.cel _ _) rfl <| Kc 23 (.cel _ _) rfl <| Kc 22 (.cel _ _) rfl <| Kc 21 (.cel _ _) rfl <| Kc 20 (.cel _ _) rfl <| Kc 19 (.cel _ _) rfl <| Kc 18 (.cel _ _) rfl <| Kc 15 (.cel _ _) rfl <| Kc 14 (.cel _ _) rfl <| Kc 13 (.cel _ _) rfl <| Kc 12 (.cel _ _) rfl <| Kc 4 (.cel _ _) rfl <| Kn) ?_
      refine AWl.nil ?_
      exact AX.again (z + 1) (by omega) (by omega) (Kc 4 _ (Kv rfl rfl) <| Kc 5 _ (Kv rfl (mx_step ha)) <| Kc 6 _ (Kv rfl (by omega)) <| Kn)
    ·
      try simp only [decide_eq_true_eq, decide_eq_false_iff_not, Bool.not_eq_true', Bool.not_eq_false'] at hc2
      have hc2' := hc2; try simp only [decide_eq_true_eq, decide_eq_false_iff_not, beq_iff_eq, beq_eq_false_iff_ne, bne_iff_ne, bne_eq_false_iff_eq, ne_eq, Bool.not_eq_true', Bool.not_eq_false', Bool.and_eq_true, Bool.or_eq_true, Bool.or_eq_false_iff, Bool.and_eq_false_iff, Bool.not_true, Bool.not_false] at hc2'
      refine AW.exit ?_
      refine AX.exit_then ?_
      refine AX.exit_then ?_
      refine AX.exit_hit ?_
      refine AX.pr (Kc 5 (.cel _ _) rfl <| Kn) ?_
      refine AX.go ?_
      refine AW.seq ?_
      refine AW.region ?_
      refine AWl.st rfl (OpT.move (A := .cel _ _) (.inl rfl) rfl (okd rfl rfl) (Tm rfl rfl rfl) rfl) rfl ?_
      refine AWl.st rfl (OpT.move (A := .cel _ _) (.inr rfl) rfl (okd rfl rfl) (Tm rfl rfl rfl) rfl) rfl ?_
      refine AWl.st rfl (OpT.move (A := .cel _ _) (.inr rfl) rfl (okd rfl rfl) (I rfl) rfl) rfl ?_
      refine AWl.nil ?_
      refine AX.pr (Kc 3 (.cel _ _) rfl <| Kc 2 (.cel _ _) rfl <| Kn) ?_
      refine AX.go ?_
      refine AW.ret ?_
      exact AX.rt (rs := [.tmp 2, .tmp 3]) (ts := [some 2, some 3]) (.inl rfl) rfl (ROs.cons (RO.tmp (At.self (by decide)) (Kv rfl (by first | (rw [deepS_yes ht]; done) | (rw [deepS_yes ht, List.take_of_length_le (by omega)]; done) | (rw [deepS_no (by simpa using hc1)]; done))) rfl) <| ROs.cons (RO.tmp (At.self (by decide)) (Kv rfl (by first | (rw [deepS_yes ht]; done) | (rw [deepS_yes ht, List.take_of_length_le (by omega)]; done) | (rw [deepS_no (by simpa using hc1)]; done))) rfl) <| ROs.nil) (by decide) OutsOK.nil

/-- impl.DeepestOf -/
theorem c_impl_DeepestOf (x : List DKnot) (hn : okKS x) : AC Try.prog 41 [.cel (Kd.slice kKnot) x] [.cel (Kd.int .i64) (deepS x).1, .cel (Kd.int .i64) (deepS x).2] [] := by
  refine ⟨ACall.intro (N := 10) Try.func41 (c := _) (rfl : Func.body _ = some _) rfl (Nat.le_of_ble_eq_true rfl) (Nat.le_of_ble_eq_true rfl) rfl (Nat.le_of_ble_eq_true rfl) fun w0 hd s0 ar har => ?_, _, Try.func41, rfl, by decide⟩
  refine AW.to (Kc 0 (.cel _ _) rfl <| Kn) ?_
  refine AW.seq ?_
  refine AW.region ?_
  refine AWl.st rfl (OpT.move (A := .cel _ _) (.inr rfl) rfl (okd rfl rfl) (I rfl) rfl) rfl ?_
  refine AWl.st rfl (OpT.move (A := .cel _ _) (.inr rfl) rfl (okd rfl rfl) (I rfl) rfl) rfl ?_
  refine AWl.nil ?_
  refine AX.go ?_
  refine AW.seq ?_
  refine AW.seq ?_
  refine AW.region ?_
  refine AWl.st rfl (OpT.move (A := .cel _ _) (.inl rfl) rfl (okd rfl rfl) (Tm rfl rfl rfl) rfl) rfl ?_
  refine AWl.st rfl (OpT.c1 (ms := [.flat]) (c_impl_isTree _ hn) rfl rfl (okd rfl rfl) (Af (Tm rfl rfl rfl) rfl rfl <| An) rfl rfl) rfl ?_
  refine AWl.st rfl (OpT.not rfl rfl (okd rfl rfl) (Tm rfl rfl rfl)) rfl ?_
  refine AWl.nil ?_
  refine AX.pr (Kc 6 (.cel _ _) rfl <| Kc 3 (.cel _ _) rfl <| Kc 2 (.cel _ _) rfl <| Kc 0 (.cel _ _) rfl <| Kn) ?_
  refine AX.go ?_
  refine AW.cond (t := 6) rfl (by decide) (fun hc1 => ?_) (fun hc1 => ?_)
  ·
    try simp only [decide_eq_true_eq, decide_eq_false_iff_not, Bool.not_eq_true', Bool.not_eq_false'] at hc1
    have hc1' := hc1; try simp only [decide_eq_true_eq, decide_eq_false_iff_not, beq_iff_eq, beq_eq_false_iff_ne, bne_iff_ne, bne_eq_false_iff_eq, ne_eq, Bool.not_eq_true', Bool.not_eq_false', Bool.and_eq_true, Bool.or_eq_true, Bool.or_eq_false_iff, Bool.and_eq_false_iff, Bool.not_true, Bool.not_false] at hc1'
    refine AW.seq ?_
    refine AW.region ?_
    refine AWl.sg rfl (OpT.move (A := .cel _ _) (.inr rfl) rfl (okd rfl rfl) (I rfl) rfl) (Kc 2 (.cel _ _) rfl <| Kc 6 (.cel _ _) rfl <| Kc 3 (.cel _ _) rfl <| Kc 0 (.cel _ _) rfl <| Kn) ?_
    refine AWl.sg rfl (OpT.move (A := .cel _ _) (.inr rfl) rfl (okd rfl rfl) (I rfl) rfl) (Kc 3 (.cel _ _) rfl <| Kc 2 (.cel _ _) rfl <| Kc 6 (.cel _ _) rfl <| Kc 0 (.cel _ _) rfl <| Kn) ?_
    refine AWl.nil ?_
    refine AX.pr (Kc 3 (.cel _ _) rfl <| Kc 2 (.cel _ _) rfl <| Kc 0 (.cel _ _) rfl <| Kn) ?_
    refine AX.go ?_
    refine AW.ret ?_
    refine AX.ret_then ?_
    exact AX.rt (rs := [.tmp 2, .tmp 3]) (ts := [some 2, some 3]) (.inl rfl) rfl (ROs.cons (RO.tmp (At.self (by decide)) (Kv rfl (by first | (rw [deepS_yes ht]; done) | (rw [deepS_yes ht, deepS_max ht]; done) | (rw [deepS_no (by simpa using hc1)]; done))) rfl) <| ROs.cons (RO.tmp (At.self (by decide)) (Kv rfl (by first | (rw [deepS_yes ht]; done) | (rw [deepS_yes ht, deepS_max ht]; done) | (rw [deepS_no (by simpa using hc1)]; done))) rfl) <| ROs.nil) (by decide) OutsOK.nil
  ·
    try simp only [decide_eq_true_eq, decide_eq_false_iff_not, Bool.not_eq_true', Bool.not_eq_false'] at hc1
    have hc1' := hc1; try simp only [decide_eq_true_eq, decide_eq_false_iff_not, beq_iff_eq, beq_eq_false_iff_ne, bne_iff_ne, bne_eq_false_iff_eq, ne_eq, Bool.not_eq_true', Bool.not_eq_false', Bool.and_eq_true, Bool.or_eq_true, Bool.or_eq_false_iff, Bool.and_eq_false_iff, Bool.not_true, Bool.not_false] at hc1'
    have ht : treeOK x := tt_iff.1 (by simpa using hc1)
    have hdl := depA_len ht
    have htl := ht.1
    have htl2 := ht.2.1
    refine AW.skip ?_
    refine AX.pr (Kc 3 (.cel _ _) rfl <| Kc 2 (.cel _ _) rfl <| Kc 0 (.cel _ _) rfl <| Kn) ?_
    refine AX.go ?_
    refine AW.seq ?_
    refine AW.region ?_
    refine AWl.st rfl (OpT.move (A := .cel _ _) (.inl rfl) rfl (okd rfl rfl) (Tm rfl rfl rfl) rfl) rfl ?_
    refine AWl.st rfl (OpT.c1 (ms := [.flat]) (c_impl_depths _ ht) rfl rfl (okd rfl rfl) (Af (Tm rfl rfl rfl) rfl rfl <| An) rfl rfl) rfl ?_
    refine AWl.st rfl (OpT.c1 (ms := [.flat]) (c_slices_Max_int64_int64 _ (by omega)) rfl rfl (okd rfl rfl) (Af (Tm rfl rfl rfl) rfl rfl <| An) rfl rfl) rfl ?_
    refine AWl.sg rfl (OpT.move (A := .cel _ _) (.inr rfl) rfl (okd rfl rfl) (Tm rfl rfl rfl) rfl) (Kc 2 (.cel _ _) rfl <| Kc 9 (.cel _ _) rfl <| Kc 8 (.cel _ _) rfl <| Kc 7 (.cel _ _) rfl <| Kc 3 (.cel _ _) rfl <| Kc 0 (.cel _ _) rfl <| Kn) ?_
    refine AWl.sg rfl (OpT.move (A := .cel _ _) (.inr rfl) rfl (okd rfl rfl) (I rfl) rfl) (Kc 3 (.cel _ _) rfl <| Kc 2 (.cel _ _) rfl <| Kc 9 (.cel _ _) rfl <| Kc 8 (.cel _ _) rfl <| Kc 7 (.cel _ _) rfl <| Kc 0 (.cel _ _) rfl <| Kn) ?_
    refine AWl.nil ?_
    refine AX.pr (Kc 3 (.cel _ _) rfl <| Kc 2 (.cel _ _) rfl <| Kn) ?_
    refine AX.go ?_
    refine AW.ret ?_
    exact AX.rt (rs := [.tmp 2, .tmp 3]) (ts := [some 2, some 3]) (.inl rfl) rfl (ROs.cons (RO.tmp (At.self (by decide)) (Kv rfl (by first | (rw [deepS_yes ht]; done) | (rw [deepS_yes ht, deepS_max ht]; done) | (rw [deepS_no (by simpa using hc1)]; done))) rfl) <| ROs.cons (RO.tmp (At.self (by decide)) (Kv rfl (by first | (rw [deepS_yes ht]; done) | (rw [deepS_yes ht, deepS_max ht]; done) | (rw [deepS_no (by simpa using hc1)]; done))) rfl) <| ROs.nil) (by decide) OutsOK.nil

/-- laws.FnExactDeepestOf -/
theorem c_laws_FnExactDeepestOf (x : List DKnot) : AC Try.prog 11 [.cel (Kd.slice kKnot) x] [.cel Kd.bool true] [] := by
  refine ⟨ACall.intro (N := 40) Try.func11 (c := _) (rfl : Func.body _ = some _) rfl (Nat.le_of_ble_eq_true rfl) (Nat.le_of_ble_eq_true rfl) rfl (Nat.le_of_ble_eq_true rfl) fun w0 hd s0 ar har => ?_, _, Try.func11, rfl, by decide⟩
  refine AW.to (Kc 0 (.cel _ _) rfl <| Kn) ?_
  refine AW.seq ?_
  refine AW.region ?_
  refine AWl.st rfl (OpT.move (A := .cel _ _) (.inr rfl) rfl (okd rfl rfl) Opd.bool rfl) rfl ?_
  refine AWl.nil ?_
  refine AX.go ?_
  refine AW.seq ?_
  refine AW.region ?_
  refine AWl.st rfl (OpT.move (A := .cel _ _) (.inr rfl) rfl (okd rfl rfl) (I rfl) rfl) rfl ?_
  refine AWl.nil ?_
  refine AX.go ?_
  refine AW.seq ?_
  refine AW.region ?_
  refine AWl.st rfl (OpT.move (A := .cel _ _) (.inl rfl) rfl (okd rfl rfl) (Tm rfl rfl rfl) rfl) rfl ?_
  refine AWl.st rfl (OpT.move (A := .cel _ _) (.inl rfl) rfl (okd rfl rfl) (Tm rfl rfl rfl) rfl) rfl ?_
  refine AWl.st rfl (OpT.c1 (ms := [.flat, .flat]) (c_laws_szKnotS _ _ (by omega)) rfl rfl (okd rfl rfl) (Af (Tm rfl rfl rfl) rfl rfl <| Af (Tm rfl rfl rfl) rfl rfl <| An) rfl rfl) rfl ?_
  refine AWl.sg rfl (OpT.move (A := .cel _ _) (.inr rfl) rfl (okd rfl rfl) (Tm rfl rfl rfl) rfl) (Kc 3 (.cel _ _) rfl <| Kc 11 (.cel _ _) rfl <| Kc 10 (.cel _ _) rfl <| Kc 9 (.cel _ _) rfl <| Kc 2 (.cel _ _) rfl <| Kc 0 (.cel _ _) rfl <| Kn) ?_
  refine AWl.nil ?_
  refine AX.pr (Kc 3 (.cel _ _) rfl <| Kc 2 (.cel _ _) rfl <| Kc 0 (.cel _ _) rfl <| Kn) ?_
  refine AX.go ?_
  refine AW.seq ?_
  refine AW.seq ?_
  refine AW.region ?_
  refine AWl.st rfl (OpT.move (A := .cel _ _) (.inl rfl) rfl (okd rfl rfl) (Tm rfl rfl rfl) rfl) rfl ?_
  refine AWl.st rfl (OpT.lss rfl rfl (okd rfl rfl) (Tm rfl rfl rfl) (I rfl)) rfl ?_
  refine AWl.nil ?_
  refine AX.pr (Kc 13 (.cel _ _) rfl <| Kc 2 (.cel _ _) rfl <| Kc 0 (.cel _ _) rfl <| Kn) ?_
  refine AX.go ?_
  refine AW.cond (t := 13) rfl (by decide) (fun hc1 => ?_) (fun hc1 => ?_)
  ·
    try simp only [decide_eq_true_eq, decide_eq_false_iff_not, Bool.not_eq_true', Bool.not_eq_false'] at hc1
    refine AW.seq ?_
    refine AW.region ?_
    refine AWl.sg rfl (OpT.move (A := .cel _ _) (.inr rfl) rfl (okd rfl rfl) Opd.bool rfl) (Kc 2 (.cel _ _) rfl <| Kc 13 (.cel _ _) rfl <| Kc 0 (.cel _ _) rfl <| Kn) ?_
    refine AWl.nil ?_
    refine AX.pr (Kc 2 (.cel _ _) rfl <| Kc 0 (.cel _ _) rfl <| Kn) ?_
    refine AX.go ?_
    refine AW.ret ?_
    refine AX.ret_then ?_
    exact AX.rt (rs := [.tmp 2]) (ts := [some 2]) (.inl rfl) rfl (ROs.cons (RO.tmp (At.self (by decide)) (Kv rfl (by simp_all [eqv_self])) rfl) <| ROs.nil) (by decide) OutsOK.nil
  ·
    try simp only [decide_eq_true_eq, decide_eq_false_iff_not, Bool.not_eq_true', Bool.not_eq_false'] at hc1
    have k0 := szKS_in x (l := 1048576) (by omega)
    have k1 := k0.2.2 (by omega)
    refine AW.skip ?_
    refine AX.pr (Kc 2 (.cel _ _) rfl <| Kc 0 (.cel _ _) rfl <| Kn) ?_
    refine AX.go ?_
    refine AW.seq ?_
    refine AW.region ?_
    refine AWl.st rfl (OpT.move (A := .cel _ _) (.inl rfl) rfl (okd rfl rfl) (Tm rfl rfl rfl) rfl) rfl ?_
    refine AWl.st rfl (OpT.c1 (ms := [.flat]) (c_laws_toKnotS x k1) rfl rfl (okd rfl rfl) (Af (Tm rfl rfl rfl) rfl rfl <| An) rfl rfl) rfl ?_
    refine AWl.st2 rfl (OpT.c2 (ms := [.flat]) (c_spec_DeepestOf x k1) rfl rfl (okd rfl rfl) (Af (Tm rfl rfl rfl) rfl rfl <| An) rfl rfl rfl) rfl rfl ?_
    refine AWl.st rfl (OpT.alias rfl rfl (okd rfl rfl) (by decide) (by decide)) rfl ?_
    refine AWl.st rfl (OpT.extractV (m := 10017) rfl rfl (okd rfl rfl) rfl rfl rfl rfl rfl rfl rfl) rfl ?_
    refine AWl.st rfl (OpT.extractV (m := 20017) rfl rfl (okd rfl rfl) rfl rfl rfl rfl rfl rfl rfl) rfl ?_
    refine AWl.st rfl (OpT.move (A := .cel _ _) (.inr rfl) rfl (okd rfl rfl) (Tm rfl rfl rfl) rfl) rfl ?_
    refine AWl.st rfl (OpT.move (A := .cel _ _) (.inr rfl) rfl (okd rfl rfl) (Tm rfl rfl rfl) rfl) rfl ?_
    refine AWl.nil ?_
    refine AX.pr (Kc 5 (.cel _ _) rfl <| Kc 4 (.cel _ _) rfl <| Kc 2 (.cel _ _) rfl <| Kc 0 (.cel _ _) rfl <| Kn) ?_
    refine AX.go ?_
    refine AW.seq ?_
    refine AW.region ?_
    refine AWl.st rfl (OpT.move (A := .cel _ _) (.inl rfl) rfl (okd rfl rfl) (Tm rfl rfl rfl) rfl) rfl ?_
    refine AWl.st rfl (OpT.c1 (ms := [.flat]) (c_laws_toKnotS x k1) rfl rfl (okd rfl rfl) (Af (Tm rfl rfl rfl) rfl rfl <| An) rfl rfl) rfl ?_
    refine AWl.st rfl (OpT.move (A := .cel _ _) (.inr rfl) rfl (okd rfl rfl) (Tm rfl rfl rfl) rfl) rfl ?_
    refine AWl.nil ?_
    refine AX.pr (Kc 6 (.cel _ _) rfl <| Kc 5 (.cel _ _) rfl <| Kc 4 (.cel _ _) rfl <| Kc 2 (.cel _ _) rfl <| Kc 0 (.cel _ _) rfl <| Kn) ?_
    refine AX.go ?_
    refine AW.seq ?_
    refine AW.region ?_
    refine AWl.st rfl (OpT.move (A := .cel _ _) (.inl rfl) rfl (okd rfl rfl) (Tm rfl rfl rfl) rfl) rfl ?_
    refine AWl.st2 rfl (OpT.c2 (ms := [.flat]) (c_impl_DeepestOf x k1) rfl rfl (okd rfl rfl) (Af (Tm rfl rfl rfl) rfl rfl <| An) rfl rfl rfl) rfl rfl ?_
    refine AWl.st rfl (OpT.alias rfl rfl (okd rfl rfl) (by decide) (by decide)) rfl ?_
    refine AWl.st rfl (OpT.extractV (m := 10024) rfl rfl (okd rfl rfl) rfl rfl rfl rfl rfl rfl rfl) rfl ?_
    refine AWl.st rfl (OpT.extractV (m := 20024) rfl rfl (okd rfl rfl) rfl rfl rfl rfl rfl rfl rfl) rfl ?_
    refine AWl.st rfl (OpT.move (A := .cel _ _) (.inr rfl) rfl (okd rfl rfl) (Tm rfl rfl rfl) rfl) rfl ?_
    refine AWl.st rfl (OpT.move (A := .cel _ _) (.inr rfl) rfl (okd rfl rfl) (Tm rfl rfl rfl) rfl) rfl ?_
    refine AWl.nil ?_
    refine AX.pr (Kc 8 (.cel _ _) rfl <| Kc 7 (.cel _ _) rfl <| Kc 6 (.cel _ _) rfl <| Kc 5 (.cel _ _) rfl <| Kc 4 (.cel _ _) rfl <| Kc 2 (.cel _ _) rfl <| Kc 0 (.cel _ _) rfl <| Kn) ?_
    refine AX.go ?_
    refine AW.seq ?_
    refine AW.seq ?_
    refine AW.region ?_
    refine AWl.st rfl (OpT.move (A := .cel _ _) (.inl rfl) rfl (okd rfl rfl) (Tm rfl rfl rfl) rfl) rfl ?_
    refine AWl.st rfl (OpT.move (A := .cel _ _) (.inl rfl) rfl (okd rfl rfl) (Tm rfl rfl rfl) rfl) rfl ?_
    refine AWl.st rfl (OpT.neq rfl rfl (okd rfl rfl) (Tm rfl rfl rfl) (Tm rfl rfl rfl)) rfl ?_
    refine AWl.st rfl (OpT.move (A := .cel _ _) (.inl rfl) rfl (okd rfl rfl) (Tm rfl rfl rfl) rfl) rfl ?_
    apply AWl.or (d := 34) (t := 30) rfl
    · intro hb1 Q1 k1
      refine AWl.rs rfl rfl rfl rfl hb1 (OpT.move (A := .cel _ _) (.inl rfl) rfl (okd rfl rfl) (Tm rfl rfl rfl) rfl) rfl ?_
      refine AWl.rs rfl rfl rfl rfl hb1 (OpT.move (A := .cel _ _) (.inl rfl) rfl (okd rfl rfl) (Tm rfl rfl rfl) rfl) rfl ?_
      refine AWl.rs rfl rfl rfl rfl hb1 (OpT.neq rfl rfl (okd rfl rfl) (Tm rfl rfl rfl) (Tm rfl rfl rfl)) rfl ?_
      refine AWl.st rfl (OpT.pickF (A := .cel _ _) rfl rfl (okd rfl rfl) (Tm rfl rfl rfl) hb1 (Tm rfl rfl rfl) rfl) rfl ?_
      exact AWl.to (junk 3 rfl) k1
    · intro hb1 Q1 k1
      refine AWl.pas rfl rfl rfl rfl hb1 rfl (okd rfl rfl) rfl ?_
      refine AWl.pas rfl rfl rfl rfl hb1 rfl (okd rfl rfl) rfl ?_
      refine AWl.pas rfl rfl rfl rfl hb1 rfl (okd rfl rfl) rfl ?_
      refine AWl.st rfl (OpT.pickT (A := .cel _ _) rfl rfl (okd rfl rfl) (Tm rfl rfl rfl) hb1 Opd.bool rfl) rfl ?_
      exact k1
    refine AWl.nil ?_
    refine AX.pr (Kc 34 (.cel _ _) rfl <| Kc 6 (.cel _ _) rfl <| Kc 2 (.cel _ _) rfl <| Kc 0 (.cel _ _) rfl <| Kn) ?_
    refine AX.go ?_
    refine AW.cond (t := 34) rfl (by decide) (fun hc2 => ?_) (fun hc2 => ?_)
    ·
      try simp only [decide_eq_true_eq, decide_eq_false_iff_not, Bool.not_eq_true', Bool.not_eq_false'] at hc2
      refine AW.seq ?_
      refine AW.region ?_
      refine AWl.sg rfl (OpT.move (A := .cel _ _) (.inr rfl) rfl (okd rfl rfl) Opd.bool rfl) (Kc 2 (.cel _ _) rfl <| Kc 34 (.cel _ _) rfl <| Kc 6 (.cel _ _) rfl <| Kc 0 (.cel _ _) rfl <| Kn) ?_
      refine AWl.nil ?_
      refine AX.pr (Kc 2 (.cel _ _) rfl <| Kc 6 (.cel _ _) rfl <| Kc 0 (.cel _ _) rfl <| Kn) ?_
      refine AX.go ?_
      refine AW.ret ?_
      refine AX.ret_then ?_
      exact AX.rt (rs := [.tmp 2]) (ts := [some 2]) (.inl rfl) rfl (ROs.cons (RO.tmp (At.self (by decide)) (Kv rfl (by simp_all [eqv_self])) rfl) <| ROs.nil) (by decide) OutsOK.nil
    ·
      try simp only [decide_eq_true_eq, decide_eq_false_iff_not, Bool.not_eq_true', Bool.not_eq_false'] at hc2
      refine AW.skip ?_
      refine AX.pr (Kc 6 (.cel _ _) rfl <| Kc 2 (.cel _ _) rfl <| Kc 0 (.cel _ _) rfl <| Kn) ?_
      refine AX.go ?_
      refine AW.seq ?_
      refine AW.seq ?_
      refine AW.region ?_
      refine AWl.st rfl (OpT.move (A := .cel _ _) (.inl rfl) rfl (okd rfl rfl) (Tm rfl rfl rfl) rfl) rfl ?_
      refine AWl.st rfl (OpT.move (A := .cel _ _) (.inl rfl) rfl (okd rfl rfl) (Tm rfl rfl rfl) rfl) rfl ?_
      refine AWl.st rfl (OpT.c1 (ms := [.flat]) (c_laws_toKnotS x k1) rfl rfl (okd rfl rfl) (Af (Tm rfl rfl rfl) rfl rfl <| An) rfl rfl) rfl ?_
      refine AWl.st rfl (OpT.c1 (ms := [.flat, .flat]) (c_laws_eqKnotS _ _) rfl rfl (okd rfl rfl) (Af (Tm rfl rfl rfl) rfl rfl <| Af (Tm rfl rfl rfl) rfl rfl <| An) rfl rfl) rfl ?_
      refine AWl.st rfl (OpT.not rfl rfl (okd rfl rfl) (Tm rfl rfl rfl)) rfl ?_
      refine AWl.nil ?_
      refine AX.pr (Kc 39 (.cel _ _) rfl <| Kc 2 (.cel _ _) rfl <| Kn) ?_
      refine AX.go ?_
      refine AW.cond (t := 39) rfl (by decide) (fun hc3 => ?_) (fun hc3 => ?_)
      ·
        try simp only [decide_eq_true_eq, decide_eq_false_iff_not, Bool.not_eq_true', Bool.not_eq_false'] at hc3
        refine AW.seq ?_
        refine AW.region ?_
        refine AWl.sg rfl (OpT.move (A := .cel _ _) (.inr rfl) rfl (okd rfl rfl) Opd.bool rfl) (Kc 2 (.cel _ _) rfl <| Kc 39 (.cel _ _) rfl <| Kn) ?_
        refine AWl.nil ?_
        refine AX.pr (Kc 2 (.cel _ _) rfl <| Kn) ?_
        refine AX.go ?_
        refine AW.ret ?_
        refine AX.ret_then ?_
        exact AX.rt (rs := [.tmp 2]) (ts := [some 2]) (.inl rfl) rfl (ROs.cons (RO.tmp (At.self (by decide)) (Kv rfl (by simp_all [eqv_self])) rfl) <| ROs.nil) (by decide) OutsOK.nil
      ·
        try simp only [decide_eq_true_eq, decide_eq_false_iff_not, Bool.not_eq_true', Bool.not_eq_false'] at hc3
        refine AW.skip ?_
        refine AX.pr (Kc 2 (.cel _ _) rfl <| Kn) ?_
        refine AX.go ?_
        refine AW.seq ?_
        refine AW.region ?_
        refine AWl.sg rfl (OpT.move (A := .cel _ _) (.inr rfl) rfl (okd rfl rfl) Opd.bool rfl) (Kc 2 (.cel _ _) rfl <| Kn) ?_
        refine AWl.nil ?_
        refine AX.go ?_
        refine AW.ret ?_
        exact AX.rt (rs := [.tmp 2]) (ts := [some 2]) (.inl rfl) rfl (ROs.cons (RO.tmp (At.self (by decide)) (Kv rfl (by simp_all [eqv_self])) rfl) <| ROs.nil) (by decide) OutsOK.nil

/-- laws.eqShare -/
theorem c_laws_eqShare (x y : Int × Int) : AC Try.prog 16 [.agg kShare x, .agg kShare y] [.cel Kd.bool (eqv x y)] [] := by
  refine ⟨ACall.intro (N := 15) Try.func16 (c := _) (rfl : Func.body _ = some _) rfl (Nat.le_of_ble_eq_true rfl) (Nat.le_of_ble_eq_true rfl) rfl (Nat.le_of_ble_eq_true rfl) fun w0 hd s0 ar har => ?_, _, Try.func16, rfl, by decide⟩
  refine AW.to (Kc 0 (.agg _ _) rfl <| Kc 1 (.agg _ _) rfl <| Kn) ?_
  refine AW.seq ?_
  refine AW.region ?_
  refine AWl.st rfl (OpT.frz (OpT.boxA (E := 23) rfl rfl (okd rfl rfl) (Tm rfl rfl rfl))) rfl ?_
  refine AWl.st rfl (OpT.frz (OpT.boxA (E := 23) rfl rfl (okd rfl rfl) (Tm rfl rfl rfl))) rfl ?_
  refine AWl.st rfl (OpT.move (A := .cel _ _) (.inr rfl) rfl (okd rfl rfl) Opd.bool rfl) rfl ?_
  refine AWl.nil ?_
  refine AX.pr (Kc 4 (.cel _ _) rfl <| Kc 3 (.cel _ _) rfl <| Kc 2 (.cel _ _) rfl <| Kn) ?_
  refine AX.go ?_
  refine AW.seq ?_
  refine AW.seq ?_
  refine AW.region ?_
  refine AWl.st rfl (OpT.fieldAddr rfl rfl (okd rfl rfl) (Tm rfl rfl rfl) fd23_0 sz2 (by decide) sb23_0) rfl ?_
  refine AWl.st rfl (OpT.load rfl rfl (okd rfl rfl) (Tm rfl rfl rfl) ag2 rfl) rfl ?_
  refine AWl.st rfl (OpT.fieldAddr rfl rfl (okd rfl rfl) (Tm rfl rfl rfl) fd23_0 sz2 (by decide) sb23_0) rfl ?_
  refine AWl.st rfl (OpT.load rfl rfl (okd rfl rfl) (Tm rfl rfl rfl) ag2 rfl) rfl ?_
  refine AWl.st rfl (OpT.neq rfl rfl (okd rfl rfl) (Tm rfl rfl rfl) (Tm rfl rfl rfl)) rfl ?_
  refine AWl.nil ?_
  refine AX.pr (Kc 9 (.cel _ _) rfl <| Kc 4 (.cel _ _) rfl <| Kc 3 (.cel _ _) rfl <| Kc 2 (.cel _ _) rfl <| Kn) ?_
  refine AX.go ?_
  refine AW.cond (t := 9) rfl (by decide) (fun hc1 => ?_) (fun hc1 => ?_)
  ·
    try simp only [decide_eq_true_eq, decide_eq_false_iff_not, Bool.not_eq_true', Bool.not_eq_false'] at hc1
    refine AW.seq ?_
    refine AW.region ?_
    refine AWl.sg rfl (OpT.move (A := .cel _ _) (.inr rfl) rfl (okd rfl rfl) Opd.bool rfl) (Kc 4 (.cel _ _) rfl <| Kc 9 (.cel _ _) rfl <| Kc 3 (.cel _ _) rfl <| Kc 2 (.cel _ _) rfl <| Kn) ?_
    refine AWl.nil ?_
    refine AX.pr (Kc 4 (.cel _ _) rfl <| Kc 3 (.cel _ _) rfl <| Kc 2 (.cel _ _) rfl <| Kn) ?_
    refine AX.go ?_
    refine AW.ret ?_
    refine AX.ret_then ?_
    exact AX.rt (rs := [.tmp 4]) (ts := [some 4]) (.inl rfl) rfl (ROs.cons (RO.tmp (At.self (by decide)) (Kv rfl (by rw [eqv_pair (x := x)]; simp_all [eqv_beq, eqv_bne, Bool.and_assoc])) rfl) <| ROs.nil) (by decide) OutsOK.nil
  ·
    try simp only [decide_eq_true_eq, decide_eq_false_iff_not, Bool.not_eq_true', Bool.not_eq_false'] at hc1
    refine AW.skip ?_
    refine AX.pr (Kc 4 (.cel _ _) rfl <| Kc 3 (.cel _ _) rfl <| Kc 2 (.cel _ _) rfl <| Kn) ?_
    refine AX.go ?_
    refine AW.seq ?_
    refine AW.seq ?_
    refine AW.region ?_
    refine AWl.st rfl (OpT.fieldAddr rfl rfl (okd rfl rfl) (Tm rfl rfl rfl) fd23_1 sz2 (by decide) sb23_1) rfl ?_
    refine AWl.st rfl (OpT.load rfl rfl (okd rfl rfl) (Tm rfl rfl rfl) ag2 rfl) rfl ?_
    refine AWl.st rfl (OpT.fieldAddr rfl rfl (okd rfl rfl) (Tm rfl rfl rfl) fd23_1 sz2 (by decide) sb23_1) rfl ?_
    refine AWl.st rfl (OpT.load rfl rfl (okd rfl rfl) (Tm rfl rfl rfl) ag2 rfl) rfl ?_
    refine AWl.st rfl (OpT.neq rfl rfl (okd rfl rfl) (Tm rfl rfl rfl) (Tm rfl rfl rfl)) rfl ?_
    refine AWl.nil ?_
    refine AX.pr (Kc 14 (.cel _ _) rfl <| Kc 4 (.cel _ _) rfl <| Kn) ?_
    refine AX.go ?_
    refine AW.cond (t := 14) rfl (by decide) (fun hc2 => ?_) (fun hc2 => ?_)
    ·
      try simp only [decide_eq_true_eq, decide_eq_false_iff_not, Bool.not_eq_true', Bool.not_eq_false'] at hc2
      refine AW.seq ?_
      refine AW.region ?_
      refine AWl.sg rfl (OpT.move (A := .cel _ _) (.inr rfl) rfl (okd rfl rfl) Opd.bool rfl) (Kc 4 (.cel _ _) rfl <| Kc 14 (.cel _ _) rfl <| Kn) ?_
      refine AWl.nil ?_
      refine AX.pr (Kc 4 (.cel _ _) rfl <| Kn) ?_
      refine AX.go ?_
      refine AW.ret ?_
      refine AX.ret_then ?_
      exact AX.rt (rs := [.tmp 4]) (ts := [some 4]) (.inl rfl) rfl (ROs.cons (RO.tmp (At.self (by decide)) (Kv rfl (by rw [eqv_pair (x := x)]; simp_all [eqv_beq, eqv_bne, Bool.and_assoc])) rfl) <| ROs.nil) (by decide) OutsOK.nil
    ·
      try simp only [decide_eq_true_eq, decide_eq_false_iff_not, Bool.not_eq_true', Bool.not_eq_false'] at hc2
      refine AW.skip ?_
      refine AX.pr (Kc 4 (.cel _ _) rfl <| Kn) ?_
      refine AX.go ?_
      refine AW.seq ?_
      refine AW.region ?_
      refine AWl.sg rfl (OpT.move (A := .cel _ _) (.inr rfl) rfl (okd rfl rfl) Opd.bool rfl) (Kc 4 (.cel _ _) rfl <| Kn) ?_
      refine AWl.nil ?_
      refine AX.go ?_
      refine AW.ret ?_
      exact AX.rt (rs := [.tmp 4]) (ts := [some 4]) (.inl rfl) rfl (ROs.cons (RO.tmp (At.self (by decide)) (Kv rfl (by rw [eqv_pair (x := x)]; simp_all [eqv_beq, eqv_bne, Bool.and_assoc])) rfl) <| ROs.nil) (by decide) OutsOK.nil

/-- spec.l06Share -/
theorem c_spec_l06Share (p q : Int) (h : 0 ≤ p ∧ 0 < q) : AC Try.prog 52 [.cel (Kd.int .i64) p, .cel (Kd.int .i64) q] [.agg kShare (shr p q)] [] := by
  refine ⟨ACall.intro (N := 16) Try.func52 (c := _) (rfl : Func.body _ = some _) rfl (Nat.le_of_ble_eq_true rfl) (Nat.le_of_ble_eq_true rfl) rfl (Nat.le_of_ble_eq_true rfl) fun w0 hd s0 ar har => ?_, _, Try.func52, rfl, by decide⟩
  refine AW.to (Kc 0 (.cel _ _) rfl <| Kc 1 (.cel _ _) rfl <| Kn) ?_
  refine AW.fact (fun a w hr => ok_i64 (R_ok (t := 0) rfl hr)) (fun hp => ?_)
  refine AW.fact (fun a w hr => ok_i64 (R_ok (t := 1) rfl hr)) (fun hq => ?_)
  have hg := gcd_pos' (p := p) h.2
  have h1 := tdiv_le' h.1 hg
  have h2 := tdiv_le' (p := q) (by omega) hg
  refine AW.seq ?_
  refine AW.region ?_
  refine AWl.st rfl (OpT.alloc rfl rfl (okd rfl rfl) zr23 zk23) rfl ?_
  refine AWl.nil ?_
  refine AX.go ?_
  refine AW.seq ?_
  refine AW.region ?_
  refine AWl.st rfl (OpT.move (A := .cel _ _) (.inl rfl) rfl (okd rfl rfl) (Tm rfl rfl rfl) rfl) rfl ?_
  refine AWl.st rfl (OpT.move (A := .cel _ _) (.inl rfl) rfl (okd rfl rfl) (Tm rfl rfl rfl) rfl) rfl ?_
  refine AWl.st rfl (OpT.c1 (ms := [.flat, .flat]) (c_spec_l06Gcd p q (by omega)) rfl rfl (okd rfl rfl) (Af (Tm rfl rfl rfl) rfl rfl <| Af (Tm rfl rfl rfl) rfl rfl <| An) rfl rfl) rfl ?_
  refine AWl.st rfl (OpT.move (A := .cel _ _) (.inr rfl) rfl (okd rfl rfl) (Tm rfl rfl rfl) rfl) rfl ?_
  refine AWl.nil ?_
  refine AX.pr (Kc 5 (.cel _ _) rfl <| Kc 4 (.box _ _ _) rfl <| Kc 0 (.cel _ _) rfl <| Kc 1 (.cel _ _) rfl <| Kn) ?_
  refine AX.go ?_
  refine AW.seq ?_
  refine AW.dg fomo ?_
  refine DG.fr (d := 9) [0] (DS rfl fun v h => OpT.move (A := .cel _ _) (.inl rfl) rfl (okd rfl rfl) (D h rfl rfl rfl rfl) rfl) rfl rfl ?_
  refine DG.fr (d := 10) [5] (DS rfl fun v h => OpT.move (A := .cel _ _) (.inl rfl) rfl (okd rfl rfl) (D h rfl rfl rfl rfl) rfl) rfl rfl ?_
  refine DG.fr (d := 11) [9, 10] (DS rfl fun v h => OpT.quo rfl rfl (okd rfl rfl) (D h rfl rfl rfl rfl) (D h rfl rfl rfl rfl) (by omega) (nw (by omega))) rfl rfl ?_
  refine DG.fr (d := 12) [1] (DS rfl fun v h => OpT.move (A := .cel _ _) (.inl rfl) rfl (okd rfl rfl) (D h rfl rfl rfl rfl) rfl) rfl rfl ?_
  refine DG.fr (d := 13) [5] (DS rfl fun v h => OpT.move (A := .cel _ _) (.inl rfl) rfl (okd rfl rfl) (D h rfl rfl rfl rfl) rfl) rfl rfl ?_
  refine DG.fr (d := 14) [12, 13] (DS rfl fun v h => OpT.quo rfl rfl (okd rfl rfl) (D h rfl rfl rfl rfl) (D h rfl rfl rfl rfl) (by omega) (nw (by omega))) rfl rfl ?_
  refine DG.fr (d := 15) [11, 14] (DS rfl fun v h => OpT.build rfl rfl (okd rfl rfl) pl23 zr23 zk23 (Built.cel (D h rfl rfl rfl rfl) rfl rfl sb23_0 (Built.cel (D h rfl rfl rfl rfl) rfl rfl sb23_1 (Built.nil _)))) rfl rfl ?_
  refine DG.md (t := 4) [4, 15] (DSm rfl fun v h => OpT.storeBA rfl rfl (Opd.whole (Root.self (by decide)) ((h _ (List.elem_iff.1 rfl)).trans rfl)) ((h _ (List.elem_iff.1 rfl)).trans rfl) sz23 (by decide) (D h rfl rfl rfl rfl)) ?_
  refine DG.nil ⟨by kernel_rfl, by kernel_rfl, ?_⟩
  refine AX.pr (Kc 4 (.box _ _ _) rfl <| Kn) ?_
  refine AX.go ?_
  refine AW.ret ?_
  exact AX.rt (rs := [.cell 4 23]) (ts := [none]) (.inl rfl) rfl (ROs.cons (RO.cellA (by decide) (Kb rfl rfl) ag23 sz23) <| ROs.nil) (by decide) OutsOK.nil

/-- impl.shareOf -/
theorem c_impl_shareOf (p q : Int) (h : 0 ≤ p ∧ 0 < q) : AC Try.prog 53 [.cel (Kd.int .i64) p, .cel (Kd.int .i64) q] [.agg kShare (shr p q)] [] := by
  refine ⟨ACall.intro (N := 16) Try.func53 (c := _) (rfl : Func.body _ = some _) rfl (Nat.le_of_ble_eq_true rfl) (Nat.le_of_ble_eq_true rfl) rfl (Nat.le_of_ble_eq_true rfl) fun w0 hd s0 ar har => ?_, _, Try.func53, rfl, by decide⟩
  refine AW.to (Kc 0 (.cel _ _) rfl <| Kc 1 (.cel _ _) rfl <| Kn) ?_
  refine AW.fact (fun a w hr => ok_i64 (R_ok (t := 0) rfl hr)) (fun hp => ?_)
  refine AW.fact (fun a w hr => ok_i64 (R_ok (t := 1) rfl hr)) (fun hq => ?_)
  have hg := gcd_pos' (p := p) h.2
  have h1 := tdiv_le' h.1 hg
  have h2 := tdiv_le' (p := q) (by omega) hg
  refine AW.seq ?_
  refine AW.region ?_
  refine AWl.st rfl (OpT.alloc rfl rfl (okd rfl rfl) zr23 zk23) rfl ?_
  refine AWl.nil ?_
  refine AX.go ?_
  refine AW.seq ?_
  refine AW.region ?_
  refine AWl.st rfl (OpT.move (A := .cel _ _) (.inl rfl) rfl (okd rfl rfl) (Tm rfl rfl rfl) rfl) rfl ?_
  refine AWl.st rfl (OpT.move (A := .cel _ _) (.inl rfl) rfl (okd rfl rfl) (Tm rfl rfl rfl) rfl) rfl ?_
  refine AWl.st rfl (OpT.c1 (ms := [.flat, .flat]) (c_impl_gcd p q (by omega)) rfl rfl (okd rfl rfl) (Af (Tm rfl rfl rfl) rfl rfl <| Af (Tm rfl rfl rfl) rfl rfl <| An) rfl rfl) rfl ?_
  refine AWl.st rfl (OpT.move (A := .cel _ _) (.inr rfl) rfl (okd rfl rfl) (Tm rfl rfl rfl) rfl) rfl ?_
  refine AWl.nil ?_
  refine AX.pr (Kc 5 (.cel _ _) rfl <| Kc 4 (.box _ _ _) rfl <| Kc 0 (.cel _ _) rfl <| Kc 1 (.cel _ _) rfl <| Kn) ?_
  refine AX.go ?_
  refine AW.seq ?_
  refine AW.dg fomo ?_
  refine DG.fr (d := 9) [0] (DS rfl fun v h => OpT.move (A := .cel _ _) (.inl rfl) rfl (okd rfl rfl) (D h rfl rfl rfl rfl) rfl) rfl rfl ?_
  refine DG.fr (d := 10) [5] (DS rfl fun v h => OpT.move (A := .cel _ _) (.inl rfl) rfl (okd rfl rfl) (D h rfl rfl rfl rfl) rfl) rfl rfl ?_
  refine DG.fr (d := 11) [9, 10] (DS rfl fun v h => OpT.quo rfl rfl (okd rfl rfl) (D h rfl rfl rfl rfl) (D h rfl rfl rfl rfl) (by omega) (nw (by omega))) rfl rfl ?_
  refine DG.fr (d := 12) [1] (DS rfl fun v h => OpT.move (A := .cel _ _) (.inl rfl) rfl (okd rfl rfl) (D h rfl rfl rfl rfl) rfl) rfl rfl ?_
  refine DG.fr (d := 13) [5] (DS rfl fun v h => OpT.move (A := .cel _ _) (.inl rfl) rfl (okd rfl rfl) (D h rfl rfl rfl rfl) rfl) rfl rfl ?_
  refine DG.fr (d := 14) [12, 13] (DS rfl fun v h => OpT.quo rfl rfl (okd rfl rfl) (D h rfl rfl rfl rfl) (D h rfl rfl rfl rfl) (by omega) (nw (by omega))) rfl rfl ?_
  refine DG.fr (d := 15) [11, 14] (DS rfl fun v h => OpT.build rfl rfl (okd rfl rfl) pl23 zr23 zk23 (Built.cel (D h rfl rfl rfl rfl) rfl rfl sb23_0 (Built.cel (D h rfl rfl rfl rfl) rfl rfl sb23_1 (Built.nil _)))) rfl rfl ?_
  refine DG.md (t := 4) [4, 15] (DSm rfl fun v h => OpT.storeBA rfl rfl (Opd.whole (Root.self (by decide)) ((h _ (List.elem_iff.1 rfl)).trans rfl)) ((h _ (List.elem_iff.1 rfl)).trans rfl) sz23 (by decide) (D h rfl rfl rfl rfl)) ?_
  refine DG.nil ⟨by kernel_rfl, by kernel_rfl, ?_⟩
  refine AX.pr (Kc 4 (.box _ _ _) rfl <| Kn) ?_
  refine AX.go ?_
  refine AW.ret ?_
  exact AX.rt (rs := [.cell 4 23]) (ts := [none]) (.inl rfl) rfl (ROs.cons (RO.cellA (by decide) (Kb rfl rfl) ag23 sz23) <| ROs.nil) (by decide) OutsOK.nil

/-- spec.MeanAsked -/
theorem c_spec_MeanAsked (x : List DKnot) (hn : okKS x) : AC Try.prog 42 [.cel (Kd.slice kKnot) x] [.agg kShare (meanS x).1, .cel (Kd.int .i64) (meanS x).2] [] := by
  refine ⟨ACall.intro (N := 44) Try.func42 (c := _) (rfl : Func.body _ = some _) rfl (Nat.le_of_ble_eq_true rfl) (Nat.le_of_ble_eq_true rfl) rfl (Nat.le_of_ble_eq_true rfl) fun w0 hd s0 ar har => ?_, _, Try.func42, rfl, by decide⟩
  refine AW.to (Kc 0 (.cel _ _) rfl <| Kn) ?_
  refine AW.seq ?_
  refine AW.region ?_
  refine AWl.st rfl (OpT.alloc rfl rfl (okd rfl rfl) zr23 zk23) rfl ?_
  refine AWl.st rfl (OpT.move (A := .cel _ _) (.inr rfl) rfl (okd rfl rfl) (I rfl) rfl) rfl ?_
  refine AWl.nil ?_
  refine AX.go ?_
  refine AW.seq ?_
  refine AW.seq ?_
  refine AW.region ?_
  refine AWl.st rfl (OpT.move (A := .cel _ _) (.inl rfl) rfl (okd rfl rfl) (Tm rfl rfl rfl) rfl) rfl ?_
  refine AWl.st rfl (OpT.c1 (ms := [.flat]) (c_spec_l06Ok _ hn) rfl rfl (okd rfl rfl) (Af (Tm rfl rfl rfl) rfl rfl <| An) rfl rfl) rfl ?_
  refine AWl.st rfl (OpT.not rfl rfl (okd rfl rfl) (Tm rfl rfl rfl)) rfl ?_
  refine AWl.nil ?_
  refine AX.pr (Kc 11 (.cel _ _) rfl <| Kc 3 (.cel _ _) rfl <| Kc 2 (.box _ _ _) rfl <| Kc 0 (.cel _ _) rfl <| Kn) ?_
  refine AX.go ?_
  refine AW.cond (t := 11) rfl (by decide) (fun hc1 => ?_) (fun hc1 => ?_)
  ·
    try simp only [decide_eq_true_eq, decide_eq_false_iff_not, Bool.not_eq_true', Bool.not_eq_false'] at hc1
    have hc1' := hc1; try simp only [decide_eq_true_eq, decide_eq_false_iff_not, beq_iff_eq, beq_eq_false_iff_ne, bne_iff_ne, bne_eq_false_iff_eq, ne_eq, Bool.not_eq_true', Bool.not_eq_false', Bool.and_eq_true, Bool.or_eq_true, Bool.or_eq_false_iff, Bool.and_eq_false_iff, Bool.not_true, Bool.not_false] at hc1'
    refine AW.seq ?_
    refine AW.region ?_
    refine AWl.st rfl (OpT.build rfl rfl (okd rfl rfl) pl23 zr23 zk23 (Built.nil _)) rfl ?_
    refine AWl.sg rfl (OpT.storeBA rfl rfl (Opd.whole (Root.self (by decide)) rfl) rfl sz23 (by decide) (Tm rfl rfl rfl)) (Kc 12 (.agg _ _) rfl <| Kc 11 (.cel _ _) rfl <| Kc 3 (.cel _ _) rfl <| Kc 2 (.box _ _ _) rfl <| Kc 0 (.cel _ _) rfl <| Kn) ?_
    refine AWl.sg rfl (OpT.move (A := .cel _ _) (.inr rfl) rfl (okd rfl rfl) (I rfl) rfl) (Kc 3 (.cel _ _) rfl <| Kc 12 (.agg _ _) rfl <| Kc 11 (.cel _ _) rfl <| Kc 2 (.box _ _ _) rfl <| Kc 0 (.cel _ _) rfl <| Kn) ?_
    refine AWl.nil ?_
    refine AX.pr (Kc 3 (.cel _ _) rfl <| Kc 2 (.box _ _ _) rfl <| Kc 0 (.cel _ _) rfl <| Kn) ?_
    refine AX.go ?_
    refine AW.ret ?_
    refine AX.ret_then ?_
    exact AX.rt (rs := [.cell 2 23, .tmp 3]) (ts := [none, some 3]) (.inl rfl) rfl (ROs.cons (RO.cellA (by decide) (Kb rfl (by first | (rw [meanS_yes ht (by assumption)]; done) | (rw [meanS_none ht (by assumption)]; done) | (rw [meanS_no (by simpa using hc1)]; done))) ag23 sz23) <| ROs.cons (RO.tmp (At.self (by decide)) (Kv rfl (by first | (rw [meanS_yes ht (by assumption)]; done) | (rw [meanS_none ht (by assumption)]; done) | (rw [meanS_no (by simpa using hc1)]; done))) rfl) <| ROs.nil) (by decide) OutsOK.nil
  ·
    try simp only [decide_eq_true_eq, decide_eq_false_iff_not, Bool.not_eq_true', Bool.not_eq_false'] at hc1
    have hc1' := hc1; try simp only [decide_eq_true_eq, decide_eq_false_iff_not, beq_iff_eq, beq_eq_false_iff_ne, bne_iff_ne, bne_eq_false_iff_eq, ne_eq, Bool.not_eq_true', Bool.not_eq_false', Bool.and_eq_true, Bool.or_eq_true, Bool.or_eq_false_iff, Bool.and_eq_false_iff, Bool.not_true, Bool.not_false] at hc1'
    have ht : treeOK x := tt_iff.1 (by simpa using hc1)
    have hdl := depA_len ht
    have hdk := okD_depA ht.2.2.1 x.length (Nat.le_refl _)
    have htl := ht.1
    have htl2 := ht.2.1
    refine AW.skip ?_
    refine AX.pr (Kc 3 (.cel _ _) rfl <| Kc 2 (.box _ _ _) rfl <| Kc 0 (.cel _ _) rfl <| Kn) ?_
    refine AX.go ?_
    refine AW.seq ?_
    refine AW.region ?_
    refine AWl.st rfl (OpT.move (A := .cel _ _) (.inl rfl) rfl (okd rfl rfl) (Tm rfl rfl rfl) rfl) rfl ?_
    refine AWl.st rfl (OpT.c1 (ms := [.flat]) (c_spec_l06Depths _ ht) rfl rfl (okd rfl rfl) (Af (Tm rfl rfl rfl) rfl rfl <| An) rfl rfl) rfl ?_
    refine AWl.st rfl (OpT.move (A := .cel _ _) (.inr rfl) rfl (okd rfl rfl) (Tm rfl rfl rfl) rfl) rfl ?_
    refine AWl.nil ?_
    refine AX.pr (Kc 4 (.cel _ _) rfl <| Kc 3 (.cel _ _) rfl <| Kc 2 (.box _ _ _) rfl <| Kc 0 (.cel _ _) rfl <| Kn) ?_
    refine AX.go ?_
    refine AW.seq ?_
    refine AW.region ?_
    refine AWl.st rfl (OpT.move (A := .cel _ _) (.inr rfl) rfl (okd rfl rfl) (I rfl) rfl) rfl ?_
    refine AWl.nil ?_
    refine AX.go ?_
    refine AW.seq ?_
    refine AW.region ?_
    refine AWl.st rfl (OpT.move (A := .cel _ _) (.inr rfl) rfl (okd rfl rfl) (I rfl) rfl) rfl ?_
    refine AWl.nil ?_
    refine AX.go ?_
    refine AW.seq ?_
    refine AW.seq ?_
    refine AW.region ?_
    refine AWl.st rfl (OpT.move (A := .cel _ _) (.inr rfl) rfl (okd rfl rfl) (I rfl) rfl) rfl ?_
    refine AWl.nil ?_
    refine AX.go ?_
    refine AW.block ?_
    refine AW.loop (fun z : Nat => z ≤ x.length) (fun z : Nat => keep [(0, .cel (Kd.slice kKnot) x), (2, .box 23 kShare (0, 0)), (4, .cel (Kd.slice (Kd.int .i64)) (depA x x.length)), (5, .cel (Kd.int .i64) (sumD x (depA x x.length) z)), (6, .cel (Kd.int .i64) (sumC x z)), (7, .cel (Kd.int .i64) (z : Int))]) (fun z : Nat => x.length - z) (0) (Nat.zero_le _) (Kc 0 _ (Kv rfl rfl) <| Kc 2 _ (Kb rfl rfl) <| Kc 4 _ (Kv rfl rfl) <| Kc 5 _ (Kv rfl rfl) <| Kc 6 _ (Kv rfl rfl) <| Kc 7 _ (Kv rfl rfl) <| Kn) ?_
    intro z hI
    refine AW.seq ?_
    refine AW.seq ?_
    refine AW.region ?_
    refine AWl.st rfl (OpT.move (A := .cel _ _) (.inl rfl) rfl (okd rfl rfl) (Tm rfl rfl rfl) rfl) rfl ?_
    refine AWl.st rfl (OpT.move (A := .cel _ _) (.inl rfl) rfl (okd rfl rfl) (Tm rfl rfl rfl) rfl) rfl ?_
    refine AWl.st rfl (OpT.len rfl rfl (okd rfl rfl) (Tm rfl rfl rfl) el66) rfl ?_
    refine AWl.st rfl (OpT.lss rfl rfl (okd rfl rfl) (Tm rfl rfl rfl) (Tm rfl rfl rfl)) rfl ?_
    refine AWl.nil ?_
    refine AX.go ?_
    refine AW.cond (t := 18) rfl (by decide) (fun hc2 => ?_) (fun hc2 => ?_)
    ·
      try simp only [decide_eq_true_eq, decide_eq_false_iff_not, Bool.not_eq_true', Bool.not_eq_false'] at hc2
      have hc2' := hc2; try simp only [decide_eq_true_eq, decide_eq_false_iff_not, beq_iff_eq, beq_eq_false_iff_ne, bne_iff_ne, bne_eq_false_iff_eq, ne_eq, Bool.not_eq_true', Bool.not_eq_false', Bool.and_eq_true, Bool.or_eq_true, Bool.or_eq_false_iff, Bool.and_eq_false_iff, Bool.not_true, Bool.not_false] at hc2'
      obtain ⟨a, ha⟩ := getI (x := x) (z := z) (by omega); obtain ⟨v, hv, hv1⟩ := okD_get hdk (j := (z : Int)) (by omega); have hm := card_mul (v := v) hn ha (by omega); have hm2 := hm; rw [Int.mul_comm] at hm2; have hc := (hn.2 a (mem_getI ha)).2.2; have hsc := sumC_in hn z (by omega); have hsd := sumD_in hn hdk (by omega) z (by omega)
      refine AW.skip ?_
      refine AX.go ?_
      refine AW.seq ?_
      refine AW.block ?_
      refine AW.seq ?_
      refine AW.region ?_
      refine AWl.st rfl (OpT.move (A := .cel _ _) (.inl rfl) rfl (okd rfl rfl) (Tm rfl rfl rfl) rfl) rfl ?_
      refine AWl.st rfl (OpT.move (A := .cel _ _) (.inl rfl) rfl (okd rfl rfl) (Tm rfl rfl rfl) rfl) rfl ?_
      refine AWl.st rfl (OpT.indexAddr rfl rfl (okd rfl rfl) (Tm rfl rfl rfl) (Tm rfl rfl rfl) el66 sz106 (by omega) (by assumption)) rfl ?_
      refine AWl.st rfl (OpT.fieldAddr rfl rfl (okd rfl rfl) (Tm rfl rfl rfl) fd106_3 sz50 (by decide) sb106_3) rfl ?_
      refine AWl.st rfl (OpT.load rfl rfl (okd rfl rfl) (Tm rfl rfl rfl) ag50 rfl) rfl ?_
      refine AWl.st rfl (OpT.len rfl rfl (okd rfl rfl) (Tm rfl rfl rfl) el50) rfl ?_
      refine AWl.st rfl (OpT.move (A := .cel _ _) (.inr rfl) rfl (okd rfl rfl) (Tm rfl rfl rfl) rfl) rfl ?_
      refine AWl.nil ?_
      refine AX.go ?_
      refine AW.seq ?_
      refine AW.region ?_
      refine AWl.st rfl (OpT.move (A := .cel _ _) (.inl rfl) rfl (okd rfl rfl) (Tm rfl rfl rfl) rfl) rfl ?_
      refine AWl.st rfl (OpT.move (A := .cel _ _) (.inl rfl) rfl (okd rfl rfl) (Tm rfl rfl rfl) rfl) rfl ?_
      refine AWl.st rfl (OpT.move (A := .cel _ _) (.inl rfl) rfl (okd rfl rfl) (Tm rfl rfl rfl) rfl) rfl ?_
      refine AWl.st rfl (OpT.move (A := .cel _ _) (.inl rfl) rfl (okd rfl rfl) (Tm rfl rfl rfl) rfl) rfl ?_
      refine AWl.st rfl (OpT.indexAddr rfl rfl (okd rfl rfl) (Tm rfl rfl rfl) (Tm rfl rfl rfl) el50 sz2 (by omega) (by assumption)) rfl ?_
      refine AWl.st rfl (OpT.load rfl rfl (okd rfl rfl) (Tm rfl rfl rfl) ag2 rfl) rfl ?_
      refine AWl.st rfl (OpT.mul rfl rfl (okd rfl rfl) (Tm rfl rfl rfl) (Tm rfl rfl rfl) (nw (by omega))) rfl ?_
      refine AWl.st rfl (OpT.add rfl rfl (okd rfl rfl) (Tm rfl rfl rfl) (Tm rfl rfl rfl) (nw (by omega))) rfl ?_
      refine AWl.sg rfl (OpT.move (A := .cel _ _) (.inr rfl) rfl (okd rfl rfl) (Tm rfl rfl rfl) rfl) (Kc 5 (.cel _ _) rfl <| Kc 34 (.cel _ _) rfl <| Kc 33 (.cel _ _) rfl <| Kc 32 (.cel _ _) rfl <| Kc 31 (.cel _ _) rfl <| Kc 30 (.cel _ _) rfl <| Kc 29 (.cel _ _) rfl <| Kc 28 (.cel _ _) rfl <| Kc 27 (.cel _ _) rfl <| Kc 8 (.cel _ _) rfl <| Kc 26 (.cel _ _) rfl <| Kc 25 (.cel _ _) rfl <| Kc 24 (.cel _ _) rfl <| Kc 23 (.cel _ _) rfl <| Kc 22 (.cel _ _) rfl <| Kc 21 (.cel _ _) rfl <| Kc 18 (.cel _ _) rfl <| Kc 17 (.cel _ _) rfl <| Kc 16 (.cel _ _) rfl <| Kc 15 (.cel _ _) rfl <| Kc 0 (.cel _ _) rfl <| Kc 2 (.box _ _ _) rfl <| Kc 4 (.cel _ _) rfl <| Kc 6 (.cel _ _) rfl <| Kc 7 (.cel _ _) rfl <| Kn) ?_
      refine AWl.nil ?_
      refine AX.go ?_
      refine AW.region ?_
      refine AWl.st rfl (OpT.move (A := .cel _ _) (.inl rfl) rfl (okd rfl rfl) (Tm rfl rfl rfl) rfl) rfl ?_
      refine AWl.st rfl (OpT.move (A := .cel _ _) (.inl rfl) rfl (okd rfl rfl) (Tm rfl rfl rfl) rfl) rfl ?_
      refine AWl.st rfl (OpT.add rfl rfl (okd rfl rfl) (Tm rfl rfl rfl) (Tm rfl rfl rfl) (nw (by omega))) rfl ?_
      refine AWl.sg rfl (OpT.move (A := .cel _ _) (.inr rfl) rfl (okd rfl rfl) (Tm rfl rfl rfl) rfl) (Kc 6 (.cel _ _) rfl <| Kc 37 (.cel _ _) rfl <| Kc 36 (.cel _ _) rfl <| Kc 35 (.cel _ _) rfl <| Kc 5 (.cel _ _) rfl <| Kc 34 (.cel _ _) rfl <| Kc 33 (.cel _ _) rfl <| Kc 32 (.cel _ _) rfl <| Kc 31 (.cel _ _) rfl <| Kc 30 (.cel _ _) rfl <| Kc 29 (.cel _ _) rfl <| Kc 28 (.cel _ _) rfl <| Kc 27 (.cel _ _) rfl <| Kc 8 (.cel _ _) rfl <| Kc 26 (.cel _ _) rfl <| Kc 25 (.cel _ _) rfl <| Kc 24 (.cel _ _) rfl <| Kc 23 (.cel _ _) rfl <| Kc 22 (.cel _ _) rfl <| Kc 21 (.cel _ _) rfl <| Kc 18 (.cel _ _) rfl <| Kc 17 (.cel _ _) rfl <| Kc 16 (.cel _ _) rfl <| Kc 15 (.cel _ _) rfl <| Kc 0 (.cel _ _) rfl <| Kc 2 (.box _ _ _) rfl <| Kc 4 (.cel _ _) rfl <| Kc 7 (.cel _ _) rfl <| Kn) ?_
      refine AWl.nil ?_
      refine AX.normal_block ?_
      refine AX.go ?_
      refine AW.region ?_
      refine AWl.st rfl (OpT.move (A := .cel _ _) (.inl rfl) rfl (okd rfl rfl) (Tm rfl rfl rfl) rfl) rfl ?_
      refine AWl.st rfl (OpT.add rfl rfl (okd rfl rfl) (Tm rfl rfl rfl) (I rfl) (nw (by omega))) rfl ?_
      refine AWl.sg rfl (OpT.move (A := .cel _ _) (.inr rfl) rfl (okd rfl rfl) (Tm rfl rfl rfl) rfl) (Kc 7 (.cel _ _) rfl <| Kc 20 (.cel _ _) rfl <| Kc 19 (.cel _ _) rfl <| Kc 6 (.cel _ _) rfl <| Kc 37 (.cel _ _) rfl <| Kc 36 (.cel _ _) rfl <| Kc 35 (.cel _ _) rfl <| Kc 5 (.cel _ _) rfl <| Kc 34 (.cel _ _) rfl <| Kc 33 (.cel _ _) rfl <| Kc 32 (.cel _ _) rfl <| Kc 31 (.cel _ _) rfl <| Kc 30 (.cel _ _) rfl <| Kc 29 (.cel _ _) rfl <| Kc 28 (.cel _ _) rfl <| Kc 27 (.cel _ _) rfl <| Kc 8 (.cel _ _) rfl <| Kc 26 (.cel _ _) rfl <| Kc 25 (.cel _ _) rfl <| Kc 24 (.cel _ _) rfl <| Kc 23 (.cel _ _) rfl <| Kc 22 (.cel _ _) rfl <| Kc 21 (.cel _ _) rfl <| Kc 18 (.cel _ _) rfl <| Kc 17 (.cel _ _) rfl <| Kc 16 (.cel _ _) rfl <| Kc 15 (.cel _ _) rfl <| Kc 0 (.cel _ _) rfl <| Kc 2 (.box _ _ _) rfl <| Kc 4 (.cel _ _) rfl <| Kn) ?_
      refine AWl.nil ?_
      exact AX.again (z + 1) (by omega) (by omega) (Kc 0 _ (Kv rfl rfl) <| Kc 2 _ (Kb rfl rfl) <| Kc 4 _ (Kv rfl rfl) <| Kc 5 _ (Kv rfl (sumD_succ ha hv).symm) <| Kc 6 _ (Kv rfl (sumC_succ ha).symm) <| Kc 7 _ (Kv rfl (by omega)) <| Kn)
    ·
      try simp only [decide_eq_true_eq, decide_eq_false_iff_not, Bool.not_eq_true', Bool.not_eq_false'] at hc2
      have hc2' := hc2; try simp only [decide_eq_true_eq, decide_eq_false_iff_not, beq_iff_eq, beq_eq_false_iff_ne, bne_iff_ne, bne_eq_false_iff_eq, ne_eq, Bool.not_eq_true', Bool.not_eq_false', Bool.and_eq_true, Bool.or_eq_true, Bool.or_eq_false_iff, Bool.and_eq_false_iff, Bool.not_true, Bool.not_false] at hc2'
      obtain rfl : z = x.length := by omega
      have hz0 := sumC_in hn x.length (Nat.le_refl _)
      have hz1 := sumD_in hn hdk (by omega) x.length (Nat.le_refl _)
      refine AW.exit ?_
      refine AX.exit_then ?_
      refine AX.exit_then ?_
      refine AX.exit_hit ?_
      refine AX.pr (Kc 2 (.box _ _ _) rfl <| Kc 5 (.cel _ _) rfl <| Kc 6 (.cel _ _) rfl <| Kn) ?_
      refine AX.go ?_
      refine AW.seq ?_
      refine AW.seq ?_
      refine AW.region ?_
      refine AWl.st rfl (OpT.move (A := .cel _ _) (.inl rfl) rfl (okd rfl rfl) (Tm rfl rfl rfl) rfl) rfl ?_
      refine AWl.st rfl (OpT.eql rfl rfl (okd rfl rfl) (Tm rfl rfl rfl) (I rfl)) rfl ?_
      refine AWl.nil ?_
      refine AX.pr (Kc 39 (.cel _ _) rfl <| Kc 2 (.box _ _ _) rfl <| Kc 5 (.cel _ _) rfl <| Kc 6 (.cel _ _) rfl <| Kn) ?_
      refine AX.go ?_
      refine AW.cond (t := 39) rfl (by decide) (fun hc3 => ?_) (fun hc3 => ?_)
      ·
        try simp only [decide_eq_true_eq, decide_eq_false_iff_not, Bool.not_eq_true', Bool.not_eq_false'] at hc3
        have hc3' := hc3; try simp only [decide_eq_true_eq, decide_eq_false_iff_not, beq_iff_eq, beq_eq_false_iff_ne, bne_iff_ne, bne_eq_false_iff_eq, ne_eq, Bool.not_eq_true', Bool.not_eq_false', Bool.and_eq_true, Bool.or_eq_true, Bool.or_eq_false_iff, Bool.and_eq_false_iff, Bool.not_true, Bool.not_false] at hc3'
        refine AW.seq ?_
        refine AW.region ?_
        refine AWl.st rfl (OpT.build rfl rfl (okd rfl rfl) pl23 zr23 zk23 (Built.nil _)) rfl ?_
        refine AWl.sg rfl (OpT.storeBA rfl rfl (Opd.whole (Root.self (by decide)) rfl) rfl sz23 (by decide) (Tm rfl rfl rfl)) (Kc 40 (.agg _ _) rfl <| Kc 39 (.cel _ _) rfl <| Kc 2 (.box _ _ _) rfl <| Kc 5 (.cel _ _) rfl <| Kc 6 (.cel _ _) rfl <| Kn) ?_
        refine AWl.st rfl (OpT.move (A := .cel _ _) (.inr rfl) rfl (okd rfl rfl) (I rfl) rfl) rfl ?_
        refine AWl.nil ?_
        refine AX.pr (Kc 3 (.cel _ _) rfl <| Kc 2 (.box _ _ _) rfl <| Kc 5 (.cel _ _) rfl <| Kc 6 (.cel _ _) rfl <| Kn) ?_
        refine AX.go ?_
        refine AW.ret ?_
        refine AX.ret_then ?_
        exact AX.rt (rs := [.cell 2 23, .tmp 3]) (ts := [none, some 3]) (.inl rfl) rfl (ROs.cons (RO.cellA (by decide) (Kb rfl (by first | (rw [meanS_yes ht (by assumption)]; done) | (rw [meanS_none ht (by assumption)]; done) | (rw [meanS_no (by simpa using hc1)]; done))) ag23 sz23) <| ROs.cons (RO.tmp (At.self (by decide)) (Kv rfl (by first | (rw [meanS_yes ht (by assumption)]; done) | (rw [meanS_none ht (by assumption)]; done) | (rw [meanS_no (by simpa using hc1)]; done))) rfl) <| ROs.nil) (by decide) OutsOK.nil
      ·
        try simp only [decide_eq_true_eq, decide_eq_false_iff_not, Bool.not_eq_true', Bool.not_eq_false'] at hc3
        have hc3' := hc3; try simp only [decide_eq_true_eq, decide_eq_false_iff_not, beq_iff_eq, beq_eq_false_iff_ne, bne_iff_ne, bne_eq_false_iff_eq, ne_eq, Bool.not_eq_true', Bool.not_eq_false', Bool.and_eq_true, Bool.or_eq_true, Bool.or_eq_false_iff, Bool.and_eq_false_iff, Bool.not_true, Bool.not_false] at hc3'
        refine AW.skip ?_
        refine AX.pr (Kc 2 (.box _ _ _) rfl <| Kc 5 (.cel _ _) rfl <| Kc 6 (.cel _ _) rfl <| Kn) ?_
        refine AX.go ?_
        refine AW.seq ?_
        refine AW.region ?_
        refine AWl.st rfl (OpT.move (A := .cel _ _) (.inl rfl) rfl (okd rfl rfl) (Tm rfl rfl rfl) rfl) rfl ?_
        refine AWl.st rfl (OpT.move (A := .cel _ _) (.inl rfl) rfl (okd rfl rfl) (Tm rfl rfl rfl) rfl) rfl ?_
        refine AWl.st rfl (OpT.c1 (ms := [.flat, .flat]) (c_spec_l06Share _ _ (by omega)) rfl rfl (okd rfl rfl) (Af (Tm rfl rfl rfl) rfl rfl <| Af (Tm rfl rfl rfl) rfl rfl <| An) rfl rfl) rfl ?_
        refine AWl.sg rfl (OpT.storeBA rfl rfl (Opd.whole (Root.self (by decide)) rfl) rfl sz23 (by decide) (Tm rfl rfl rfl)) (Kc 43 (.agg _ _) rfl <| Kc 42 (.cel _ _) rfl <| Kc 41 (.cel _ _) rfl <| Kc 2 (.box _ _ _) rfl <| Kc 5 (.cel _ _) rfl <| Kc 6 (.cel _ _) rfl <| Kn) ?_
        refine AWl.st rfl (OpT.move (A := .cel _ _) (.inr rfl) rfl (okd rfl rfl) (I rfl) rfl) rfl ?_
        refine AWl.nil ?_
        refine AX.pr (Kc 3 (.cel _ _) rfl <| Kc 2 (.box _ _ _) rfl <| Kn) ?_
        refine AX.go ?_
        refine AW.ret ?_
        exact AX.rt (rs := [.cell 2 23, .tmp 3]) (ts := [none, some 3]) (.inl rfl) rfl (ROs.cons (RO.cellA (by decide) (Kb rfl (by first | (rw [meanS_yes ht (by assumption)]; done) | (rw [meanS_none ht (by assumption)]; done) | (rw [meanS_no (by simpa using hc1)]; done))) ag23 sz23) <| ROs.cons (RO.tmp (At.self (by decide)) (Kv rfl (by first | (rw [meanS_yes ht (by assumption)]; done) | (rw [meanS_none ht (by assumption)]; done) | (rw [meanS_no (by simpa using hc1)]; done))) rfl) <| ROs.nil) (by decide) OutsOK.nil

/-- impl.MeanAsked -/
theorem c_impl_MeanAsked (x : List DKnot) (hn : okKS x) : AC Try.prog 43 [.cel (Kd.slice kKnot) x] [.agg kShare (meanS x).1, .cel (Kd.int .i64) (meanS x).2] [] := by
  refine ⟨ACall.intro (N := 45) Try.func43 (c := _) (rfl : Func.body _ = some _) rfl (Nat.le_of_ble_eq_true rfl) (Nat.le_of_ble_eq_true rfl) rfl (Nat.le_of_ble_eq_true rfl) fun w0 hd s0 ar har => ?_, _, Try.func43, rfl, by decide⟩
  refine AW.to (Kc 0 (.cel _ _) rfl <| Kn) ?_
  refine AW.seq ?_
  refine AW.region ?_
  refine AWl.st rfl (OpT.alloc rfl rfl (okd rfl rfl) zr23 zk23) rfl ?_
  refine AWl.st rfl (OpT.move (A := .cel _ _) (.inr rfl) rfl (okd rfl rfl) (I rfl) rfl) rfl ?_
  refine AWl.nil ?_
  refine AX.go ?_
  refine AW.seq ?_
  refine AW.seq ?_
  refine AW.region ?_
  refine AWl.st rfl (OpT.move (A := .cel _ _) (.inl rfl) rfl (okd rfl rfl) (Tm rfl rfl rfl) rfl) rfl ?_
  refine AWl.st rfl (OpT.c1 (ms := [.flat]) (c_impl_isTree _ hn) rfl rfl (okd rfl rfl) (Af (Tm rfl rfl rfl) rfl rfl <| An) rfl rfl) rfl ?_
  refine AWl.st rfl (OpT.not rfl rfl (okd rfl rfl) (Tm rfl rfl rfl)) rfl ?_
  refine AWl.nil ?_
  refine AX.pr (Kc 10 (.cel _ _) rfl <| Kc 3 (.cel _ _) rfl <| Kc 2 (.box _ _ _) rfl <| Kc 0 (.cel _ _) rfl <| Kn) ?_
  refine AX.go ?_
  refine AW.cond (t := 10) rfl (by decide) (fun hc1 => ?_) (fun hc1 => ?_)
  ·
    try simp only [decide_eq_true_eq, decide_eq_false_iff_not, Bool.not_eq_true', Bool.not_eq_false'] at hc1
    have hc1' := hc1; try simp only [decide_eq_true_eq, decide_eq_false_iff_not, beq_iff_eq, beq_eq_false_iff_ne, bne_iff_ne, bne_eq_false_iff_eq, ne_eq, Bool.not_eq_true', Bool.not_eq_false', Bool.and_eq_true, Bool.or_eq_true, Bool.or_eq_false_iff, Bool.and_eq_false_iff, Bool.not_true, Bool.not_false] at hc1'
    refine AW.seq ?_
    refine AW.region ?_
    refine AWl.st rfl (OpT.build rfl rfl (okd rfl rfl) pl23 zr23 zk23 (Built.nil _)) rfl ?_
    refine AWl.sg rfl (OpT.storeBA rfl rfl (Opd.whole (Root.self (by decide)) rfl) rfl sz23 (by decide) (Tm rfl rfl rfl)) (Kc 11 (.agg _ _) rfl <| Kc 10 (.cel _ _) rfl <| Kc 3 (.cel _ _) rfl <| Kc 2 (.box _ _ _) rfl <| Kc 0 (.cel _ _) rfl <| Kn) ?_
    refine AWl.sg rfl (OpT.move (A := .cel _ _) (.inr rfl) rfl (okd rfl rfl) (I rfl) rfl) (Kc 3 (.cel _ _) rfl <| Kc 11 (.agg _ _) rfl <| Kc 10 (.cel _ _) rfl <| Kc 2 (.box _ _ _) rfl <| Kc 0 (.cel _ _) rfl <| Kn) ?_
    refine AWl.nil ?_
    refine AX.pr (Kc 3 (.cel _ _) rfl <| Kc 2 (.box _ _ _) rfl <| Kc 0 (.cel _ _) rfl <| Kn) ?_
    refine AX.go ?_
    refine AW.ret ?_
    refine AX.ret_then ?_
    exact AX.rt (rs := [.cell 2 23, .tmp 3]) (ts := [none, some 3]) (.inl rfl) rfl (ROs.cons (RO.cellA (by decide) (Kb rfl (by first | (rw [meanS_yes ht (by assumption)]; done) | (rw [meanS_none ht (by assumption)]; done) | (rw [meanS_no (by simpa using hc1)]; done))) ag23 sz23) <| ROs.cons (RO.tmp (At.self (by decide)) (Kv rfl (by first | (rw [meanS_yes ht (by assumption)]; done) | (rw [meanS_none ht (by assumption)]; done) | (rw [meanS_no (by simpa using hc1)]; done))) rfl) <| ROs.nil) (by decide) OutsOK.nil
  ·
    try simp only [decide_eq_true_eq, decide_eq_false_iff_not, Bool.not_eq_true', Bool.not_eq_false'] at hc1
    have hc1' := hc1; try simp only [decide_eq_true_eq, decide_eq_false_iff_not, beq_iff_eq, beq_eq_false_iff_ne, bne_iff_ne, bne_eq_false_iff_eq, ne_eq, Bool.not_eq_true', Bool.not_eq_false', Bool.and_eq_true, Bool.or_eq_true, Bool.or_eq_false_iff, Bool.and_eq_false_iff, Bool.not_true, Bool.not_false] at hc1'
    have ht : treeOK x := tt_iff.1 (by simpa using hc1)
    have hdl := depA_len ht
    have hdk := okD_depA ht.2.2.1 x.length (Nat.le_refl _)
    have htl := ht.1
    have htl2 := ht.2.1
    refine AW.skip ?_
    refine AX.pr (Kc 3 (.cel _ _) rfl <| Kc 2 (.box _ _ _) rfl <| Kc 0 (.cel _ _) rfl <| Kn) ?_
    refine AX.go ?_
    refine AW.seq ?_
    refine AW.region ?_
    refine AWl.st rfl (OpT.move (A := .cel _ _) (.inr rfl) rfl (okd rfl rfl) (I rfl) rfl) rfl ?_
    refine AWl.st rfl (OpT.move (A := .cel _ _) (.inr rfl) rfl (okd rfl rfl) (I rfl) rfl) rfl ?_
    refine AWl.nil ?_
    refine AX.go ?_
    refine AW.seq ?_
    refine AW.seq ?_
    refine AW.region ?_
    refine AWl.st rfl (OpT.move (A := .cel _ _) (.inl rfl) rfl (okd rfl rfl) (Tm rfl rfl rfl) rfl) rfl ?_
    refine AWl.st rfl (OpT.c1 (ms := [.flat]) (c_impl_depths _ ht) rfl rfl (okd rfl rfl) (Af (Tm rfl rfl rfl) rfl rfl <| An) rfl rfl) rfl ?_
    refine AWl.st rfl (OpT.len rfl rfl (okd rfl rfl) (Tm rfl rfl rfl) el50) rfl ?_
    refine AWl.st rfl (OpT.move (A := .cel _ _) (.inl rfl) rfl (okd rfl rfl) (I rfl) rfl) rfl ?_
    refine AWl.nil ?_
    refine AX.pr (Kc 15 (.cel _ _) rfl <| Kc 14 (.cel _ _) rfl <| Kc 13 (.cel _ _) rfl <| Kc 5 (.cel _ _) rfl <| Kc 4 (.cel _ _) rfl <| Kc 3 (.cel _ _) rfl <| Kc 2 (.box _ _ _) rfl <| Kc 0 (.cel _ _) rfl <| Kn) ?_
    refine AX.go ?_
    refine AW.block ?_
    refine AW.loop (fun z : Nat => z ≤ x.length) (fun z : Nat => keep [(0, .cel (Kd.slice kKnot) x), (2, .box 23 kShare (0, 0)), (13, .cel (Kd.slice (Kd.int .i64)) (depA x x.length)), (14, .cel (Kd.int .i64) ((depA x x.length).length : Int)), (4, .cel (Kd.int .i64) (sumD x (depA x x.length) z)), (5, .cel (Kd.int .i64) (sumC x z)), (15, .cel (Kd.int .i64) (z : Int))]) (fun z : Nat => x.length - z) (0) (Nat.zero_le _) (Kc 0 _ (Kv rfl rfl) <| Kc 2 _ (Kb rfl rfl) <| Kc 13 _ (Kv rfl rfl) <| Kc 14 _ (Kv rfl rfl) <| Kc 4 _ (Kv rfl rfl) <| Kc 5 _ (Kv rfl rfl) <| Kc 15 _ (Kv rfl rfl) <| Kn) ?_
    intro z hI
    refine AW.seq ?_
    refine AW.region ?_
    refine AWl.st rfl (OpT.lss rfl rfl (okd rfl rfl) (Tm rfl rfl rfl) (Tm rfl rfl rfl)) rfl ?_
    refine AWl.nil ?_
    refine AX.go ?_
    refine AW.seq ?_
    refine AW.cond (t := 16) rfl (by decide) (fun hc2 => ?_) (fun hc2 => ?_)
    ·
      try simp only [decide_eq_true_eq, decide_eq_false_iff_not, Bool.not_eq_true', Bool.not_eq_false'] at hc2
      have hc2' := hc2; try simp only [decide_eq_true_eq, decide_eq_false_iff_not, beq_iff_eq, beq_eq_false_iff_ne, bne_iff_ne, bne_eq_false_iff_eq, ne_eq, Bool.not_eq_true', Bool.not_eq_false', Bool.and_eq_true, Bool.or_eq_true, Bool.or_eq_false_iff, Bool.and_eq_false_iff, Bool.not_true, Bool.not_false] at hc2'
      obtain ⟨a, ha⟩ := getI (x := x) (z := z) (by omega); obtain ⟨v, hv, hv1⟩ := okD_get hdk (j := (z : Int)) (by omega); have hm := card_mul (v := v) hn ha (by omega); have hm2 := hm; rw [Int.mul_comm] at hm2; have hc := (hn.2 a (mem_getI ha)).2.2; have hsc := sumC_in hn z (by omega); have hsd := sumD_in hn hdk (by omega) z (by omega)
      refine AW.skip ?_
      refine AX.go ?_
      refine AW.seq ?_
      refine AW.block ?_
      refine AW.seq ?_
      refine AW.region ?_
      refine AWl.st rfl (OpT.move (A := .cel _ _) (.inl rfl) rfl (okd rfl rfl) (Tm rfl rfl rfl) rfl) rfl ?_
      refine AWl.st rfl (OpT.indexAddr rfl rfl (okd rfl rfl) (Tm rfl rfl rfl) (Tm rfl rfl rfl) el50 sz2 (by omega) (by assumption)) rfl ?_
      refine AWl.st rfl (OpT.load rfl rfl (okd rfl rfl) (Tm rfl rfl rfl) ag2 rfl) rfl ?_
      refine AWl.st rfl (OpT.move (A := .cel _ _) (.inr rfl) rfl (okd rfl rfl) (Tm rfl rfl rfl) rfl) rfl ?_
      refine AWl.st rfl (OpT.move (A := .cel _ _) (.inr rfl) rfl (okd rfl rfl) (Tm rfl rfl rfl) rfl) rfl ?_
      refine AWl.nil ?_
      refine AX.go ?_
      refine AW.seq ?_
      refine AW.region ?_
      refine AWl.st rfl (OpT.move (A := .cel _ _) (.inl rfl) rfl (okd rfl rfl) (Tm rfl rfl rfl) rfl) rfl ?_
      refine AWl.st rfl (OpT.move (A := .cel _ _) (.inl rfl) rfl (okd rfl rfl) (Tm rfl rfl rfl) rfl) rfl ?_
      refine AWl.st rfl (OpT.move (A := .cel _ _) (.inl rfl) rfl (okd rfl rfl) (Tm rfl rfl rfl) rfl) rfl ?_
      refine AWl.st rfl (OpT.move (A := .cel _ _) (.inl rfl) rfl (okd rfl rfl) (Tm rfl rfl rfl) rfl) rfl ?_
      refine AWl.st rfl (OpT.indexAddr rfl rfl (okd rfl rfl) (Tm rfl rfl rfl) (Tm rfl rfl rfl) el66 sz106 (by omega) (by assumption)) rfl ?_
      refine AWl.st rfl (OpT.fieldAddr rfl rfl (okd rfl rfl) (Tm rfl rfl rfl) fd106_3 sz50 (by decide) sb106_3) rfl ?_
      refine AWl.st rfl (OpT.load rfl rfl (okd rfl rfl) (Tm rfl rfl rfl) ag50 rfl) rfl ?_
      refine AWl.st rfl (OpT.len rfl rfl (okd rfl rfl) (Tm rfl rfl rfl) el50) rfl ?_
      refine AWl.st rfl (OpT.mul rfl rfl (okd rfl rfl) (Tm rfl rfl rfl) (Tm rfl rfl rfl) (nw (by omega))) rfl ?_
      refine AWl.st rfl (OpT.add rfl rfl (okd rfl rfl) (Tm rfl rfl rfl) (Tm rfl rfl rfl) (nw (by omega))) rfl ?_
      refine AWl.sg rfl (OpT.move (A := .cel _ _) (.inr rfl) rfl (okd rfl rfl) (Tm rfl rfl rfl) rfl) (Kc 4 (.cel _ _) rfl <| Kc 29 (.cel _ _) rfl <| Kc 28 (.cel _ _) rfl <| Kc 27 (.cel _ _) rfl <| Kc 26 (.cel _ _) rfl <| Kc 25 (.cel _ _) rfl <| Kc 24 (.cel _ _) rfl <| Kc 23 (.cel _ _) rfl <| Kc 22 (.cel _ _) rfl <| Kc 21 (.cel _ _) rfl <| Kc 20 (.cel _ _) rfl <| Kc 7 (.cel _ _) rfl <| Kc 6 (.cel _ _) rfl <| Kc 19 (.cel _ _) rfl <| Kc 18 (.cel _ _) rfl <| Kc 17 (.cel _ _) rfl <| Kc 16 (.cel _ _) rfl <| Kc 0 (.cel _ _) rfl <| Kc 2 (.box _ _ _) rfl <| Kc 13 (.cel _ _) rfl <| Kc 14 (.cel _ _) rfl <| Kc 5 (.cel _ _) rfl <| Kc 15 (.cel _ _) rfl <| Kn) ?_
      refine AWl.nil ?_
      refine AX.go ?_
      refine AW.region ?_
      refine AWl.st rfl (OpT.move (A := .cel _ _) (.inl rfl) rfl (okd rfl rfl) (Tm rfl rfl rfl) rfl) rfl ?_
      refine AWl.st rfl (OpT.move (A := .cel _ _) (.inl rfl) rfl (okd rfl rfl) (Tm rfl rfl rfl) rfl) rfl ?_
      refine AWl.st rfl (OpT.move (A := .cel _ _) (.inl rfl) rfl (okd rfl rfl) (Tm rfl rfl rfl) rfl) rfl ?_
      refine AWl.st rfl (OpT.indexAddr rfl rfl (okd rfl rfl) (Tm rfl rfl rfl) (Tm rfl rfl rfl) el66 sz106 (by omega) (by assumption)) rfl ?_
      refine AWl.st rfl (OpT.fieldAddr rfl rfl (okd rfl rfl) (Tm rfl rfl rfl) fd106_3 sz50 (by decide) sb106_3) rfl ?_
      refine AWl.st rfl (OpT.load rfl rfl (okd rfl rfl) (Tm rfl rfl rfl) ag50 rfl) rfl ?_
      refine AWl.st rfl (OpT.len rfl rfl (okd rfl rfl) (Tm rfl rfl rfl) el50) rfl ?_
      refine AWl.st rfl (OpT.add rfl rfl (okd rfl rfl) (Tm rfl rfl rfl) (Tm rfl rfl rfl) (nw (by omega))) rfl ?_
      refine AWl.sg rfl (OpT.move (A := .cel _ _) (.inr rfl) rfl (okd rfl rfl) (Tm rfl rfl rfl) rfl) (Kc 5 (.cel _ _) rfl <| Kc 37 (.cel _ _) rfl <| Kc 36 (.cel _ _) rfl <| Kc 35 (.cel _ _) rfl <| Kc 34 (.cel _ _) rfl <| Kc 33 (.cel _ _) rfl <| Kc 32 (.cel _ _) rfl <| Kc 31 (.cel _ _) rfl <| Kc 30 (.cel _ _) rfl <| Kc 4 (.cel _ _) rfl <| Kc 29 (.cel _ _) rfl <| Kc 28 (.cel _ _) rfl <| Kc 27 (.cel _ _) rfl <| Kc 26 (.cel _ _) rfl <| Kc 25 (.cel _ _) rfl <| Kc 24 (.cel _ _) rfl <| Kc 23 (.cel _ _) rfl <| Kc 22 (.cel _ _) rfl <| Kc 21 (.cel _ _) rfl <| Kc 20 (.cel _ _) rfl <| Kc 7 (.cel _ _) rfl <| Kc 6 (.cel _ _) rfl <| Kc 19 (.cel _ _) rfl <| Kc 18 (.cel _ _) rfl <| Kc 17 (.cel _ _) rfl <| Kc 16 (.cel _ _) rfl <| Kc 0 (.cel _ _) rfl <| Kc 2 (.box _ _ _) rfl <| Kc 13 (.cel _ _) rfl <| Kc 14 (.cel _ _) rfl <| Kc 15 (.cel _ _) rfl <| Kn) ?_
      refine AWl.nil ?_
      refine AX.normal_block ?_
      refine AX.go ?_
      refine AW.region ?_
      refine AWl.st rfl (OpT.add rfl rfl (okd rfl rfl) (Tm rfl rfl rfl) (I rfl) (nw (by omega))) rfl ?_
      refine AWl.sg rfl (OpT.move (A := .cel _ _) (.inl rfl) rfl (okd rfl rfl) (Tm rfl rfl rfl) rfl) (Kc 15 (.cel _ _) rfl <| Kc 38 (.cel _ _) rfl <| Kc 5 (.cel _ _) rfl <| Kc 37 (.cel _ _) rfl <| Kc 36 (.cel _ _) rfl <| Kc 35 (.cel _ _) rfl <| Kc 34 (.cel _ _) rfl <| Kc 33 (.cel _ _) rfl <| Kc 32 (.cel _ _) rfl <| Kc 31 (.cel _ _) rfl <| Kc 30 (.cel _ _) rfl <| Kc 4 (.cel _ _) rfl <| Kc 29 (.cel _ _) rfl <| Kc 28 (.cel _ _) rfl <| Kc 27 (.cel _ _) rfl <| Kc 26 (.cel _ _) rfl <| Kc 25 (.cel _ _) rfl <| Kc 24 (.cel _ _) rfl <| Kc 23 (.cel _ _) rfl <| Kc 22 (.cel _ _) rfl <| Kc 21 (.cel _ _) rfl <| Kc 20 (.cel _ _) rfl <| Kc 7 (.cel _ _) rfl <| Kc 6 (.cel _ _) rfl <| Kc 19 (.cel _ _) rfl <| Kc 18 (.cel _ _) rfl <| Kc 17 (.cel _ _) rfl <| Kc 16 (.cel _ _) rfl <| Kc 0 (.cel _ _) rfl <| Kc 2 (.box _ _ _) rfl <| Kc 13 (.cel _ _) rfl <| Kc 14 (.cel _ _) rfl <| Kn) ?_
      refine AWl.nil ?_
      exact AX.again (z + 1) (by omega) (by omega) (Kc 0 _ (Kv rfl rfl) <| Kc 2 _ (Kb rfl rfl) <| Kc 13 _ (Kv rfl rfl) <| Kc 14 _ (Kv rfl rfl) <| Kc 4 _ (Kv rfl (by rw [sumD_succ ha hv, Int.mul_comm])) <| Kc 5 _ (Kv rfl (sumC_succ ha).symm) <| Kc 15 _ (Kv rfl (by omega)) <| Kn)
    ·
      try simp only [decide_eq_true_eq, decide_eq_false_iff_not, Bool.not_eq_true', Bool.not_eq_false'] at hc2
      have hc2' := hc2; try simp only [decide_eq_true_eq, decide_eq_false_iff_not, beq_iff_eq, beq_eq_false_iff_ne, bne_iff_ne, bne_eq_false_iff_eq, ne_eq, Bool.not_eq_true', Bool.not_eq_false', Bool.and_eq_true, Bool.or_eq_true, Bool.or_eq_false_iff, Bool.and_eq_false_iff, Bool.not_true, Bool.not_false] at hc2'
      obtain rfl : z = x.length := by omega
      have hz0 := sumC_in hn x.length (Nat.le_refl _)
      have hz1 := sumD_in hn hdk (by omega) x.length (Nat.le_refl _)
      refine AW.exit ?_
      refine AX.exit_then ?_
      refine AX.exit_then ?_
      refine AX.exit_hit ?_
      refine AX.pr (Kc 2 (.box _ _ _) rfl <| Kc 4 (.cel _ _) rfl <| Kc 5 (.cel _ _) rfl <| Kn) ?_
      refine AX.go ?_
      refine AW.seq ?_
      refine AW.seq ?_
      refine AW.region ?_
      refine AWl.st rfl (OpT.move (A := .cel _ _) (.inl rfl) rfl (okd rfl rfl) (Tm rfl rfl rfl) rfl) rfl ?_
      refine AWl.st rfl (OpT.eql rfl rfl (okd rfl rfl) (Tm rfl rfl rfl) (I rfl)) rfl ?_
      refine AWl.nil ?_
      refine AX.pr (Kc 40 (.cel _ _) rfl <| Kc 2 (.box _ _ _) rfl <| Kc 4 (.cel _ _) rfl <| Kc 5 (.cel _ _) rfl <| Kn) ?_
      refine AX.go ?_
      refine AW.cond (t := 40) rfl (by decide) (fun hc3 => ?_) (fun hc3 => ?_)
      ·
        try simp only [decide_eq_true_eq, decide_eq_false_iff_not, Bool.not_eq_true', Bool.not_eq_false'] at hc3
        have hc3' := hc3; try simp only [decide_eq_true_eq, decide_eq_false_iff_not, beq_iff_eq, beq_eq_false_iff_ne, bne_iff_ne, bne_eq_false_iff_eq, ne_eq, Bool.not_eq_true', Bool.not_eq_false', Bool.and_eq_true, Bool.or_eq_true, Bool.or_eq_false_iff, Bool.and_eq_false_iff, Bool.not_true, Bool.not_false] at hc3'
        refine AW.seq ?_
        refine AW.region ?_
        refine AWl.st rfl (OpT.build rfl rfl (okd rfl rfl) pl23 zr23 zk23 (Built.nil _)) rfl ?_
        refine AWl.sg rfl (OpT.storeBA rfl rfl (Opd.whole (Root.self (by decide)) rfl) rfl sz23 (by decide) (Tm rfl rfl rfl)) (Kc 41 (.agg _ _) rfl <| Kc 40 (.cel _ _) rfl <| Kc 2 (.box _ _ _) rfl <| Kc 4 (.cel _ _) rfl <| Kc 5 (.cel _ _) rfl <| Kn) ?_
        refine AWl.st rfl (OpT.move (A := .cel _ _) (.inr rfl) rfl (okd rfl rfl) (I rfl) rfl) rfl ?_
        refine AWl.nil ?_
        refine AX.pr (Kc 3 (.cel _ _) rfl <| Kc 2 (.box _ _ _) rfl <| Kc 4 (.cel _ _) rfl <| Kc 5 (.cel _ _) rfl <| Kn) ?_
        refine AX.go ?_
        refine AW.ret ?_
        refine AX.ret_then ?_
        exact AX.rt (rs := [.cell 2 23, .tmp 3]) (ts := [none, some 3]) (.inl rfl) rfl (ROs.cons (RO.cellA (by decide) (Kb rfl (by first | (rw [meanS_yes ht (by assumption)]; done) | (rw [meanS_none ht (by assumption)]; done) | (rw [meanS_no (by simpa using hc1)]; done))) ag23 sz23) <| ROs.cons (RO.tmp (At.self (by decide)) (Kv rfl (by first | (rw [meanS_yes ht (by assumption)]; done) | (rw [meanS_none ht (by assumption)]; done) | (rw [meanS_no (by simpa using hc1)]; done))) rfl) <| ROs.nil) (by decide) OutsOK.nil
      ·
        try simp only [decide_eq_true_eq, decide_eq_false_iff_not, Bool.not_eq_true', Bool.not_eq_false'] at hc3
        have hc3' := hc3; try simp only [decide_eq_true_eq, decide_eq_false_iff_not, beq_iff_eq, beq_eq_false_iff_ne, bne_iff_ne, bne_eq_false_iff_eq, ne_eq, Bool.not_eq_true', Bool.not_eq_false', Bool.and_eq_true, Bool.or_eq_true, Bool.or_eq_false_iff, Bool.and_eq_false_iff, Bool.not_true, Bool.not_false] at hc3'
        refine AW.skip ?_
        refine AX.pr (Kc 2 (.box _ _ _) rfl <| Kc 4 (.cel _ _) rfl <| Kc 5 (.cel _ _) rfl <| Kn) ?_
        refine AX.go ?_
        refine AW.seq ?_
        refine AW.region ?_
        refine AWl.st rfl (OpT.move (A := .cel _ _) (.inl rfl) rfl (okd rfl rfl) (Tm rfl rfl rfl) rfl) rfl ?_
        refine AWl.st rfl (OpT.move (A := .cel _ _) (.inl rfl) rfl (okd rfl rfl) (Tm rfl rfl rfl) rfl) rfl ?_
        refine AWl.st rfl (OpT.c1 (ms := [.flat, .flat]) (c_impl_shareOf _ _ (by omega)) rfl rfl (okd rfl rfl) (Af (Tm rfl rfl rfl) rfl rfl <| Af (Tm rfl rfl rfl) rfl rfl <| An) rfl rfl) rfl ?_
        refine AWl.sg rfl (OpT.storeBA rfl rfl (Opd.whole (Root.self (by decide)) rfl) rfl sz23 (by decide) (Tm rfl rfl rfl)) (Kc 44 (.agg _ _) rfl <| Kc 43 (.cel _ _) rfl <| Kc 42 (.cel _ _) rfl <| Kc 2 (.box _ _ _) rfl <| Kc 4 (.cel _ _) rfl <| Kc 5 (.cel _ _) rfl <| Kn) ?_
        refine AWl.st rfl (OpT.move (A := .cel _ _) (.inr rfl) rfl (okd rfl rfl) (I rfl) rfl) rfl ?_
        refine AWl.nil ?_
        refine AX.pr (Kc 3 (.cel _ _) rfl <| Kc 2 (.box _ _ _) rfl <| Kn) ?_
        refine AX.go ?_
        refine AW.ret ?_
        exact AX.rt (rs := [.cell 2 23, .tmp 3]) (ts := [none, some 3]) (.inl rfl) rfl (ROs.cons (RO.cellA (by decide) (Kb rfl (by first | (rw [meanS_yes ht (by assumption)]; done) | (rw [meanS_none ht (by assumption)]; done) | (rw [meanS_no (by simpa using hc1)]; done))) ag23 sz23) <| ROs.cons (RO.tmp (At.self (by decide)) (Kv rfl (by first | (rw [meanS_yes ht (by assumption)]; done) | (rw [meanS_none ht (by assumption)]; done) | (rw [meanS_no (by simpa using hc1)]; done))) rfl) <| ROs.nil) (by decide) OutsOK.nil

/-- laws.FnExactMeanAsked -/
theorem c_laws_FnExactMeanAsked (x : List DKnot) : AC Try.prog 12 [.cel (Kd.slice kKnot) x] [.cel Kd.bool true] [] := by
  refine ⟨ACall.intro (N := 41) Try.func12 (c := _) (rfl : Func.body _ = some _) rfl (Nat.le_of_ble_eq_true rfl) (Nat.le_of_ble_eq_true rfl) rfl (Nat.le_of_ble_eq_true rfl) fun w0 hd s0 ar har => ?_, _, Try.func12, rfl, by decide⟩
  refine AW.to (Kc 0 (.cel _ _) rfl <| Kn) ?_
  refine AW.seq ?_
  refine AW.region ?_
  refine AWl.st rfl (OpT.move (A := .cel _ _) (.inr rfl) rfl (okd rfl rfl) Opd.bool rfl) rfl ?_
  refine AWl.nil ?_
  refine AX.go ?_
  refine AW.seq ?_
  refine AW.region ?_
  refine AWl.st rfl (OpT.move (A := .cel _ _) (.inr rfl) rfl (okd rfl rfl) (I rfl) rfl) rfl ?_
  refine AWl.nil ?_
  refine AX.go ?_
  refine AW.seq ?_
  refine AW.region ?_
  refine AWl.st rfl (OpT.move (A := .cel _ _) (.inl rfl) rfl (okd rfl rfl) (Tm rfl rfl rfl) rfl) rfl ?_
  refine AWl.st rfl (OpT.move (A := .cel _ _) (.inl rfl) rfl (okd rfl rfl) (Tm rfl rfl rfl) rfl) rfl ?_
  refine AWl.st rfl (OpT.c1 (ms := [.flat, .flat]) (c_laws_szKnotS _ _ (by omega)) rfl rfl (okd rfl rfl) (Af (Tm rfl rfl rfl) rfl rfl <| Af (Tm rfl rfl rfl) rfl rfl <| An) rfl rfl) rfl ?_
  refine AWl.sg rfl (OpT.move (A := .cel _ _) (.inr rfl) rfl (okd rfl rfl) (Tm rfl rfl rfl) rfl) (Kc 3 (.cel _ _) rfl <| Kc 11 (.cel _ _) rfl <| Kc 10 (.cel _ _) rfl <| Kc 9 (.cel _ _) rfl <| Kc 2 (.cel _ _) rfl <| Kc 0 (.cel _ _) rfl <| Kn) ?_
  refine AWl.nil ?_
  refine AX.pr (Kc 3 (.cel _ _) rfl <| Kc 2 (.cel _ _) rfl <| Kc 0 (.cel _ _) rfl <| Kn) ?_
  refine AX.go ?_
  refine AW.seq ?_
  refine AW.seq ?_
  refine AW.region ?_
  refine AWl.st rfl (OpT.move (A := .cel _ _) (.inl rfl) rfl (okd rfl rfl) (Tm rfl rfl rfl) rfl) rfl ?_
  refine AWl.st rfl (OpT.lss rfl rfl (okd rfl rfl) (Tm rfl rfl rfl) (I rfl)) rfl ?_
  refine AWl.nil ?_
  refine AX.pr (Kc 13 (.cel _ _) rfl <| Kc 2 (.cel _ _) rfl <| Kc 0 (.cel _ _) rfl <| Kn) ?_
  refine AX.go ?_
  refine AW.cond (t := 13) rfl (by decide) (fun hc1 => ?_) (fun hc1 => ?_)
  ·
    try simp only [decide_eq_true_eq, decide_eq_false_iff_not, Bool.not_eq_true', Bool.not_eq_false'] at hc1
    refine AW.seq ?_
    refine AW.region ?_
    refine AWl.sg rfl (OpT.move (A := .cel _ _) (.inr rfl) rfl (okd rfl rfl) Opd.bool rfl) (Kc 2 (.cel _ _) rfl <| Kc 13 (.cel _ _) rfl <| Kc 0 (.cel _ _) rfl <| Kn) ?_
    refine AWl.nil ?_
    refine AX.pr (Kc 2 (.cel _ _) rfl <| Kc 0 (.cel _ _) rfl <| Kn) ?_
    refine AX.go ?_
    refine AW.ret ?_
    refine AX.ret_then ?_
    exact AX.rt (rs := [.tmp 2]) (ts := [some 2]) (.inl rfl) rfl (ROs.cons (RO.tmp (At.self (by decide)) (Kv rfl (by simp_all [eqv_self])) rfl) <| ROs.nil) (by decide) OutsOK.nil
  ·
    try simp only [decide_eq_true_eq, decide_eq_false_iff_not, Bool.not_eq_true', Bool.not_eq_false'] at hc1
    have k0 := szKS_in x (l := 1048576) (by omega)
    have k1 := k0.2.2 (by omega)
    refine AW.skip ?_
    refine AX.pr (Kc 2 (.cel _ _) rfl <| Kc 0 (.cel _ _) rfl <| Kn) ?_
    refine AX.go ?_
    refine AW.seq ?_
    refine AW.region ?_
    refine AWl.st rfl (OpT.move (A := .cel _ _) (.inl rfl) rfl (okd rfl rfl) (Tm rfl rfl rfl) rfl) rfl ?_
    refine AWl.st rfl (OpT.c1 (ms := [.flat]) (c_laws_toKnotS x k1) rfl rfl (okd rfl rfl) (Af (Tm rfl rfl rfl) rfl rfl <| An) rfl rfl) rfl ?_
    refine AWl.st2 rfl (OpT.c2 (ms := [.flat]) (c_spec_MeanAsked x k1) rfl rfl (okd rfl rfl) (Af (Tm rfl rfl rfl) rfl rfl <| An) rfl rfl rfl) rfl rfl ?_
    refine AWl.st rfl (OpT.alias rfl rfl (okd rfl rfl) (by decide) (by decide)) rfl ?_
    refine AWl.st rfl (OpT.extractV (m := 10017) rfl rfl (okd rfl rfl) rfl rfl rfl rfl rfl rfl rfl) rfl ?_
    refine AWl.st rfl (OpT.extractV (m := 20017) rfl rfl (okd rfl rfl) rfl rfl rfl rfl rfl rfl rfl) rfl ?_
    refine AWl.st rfl (OpT.alloc rfl rfl (okd rfl rfl) zr23 zk23) rfl ?_
    refine AWl.sg rfl (OpT.storeBA rfl rfl (Opd.whole (Root.self (by decide)) rfl) rfl sz23 (by decide) (Tm rfl rfl rfl)) (Kc 4 (.box _ _ _) rfl <| Kc 19 (.cel _ _) rfl <| Kc 18 (.agg _ _) rfl <| Kc 14 (.ali _) rfl <| Kc 10017 (.agg _ _) rfl <| Kc 20017 (.cel _ _) rfl <| Kc 16 (.cel _ _) rfl <| Kc 15 (.cel _ _) rfl <| Kc 2 (.cel _ _) rfl <| Kc 0 (.cel _ _) rfl <| Kn) ?_
    refine AWl.st rfl (OpT.move (A := .cel _ _) (.inr rfl) rfl (okd rfl rfl) (Tm rfl rfl rfl) rfl) rfl ?_
    refine AWl.nil ?_
    refine AX.pr (Kc 5 (.cel _ _) rfl <| Kc 4 (.box _ _ _) rfl <| Kc 2 (.cel _ _) rfl <| Kc 0 (.cel _ _) rfl <| Kn) ?_
    refine AX.go ?_
    refine AW.seq ?_
    refine AW.region ?_
    refine AWl.st rfl (OpT.move (A := .cel _ _) (.inl rfl) rfl (okd rfl rfl) (Tm rfl rfl rfl) rfl) rfl ?_
    refine AWl.st rfl (OpT.c1 (ms := [.flat]) (c_laws_toKnotS x k1) rfl rfl (okd rfl rfl) (Af (Tm rfl rfl rfl) rfl rfl <| An) rfl rfl) rfl ?_
    refine AWl.st rfl (OpT.move (A := .cel _ _) (.inr rfl) rfl (okd rfl rfl) (Tm rfl rfl rfl) rfl) rfl ?_
    refine AWl.nil ?_
    refine AX.pr (Kc 6 (.cel _ _) rfl <| Kc 5 (.cel _ _) rfl <| Kc 4 (.box _ _ _) rfl <| Kc 2 (.cel _ _) rfl <| Kc 0 (.cel _ _) rfl <| Kn) ?_
    refine AX.go ?_
    refine AW.seq ?_
    refine AW.region ?_
    refine AWl.st rfl (OpT.move (A := .cel _ _) (.inl rfl) rfl (okd rfl rfl) (Tm rfl rfl rfl) rfl) rfl ?_
    refine AWl.st2 rfl (OpT.c2 (ms := [.flat]) (c_impl_MeanAsked x k1) rfl rfl (okd rfl rfl) (Af (Tm rfl rfl rfl) rfl rfl <| An) rfl rfl rfl) rfl rfl ?_
    refine AWl.st rfl (OpT.alias rfl rfl (okd rfl rfl) (by decide) (by decide)) rfl ?_
    refine AWl.st rfl (OpT.extractV (m := 10024) rfl rfl (okd rfl rfl) rfl rfl rfl rfl rfl rfl rfl) rfl ?_
    refine AWl.st rfl (OpT.extractV (m := 20024) rfl rfl (okd rfl rfl) rfl rfl rfl rfl rfl rfl rfl) rfl ?_
    refine AWl.st rfl (OpT.alloc rfl rfl (okd rfl rfl) zr23 zk23) rfl ?_
    refine AWl.sg rfl (OpT.storeBA rfl rfl (Opd.whole (Root.self (by decide)) rfl) rfl sz23 (by decide) (Tm rfl rfl rfl)) (Kc 7 (.box _ _ _) rfl <| Kc 26 (.cel _ _) rfl <| Kc 25 (.agg _ _) rfl <| Kc 22 (.ali _) rfl <| Kc 10024 (.agg _ _) rfl <| Kc 20024 (.cel _ _) rfl <| Kc 23 (.cel _ _) rfl <| Kc 6 (.cel _ _) rfl <| Kc 5 (.cel _ _) rfl <| Kc 4 (.box _ _ _) rfl <| Kc 2 (.cel _ _) rfl <| Kc 0 (.cel _ _) rfl <| Kn) ?_
    refine AWl.st rfl (OpT.move (A := .cel _ _) (.inr rfl) rfl (okd rfl rfl) (Tm rfl rfl rfl) rfl) rfl ?_
    refine AWl.nil ?_
    refine AX.pr (Kc 8 (.cel _ _) rfl <| Kc 7 (.box _ _ _) rfl <| Kc 6 (.cel _ _) rfl <| Kc 5 (.cel _ _) rfl <| Kc 4 (.box _ _ _) rfl <| Kc 2 (.cel _ _) rfl <| Kc 0 (.cel _ _) rfl <| Kn) ?_
    refine AX.go ?_
    refine AW.seq ?_
    refine AW.seq ?_
    refine AW.region ?_
    refine AWl.st rfl (OpT.loadB rfl rfl (okd rfl rfl) (Root.self (by decide)) rfl ag23 sz23) rfl ?_
    refine AWl.st rfl (OpT.loadB rfl rfl (okd rfl rfl) (Root.self (by decide)) rfl ag23 sz23) rfl ?_
    refine AWl.st rfl (OpT.c1 (ms := [.flat, .flat]) (c_laws_eqShare _ _) rfl rfl (okd rfl rfl) (Af (Tm rfl rfl rfl) rfl rfl <| Af (Tm rfl rfl rfl) rfl rfl <| An) rfl rfl) rfl ?_
    refine AWl.st rfl (OpT.not rfl rfl (okd rfl rfl) (Tm rfl rfl rfl)) rfl ?_
    refine AWl.st rfl (OpT.move (A := .cel _ _) (.inl rfl) rfl (okd rfl rfl) (Tm rfl rfl rfl) rfl) rfl ?_
    apply AWl.or (d := 35) (t := 31) rfl
    · intro hb1 Q1 k1
      refine AWl.rs rfl rfl rfl rfl hb1 (OpT.move (A := .cel _ _) (.inl rfl) rfl (okd rfl rfl) (Tm rfl rfl rfl) rfl) rfl ?_
      refine AWl.rs rfl rfl rfl rfl hb1 (OpT.move (A := .cel _ _) (.inl rfl) rfl (okd rfl rfl) (Tm rfl rfl rfl) rfl) rfl ?_
      refine AWl.rs rfl rfl rfl rfl hb1 (OpT.neq rfl rfl (okd rfl rfl) (Tm rfl rfl rfl) (Tm rfl rfl rfl)) rfl ?_
      refine AWl.st rfl (OpT.pickF (A := .cel _ _) rfl rfl (okd rfl rfl) (Tm rfl rfl rfl) hb1 (Tm rfl rfl rfl) rfl) rfl ?_
      exact AWl.to (junk 3 rfl) k1
    · intro hb1 Q1 k1
      refine AWl.pas rfl rfl rfl rfl hb1 rfl (okd rfl rfl) rfl ?_
      refine AWl.pas rfl rfl rfl rfl hb1 rfl (okd rfl rfl) rfl ?_
      refine AWl.pas rfl rfl rfl rfl hb1 rfl (okd rfl rfl) rfl ?_
      refine AWl.st rfl (OpT.pickT (A := .cel _ _) rfl rfl (okd rfl rfl) (Tm rfl rfl rfl) hb1 Opd.bool rfl) rfl ?_
      exact k1
    refine AWl.nil ?_
    refine AX.pr (Kc 35 (.cel _ _) rfl <| Kc 6 (.cel _ _) rfl <| Kc 2 (.cel _ _) rfl <| Kc 0 (.cel _ _) rfl <| Kn) ?_
    refine AX.go ?_
    refine AW.cond (t := 35) rfl (by decide) (fun hc2 => ?_) (fun hc2 => ?_)
    ·
      try simp only [decide_eq_true_eq, decide_eq_false_iff_not, Bool.not_eq_true', Bool.not_eq_false'] at hc2
      refine AW.seq ?_
      refine AW.region ?_
      refine AWl.sg rfl (OpT.move (A := .cel _ _) (.inr rfl) rfl (okd rfl rfl) Opd.bool rfl) (Kc 2 (.cel _ _) rfl <| Kc 35 (.cel _ _) rfl <| Kc 6 (.cel _ _) rfl <| Kc 0 (.cel _ _) rfl <| Kn) ?_
      refine AWl.nil ?_
      refine AX.pr (Kc 2 (.cel _ _) rfl <| Kc 6 (.cel _ _) rfl <| Kc 0 (.cel _ _) rfl <| Kn) ?_
      refine AX.go ?_
      refine AW.ret ?_
      refine AX.ret_then ?_
      exact AX.rt (rs := [.tmp 2]) (ts := [some 2]) (.inl rfl) rfl (ROs.cons (RO.tmp (At.self (by decide)) (Kv rfl (by simp_all [eqv_self])) rfl) <| ROs.nil) (by decide) OutsOK.nil
    ·
      try simp only [decide_eq_true_eq, decide_eq_false_iff_not, Bool.not_eq_true', Bool.not_eq_false'] at hc2
      refine AW.skip ?_
      refine AX.pr (Kc 6 (.cel _ _) rfl <| Kc 2 (.cel _ _) rfl <| Kc 0 (.cel _ _) rfl <| Kn) ?_
      refine AX.go ?_
      refine AW.seq ?_
      refine AW.seq ?_
      refine AW.region ?_
      refine AWl.st rfl (OpT.move (A := .cel _ _) (.inl rfl) rfl (okd rfl rfl) (Tm rfl rfl rfl) rfl) rfl ?_
      refine AWl.st rfl (OpT.move (A := .cel _ _) (.inl rfl) rfl (okd rfl rfl) (Tm rfl rfl rfl) rfl) rfl ?_
      refine AWl.st rfl (OpT.c1 (ms := [.flat]) (c_laws_toKnotS x k1) rfl rfl (okd rfl rfl) (Af (Tm rfl rfl rfl) rfl rfl <| An) rfl rfl) rfl ?_
      refine AWl.st rfl (OpT.c1 (ms := [.flat, .flat]) (c_laws_eqKnotS _ _) rfl rfl (okd rfl rfl) (Af (Tm rfl rfl rfl) rfl rfl <| Af (Tm rfl rfl rfl) rfl rfl <| An) rfl rfl) rfl ?_
      refine AWl.st rfl (OpT.not rfl rfl (okd rfl rfl) (Tm rfl rfl rfl)) rfl ?_
      refine AWl.nil ?_
      refine AX.pr (Kc 40 (.cel _ _) rfl <| Kc 2 (.cel _ _) rfl <| Kn) ?_
      refine AX.go ?_
      refine AW.cond (t := 40) rfl (by decide) (fun hc3 => ?_) (fun hc3 => ?_)
      ·
        try simp only [decide_eq_true_eq, decide_eq_false_iff_not, Bool.not_eq_true', Bool.not_eq_false'] at hc3
        refine AW.seq ?_
        refine AW.region ?_
        refine AWl.sg rfl (OpT.move (A := .cel _ _) (.inr rfl) rfl (okd rfl rfl) Opd.bool rfl) (Kc 2 (.cel _ _) rfl <| Kc 40 (.cel _ _) rfl <| Kn) ?_
        refine AWl.nil ?_
        refine AX.pr (Kc 2 (.cel _ _) rfl <| Kn) ?_
        refine AX.go ?_
        refine AW.ret ?_
        refine AX.ret_then ?_
        exact AX.rt (rs := [.tmp 2]) (ts := [some 2]) (.inl rfl) rfl (ROs.cons (RO.tmp (At.self (by decide)) (Kv rfl (by simp_all [eqv_self])) rfl) <| ROs.nil) (by decide) OutsOK.nil
      ·
        try simp only [decide_eq_true_eq, decide_eq_false_iff_not, Bool.not_eq_true', Bool.not_eq_false'] at hc3
        refine AW.skip ?_
        refine AX.pr (Kc 2 (.cel _ _) rfl <| Kn) ?_
        refine AX.go ?_
        refine AW.seq ?_
        refine AW.region ?_
        refine AWl.sg rfl (OpT.move (A := .cel _ _) (.inr rfl) rfl (okd rfl rfl) Opd.bool rfl) (Kc 2 (.cel _ _) rfl <| Kn) ?_
        refine AWl.nil ?_
        refine AX.go ?_
        refine AW.ret ?_
        exact AX.rt (rs := [.tmp 2]) (ts := [some 2]) (.inl rfl) rfl (ROs.cons (RO.tmp (At.self (by decide)) (Kv rfl (by simp_all [eqv_self])) rfl) <| ROs.nil) (by decide) OutsOK.nil
end Go.Proofs.Ytdjbdaidnlbhhaa.VL
