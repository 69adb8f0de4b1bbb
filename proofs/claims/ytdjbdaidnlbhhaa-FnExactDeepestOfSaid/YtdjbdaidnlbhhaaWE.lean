/- Proved here: what some functions of the program take and give: walks with the words of VA..VQ. Printed by program. -/
import Derived.Test.YtdjbdaidnlbhhaaWT
import Derived.Test.YtdjbdaidnlbhhaaPD
import Derived.Test.YtdjbdaidnlbhhaaWD
set_option linter.unusedVariables false
set_option linter.unusedSimpArgs false
set_option maxRecDepth 4000
namespace Go.Proofs.Ytdjbdaidnlbhhaa.VL
open Go
/-- laws.szInt16S -/
theorem c_laws_szInt16S (x : List (Int)) (l : Int) (hl : 0 ≤ l ∧ l ≤ 1048576) : AC Try.prog 102 [.cel (Kd.slice (Kd.int .i16)) x, .cel (Kd.int .i64) l] [.cel (Kd.int .i64) (szL x l)] [] := by
  refine ⟨ACall.intro (N := 12) Try.func102 (c := _) (rfl : Func.body _ = some _) rfl (Nat.le_of_ble_eq_true rfl) (Nat.le_of_ble_eq_true rfl) rfl (Nat.le_of_ble_eq_true rfl) fun w0 hd s0 ar har => ?_, _, Try.func102, rfl, by decide⟩
  refine AW.to (Kc 0 (.cel _ _) rfl <| Kc 1 (.cel _ _) rfl <| Kn) ?_
  refine AW.fact (fun a w hr => (ok_slice (R_ok (t := 0) rfl hr)).2) (fun hl0 => ?_)
  refine AW.seq ?_
  refine AW.region ?_
  refine AWl.st rfl (OpT.move (A := .cel _ _) (.inr rfl) rfl (okd rfl rfl) (I rfl) rfl) rfl ?_
  refine AWl.nil ?_
  refine AX.go ?_
  refine AW.seq ?_
  refine AW.region ?_
  refine AWl.st rfl (OpT.move (A := .cel _ _) (.inl rfl) rfl (okd rfl rfl) (Tm rfl rfl rfl) rfl) rfl ?_
  refine AWl.st rfl (OpT.move (A := .cel _ _) (.inl rfl) rfl (okd rfl rfl) (Tm rfl rfl rfl) rfl) rfl ?_
  refine AWl.st rfl (OpT.len rfl rfl (okd rfl rfl) (Tm rfl rfl rfl) el101) rfl ?_
  refine AWl.st rfl (OpT.sub rfl rfl (okd rfl rfl) (Tm rfl rfl rfl) (Tm rfl rfl rfl) (nw (by omega))) rfl ?_
  refine AWl.sg rfl (OpT.move (A := .cel _ _) (.inr rfl) rfl (okd rfl rfl) (Tm rfl rfl rfl) rfl) (Kc 1 (.cel _ _) rfl <| Kc 8 (.cel _ _) rfl <| Kc 7 (.cel _ _) rfl <| Kc 6 (.cel _ _) rfl <| Kc 5 (.cel _ _) rfl <| Kc 4 (.cel _ _) rfl <| Kc 0 (.cel _ _) rfl <| Kn) ?_
  refine AWl.nil ?_
  refine AX.pr (Kc 1 (.cel _ _) rfl <| Kc 4 (.cel _ _) rfl <| Kn) ?_
  refine AX.go ?_
  refine AW.seq ?_
  refine AW.seq ?_
  refine AW.region ?_
  refine AWl.st rfl (OpT.move (A := .cel _ _) (.inl rfl) rfl (okd rfl rfl) (Tm rfl rfl rfl) rfl) rfl ?_
  refine AWl.st rfl (OpT.lss rfl rfl (okd rfl rfl) (Tm rfl rfl rfl) (I rfl)) rfl ?_
  refine AWl.nil ?_
  refine AX.pr (Kc 10 (.cel _ _) rfl <| Kc 1 (.cel _ _) rfl <| Kc 4 (.cel _ _) rfl <| Kn) ?_
  refine AX.go ?_
  refine AW.cond (t := 10) rfl (by decide) (fun hc1 => ?_) (fun hc1 => ?_)
  ·
    try simp only [decide_eq_true_eq, decide_eq_false_iff_not, Bool.not_eq_true', Bool.not_eq_false'] at hc1
    refine AW.seq ?_
    refine AW.region ?_
    refine AWl.sg rfl (OpT.move (A := .cel _ _) (.inr rfl) rfl (okd rfl rfl) (I rfl) rfl) (Kc 4 (.cel _ _) rfl <| Kc 10 (.cel _ _) rfl <| Kc 1 (.cel _ _) rfl <| Kn) ?_
    refine AWl.nil ?_
    refine AX.pr (Kc 4 (.cel _ _) rfl <| Kc 1 (.cel _ _) rfl <| Kn) ?_
    refine AX.go ?_
    refine AW.ret ?_
    refine AX.ret_then ?_
    exact AX.rt (rs := [.tmp 4]) (ts := [some 4]) (.inl rfl) rfl (ROs.cons (RO.tmp (At.self (by decide)) (Kv rfl (by unfold szL; split <;> first | rfl | omega)) rfl) <| ROs.nil) (by decide) OutsOK.nil
  ·
    try simp only [decide_eq_true_eq, decide_eq_false_iff_not, Bool.not_eq_true', Bool.not_eq_false'] at hc1
    refine AW.skip ?_
    refine AX.pr (Kc 1 (.cel _ _) rfl <| Kc 4 (.cel _ _) rfl <| Kn) ?_
    refine AX.go ?_
    refine AW.seq ?_
    refine AW.region ?_
    refine AWl.st rfl (OpT.move (A := .cel _ _) (.inl rfl) rfl (okd rfl rfl) (Tm rfl rfl rfl) rfl) rfl ?_
    refine AWl.sg rfl (OpT.move (A := .cel _ _) (.inr rfl) rfl (okd rfl rfl) (Tm rfl rfl rfl) rfl) (Kc 4 (.cel _ _) rfl <| Kc 11 (.cel _ _) rfl <| Kc 1 (.cel _ _) rfl <| Kn) ?_
    refine AWl.nil ?_
    refine AX.pr (Kc 4 (.cel _ _) rfl <| Kn) ?_
    refine AX.go ?_
    refine AW.ret ?_
    exact AX.rt (rs := [.tmp 4]) (ts := [some 4]) (.inl rfl) rfl (ROs.cons (RO.tmp (At.self (by decide)) (Kv rfl (by unfold szL; split <;> first | rfl | omega)) rfl) <| ROs.nil) (by decide) OutsOK.nil

/-- laws.eqInt16S -/
theorem c_laws_eqInt16S (x y : List (Int)) : AC Try.prog 104 [.cel (Kd.slice (Kd.int .i16)) x, .cel (Kd.slice (Kd.int .i16)) y] [.cel Kd.bool (eqv x y)] [] := by
  refine ⟨ACall.intro (N := 26) Try.func104 (c := _) (rfl : Func.body _ = some _) rfl (Nat.le_of_ble_eq_true rfl) (Nat.le_of_ble_eq_true rfl) rfl (Nat.le_of_ble_eq_true rfl) fun w0 hd s0 ar har => ?_, _, Try.func104, rfl, by decide⟩
  refine AW.to (Kc 0 (.cel _ _) rfl <| Kc 1 (.cel _ _) rfl <| Kn) ?_
  refine AW.fact (fun a w hr => (ok_slice (R_ok (t := 0) rfl hr)).2) (fun hl0 => ?_)
  refine AW.fact (fun a w hr => (ok_slice (R_ok (t := 1) rfl hr)).2) (fun hl1 => ?_)
  refine AW.seq ?_
  refine AW.region ?_
  refine AWl.st rfl (OpT.move (A := .cel _ _) (.inr rfl) rfl (okd rfl rfl) Opd.bool rfl) rfl ?_
  refine AWl.nil ?_
  refine AX.go ?_
  refine AW.seq ?_
  refine AW.seq ?_
  refine AW.region ?_
  refine AWl.st rfl (OpT.move (A := .cel _ _) (.inl rfl) rfl (okd rfl rfl) (Tm rfl rfl rfl) rfl) rfl ?_
  refine AWl.st rfl (OpT.len rfl rfl (okd rfl rfl) (Tm rfl rfl rfl) el101) rfl ?_
  refine AWl.st rfl (OpT.move (A := .cel _ _) (.inl rfl) rfl (okd rfl rfl) (Tm rfl rfl rfl) rfl) rfl ?_
  refine AWl.st rfl (OpT.len rfl rfl (okd rfl rfl) (Tm rfl rfl rfl) el101) rfl ?_
  refine AWl.st rfl (OpT.neq rfl rfl (okd rfl rfl) (Tm rfl rfl rfl) (Tm rfl rfl rfl)) rfl ?_
  refine AWl.nil ?_
  refine AX.pr (Kc 10 (.cel _ _) rfl <| Kc 4 (.cel _ _) rfl <| Kc 0 (.cel _ _) rfl <| Kc 1 (.cel _ _) rfl <| Kn) ?_
  refine AX.go ?_
  refine AW.cond (t := 10) rfl (by decide) (fun hc1 => ?_) (fun hc1 => ?_)
  ·
    try simp only [decide_eq_true_eq, decide_eq_false_iff_not, Bool.not_eq_true', Bool.not_eq_false'] at hc1
    try simp only [bne_iff_ne, ne_eq, bne_eq_false_iff_eq] at hc1
    refine AW.seq ?_
    refine AW.region ?_
    refine AWl.sg rfl (OpT.move (A := .cel _ _) (.inr rfl) rfl (okd rfl rfl) Opd.bool rfl) (Kc 4 (.cel _ _) rfl <| Kc 10 (.cel _ _) rfl <| Kc 0 (.cel _ _) rfl <| Kc 1 (.cel _ _) rfl <| Kn) ?_
    refine AWl.nil ?_
    refine AX.pr (Kc 4 (.cel _ _) rfl <| Kc 0 (.cel _ _) rfl <| Kc 1 (.cel _ _) rfl <| Kn) ?_
    refine AX.go ?_
    refine AW.ret ?_
    refine AX.ret_then ?_
    exact AX.rt (rs := [.tmp 4]) (ts := [some 4]) (.inl rfl) rfl (ROs.cons (RO.tmp (At.self (by decide)) (Kv rfl (by first | exact eqs_len (by omega) | exact eqs_ne ha hb (by simpa [eqv_iff, eqv_false_iff] using hc3) | exact eqs_all hI.2 (by omega) (by omega))) rfl) <| ROs.nil) (by decide) OutsOK.nil
  ·
    try simp only [decide_eq_true_eq, decide_eq_false_iff_not, Bool.not_eq_true', Bool.not_eq_false'] at hc1
    try simp only [bne_iff_ne, ne_eq, bne_eq_false_iff_eq] at hc1
    refine AW.skip ?_
    refine AX.pr (Kc 4 (.cel _ _) rfl <| Kc 0 (.cel _ _) rfl <| Kc 1 (.cel _ _) rfl <| Kn) ?_
    refine AX.go ?_
    refine AW.seq ?_
    refine AW.seq ?_
    refine AW.region ?_
    refine AWl.st rfl (OpT.move (A := .cel _ _) (.inr rfl) rfl (okd rfl rfl) (I rfl) rfl) rfl ?_
    refine AWl.nil ?_
    refine AX.go ?_
    refine AW.block ?_
    refine AW.loop (fun z : Nat => z ≤ x.length ∧ x.take z = y.take z) (fun z : Nat => keep [(0, .cel (Kd.slice (Kd.int .i16)) x), (1, .cel (Kd.slice (Kd.int .i16)) y), (5, .cel (Kd.int .i64) (z : Int))]) (fun z : Nat => x.length - z) (0) ⟨Nat.zero_le _, rfl⟩ (Kc 0 _ (Kv rfl rfl) <| Kc 1 _ (Kv rfl rfl) <| Kc 5 _ (Kv rfl rfl) <| Kn) ?_
    intro z hI
    refine AW.seq ?_
    refine AW.seq ?_
    refine AW.region ?_
    refine AWl.st rfl (OpT.move (A := .cel _ _) (.inl rfl) rfl (okd rfl rfl) (Tm rfl rfl rfl) rfl) rfl ?_
    refine AWl.st rfl (OpT.move (A := .cel _ _) (.inl rfl) rfl (okd rfl rfl) (Tm rfl rfl rfl) rfl) rfl ?_
    refine AWl.st rfl (OpT.len rfl rfl (okd rfl rfl) (Tm rfl rfl rfl) el101) rfl ?_
    refine AWl.st rfl (OpT.lss rfl rfl (okd rfl rfl) (Tm rfl rfl rfl) (Tm rfl rfl rfl)) rfl ?_
    refine AWl.nil ?_
    refine AX.go ?_
    refine AW.cond (t := 14) rfl (by decide) (fun hc2 => ?_) (fun hc2 => ?_)
    ·
      try simp only [decide_eq_true_eq, decide_eq_false_iff_not, Bool.not_eq_true', Bool.not_eq_false'] at hc2
      obtain ⟨a, ha⟩ := getI (x := x) (z := z) (by omega); obtain ⟨b, hb⟩ := getI (x := y) (z := z) (by omega)
      refine AW.skip ?_
      refine AX.go ?_
      refine AW.seq ?_
      refine AW.block ?_
      refine AW.seq ?_
      refine AW.dg fomo ?_
      refine DG.fr (d := 17) [0] (DS rfl fun v h => OpT.move (A := .cel _ _) (.inl rfl) rfl (okd rfl rfl) (D h rfl rfl rfl rfl) rfl) rfl rfl ?_
      refine DG.fr (d := 18) [5] (DS rfl fun v h => OpT.move (A := .cel _ _) (.inl rfl) rfl (okd rfl rfl) (D h rfl rfl rfl rfl) rfl) rfl rfl ?_
      refine DG.fr (d := 19) [17, 18] (DS rfl fun v h => OpT.indexAddr rfl rfl (okd rfl rfl) (D h rfl rfl rfl rfl) (D h rfl rfl rfl rfl) el101 sz31 (by omega) (by assumption)) rfl rfl ?_
      refine DG.fr (d := 20) [19] (DS rfl fun v h => OpT.load rfl rfl (okd rfl rfl) (D h rfl rfl rfl rfl) ag31 rfl) rfl rfl ?_
      refine DG.fr (d := 21) [1] (DS rfl fun v h => OpT.move (A := .cel _ _) (.inl rfl) rfl (okd rfl rfl) (D h rfl rfl rfl rfl) rfl) rfl rfl ?_
      refine DG.fr (d := 22) [5] (DS rfl fun v h => OpT.move (A := .cel _ _) (.inl rfl) rfl (okd rfl rfl) (D h rfl rfl rfl rfl) rfl) rfl rfl ?_
      refine DG.fr (d := 23) [21, 22] (DS rfl fun v h => OpT.indexAddr rfl rfl (okd rfl rfl) (D h rfl rfl rfl rfl) (D h rfl rfl rfl rfl) el101 sz31 (by omega) (by assumption)) rfl rfl ?_
      refine DG.fr (d := 24) [23] (DS rfl fun v h => OpT.load rfl rfl (okd rfl rfl) (D h rfl rfl rfl rfl) ag31 rfl) rfl rfl ?_
      refine DG.fr (d := 25) [20, 24] (DS rfl fun v h => OpT.neq rfl rfl (okd rfl rfl) (D h rfl rfl rfl rfl) (D h rfl rfl rfl rfl)) rfl rfl ?_
      refine DG.nil ⟨by kernel_rfl, by kernel_rfl, ?_⟩
      refine AX.go ?_
      refine AW.cond (t := 25) rfl (by decide) (fun hc3 => ?_) (fun hc3 => ?_)
      ·
        try simp only [decide_eq_true_eq, decide_eq_false_iff_not, Bool.not_eq_true', Bool.not_eq_false'] at hc3
        refine AW.seq ?_
        refine AW.region ?_
        refine AWl.st rfl (OpT.move (A := .cel _ _) (.inr rfl) rfl (okd rfl rfl) Opd.bool rfl) rfl ?_
        refine AWl.nil ?_
        refine AX.go ?_
        refine AW.ret ?_
        refine AX.ret_block ?_
        refine AX.ret_then ?_
        refine AX.ret_then ?_
        refine AX.ret_block ?_
        refine AX.ret_then ?_
        exact AX.rt (rs := [.tmp 4]) (ts := [some 4]) (.inl rfl) rfl (ROs.cons (RO.tmp (At.self (by decide)) (Kv rfl (by first | exact eqs_len (by omega) | exact eqs_ne ha hb (by simpa [eqv_iff, eqv_false_iff] using hc3) | exact eqs_all hI.2 (by omega) (by omega))) rfl) <| ROs.nil) (by decide) OutsOK.nil
      ·
        try simp only [decide_eq_true_eq, decide_eq_false_iff_not, Bool.not_eq_true', Bool.not_eq_false'] at hc3
        refine AW.skip ?_
        refine AX.normal_block ?_
        refine AX.go ?_
        refine AW.region ?_
        refine AWl.st rfl (OpT.move (A := .cel _ _) (.inl rfl) rfl (okd rfl rfl) (Tm rfl rfl rfl) rfl) rfl ?_
        refine AWl.st rfl (OpT.add rfl rfl (okd rfl rfl) (Tm rfl rfl rfl) (I rfl) (nw (by omega))) rfl ?_
        refine AWl.sg rfl (OpT.move (A := .cel _ _) (.inr rfl) rfl (okd rfl rfl) (Tm rfl rfl rfl) rfl) (Kc 5 (.cel _ _) rfl <| Kc 16 (.cel _ _) rfl <| Kc 15 (.cel _ _) rfl <| Kc 25 (.cel _ _) rfl <| Kc 24 (.cel _ _) rfl <| Kc 23 (.cel _ _) rfl <| Kc 22 (.cel _ _) rfl <| Kc 21 (.cel _ _) rfl <| Kc 20 (.cel _ _) rfl <| Kc 19 (.cel _ _) rfl <| Kc 18 (.cel _ _) rfl <| Kc 17 (.cel _ _) rfl <| Kc 14 (.cel _ _) rfl <| Kc 13 (.cel _ _) rfl <| Kc 12 (.cel _ _) rfl <| Kc 11 (.cel _ _) rfl <| Kc 0 (.cel _ _) rfl <| Kc 1 (.cel _ _) rfl <| Kn) ?_
        refine AWl.nil ?_
        exact AX.again (z + 1) ⟨by omega, eqs_step hI.2 ha hb (by simpa [eqv_iff, eqv_false_iff] using hc3)⟩ (by omega) (Kc 0 _ (Kv rfl rfl) <| Kc 1 _ (Kv rfl rfl) <| Kc 5 _ (Kv rfl (by omega)) <| Kn)
    ·
      try simp only [decide_eq_true_eq, decide_eq_false_iff_not, Bool.not_eq_true', Bool.not_eq_false'] at hc2
      refine AW.exit ?_
      refine AX.exit_then ?_
      refine AX.exit_then ?_
      refine AX.exit_hit ?_
      refine AX.pr (Kn) ?_
      refine AX.go ?_
      refine AW.seq ?_
      refine AW.region ?_
      refine AWl.st rfl (OpT.move (A := .cel _ _) (.inr rfl) rfl (okd rfl rfl) Opd.bool rfl) rfl ?_
      refine AWl.nil ?_
      refine AX.go ?_
      refine AW.ret ?_
      exact AX.rt (rs := [.tmp 4]) (ts := [some 4]) (.inl rfl) rfl (ROs.cons (RO.tmp (At.self (by decide)) (Kv rfl (by first | exact eqs_len (by omega) | exact eqs_ne ha hb (by simpa [eqv_iff, eqv_false_iff] using hc3) | exact eqs_all hI.2 (by omega) (by omega))) rfl) <| ROs.nil) (by decide) OutsOK.nil

/-- slices.Equal[[]int16,int16] -/
theorem c_slices_Equal_int16_int16 (x y : List (Int)) : AC Try.prog 80 [.cel (Kd.slice (Kd.int .i16)) x, .cel (Kd.slice (Kd.int .i16)) y] [.cel Kd.bool (eqv x y)] [] := by
  refine ⟨ACall.intro (N := 26) Try.func80 (c := _) (rfl : Func.body _ = some _) rfl (Nat.le_of_ble_eq_true rfl) (Nat.le_of_ble_eq_true rfl) rfl (Nat.le_of_ble_eq_true rfl) fun w0 hd s0 ar har => ?_, _, Try.func80, rfl, by decide⟩
  refine AW.to (Kc 0 (.cel _ _) rfl <| Kc 1 (.cel _ _) rfl <| Kn) ?_
  refine AW.fact (fun a w hr => (ok_slice (R_ok (t := 0) rfl hr)).2) (fun hl0 => ?_)
  refine AW.fact (fun a w hr => (ok_slice (R_ok (t := 1) rfl hr)).2) (fun hl1 => ?_)
  refine AW.seq ?_
  refine AW.region ?_
  refine AWl.st rfl (OpT.move (A := .cel _ _) (.inr rfl) rfl (okd rfl rfl) Opd.bool rfl) rfl ?_
  refine AWl.nil ?_
  refine AX.go ?_
  refine AW.seq ?_
  refine AW.seq ?_
  refine AW.region ?_
  refine AWl.st rfl (OpT.move (A := .cel _ _) (.inl rfl) rfl (okd rfl rfl) (Tm rfl rfl rfl) rfl) rfl ?_
  refine AWl.st rfl (OpT.len rfl rfl (okd rfl rfl) (Tm rfl rfl rfl) el101) rfl ?_
  refine AWl.st rfl (OpT.move (A := .cel _ _) (.inl rfl) rfl (okd rfl rfl) (Tm rfl rfl rfl) rfl) rfl ?_
  refine AWl.st rfl (OpT.len rfl rfl (okd rfl rfl) (Tm rfl rfl rfl) el101) rfl ?_
  refine AWl.st rfl (OpT.neq rfl rfl (okd rfl rfl) (Tm rfl rfl rfl) (Tm rfl rfl rfl)) rfl ?_
  refine AWl.nil ?_
  refine AX.pr (Kc 10 (.cel _ _) rfl <| Kc 4 (.cel _ _) rfl <| Kc 0 (.cel _ _) rfl <| Kc 1 (.cel _ _) rfl <| Kn) ?_
  refine AX.go ?_
  refine AW.cond (t := 10) rfl (by decide) (fun hc1 => ?_) (fun hc1 => ?_)
  ·
    try simp only [decide_eq_true_eq, decide_eq_false_iff_not, Bool.not_eq_true', Bool.not_eq_false'] at hc1
    try simp only [bne_iff_ne, ne_eq, bne_eq_false_iff_eq] at hc1
    refine AW.seq ?_
    refine AW.region ?_
    refine AWl.sg rfl (OpT.move (A := .cel _ _) (.inr rfl) rfl (okd rfl rfl) Opd.bool rfl) (Kc 4 (.cel _ _) rfl <| Kc 10 (.cel _ _) rfl <| Kc 0 (.cel _ _) rfl <| Kc 1 (.cel _ _) rfl <| Kn) ?_
    refine AWl.nil ?_
    refine AX.pr (Kc 4 (.cel _ _) rfl <| Kc 0 (.cel _ _) rfl <| Kc 1 (.cel _ _) rfl <| Kn) ?_
    refine AX.go ?_
    refine AW.ret ?_
    refine AX.ret_then ?_
    exact AX.rt (rs := [.tmp 4]) (ts := [some 4]) (.inl rfl) rfl (ROs.cons (RO.tmp (At.self (by decide)) (Kv rfl (by first | exact eqs_len (by omega) | exact eqs_ne ha hb (by simpa [eqv_iff, eqv_false_iff] using hc3) | exact eqs_all hI.2 (by omega) (by omega))) rfl) <| ROs.nil) (by decide) OutsOK.nil
  ·
    try simp only [decide_eq_true_eq, decide_eq_false_iff_not, Bool.not_eq_true', Bool.not_eq_false'] at hc1
    try simp only [bne_iff_ne, ne_eq, bne_eq_false_iff_eq] at hc1
    refine AW.skip ?_
    refine AX.pr (Kc 4 (.cel _ _) rfl <| Kc 0 (.cel _ _) rfl <| Kc 1 (.cel _ _) rfl <| Kn) ?_
    refine AX.go ?_
    refine AW.seq ?_
    refine AW.seq ?_
    refine AW.region ?_
    refine AWl.st rfl (OpT.move (A := .cel _ _) (.inl rfl) rfl (okd rfl rfl) (Tm rfl rfl rfl) rfl) rfl ?_
    refine AWl.st rfl (OpT.len rfl rfl (okd rfl rfl) (Tm rfl rfl rfl) el101) rfl ?_
    refine AWl.st rfl (OpT.move (A := .cel _ _) (.inl rfl) rfl (okd rfl rfl) (I rfl) rfl) rfl ?_
    refine AWl.nil ?_
    refine AX.pr (Kc 13 (.cel _ _) rfl <| Kc 12 (.cel _ _) rfl <| Kc 4 (.cel _ _) rfl <| Kc 0 (.cel _ _) rfl <| Kc 1 (.cel _ _) rfl <| Kn) ?_
    refine AX.go ?_
    refine AW.block ?_
    refine AW.loop (fun z : Nat => z ≤ x.length ∧ x.take z = y.take z) (fun z : Nat => keep [(0, .cel (Kd.slice (Kd.int .i16)) x), (1, .cel (Kd.slice (Kd.int .i16)) y), (12, .cel (Kd.int .i64) ((x.length : Nat) : Int)), (13, .cel (Kd.int .i64) (z : Int))]) (fun z : Nat => x.length - z) (0) ⟨Nat.zero_le _, rfl⟩ (Kc 0 _ (Kv rfl rfl) <| Kc 1 _ (Kv rfl rfl) <| Kc 12 _ (Kv rfl rfl) <| Kc 13 _ (Kv rfl rfl) <| Kn) ?_
    intro z hI
    refine AW.seq ?_
    refine AW.region ?_
    refine AWl.st rfl (OpT.lss rfl rfl (okd rfl rfl) (Tm rfl rfl rfl) (Tm rfl rfl rfl)) rfl ?_
    refine AWl.nil ?_
    refine AX.go ?_
    refine AW.seq ?_
    refine AW.cond (t := 14) rfl (by decide) (fun hc2 => ?_) (fun hc2 => ?_)
    ·
      try simp only [decide_eq_true_eq, decide_eq_false_iff_not, Bool.not_eq_true', Bool.not_eq_false'] at hc2
      obtain ⟨a, ha⟩ := getI (x := x) (z := z) (by omega); obtain ⟨b, hb⟩ := getI (x := y) (z := z) (by omega)
      refine AW.skip ?_
      refine AX.go ?_
      refine AW.seq ?_
      refine AW.block ?_
      refine AW.seq ?_
      refine AW.region ?_
      refine AWl.st rfl (OpT.move (A := .cel _ _) (.inl rfl) rfl (okd rfl rfl) (Tm rfl rfl rfl) rfl) rfl ?_
      refine AWl.st rfl (OpT.move (A := .cel _ _) (.inr rfl) rfl (okd rfl rfl) (Tm rfl rfl rfl) rfl) rfl ?_
      refine AWl.nil ?_
      refine AX.go ?_
      refine AW.seq ?_
      refine AW.dg fomo ?_
      refine DG.fr (d := 16) [0] (DS rfl fun v h => OpT.move (A := .cel _ _) (.inl rfl) rfl (okd rfl rfl) (D h rfl rfl rfl rfl) rfl) rfl rfl ?_
      refine DG.fr (d := 17) [5] (DS rfl fun v h => OpT.move (A := .cel _ _) (.inl rfl) rfl (okd rfl rfl) (D h rfl rfl rfl rfl) rfl) rfl rfl ?_
      refine DG.fr (d := 18) [16, 17] (DS rfl fun v h => OpT.indexAddr rfl rfl (okd rfl rfl) (D h rfl rfl rfl rfl) (D h rfl rfl rfl rfl) el101 sz31 (by omega) (by assumption)) rfl rfl ?_
      refine DG.fr (d := 19) [18] (DS rfl fun v h => OpT.load rfl rfl (okd rfl rfl) (D h rfl rfl rfl rfl) ag31 rfl) rfl rfl ?_
      refine DG.fr (d := 20) [1] (DS rfl fun v h => OpT.move (A := .cel _ _) (.inl rfl) rfl (okd rfl rfl) (D h rfl rfl rfl rfl) rfl) rfl rfl ?_
      refine DG.fr (d := 21) [5] (DS rfl fun v h => OpT.move (A := .cel _ _) (.inl rfl) rfl (okd rfl rfl) (D h rfl rfl rfl rfl) rfl) rfl rfl ?_
      refine DG.fr (d := 22) [20, 21] (DS rfl fun v h => OpT.indexAddr rfl rfl (okd rfl rfl) (D h rfl rfl rfl rfl) (D h rfl rfl rfl rfl) el101 sz31 (by omega) (by assumption)) rfl rfl ?_
      refine DG.fr (d := 23) [22] (DS rfl fun v h => OpT.load rfl rfl (okd rfl rfl) (D h rfl rfl rfl rfl) ag31 rfl) rfl rfl ?_
      refine DG.fr (d := 24) [19, 23] (DS rfl fun v h => OpT.neq rfl rfl (okd rfl rfl) (D h rfl rfl rfl rfl) (D h rfl rfl rfl rfl)) rfl rfl ?_
      refine DG.nil ⟨by kernel_rfl, by kernel_rfl, ?_⟩
      refine AX.go ?_
      refine AW.cond (t := 24) rfl (by decide) (fun hc3 => ?_) (fun hc3 => ?_)
      ·
        try simp only [decide_eq_true_eq, decide_eq_false_iff_not, Bool.not_eq_true', Bool.not_eq_false'] at hc3
        refine AW.seq ?_
        refine AW.region ?_
        refine AWl.st rfl (OpT.move (A := .cel _ _) (.inr rfl) rfl (okd rfl rfl) Opd.bool rfl) rfl ?_
        refine AWl.nil ?_
        refine AX.go ?_
        refine AW.ret ?_
        refine AX.ret_block ?_
        refine AX.ret_then ?_
        refine AX.ret_then ?_
        refine AX.ret_block ?_
        refine AX.ret_then ?_
        exact AX.rt (rs := [.tmp 4]) (ts := [some 4]) (.inl rfl) rfl (ROs.cons (RO.tmp (At.self (by decide)) (Kv rfl (by first | exact eqs_len (by omega) | exact eqs_ne ha hb (by simpa [eqv_iff, eqv_false_iff] using hc3) | exact eqs_all hI.2 (by omega) (by omega))) rfl) <| ROs.nil) (by decide) OutsOK.nil
      ·
        try simp only [decide_eq_true_eq, decide_eq_false_iff_not, Bool.not_eq_true', Bool.not_eq_false'] at hc3
        refine AW.skip ?_
        refine AX.normal_block ?_
        refine AX.go ?_
        refine AW.region ?_
        refine AWl.st rfl (OpT.add rfl rfl (okd rfl rfl) (Tm rfl rfl rfl) (I rfl) (nw (by omega))) rfl ?_
        refine AWl.sg rfl (OpT.move (A := .cel _ _) (.inl rfl) rfl (okd rfl rfl) (Tm rfl rfl rfl) rfl) (Kc 13 (.cel _ _) rfl <| Kc 25 (.cel _ _) rfl <| Kc 24 (.cel _ _) rfl <| Kc 23 (.cel _ _) rfl <| Kc 22 (.cel _ _) rfl <| Kc 21 (.cel _ _) rfl <| Kc 20 (.cel _ _) rfl <| Kc 19 (.cel _ _) rfl <| Kc 18 (.cel _ _) rfl <| Kc 17 (.cel _ _) rfl <| Kc 16 (.cel _ _) rfl <| Kc 5 (.cel _ _) rfl <| Kc 15 (.cel _ _) rfl <| Kc 14 (.cel _ _) rfl <| Kc 0 (.cel _ _) rfl <| Kc 1 (.cel _ _) rfl <| Kc 12 (.cel _ _) rfl <| Kn) ?_
        refine AWl.nil ?_
        exact AX.again (z + 1) ⟨by omega, eqs_step hI.2 ha hb (by simpa [eqv_iff, eqv_false_iff] using hc3)⟩ (by omega) (Kc 0 _ (Kv rfl rfl) <| Kc 1 _ (Kv rfl rfl) <| Kc 12 _ (Kv rfl rfl) <| Kc 13 _ (Kv rfl (by omega)) <| Kn)
    ·
      try simp only [decide_eq_true_eq, decide_eq_false_iff_not, Bool.not_eq_true', Bool.not_eq_false'] at hc2
      refine AW.exit ?_
      refine AX.exit_then ?_
      refine AX.exit_then ?_
      refine AX.exit_hit ?_
      refine AX.pr (Kn) ?_
      refine AX.go ?_
      refine AW.seq ?_
      refine AW.region ?_
      refine AWl.st rfl (OpT.move (A := .cel _ _) (.inr rfl) rfl (okd rfl rfl) Opd.bool rfl) rfl ?_
      refine AWl.nil ?_
      refine AX.go ?_
      refine AW.ret ?_
      exact AX.rt (rs := [.tmp 4]) (ts := [some 4]) (.inl rfl) rfl (ROs.cons (RO.tmp (At.self (by decide)) (Kv rfl (by first | exact eqs_len (by omega) | exact eqs_ne ha hb (by simpa [eqv_iff, eqv_false_iff] using hc3) | exact eqs_all hI.2 (by omega) (by omega))) rfl) <| ROs.nil) (by decide) OutsOK.nil

/-- laws.toInt16S -/
theorem c_laws_toInt16S (x : List (Int)) (hn : x.length ≤ 1099511627776) : AC Try.prog 103 [.cel (Kd.slice (Kd.int .i16)) x] [.cel (Kd.slice (Kd.int .i16)) x] [] := by
  refine ⟨ACall.intro (N := 22) Try.func103 (c := _) (rfl : Func.body _ = some _) rfl (Nat.le_of_ble_eq_true rfl) (Nat.le_of_ble_eq_true rfl) rfl (Nat.le_of_ble_eq_true rfl) fun w0 hd s0 ar har => ?_, _, Try.func103, rfl, by decide⟩
  refine AW.to (Kc 0 (.cel _ _) rfl <| Kn) ?_
  refine AW.seq ?_
  refine AW.region ?_
  refine AWl.st rfl (OpT.move (A := .cel _ _) (.inr rfl) rfl (okd rfl rfl) (Opd.nilslice (Kd.int .i16)) rfl) rfl ?_
  refine AWl.nil ?_
  refine AX.go ?_
  refine AW.seq ?_
  refine AW.region ?_
  refine AWl.st rfl (OpT.move (A := .cel _ _) (.inl rfl) rfl (okd rfl rfl) (Tm rfl rfl rfl) rfl) rfl ?_
  refine AWl.st rfl (OpT.len rfl rfl (okd rfl rfl) (Tm rfl rfl rfl) el101) rfl ?_
  refine AWl.st rfl (OpT.make rfl rfl (okd rfl rfl) (Tm rfl rfl rfl) (Tm rfl rfl rfl) el101 zr31 sz31 by31 (by decide) zk31 (by omega) (by omega)) rfl ?_
  refine AWl.sg rfl (OpT.take (.inl rfl) rfl (okd rfl rfl) (Root.self (by decide)) rfl rfl (by decide)) (Kc 3 (.own _ _ _) rfl <| Kc 6 (.cel _ _) rfl <| Kc 5 (.cel _ _) rfl <| Kc 2 (.cel _ _) rfl <| Kc 0 (.cel _ _) rfl <| Kn) ?_
  refine AWl.nil ?_
  refine AX.pr (Kc 3 (.own _ _ _) rfl <| Kc 2 (.cel _ _) rfl <| Kc 0 (.cel _ _) rfl <| Kn) ?_
  refine AX.go ?_
  refine AW.seq ?_
  refine AW.seq ?_
  refine AW.region ?_
  refine AWl.st rfl (OpT.move (A := .cel _ _) (.inr rfl) rfl (okd rfl rfl) (I rfl) rfl) rfl ?_
  refine AWl.nil ?_
  refine AX.go ?_
  refine AW.block ?_
  refine AW.loop (fun z : Nat => z ≤ x.length) (fun z : Nat => keep [(0, .cel (Kd.slice (Kd.int .i16)) x), (3, .own 31 (Kd.int .i16) (cpy x z (0))), (4, .cel (Kd.int .i64) (z : Int))]) (fun z : Nat => x.length - z) (0) (by omega) (Kc 0 _ (Kv rfl rfl) <| Kc 3 _ (Ko rfl rfl) <| Kc 4 _ (Kv rfl rfl) <| Kn) ?_
  intro z hI
  refine AW.seq ?_
  refine AW.seq ?_
  refine AW.region ?_
  refine AWl.st rfl (OpT.move (A := .cel _ _) (.inl rfl) rfl (okd rfl rfl) (Tm rfl rfl rfl) rfl) rfl ?_
  refine AWl.st rfl (OpT.move (A := .cel _ _) (.inl rfl) rfl (okd rfl rfl) (Tm rfl rfl rfl) rfl) rfl ?_
  refine AWl.st rfl (OpT.len rfl rfl (okd rfl rfl) (Tm rfl rfl rfl) el101) rfl ?_
  refine AWl.st rfl (OpT.lss rfl rfl (okd rfl rfl) (Tm rfl rfl rfl) (Tm rfl rfl rfl)) rfl ?_
  refine AWl.nil ?_
  refine AX.go ?_
  refine AW.cond (t := 11) rfl (by decide) (fun hc1 => ?_) (fun hc1 => ?_)
  ·
    try simp only [decide_eq_true_eq, decide_eq_false_iff_not, Bool.not_eq_true', Bool.not_eq_false'] at hc1
    obtain ⟨a, ha⟩ := getI (x := x) (z := z) (by omega); have hd := cpy_get (x := x) (z := z) (d := (0 : Int)) (by omega)
    refine AW.skip ?_
    refine AX.go ?_
    refine AW.seq ?_
    refine AW.block ?_
    refine AW.region ?_
    refine AWl.st rfl (OpT.alias rfl rfl (okd rfl rfl) (by decide) (by decide)) rfl ?_
    refine AWl.st rfl (OpT.move (A := .cel _ _) (.inl rfl) rfl (okd rfl rfl) (Tm rfl rfl rfl) rfl) rfl ?_
    refine AWl.st rfl (OpT.move (A := .cel _ _) (.inl rfl) rfl (okd rfl rfl) (Tm rfl rfl rfl) rfl) rfl ?_
    refine AWl.st rfl (OpT.move (A := .cel _ _) (.inl rfl) rfl (okd rfl rfl) (Tm rfl rfl rfl) rfl) rfl ?_
    refine AWl.st rfl (OpT.indexAddr rfl rfl (okd rfl rfl) (Tm rfl rfl rfl) (Tm rfl rfl rfl) el101 sz31 (by omega) (by assumption)) rfl ?_
    refine AWl.st rfl (OpT.load rfl rfl (okd rfl rfl) (Tm rfl rfl rfl) ag31 rfl) rfl ?_
    refine AWl.st rfl (OpT.indexAddrO rfl rfl (okd rfl rfl) (Root.ali rfl (by decide) (by decide)) rfl (by decide) (Tm rfl rfl rfl) el101 sz31 (by omega) (by assumption)) rfl ?_
    refine AWl.sg rfl (OpT.storeO rfl rfl (Tm rfl rfl rfl) rfl (by assumption) sz31 rfl (Tm rfl rfl rfl)) (Kc 20 (.pel _ _ _ _ _ _ _) rfl <| Kc 19 (.cel _ _) rfl <| Kc 18 (.cel _ _) rfl <| Kc 17 (.cel _ _) rfl <| Kc 16 (.cel _ _) rfl <| Kc 15 (.cel _ _) rfl <| Kc 14 (.ali _) rfl <| Kc 11 (.cel _ _) rfl <| Kc 10 (.cel _ _) rfl <| Kc 9 (.cel _ _) rfl <| Kc 8 (.cel _ _) rfl <| Kc 0 (.cel _ _) rfl <| Kc 3 (.own _ _ _) rfl <| Kc 4 (.cel _ _) rfl <| Kn) ?_
    refine AWl.nil ?_
    refine AX.normal_block ?_
    refine AX.go ?_
    refine AW.region ?_
    refine AWl.st rfl (OpT.move (A := .cel _ _) (.inl rfl) rfl (okd rfl rfl) (Tm rfl rfl rfl) rfl) rfl ?_
    refine AWl.st rfl (OpT.add rfl rfl (okd rfl rfl) (Tm rfl rfl rfl) (I rfl) (nw (by omega))) rfl ?_
    refine AWl.sg rfl (OpT.move (A := .cel _ _) (.inr rfl) rfl (okd rfl rfl) (Tm rfl rfl rfl) rfl) (Kc 4 (.cel _ _) rfl <| Kc 13 (.cel _ _) rfl <| Kc 12 (.cel _ _) rfl <| Kc 20 (.pel _ _ _ _ _ _ _) rfl <| Kc 19 (.cel _ _) rfl <| Kc 18 (.cel _ _) rfl <| Kc 17 (.cel _ _) rfl <| Kc 16 (.cel _ _) rfl <| Kc 15 (.cel _ _) rfl <| Kc 14 (.ali _) rfl <| Kc 11 (.cel _ _) rfl <| Kc 10 (.cel _ _) rfl <| Kc 9 (.cel _ _) rfl <| Kc 8 (.cel _ _) rfl <| Kc 0 (.cel _ _) rfl <| Kc 3 (.own _ _ _) rfl <| Kn) ?_
    refine AWl.nil ?_
    exact AX.again (z + 1) (by omega) (by omega) (Kc 0 _ (Kv rfl rfl) <| Kc 3 _ (Ko rfl (cpy_step ha)) <| Kc 4 _ (Kv rfl (by omega)) <| Kn)
  ·
    try simp only [decide_eq_true_eq, decide_eq_false_iff_not, Bool.not_eq_true', Bool.not_eq_false'] at hc1
    refine AW.exit ?_
    refine AX.freeze (t := 3) rfl ?_
    refine AX.pr (Kc 11 (.cel _ _) rfl <| Kc 10 (.cel _ _) rfl <| Kc 9 (.cel _ _) rfl <| Kc 8 (.cel _ _) rfl <| Kc 0 (.cel _ _) rfl <| Kc 3 (.cel _ _) rfl <| Kc 4 (.cel _ _) rfl <| Kn) ?_
    refine AX.exit_then ?_
    refine AX.exit_then ?_
    refine AX.exit_hit ?_
    refine AX.pr (Kc 3 (.cel _ _) rfl <| Kn) ?_
    refine AX.go ?_
    refine AW.seq ?_
    refine AW.region ?_
    refine AWl.st rfl (OpT.move (A := .cel _ _) (.inl rfl) rfl (okd rfl rfl) (Tm rfl rfl rfl) rfl) rfl ?_
    refine AWl.st rfl (OpT.move (A := .cel _ _) (.inr rfl) rfl (okd rfl rfl) (Tm rfl rfl rfl) rfl) rfl ?_
    refine AWl.nil ?_
    refine AX.pr (Kc 2 (.cel _ _) rfl <| Kn) ?_
    refine AX.go ?_
    refine AW.ret ?_
    exact AX.rt (rs := [.tmp 2]) (ts := [some 2]) (.inl rfl) rfl (ROs.cons (RO.tmp (At.self (by decide)) (Kv rfl (cpy_end (by omega))) rfl) <| ROs.nil) (by decide) OutsOK.nil

/-- laws.toKnot -/
theorem c_laws_toKnot (x : DKnot) (hn : okK x) : AC Try.prog 77 [.agg kKnot x] [.agg kKnot x] [] := by
  refine ⟨ACall.intro (N := 20) Try.func77 (c := _) (rfl : Func.body _ = some _) rfl (Nat.le_of_ble_eq_true rfl) (Nat.le_of_ble_eq_true rfl) rfl (Nat.le_of_ble_eq_true rfl) fun w0 hd s0 ar har => ?_, _, Try.func77, rfl, by decide⟩
  refine AW.to (Kc 0 (.agg _ _) rfl <| Kn) ?_
  refine AW.seq ?_
  refine AW.region ?_
  refine AWl.st rfl (OpT.frz (OpT.boxA (E := 103) rfl rfl (okd rfl rfl) (Tm rfl rfl rfl))) rfl ?_
  refine AWl.st rfl (OpT.alloc rfl rfl (okd rfl rfl) zr106 zk106) rfl ?_
  refine AWl.nil ?_
  refine AX.pr (Kc 2 (.box _ _ _) rfl <| Kc 1 (.cel _ _) rfl <| Kn) ?_
  refine AX.go ?_
  refine AW.seq ?_
  refine AW.region ?_
  refine AWl.st rfl (OpT.alloc rfl rfl (okd rfl rfl) zr106 zk106) rfl ?_
  refine AWl.nil ?_
  refine AX.go ?_
  refine AW.seq ?_
  refine AW.region ?_
  refine AWl.st rfl (OpT.fieldAddr rfl rfl (okd rfl rfl) (Tm rfl rfl rfl) fd103_0 sz31 (by decide) sb103_0) rfl ?_
  refine AWl.st rfl (OpT.load rfl rfl (okd rfl rfl) (Tm rfl rfl rfl) ag31 rfl) rfl ?_
  refine AWl.st rfl (OpT.fieldAddrB rfl rfl (okd rfl rfl) (Root.self (by decide)) rfl (by decide) fd106_0 sz31 (by decide) sb106_0) rfl ?_
  refine AWl.sg rfl (OpT.storeB rfl rfl (Tm rfl rfl rfl) rfl sz31 rfl (Tm rfl rfl rfl)) (Kc 6 (.pel _ _ _ _ _ _ _) rfl <| Kc 5 (.cel _ _) rfl <| Kc 4 (.cel _ _) rfl <| Kc 3 (.box _ _ _) rfl <| Kc 2 (.box _ _ _) rfl <| Kc 1 (.cel _ _) rfl <| Kn) ?_
  refine AWl.nil ?_
  refine AX.pr (Kc 3 (.box _ _ _) rfl <| Kc 2 (.box _ _ _) rfl <| Kc 1 (.cel _ _) rfl <| Kn) ?_
  refine AX.go ?_
  refine AW.seq ?_
  refine AW.region ?_
  refine AWl.st rfl (OpT.fieldAddr rfl rfl (okd rfl rfl) (Tm rfl rfl rfl) fd103_1 sz50 (by decide) sb103_1) rfl ?_
  refine AWl.st rfl (OpT.load rfl rfl (okd rfl rfl) (Tm rfl rfl rfl) ag50 rfl) rfl ?_
  refine AWl.st rfl (OpT.c1 (ms := [.flat]) (c_laws_toInt64S _ hn.1) rfl rfl (okd rfl rfl) (Af (Tm rfl rfl rfl) rfl rfl <| An) rfl rfl) rfl ?_
  refine AWl.st rfl (OpT.fieldAddrB rfl rfl (okd rfl rfl) (Root.self (by decide)) rfl (by decide) fd106_1 sz50 (by decide) sb106_1) rfl ?_
  refine AWl.sg rfl (OpT.storeB rfl rfl (Tm rfl rfl rfl) rfl sz50 rfl (Tm rfl rfl rfl)) (Kc 10 (.pel _ _ _ _ _ _ _) rfl <| Kc 9 (.cel _ _) rfl <| Kc 8 (.cel _ _) rfl <| Kc 7 (.cel _ _) rfl <| Kc 3 (.box _ _ _) rfl <| Kc 2 (.box _ _ _) rfl <| Kc 1 (.cel _ _) rfl <| Kn) ?_
  refine AWl.nil ?_
  refine AX.pr (Kc 3 (.box _ _ _) rfl <| Kc 2 (.box _ _ _) rfl <| Kc 1 (.cel _ _) rfl <| Kn) ?_
  refine AX.go ?_
  refine AW.seq ?_
  refine AW.region ?_
  refine AWl.st rfl (OpT.fieldAddr rfl rfl (okd rfl rfl) (Tm rfl rfl rfl) fd103_2 sz101 (by decide) sb103_2) rfl ?_
  refine AWl.st rfl (OpT.load rfl rfl (okd rfl rfl) (Tm rfl rfl rfl) ag101 rfl) rfl ?_
  refine AWl.st rfl (OpT.c1 (ms := [.flat]) (c_laws_toInt16S _ hn.2.1) rfl rfl (okd rfl rfl) (Af (Tm rfl rfl rfl) rfl rfl <| An) rfl rfl) rfl ?_
  refine AWl.st rfl (OpT.fieldAddrB rfl rfl (okd rfl rfl) (Root.self (by decide)) rfl (by decide) fd106_2 sz101 (by decide) sb106_2) rfl ?_
  refine AWl.sg rfl (OpT.storeB rfl rfl (Tm rfl rfl rfl) rfl sz101 rfl (Tm rfl rfl rfl)) (Kc 14 (.pel _ _ _ _ _ _ _) rfl <| Kc 13 (.cel _ _) rfl <| Kc 12 (.cel _ _) rfl <| Kc 11 (.cel _ _) rfl <| Kc 3 (.box _ _ _) rfl <| Kc 2 (.box _ _ _) rfl <| Kc 1 (.cel _ _) rfl <| Kn) ?_
  refine AWl.nil ?_
  refine AX.pr (Kc 3 (.box _ _ _) rfl <| Kc 2 (.box _ _ _) rfl <| Kc 1 (.cel _ _) rfl <| Kn) ?_
  refine AX.go ?_
  refine AW.seq ?_
  refine AW.region ?_
  refine AWl.st rfl (OpT.fieldAddr rfl rfl (okd rfl rfl) (Tm rfl rfl rfl) fd103_3 sz50 (by decide) sb103_3) rfl ?_
  refine AWl.st rfl (OpT.load rfl rfl (okd rfl rfl) (Tm rfl rfl rfl) ag50 rfl) rfl ?_
  refine AWl.st rfl (OpT.c1 (ms := [.flat]) (c_laws_toInt64S _ hn.2.2) rfl rfl (okd rfl rfl) (Af (Tm rfl rfl rfl) rfl rfl <| An) rfl rfl) rfl ?_
  refine AWl.st rfl (OpT.fieldAddrB rfl rfl (okd rfl rfl) (Root.self (by decide)) rfl (by decide) fd106_3 sz50 (by decide) sb106_3) rfl ?_
  refine AWl.sg rfl (OpT.storeB rfl rfl (Tm rfl rfl rfl) rfl sz50 rfl (Tm rfl rfl rfl)) (Kc 18 (.pel _ _ _ _ _ _ _) rfl <| Kc 17 (.cel _ _) rfl <| Kc 16 (.cel _ _) rfl <| Kc 15 (.cel _ _) rfl <| Kc 3 (.box _ _ _) rfl <| Kc 2 (.box _ _ _) rfl <| Kc 1 (.cel _ _) rfl <| Kn) ?_
  refine AWl.nil ?_
  refine AX.pr (Kc 3 (.box _ _ _) rfl <| Kc 2 (.box _ _ _) rfl <| Kn) ?_
  refine AX.go ?_
  refine AW.seq ?_
  refine AW.region ?_
  refine AWl.st rfl (OpT.loadB rfl rfl (okd rfl rfl) (Root.self (by decide)) rfl ag106 sz106) rfl ?_
  refine AWl.sg rfl (OpT.storeBA rfl rfl (Opd.whole (Root.self (by decide)) rfl) rfl sz106 (by decide) (Tm rfl rfl rfl)) (Kc 19 (.agg _ _) rfl <| Kc 3 (.box _ _ _) rfl <| Kc 2 (.box _ _ _) rfl <| Kn) ?_
  refine AWl.nil ?_
  refine AX.pr (Kc 2 (.box _ _ _) rfl <| Kn) ?_
  refine AX.go ?_
  refine AW.ret ?_
  exact AX.rt (rs := [.cell 2 106]) (ts := [none]) (.inl rfl) rfl (ROs.cons (RO.cellA (by decide) (Kb rfl rfl) ag106 sz106) <| ROs.nil) (by decide) OutsOK.nil

/-- laws.toKnotS -/
theorem c_laws_toKnotS (x : List DKnot) (hn : okKS x) : AC Try.prog 35 [.cel (Kd.slice kKnot) x] [.cel (Kd.slice kKnot) x] [] := by
  refine ⟨ACall.intro (N := 23) Try.func35 (c := _) (rfl : Func.body _ = some _) rfl (Nat.le_of_ble_eq_true rfl) (Nat.le_of_ble_eq_true rfl) rfl (Nat.le_of_ble_eq_true rfl) fun w0 hd s0 ar har => ?_, _, Try.func35, rfl, by decide⟩
  refine AW.to (Kc 0 (.cel _ _) rfl <| Kn) ?_
  have hn1 := hn.1
  refine AW.seq ?_
  refine AW.region ?_
  refine AWl.st rfl (OpT.move (A := .cel _ _) (.inr rfl) rfl (okd rfl rfl) (Opd.nilslice kKnot) rfl) rfl ?_
  refine AWl.nil ?_
  refine AX.go ?_
  refine AW.seq ?_
  refine AW.region ?_
  refine AWl.st rfl (OpT.move (A := .cel _ _) (.inl rfl) rfl (okd rfl rfl) (Tm rfl rfl rfl) rfl) rfl ?_
  refine AWl.st rfl (OpT.len rfl rfl (okd rfl rfl) (Tm rfl rfl rfl) el63) rfl ?_
  refine AWl.st rfl (OpT.make rfl rfl (okd rfl rfl) (Tm rfl rfl rfl) (Tm rfl rfl rfl) el66 zr106 sz106 by106 (by decide) zk106 (by omega) (by omega)) rfl ?_
  refine AWl.sg rfl (OpT.take (.inl rfl) rfl (okd rfl rfl) (Root.self (by decide)) rfl rfl (by decide)) (Kc 3 (.own _ _ _) rfl <| Kc 6 (.cel _ _) rfl <| Kc 5 (.cel _ _) rfl <| Kc 2 (.cel _ _) rfl <| Kc 0 (.cel _ _) rfl <| Kn) ?_
  refine AWl.nil ?_
  refine AX.pr (Kc 3 (.own _ _ _) rfl <| Kc 2 (.cel _ _) rfl <| Kc 0 (.cel _ _) rfl <| Kn) ?_
  refine AX.go ?_
  refine AW.seq ?_
  refine AW.seq ?_
  refine AW.region ?_
  refine AWl.st rfl (OpT.move (A := .cel _ _) (.inr rfl) rfl (okd rfl rfl) (I rfl) rfl) rfl ?_
  refine AWl.nil ?_
  refine AX.go ?_
  refine AW.block ?_
  refine AW.loop (fun z : Nat => z ≤ x.length) (fun z : Nat => keep [(0, .cel (Kd.slice kKnot) x), (3, .own 106 kKnot (cpy x z ((0, [], [], [])))), (4, .cel (Kd.int .i64) (z : Int))]) (fun z : Nat => x.length - z) (0) (by omega) (Kc 0 _ (Kv rfl rfl) <| Kc 3 _ (Ko rfl rfl) <| Kc 4 _ (Kv rfl rfl) <| Kn) ?_
  intro z hI
  refine AW.seq ?_
  refine AW.seq ?_
  refine AW.region ?_
  refine AWl.st rfl (OpT.move (A := .cel _ _) (.inl rfl) rfl (okd rfl rfl) (Tm rfl rfl rfl) rfl) rfl ?_
  refine AWl.st rfl (OpT.move (A := .cel _ _) (.inl rfl) rfl (okd rfl rfl) (Tm rfl rfl rfl) rfl) rfl ?_
  refine AWl.st rfl (OpT.len rfl rfl (okd rfl rfl) (Tm rfl rfl rfl) el63) rfl ?_
  refine AWl.st rfl (OpT.lss rfl rfl (okd rfl rfl) (Tm rfl rfl rfl) (Tm rfl rfl rfl)) rfl ?_
  refine AWl.nil ?_
  refine AX.go ?_
  refine AW.cond (t := 11) rfl (by decide) (fun hc1 => ?_) (fun hc1 => ?_)
  ·
    try simp only [decide_eq_true_eq, decide_eq_false_iff_not, Bool.not_eq_true', Bool.not_eq_false'] at hc1
    obtain ⟨a, ha⟩ := getI (x := x) (z := z) (by omega); have hd := cpy_get (x := x) (z := z) (d := ((0, [], [], []) : Int × List (Int) × List (Int) × List (Int))) (by omega)
    refine AW.skip ?_
    refine AX.go ?_
    refine AW.seq ?_
    refine AW.block ?_
    refine AW.region ?_
    refine AWl.st rfl (OpT.alias rfl rfl (okd rfl rfl) (by decide) (by decide)) rfl ?_
    refine AWl.st rfl (OpT.move (A := .cel _ _) (.inl rfl) rfl (okd rfl rfl) (Tm rfl rfl rfl) rfl) rfl ?_
    refine AWl.st rfl (OpT.move (A := .cel _ _) (.inl rfl) rfl (okd rfl rfl) (Tm rfl rfl rfl) rfl) rfl ?_
    refine AWl.st rfl (OpT.move (A := .cel _ _) (.inl rfl) rfl (okd rfl rfl) (Tm rfl rfl rfl) rfl) rfl ?_
    refine AWl.st rfl (OpT.indexAddr rfl rfl (okd rfl rfl) (Tm rfl rfl rfl) (Tm rfl rfl rfl) el63 sz103 (by omega) (by assumption)) rfl ?_
    refine AWl.st rfl (OpT.loadA rfl rfl (okd rfl rfl) (Tm rfl rfl rfl) ag103 sz103) rfl ?_
    refine AWl.st rfl (OpT.c1 (ms := [.flat]) (c_laws_toKnot _ (hn.2 _ (mem_getI ha))) rfl rfl (okd rfl rfl) (Af (Tm rfl rfl rfl) rfl rfl <| An) rfl rfl) rfl ?_
    refine AWl.st rfl (OpT.indexAddrO rfl rfl (okd rfl rfl) (Root.ali rfl (by decide) (by decide)) rfl (by decide) (Tm rfl rfl rfl) el66 sz106 (by omega) (by assumption)) rfl ?_
    refine AWl.sg rfl (OpT.storeOA rfl rfl (Tm rfl rfl rfl) rfl (by assumption) sz106 (by decide) (Tm rfl rfl rfl)) (Kc 21 (.pel _ _ _ _ _ _ _) rfl <| Kc 20 (.agg _ _) rfl <| Kc 19 (.agg _ _) rfl <| Kc 18 (.cel _ _) rfl <| Kc 17 (.cel _ _) rfl <| Kc 16 (.cel _ _) rfl <| Kc 15 (.cel _ _) rfl <| Kc 14 (.ali _) rfl <| Kc 11 (.cel _ _) rfl <| Kc 10 (.cel _ _) rfl <| Kc 9 (.cel _ _) rfl <| Kc 8 (.cel _ _) rfl <| Kc 0 (.cel _ _) rfl <| Kc 3 (.own _ _ _) rfl <| Kc 4 (.cel _ _) rfl <| Kn) ?_
    refine AWl.nil ?_
    refine AX.normal_block ?_
    refine AX.go ?_
    refine AW.region ?_
    refine AWl.st rfl (OpT.move (A := .cel _ _) (.inl rfl) rfl (okd rfl rfl) (Tm rfl rfl rfl) rfl) rfl ?_
    refine AWl.st rfl (OpT.add rfl rfl (okd rfl rfl) (Tm rfl rfl rfl) (I rfl) (nw (by omega))) rfl ?_
    refine AWl.sg rfl (OpT.move (A := .cel _ _) (.inr rfl) rfl (okd rfl rfl) (Tm rfl rfl rfl) rfl) (Kc 4 (.cel _ _) rfl <| Kc 13 (.cel _ _) rfl <| Kc 12 (.cel _ _) rfl <| Kc 21 (.pel _ _ _ _ _ _ _) rfl <| Kc 20 (.agg _ _) rfl <| Kc 19 (.agg _ _) rfl <| Kc 18 (.cel _ _) rfl <| Kc 17 (.cel _ _) rfl <| Kc 16 (.cel _ _) rfl <| Kc 15 (.cel _ _) rfl <| Kc 14 (.ali _) rfl <| Kc 11 (.cel _ _) rfl <| Kc 10 (.cel _ _) rfl <| Kc 9 (.cel _ _) rfl <| Kc 8 (.cel _ _) rfl <| Kc 0 (.cel _ _) rfl <| Kc 3 (.own _ _ _) rfl <| Kn) ?_
    refine AWl.nil ?_
    exact AX.again (z + 1) (by omega) (by omega) (Kc 0 _ (Kv rfl rfl) <| Kc 3 _ (Ko rfl (cpy_step ha)) <| Kc 4 _ (Kv rfl (by omega)) <| Kn)
  ·
    try simp only [decide_eq_true_eq, decide_eq_false_iff_not, Bool.not_eq_true', Bool.not_eq_false'] at hc1
    refine AW.exit ?_
    refine AX.freeze (t := 3) rfl ?_
    refine AX.pr (Kc 11 (.cel _ _) rfl <| Kc 10 (.cel _ _) rfl <| Kc 9 (.cel _ _) rfl <| Kc 8 (.cel _ _) rfl <| Kc 0 (.cel _ _) rfl <| Kc 3 (.cel _ _) rfl <| Kc 4 (.cel _ _) rfl <| Kn) ?_
    refine AX.exit_then ?_
    refine AX.exit_then ?_
    refine AX.exit_hit ?_
    refine AX.pr (Kc 3 (.cel _ _) rfl <| Kn) ?_
    refine AX.go ?_
    refine AW.seq ?_
    refine AW.region ?_
    refine AWl.st rfl (OpT.move (A := .cel _ _) (.inl rfl) rfl (okd rfl rfl) (Tm rfl rfl rfl) rfl) rfl ?_
    refine AWl.st rfl (OpT.move (A := .cel _ _) (.inr rfl) rfl (okd rfl rfl) (Tm rfl rfl rfl) rfl) rfl ?_
    refine AWl.nil ?_
    refine AX.pr (Kc 2 (.cel _ _) rfl <| Kn) ?_
    refine AX.go ?_
    refine AW.ret ?_
    exact AX.rt (rs := [.tmp 2]) (ts := [some 2]) (.inl rfl) rfl (ROs.cons (RO.tmp (At.self (by decide)) (Kv rfl (cpy_end (by omega))) rfl) <| ROs.nil) (by decide) OutsOK.nil

/-- laws.szKnot -/
theorem c_laws_szKnot (x : DKnot) (l : Int) (hl : 0 ≤ l ∧ l ≤ 1048576) : AC Try.prog 75 [.agg kKnot x, .cel (Kd.int .i64) l] [.cel (Kd.int .i64) (szK x l)] [] := by
  refine ⟨ACall.intro (N := 24) Try.func75 (c := _) (rfl : Func.body _ = some _) rfl (Nat.le_of_ble_eq_true rfl) (Nat.le_of_ble_eq_true rfl) rfl (Nat.le_of_ble_eq_true rfl) fun w0 hd s0 ar har => ?_, _, Try.func75, rfl, by decide⟩
  refine AW.to (Kc 0 (.agg _ _) rfl <| Kc 1 (.cel _ _) rfl <| Kn) ?_
  have h1 := szL_in x.2.1 hl
  refine AW.seq ?_
  refine AW.region ?_
  refine AWl.st rfl (OpT.frz (OpT.boxA (E := 103) rfl rfl (okd rfl rfl) (Tm rfl rfl rfl))) rfl ?_
  refine AWl.st rfl (OpT.move (A := .cel _ _) (.inr rfl) rfl (okd rfl rfl) (I rfl) rfl) rfl ?_
  refine AWl.nil ?_
  refine AX.pr (Kc 4 (.cel _ _) rfl <| Kc 2 (.cel _ _) rfl <| Kc 1 (.cel _ _) rfl <| Kn) ?_
  refine AX.go ?_
  refine AW.seq ?_
  refine AW.region ?_
  refine AWl.st rfl (OpT.fieldAddr rfl rfl (okd rfl rfl) (Tm rfl rfl rfl) fd103_1 sz50 (by decide) sb103_1) rfl ?_
  refine AWl.st rfl (OpT.load rfl rfl (okd rfl rfl) (Tm rfl rfl rfl) ag50 rfl) rfl ?_
  refine AWl.st rfl (OpT.move (A := .cel _ _) (.inl rfl) rfl (okd rfl rfl) (Tm rfl rfl rfl) rfl) rfl ?_
  refine AWl.st rfl (OpT.c1 (ms := [.flat, .flat]) (c_laws_szInt64S _ _ hl) rfl rfl (okd rfl rfl) (Af (Tm rfl rfl rfl) rfl rfl <| Af (Tm rfl rfl rfl) rfl rfl <| An) rfl rfl) rfl ?_
  refine AWl.sg rfl (OpT.move (A := .cel _ _) (.inr rfl) rfl (okd rfl rfl) (Tm rfl rfl rfl) rfl) (Kc 1 (.cel _ _) rfl <| Kc 8 (.cel _ _) rfl <| Kc 7 (.cel _ _) rfl <| Kc 6 (.cel _ _) rfl <| Kc 5 (.cel _ _) rfl <| Kc 4 (.cel _ _) rfl <| Kc 2 (.cel _ _) rfl <| Kn) ?_
  refine AWl.nil ?_
  refine AX.pr (Kc 1 (.cel _ _) rfl <| Kc 4 (.cel _ _) rfl <| Kc 2 (.cel _ _) rfl <| Kn) ?_
  refine AX.go ?_
  refine AW.seq ?_
  refine AW.seq ?_
  refine AW.region ?_
  refine AWl.st rfl (OpT.move (A := .cel _ _) (.inl rfl) rfl (okd rfl rfl) (Tm rfl rfl rfl) rfl) rfl ?_
  refine AWl.st rfl (OpT.lss rfl rfl (okd rfl rfl) (Tm rfl rfl rfl) (I rfl)) rfl ?_
  refine AWl.nil ?_
  refine AX.pr (Kc 10 (.cel _ _) rfl <| Kc 1 (.cel _ _) rfl <| Kc 4 (.cel _ _) rfl <| Kc 2 (.cel _ _) rfl <| Kn) ?_
  refine AX.go ?_
  refine AW.cond (t := 10) rfl (by decide) (fun hc1 => ?_) (fun hc1 => ?_)
  ·
    try simp only [decide_eq_true_eq, decide_eq_false_iff_not, Bool.not_eq_true', Bool.not_eq_false'] at hc1
    refine AW.seq ?_
    refine AW.region ?_
    refine AWl.sg rfl (OpT.move (A := .cel _ _) (.inr rfl) rfl (okd rfl rfl) (I rfl) rfl) (Kc 4 (.cel _ _) rfl <| Kc 10 (.cel _ _) rfl <| Kc 1 (.cel _ _) rfl <| Kc 2 (.cel _ _) rfl <| Kn) ?_
    refine AWl.nil ?_
    refine AX.pr (Kc 4 (.cel _ _) rfl <| Kc 1 (.cel _ _) rfl <| Kc 2 (.cel _ _) rfl <| Kn) ?_
    refine AX.go ?_
    refine AW.ret ?_
    refine AX.ret_then ?_
    exact AX.rt (rs := [.tmp 4]) (ts := [some 4]) (.inl rfl) rfl (ROs.cons (RO.tmp (At.self (by decide)) (Kv rfl (by unfold szK; (repeat' split) <;> first | rfl | omega)) rfl) <| ROs.nil) (by decide) OutsOK.nil
  ·
    try simp only [decide_eq_true_eq, decide_eq_false_iff_not, Bool.not_eq_true', Bool.not_eq_false'] at hc1
    have h2 := szL_in x.2.2.1 (l := szL x.2.1 l) (by omega)
    refine AW.skip ?_
    refine AX.pr (Kc 1 (.cel _ _) rfl <| Kc 4 (.cel _ _) rfl <| Kc 2 (.cel _ _) rfl <| Kn) ?_
    refine AX.go ?_
    refine AW.seq ?_
    refine AW.region ?_
    refine AWl.st rfl (OpT.fieldAddr rfl rfl (okd rfl rfl) (Tm rfl rfl rfl) fd103_2 sz101 (by decide) sb103_2) rfl ?_
    refine AWl.st rfl (OpT.load rfl rfl (okd rfl rfl) (Tm rfl rfl rfl) ag101 rfl) rfl ?_
    refine AWl.st rfl (OpT.move (A := .cel _ _) (.inl rfl) rfl (okd rfl rfl) (Tm rfl rfl rfl) rfl) rfl ?_
    refine AWl.st rfl (OpT.c1 (ms := [.flat, .flat]) (c_laws_szInt16S _ _ (by omega)) rfl rfl (okd rfl rfl) (Af (Tm rfl rfl rfl) rfl rfl <| Af (Tm rfl rfl rfl) rfl rfl <| An) rfl rfl) rfl ?_
    refine AWl.sg rfl (OpT.move (A := .cel _ _) (.inr rfl) rfl (okd rfl rfl) (Tm rfl rfl rfl) rfl) (Kc 1 (.cel _ _) rfl <| Kc 14 (.cel _ _) rfl <| Kc 13 (.cel _ _) rfl <| Kc 12 (.cel _ _) rfl <| Kc 11 (.cel _ _) rfl <| Kc 4 (.cel _ _) rfl <| Kc 2 (.cel _ _) rfl <| Kn) ?_
    refine AWl.nil ?_
    refine AX.pr (Kc 1 (.cel _ _) rfl <| Kc 4 (.cel _ _) rfl <| Kc 2 (.cel _ _) rfl <| Kn) ?_
    refine AX.go ?_
    refine AW.seq ?_
    refine AW.seq ?_
    refine AW.region ?_
    refine AWl.st rfl (OpT.move (A := .cel _ _) (.inl rfl) rfl (okd rfl rfl) (Tm rfl rfl rfl) rfl) rfl ?_
    refine AWl.st rfl (OpT.lss rfl rfl (okd rfl rfl) (Tm rfl rfl rfl) (I rfl)) rfl ?_
    refine AWl.nil ?_
    refine AX.pr (Kc 16 (.cel _ _) rfl <| Kc 1 (.cel _ _) rfl <| Kc 4 (.cel _ _) rfl <| Kc 2 (.cel _ _) rfl <| Kn) ?_
    refine AX.go ?_
    refine AW.cond (t := 16) rfl (by decide) (fun hc2 => ?_) (fun hc2 => ?_)
    ·
      try simp only [decide_eq_true_eq, decide_eq_false_iff_not, Bool.not_eq_true', Bool.not_eq_false'] at hc2
      refine AW.seq ?_
      refine AW.region ?_
      refine AWl.sg rfl (OpT.move (A := .cel _ _) (.inr rfl) rfl (okd rfl rfl) (I rfl) rfl) (Kc 4 (.cel _ _) rfl <| Kc 16 (.cel _ _) rfl <| Kc 1 (.cel _ _) rfl <| Kc 2 (.cel _ _) rfl <| Kn) ?_
      refine AWl.nil ?_
      refine AX.pr (Kc 4 (.cel _ _) rfl <| Kc 1 (.cel _ _) rfl <| Kc 2 (.cel _ _) rfl <| Kn) ?_
      refine AX.go ?_
      refine AW.ret ?_
      refine AX.ret_then ?_
      exact AX.rt (rs := [.tmp 4]) (ts := [some 4]) (.inl rfl) rfl (ROs.cons (RO.tmp (At.self (by decide)) (Kv rfl (by unfold szK; (repeat' split) <;> first | rfl | omega)) rfl) <| ROs.nil) (by decide) OutsOK.nil
    ·
      try simp only [decide_eq_true_eq, decide_eq_false_iff_not, Bool.not_eq_true', Bool.not_eq_false'] at hc2
      have h3 := szL_in x.2.2.2 (l := szL x.2.2.1 (szL x.2.1 l)) (by omega)
      refine AW.skip ?_
      refine AX.pr (Kc 1 (.cel _ _) rfl <| Kc 4 (.cel _ _) rfl <| Kc 2 (.cel _ _) rfl <| Kn) ?_
      refine AX.go ?_
      refine AW.seq ?_
      refine AW.region ?_
      refine AWl.st rfl (OpT.fieldAddr rfl rfl (okd rfl rfl) (Tm rfl rfl rfl) fd103_3 sz50 (by decide) sb103_3) rfl ?_
      refine AWl.st rfl (OpT.load rfl rfl (okd rfl rfl) (Tm rfl rfl rfl) ag50 rfl) rfl ?_
      refine AWl.st rfl (OpT.move (A := .cel _ _) (.inl rfl) rfl (okd rfl rfl) (Tm rfl rfl rfl) rfl) rfl ?_
      refine AWl.st rfl (OpT.c1 (ms := [.flat, .flat]) (c_laws_szInt64S _ _ (by omega)) rfl rfl (okd rfl rfl) (Af (Tm rfl rfl rfl) rfl rfl <| Af (Tm rfl rfl rfl) rfl rfl <| An) rfl rfl) rfl ?_
      refine AWl.sg rfl (OpT.move (A := .cel _ _) (.inr rfl) rfl (okd rfl rfl) (Tm rfl rfl rfl) rfl) (Kc 1 (.cel _ _) rfl <| Kc 20 (.cel _ _) rfl <| Kc 19 (.cel _ _) rfl <| Kc 18 (.cel _ _) rfl <| Kc 17 (.cel _ _) rfl <| Kc 4 (.cel _ _) rfl <| Kc 2 (.cel _ _) rfl <| Kn) ?_
      refine AWl.nil ?_
      refine AX.pr (Kc 1 (.cel _ _) rfl <| Kc 4 (.cel _ _) rfl <| Kn) ?_
      refine AX.go ?_
      refine AW.seq ?_
      refine AW.seq ?_
      refine AW.region ?_
      refine AWl.st rfl (OpT.move (A := .cel _ _) (.inl rfl) rfl (okd rfl rfl) (Tm rfl rfl rfl) rfl) rfl ?_
      refine AWl.st rfl (OpT.lss rfl rfl (okd rfl rfl) (Tm rfl rfl rfl) (I rfl)) rfl ?_
      refine AWl.nil ?_
      refine AX.pr (Kc 22 (.cel _ _) rfl <| Kc 1 (.cel _ _) rfl <| Kc 4 (.cel _ _) rfl <| Kn) ?_
      refine AX.go ?_
      refine AW.cond (t := 22) rfl (by decide) (fun hc3 => ?_) (fun hc3 => ?_)
      ·
        try simp only [decide_eq_true_eq, decide_eq_false_iff_not, Bool.not_eq_true', Bool.not_eq_false'] at hc3
        refine AW.seq ?_
        refine AW.region ?_
        refine AWl.sg rfl (OpT.move (A := .cel _ _) (.inr rfl) rfl (okd rfl rfl) (I rfl) rfl) (Kc 4 (.cel _ _) rfl <| Kc 22 (.cel _ _) rfl <| Kc 1 (.cel _ _) rfl <| Kn) ?_
        refine AWl.nil ?_
        refine AX.pr (Kc 4 (.cel _ _) rfl <| Kc 1 (.cel _ _) rfl <| Kn) ?_
        refine AX.go ?_
        refine AW.ret ?_
        refine AX.ret_then ?_
        exact AX.rt (rs := [.tmp 4]) (ts := [some 4]) (.inl rfl) rfl (ROs.cons (RO.tmp (At.self (by decide)) (Kv rfl (by unfold szK; (repeat' split) <;> first | rfl | omega)) rfl) <| ROs.nil) (by decide) OutsOK.nil
      ·
        try simp only [decide_eq_true_eq, decide_eq_false_iff_not, Bool.not_eq_true', Bool.not_eq_false'] at hc3
        refine AW.skip ?_
        refine AX.pr (Kc 1 (.cel _ _) rfl <| Kc 4 (.cel _ _) rfl <| Kn) ?_
        refine AX.go ?_
        refine AW.seq ?_
        refine AW.region ?_
        refine AWl.st rfl (OpT.move (A := .cel _ _) (.inl rfl) rfl (okd rfl rfl) (Tm rfl rfl rfl) rfl) rfl ?_
        refine AWl.sg rfl (OpT.move (A := .cel _ _) (.inr rfl) rfl (okd rfl rfl) (Tm rfl rfl rfl) rfl) (Kc 4 (.cel _ _) rfl <| Kc 23 (.cel _ _) rfl <| Kc 1 (.cel _ _) rfl <| Kn) ?_
        refine AWl.nil ?_
        refine AX.pr (Kc 4 (.cel _ _) rfl <| Kn) ?_
        refine AX.go ?_
        refine AW.ret ?_
        exact AX.rt (rs := [.tmp 4]) (ts := [some 4]) (.inl rfl) rfl (ROs.cons (RO.tmp (At.self (by decide)) (Kv rfl (by unfold szK; (repeat' split) <;> first | rfl | omega)) rfl) <| ROs.nil) (by decide) OutsOK.nil

/-- laws.szKnotS -/
theorem c_laws_szKnotS (x : List DKnot) (l : Int) (hl : 0 ≤ l ∧ l ≤ 1048576) : AC Try.prog 33 [.cel (Kd.slice kKnot) x, .cel (Kd.int .i64) l] [.cel (Kd.int .i64) (szKS x l)] [] := by
  refine ⟨ACall.intro (N := 27) Try.func33 (c := _) (rfl : Func.body _ = some _) rfl (Nat.le_of_ble_eq_true rfl) (Nat.le_of_ble_eq_true rfl) rfl (Nat.le_of_ble_eq_true rfl) fun w0 hd s0 ar har => ?_, _, Try.func33, rfl, by decide⟩
  refine AW.to (Kc 0 (.cel _ _) rfl <| Kc 1 (.cel _ _) rfl <| Kn) ?_
  refine AW.fact (fun a w hr => (ok_slice (R_ok (t := 0) rfl hr)).2) (fun hl0 => ?_)
  refine AW.seq ?_
  refine AW.region ?_
  refine AWl.st rfl (OpT.move (A := .cel _ _) (.inr rfl) rfl (okd rfl rfl) (I rfl) rfl) rfl ?_
  refine AWl.nil ?_
  refine AX.go ?_
  refine AW.seq ?_
  refine AW.region ?_
  refine AWl.st rfl (OpT.move (A := .cel _ _) (.inl rfl) rfl (okd rfl rfl) (Tm rfl rfl rfl) rfl) rfl ?_
  refine AWl.st rfl (OpT.move (A := .cel _ _) (.inl rfl) rfl (okd rfl rfl) (Tm rfl rfl rfl) rfl) rfl ?_
  refine AWl.st rfl (OpT.len rfl rfl (okd rfl rfl) (Tm rfl rfl rfl) el63) rfl ?_
  refine AWl.st rfl (OpT.sub rfl rfl (okd rfl rfl) (Tm rfl rfl rfl) (Tm rfl rfl rfl) (nw (by omega))) rfl ?_
  refine AWl.sg rfl (OpT.move (A := .cel _ _) (.inr rfl) rfl (okd rfl rfl) (Tm rfl rfl rfl) rfl) (Kc 1 (.cel _ _) rfl <| Kc 9 (.cel _ _) rfl <| Kc 8 (.cel _ _) rfl <| Kc 7 (.cel _ _) rfl <| Kc 6 (.cel _ _) rfl <| Kc 4 (.cel _ _) rfl <| Kc 0 (.cel _ _) rfl <| Kn) ?_
  refine AWl.nil ?_
  refine AX.pr (Kc 1 (.cel _ _) rfl <| Kc 4 (.cel _ _) rfl <| Kc 0 (.cel _ _) rfl <| Kn) ?_
  refine AX.go ?_
  refine AW.seq ?_
  refine AW.seq ?_
  refine AW.region ?_
  refine AWl.st rfl (OpT.move (A := .cel _ _) (.inl rfl) rfl (okd rfl rfl) (Tm rfl rfl rfl) rfl) rfl ?_
  refine AWl.st rfl (OpT.lss rfl rfl (okd rfl rfl) (Tm rfl rfl rfl) (I rfl)) rfl ?_
  refine AWl.nil ?_
  refine AX.pr (Kc 11 (.cel _ _) rfl <| Kc 1 (.cel _ _) rfl <| Kc 4 (.cel _ _) rfl <| Kc 0 (.cel _ _) rfl <| Kn) ?_
  refine AX.go ?_
  refine AW.cond (t := 11) rfl (by decide) (fun hc1 => ?_) (fun hc1 => ?_)
  ·
    try simp only [decide_eq_true_eq, decide_eq_false_iff_not, Bool.not_eq_true', Bool.not_eq_false'] at hc1
    refine AW.seq ?_
    refine AW.region ?_
    refine AWl.sg rfl (OpT.move (A := .cel _ _) (.inr rfl) rfl (okd rfl rfl) (I rfl) rfl) (Kc 4 (.cel _ _) rfl <| Kc 11 (.cel _ _) rfl <| Kc 1 (.cel _ _) rfl <| Kc 0 (.cel _ _) rfl <| Kn) ?_
    refine AWl.nil ?_
    refine AX.pr (Kc 4 (.cel _ _) rfl <| Kc 1 (.cel _ _) rfl <| Kc 0 (.cel _ _) rfl <| Kn) ?_
    refine AX.go ?_
    refine AW.ret ?_
    refine AX.ret_then ?_
    exact AX.rt (rs := [.tmp 4]) (ts := [some 4]) (.inl rfl) rfl (ROs.cons (RO.tmp (At.self (by decide)) (Kv rfl (by first | exact (if_pos hc1).symm | exact szKs_ne hc1 hI ha hc3 | exact szKs_end hc1 hI (by omega))) rfl) <| ROs.nil) (by decide) OutsOK.nil
  ·
    try simp only [decide_eq_true_eq, decide_eq_false_iff_not, Bool.not_eq_true', Bool.not_eq_false'] at hc1
    refine AW.skip ?_
    refine AX.pr (Kc 1 (.cel _ _) rfl <| Kc 4 (.cel _ _) rfl <| Kc 0 (.cel _ _) rfl <| Kn) ?_
    refine AX.go ?_
    refine AW.seq ?_
    refine AW.seq ?_
    refine AW.region ?_
    refine AWl.st rfl (OpT.move (A := .cel _ _) (.inr rfl) rfl (okd rfl rfl) (I rfl) rfl) rfl ?_
    refine AWl.nil ?_
    refine AX.go ?_
    refine AW.block ?_
    refine AW.loop (fun p : Nat × Int => p.1 ≤ x.length ∧ 0 ≤ p.2 ∧ p.2 ≤ 1048576 ∧ szKs (x.drop p.1) p.2 = szKs x (l - x.length)) (fun p : Nat × Int => keep [(0, .cel (Kd.slice kKnot) x), (1, .cel (Kd.int .i64) p.2), (5, .cel (Kd.int .i64) (p.1 : Int))]) (fun p : Nat × Int => x.length - p.1) ((0, l - x.length)) ⟨Nat.zero_le _, by simp only []; omega, by simp only []; omega, rfl⟩ (Kc 0 _ (Kv rfl rfl) <| Kc 1 _ (Kv rfl rfl) <| Kc 5 _ (Kv rfl rfl) <| Kn) ?_
    intro p hI
    refine AW.seq ?_
    refine AW.seq ?_
    refine AW.region ?_
    refine AWl.st rfl (OpT.move (A := .cel _ _) (.inl rfl) rfl (okd rfl rfl) (Tm rfl rfl rfl) rfl) rfl ?_
    refine AWl.st rfl (OpT.move (A := .cel _ _) (.inl rfl) rfl (okd rfl rfl) (Tm rfl rfl rfl) rfl) rfl ?_
    refine AWl.st rfl (OpT.len rfl rfl (okd rfl rfl) (Tm rfl rfl rfl) el63) rfl ?_
    refine AWl.st rfl (OpT.lss rfl rfl (okd rfl rfl) (Tm rfl rfl rfl) (Tm rfl rfl rfl)) rfl ?_
    refine AWl.nil ?_
    refine AX.go ?_
    refine AW.cond (t := 15) rfl (by decide) (fun hc2 => ?_) (fun hc2 => ?_)
    ·
      try simp only [decide_eq_true_eq, decide_eq_false_iff_not, Bool.not_eq_true', Bool.not_eq_false'] at hc2
      obtain ⟨a, ha⟩ := getI (x := x) (z := p.1) (by omega)
      refine AW.skip ?_
      refine AX.go ?_
      refine AW.seq ?_
      refine AW.block ?_
      refine AW.seq ?_
      refine AW.region ?_
      refine AWl.st rfl (OpT.move (A := .cel _ _) (.inl rfl) rfl (okd rfl rfl) (Tm rfl rfl rfl) rfl) rfl ?_
      refine AWl.st rfl (OpT.move (A := .cel _ _) (.inl rfl) rfl (okd rfl rfl) (Tm rfl rfl rfl) rfl) rfl ?_
      refine AWl.st rfl (OpT.indexAddr rfl rfl (okd rfl rfl) (Tm rfl rfl rfl) (Tm rfl rfl rfl) el63 sz103 (by omega) (by assumption)) rfl ?_
      refine AWl.st rfl (OpT.loadA rfl rfl (okd rfl rfl) (Tm rfl rfl rfl) ag103 sz103) rfl ?_
      refine AWl.st rfl (OpT.move (A := .cel _ _) (.inl rfl) rfl (okd rfl rfl) (Tm rfl rfl rfl) rfl) rfl ?_
      refine AWl.st rfl (OpT.c1 (ms := [.flat, .flat]) (c_laws_szKnot _ _ ⟨hI.2.1, hI.2.2.1⟩) rfl rfl (okd rfl rfl) (Af (Tm rfl rfl rfl) rfl rfl <| Af (Tm rfl rfl rfl) rfl rfl <| An) rfl rfl) rfl ?_
      refine AWl.sg rfl (OpT.move (A := .cel _ _) (.inr rfl) rfl (okd rfl rfl) (Tm rfl rfl rfl) rfl) (Kc 1 (.cel _ _) rfl <| Kc 23 (.cel _ _) rfl <| Kc 22 (.cel _ _) rfl <| Kc 21 (.agg _ _) rfl <| Kc 20 (.cel _ _) rfl <| Kc 19 (.cel _ _) rfl <| Kc 18 (.cel _ _) rfl <| Kc 15 (.cel _ _) rfl <| Kc 14 (.cel _ _) rfl <| Kc 13 (.cel _ _) rfl <| Kc 12 (.cel _ _) rfl <| Kc 0 (.cel _ _) rfl <| Kc 5 (.cel _ _) rfl <| Kn) ?_
      refine AWl.nil ?_
      refine AX.go ?_
      refine AW.seq ?_
      refine AW.region ?_
      refine AWl.st rfl (OpT.move (A := .cel _ _) (.inl rfl) rfl (okd rfl rfl) (Tm rfl rfl rfl) rfl) rfl ?_
      refine AWl.st rfl (OpT.lss rfl rfl (okd rfl rfl) (Tm rfl rfl rfl) (I rfl)) rfl ?_
      refine AWl.nil ?_
      refine AX.go ?_
      refine AW.cond (t := 25) rfl (by decide) (fun hc3 => ?_) (fun hc3 => ?_)
      ·
        try simp only [decide_eq_true_eq, decide_eq_false_iff_not, Bool.not_eq_true', Bool.not_eq_false'] at hc3
        refine AW.seq ?_
        refine AW.region ?_
        refine AWl.st rfl (OpT.move (A := .cel _ _) (.inr rfl) rfl (okd rfl rfl) (I rfl) rfl) rfl ?_
        refine AWl.nil ?_
        refine AX.go ?_
        refine AW.ret ?_
        refine AX.ret_block ?_
        refine AX.ret_then ?_
        refine AX.ret_then ?_
        refine AX.ret_block ?_
        refine AX.ret_then ?_
        exact AX.rt (rs := [.tmp 4]) (ts := [some 4]) (.inl rfl) rfl (ROs.cons (RO.tmp (At.self (by decide)) (Kv rfl (by first | exact (if_pos hc1).symm | exact szKs_ne hc1 hI ha hc3 | exact szKs_end hc1 hI (by omega))) rfl) <| ROs.nil) (by decide) OutsOK.nil
      ·
        try simp only [decide_eq_true_eq, decide_eq_false_iff_not, Bool.not_eq_true', Bool.not_eq_false'] at hc3
        refine AW.skip ?_
        refine AX.normal_block ?_
        refine AX.go ?_
        refine AW.region ?_
        refine AWl.st rfl (OpT.move (A := .cel _ _) (.inl rfl) rfl (okd rfl rfl) (Tm rfl rfl rfl) rfl) rfl ?_
        refine AWl.st rfl (OpT.add rfl rfl (okd rfl rfl) (Tm rfl rfl rfl) (I rfl) (nw (by omega))) rfl ?_
        refine AWl.sg rfl (OpT.move (A := .cel _ _) (.inr rfl) rfl (okd rfl rfl) (Tm rfl rfl rfl) rfl) (Kc 5 (.cel _ _) rfl <| Kc 17 (.cel _ _) rfl <| Kc 16 (.cel _ _) rfl <| Kc 25 (.cel _ _) rfl <| Kc 24 (.cel _ _) rfl <| Kc 1 (.cel _ _) rfl <| Kc 23 (.cel _ _) rfl <| Kc 22 (.cel _ _) rfl <| Kc 21 (.agg _ _) rfl <| Kc 20 (.cel _ _) rfl <| Kc 19 (.cel _ _) rfl <| Kc 18 (.cel _ _) rfl <| Kc 15 (.cel _ _) rfl <| Kc 14 (.cel _ _) rfl <| Kc 13 (.cel _ _) rfl <| Kc 12 (.cel _ _) rfl <| Kc 0 (.cel _ _) rfl <| Kn) ?_
        refine AWl.nil ?_
        exact AX.again ((p.1 + 1, szK a p.2)) (szKs_step hI (by omega) ha hc3) (by simp only []; omega) (Kc 0 _ (Kv rfl rfl) <| Kc 1 _ (Kv rfl rfl) <| Kc 5 _ (Kv rfl (by simp only []; omega)) <| Kn)
    ·
      try simp only [decide_eq_true_eq, decide_eq_false_iff_not, Bool.not_eq_true', Bool.not_eq_false'] at hc2
      refine AW.exit ?_
      refine AX.exit_then ?_
      refine AX.exit_then ?_
      refine AX.exit_hit ?_
      refine AX.pr (Kc 1 (.cel _ _) rfl <| Kn) ?_
      refine AX.go ?_
      refine AW.seq ?_
      refine AW.region ?_
      refine AWl.st rfl (OpT.move (A := .cel _ _) (.inl rfl) rfl (okd rfl rfl) (Tm rfl rfl rfl) rfl) rfl ?_
      refine AWl.st rfl (OpT.move (A := .cel _ _) (.inr rfl) rfl (okd rfl rfl) (Tm rfl rfl rfl) rfl) rfl ?_
      refine AWl.nil ?_
      refine AX.pr (Kc 4 (.cel _ _) rfl <| Kn) ?_
      refine AX.go ?_
      refine AW.ret ?_
      exact AX.rt (rs := [.tmp 4]) (ts := [some 4]) (.inl rfl) rfl (ROs.cons (RO.tmp (At.self (by decide)) (Kv rfl (by first | exact (if_pos hc1).symm | exact szKs_ne hc1 hI ha hc3 | exact szKs_end hc1 hI (by omega))) rfl) <| ROs.nil) (by decide) OutsOK.nil

set_option maxHeartbeats 4000000 in
/-- spec.l06Same -/
theorem c_spec_l06Same (x y : DKnot) : AC Try.prog 76 [.cel (Kd.ptr kKnot) x, .cel (Kd.ptr kKnot) y] [.cel Kd.bool (eqv x y)] [] := by
  refine ⟨ACall.intro (N := 72) Try.func76 (c := _) (rfl : Func.body _ = some _) rfl (Nat.le_of_ble_eq_true rfl) (Nat.le_of_ble_eq_true rfl) rfl (Nat.le_of_ble_eq_true rfl) fun w0 hd s0 ar har => ?_, _, Try.func76, rfl, by decide⟩
  refine AW.to (Kc 0 (.cel _ _) rfl <| Kc 1 (.cel _ _) rfl <| Kn) ?_
  refine AW.fact (fun a w hr => (ok_slice (ok_pair (ok_pair (ok_pair (ok_ptr (R_ok (t := 0) rfl hr))).2).2).1).2) (fun hl0 => ?_)
  refine AW.seq ?_
  refine AW.region ?_
  refine AWl.st rfl (OpT.move (A := .cel _ _) (.inr rfl) rfl (okd rfl rfl) Opd.bool rfl) rfl ?_
  refine AWl.nil ?_
  refine AX.go ?_
  refine AW.seq ?_
  refine AW.seq ?_
  rcases Bool.eq_false_or_eq_true (x.1 != y.1) with hd1 | hd1
  ·
    refine AW.dg fomo ?_
    refine DG.fr (d := 6) [0] (DS rfl fun v h => OpT.move (A := .cel _ _) (.inl rfl) rfl (okd rfl rfl) (D h rfl rfl rfl rfl) rfl) rfl rfl ?_
    refine DG.fr (d := 7) [6] (DS rfl fun v h => OpT.nilCheck rfl rfl (okd rfl rfl) (D h rfl rfl rfl rfl)) rfl rfl ?_
    refine DG.fr (d := 8) [7] (DS rfl fun v h => OpT.fieldAddr rfl rfl (okd rfl rfl) (D h rfl rfl rfl rfl) fd106_0 sz31 (by decide) sb106_0) rfl rfl ?_
    refine DG.fr (d := 9) [8] (DS rfl fun v h => OpT.load rfl rfl (okd rfl rfl) (D h rfl rfl rfl rfl) ag31 rfl) rfl rfl ?_
    refine DG.fr (d := 10) [1] (DS rfl fun v h => OpT.move (A := .cel _ _) (.inl rfl) rfl (okd rfl rfl) (D h rfl rfl rfl rfl) rfl) rfl rfl ?_
    refine DG.fr (d := 11) [10] (DS rfl fun v h => OpT.nilCheck rfl rfl (okd rfl rfl) (D h rfl rfl rfl rfl)) rfl rfl ?_
    refine DG.fr (d := 12) [11] (DS rfl fun v h => OpT.fieldAddr rfl rfl (okd rfl rfl) (D h rfl rfl rfl rfl) fd106_0 sz31 (by decide) sb106_0) rfl rfl ?_
    refine DG.fr (d := 13) [12] (DS rfl fun v h => OpT.load rfl rfl (okd rfl rfl) (D h rfl rfl rfl rfl) ag31 rfl) rfl rfl ?_
    refine DG.fr (d := 14) [9, 13] (DS rfl fun v h => OpT.neq rfl rfl (okd rfl rfl) (D h rfl rfl rfl rfl) (D h rfl rfl rfl rfl)) rfl rfl ?_
    refine DG.fr (d := 15) [14] (DS rfl fun v h => OpT.move (A := .cel _ _) (.inl rfl) rfl (okd rfl rfl) (D h rfl rfl rfl rfl) rfl) rfl rfl ?_
    refine DG.pas (d := 16) [15] (DSp rfl rfl rfl rfl rfl hd1 rfl (okd rfl rfl)) rfl rfl ?_
    refine DG.pas (d := 17) [15] (DSp rfl rfl rfl rfl rfl hd1 rfl (okd rfl rfl)) rfl rfl ?_
    refine DG.pas (d := 18) [15] (DSp rfl rfl rfl rfl rfl hd1 rfl (okd rfl rfl)) rfl rfl ?_
    refine DG.pas (d := 19) [15] (DSp rfl rfl rfl rfl rfl hd1 rfl (okd rfl rfl)) rfl rfl ?_
    refine DG.pas (d := 20) [15] (DSp rfl rfl rfl rfl rfl hd1 rfl (okd rfl rfl)) rfl rfl ?_
    refine DG.pas (d := 21) [15] (DSp rfl rfl rfl rfl rfl hd1 rfl (okd rfl rfl)) rfl rfl ?_
    refine DG.pas (d := 22) [15] (DSp rfl rfl rfl rfl rfl hd1 rfl (okd rfl rfl)) rfl rfl ?_
    refine DG.pas (d := 23) [15] (DSp rfl rfl rfl rfl rfl hd1 rfl (okd rfl rfl)) rfl rfl ?_
    refine DG.pas (d := 24) [15] (DSp rfl rfl rfl rfl rfl hd1 rfl (okd rfl rfl)) rfl rfl ?_
    refine DG.pas (d := 25) [15] (DSp rfl rfl rfl rfl rfl hd1 rfl (okd rfl rfl)) rfl rfl ?_
    refine DG.pas (d := 26) [15] (DSp rfl rfl rfl rfl rfl hd1 rfl (okd rfl rfl)) rfl rfl ?_
    refine DG.fr (d := 27) [15] (DS rfl fun v h => OpT.pickT (A := .cel _ _) rfl rfl (okd rfl rfl) (D h rfl rfl rfl rfl) hd1 Opd.bool rfl) rfl rfl ?_
    refine DG.nil ⟨by kernel_rfl, by kernel_rfl, ?_⟩
    refine AX.pr (Kc 27 (.cel _ _) rfl <| Kc 4 (.cel _ _) rfl <| Kc 0 (.cel _ _) rfl <| Kc 1 (.cel _ _) rfl <| Kn) ?_
    refine AX.go ?_
    refine AW.cond (t := 27) rfl (by decide) (fun hc1 => ?_) (fun hc1 => ?_)
    ·
      try simp only [decide_eq_true_eq, decide_eq_false_iff_not, Bool.not_eq_true', Bool.not_eq_false'] at hc1
      refine AW.seq ?_
      refine AW.region ?_
      refine AWl.sg rfl (OpT.move (A := .cel _ _) (.inr rfl) rfl (okd rfl rfl) Opd.bool rfl) (Kc 4 (.cel _ _) rfl <| Kc 27 (.cel _ _) rfl <| Kc 0 (.cel _ _) rfl <| Kc 1 (.cel _ _) rfl <| Kn) ?_
      refine AWl.nil ?_
      refine AX.pr (Kc 4 (.cel _ _) rfl <| Kc 0 (.cel _ _) rfl <| Kc 1 (.cel _ _) rfl <| Kn) ?_
      refine AX.go ?_
      refine AW.ret ?_
      refine AX.ret_then ?_
      exact AX.rt (rs := [.tmp 4]) (ts := [some 4]) (.inl rfl) rfl (ROs.cons (RO.tmp (At.self (by decide)) (Kv rfl (by first | exact knot_ne (.inl (by simpa [eqv_iff, eqv_false_iff] using hd1)) | exact knot_ne (.inr (.inr (fun e => hc2 (by rw [e])))) | exact knot_ne (.inr (.inr (eqv_false_iff.1 (eqs_ne ha hb (by simpa [eqv_iff, eqv_false_iff] using hc4)).symm))) | exact knot_last (by simpa [eqv_iff, eqv_false_iff] using hd1) (by simpa [eqv_iff, eqv_false_iff] using hd2) (eqs_all hI.2 (by omega) (by omega)) | exact knot_ne (.inr (.inl (by simpa [eqv_iff, eqv_false_iff] using hd2))))) rfl) <| ROs.nil) (by decide) OutsOK.nil
    ·
      try simp only [decide_eq_true_eq, decide_eq_false_iff_not, Bool.not_eq_true', Bool.not_eq_false'] at hc1
      exact absurd hc1 (by decide)
  ·
    refine AW.dg fomo ?_
    refine DG.fr (d := 6) [0] (DS rfl fun v h => OpT.move (A := .cel _ _) (.inl rfl) rfl (okd rfl rfl) (D h rfl rfl rfl rfl) rfl) rfl rfl ?_
    refine DG.fr (d := 7) [6] (DS rfl fun v h => OpT.nilCheck rfl rfl (okd rfl rfl) (D h rfl rfl rfl rfl)) rfl rfl ?_
    refine DG.fr (d := 8) [7] (DS rfl fun v h => OpT.fieldAddr rfl rfl (okd rfl rfl) (D h rfl rfl rfl rfl) fd106_0 sz31 (by decide) sb106_0) rfl rfl ?_
    refine DG.fr (d := 9) [8] (DS rfl fun v h => OpT.load rfl rfl (okd rfl rfl) (D h rfl rfl rfl rfl) ag31 rfl) rfl rfl ?_
    refine DG.fr (d := 10) [1] (DS rfl fun v h => OpT.move (A := .cel _ _) (.inl rfl) rfl (okd rfl rfl) (D h rfl rfl rfl rfl) rfl) rfl rfl ?_
    refine DG.fr (d := 11) [10] (DS rfl fun v h => OpT.nilCheck rfl rfl (okd rfl rfl) (D h rfl rfl rfl rfl)) rfl rfl ?_
    refine DG.fr (d := 12) [11] (DS rfl fun v h => OpT.fieldAddr rfl rfl (okd rfl rfl) (D h rfl rfl rfl rfl) fd106_0 sz31 (by decide) sb106_0) rfl rfl ?_
    refine DG.fr (d := 13) [12] (DS rfl fun v h => OpT.load rfl rfl (okd rfl rfl) (D h rfl rfl rfl rfl) ag31 rfl) rfl rfl ?_
    refine DG.fr (d := 14) [9, 13] (DS rfl fun v h => OpT.neq rfl rfl (okd rfl rfl) (D h rfl rfl rfl rfl) (D h rfl rfl rfl rfl)) rfl rfl ?_
    refine DG.fr (d := 15) [14] (DS rfl fun v h => OpT.move (A := .cel _ _) (.inl rfl) rfl (okd rfl rfl) (D h rfl rfl rfl rfl) rfl) rfl rfl ?_
    refine DG.fr (d := 16) [0, 15] (DSr rfl rfl rfl rfl rfl hd1 fun v h => OpT.move (A := .cel _ _) (.inl rfl) rfl (okd rfl rfl) (D h rfl rfl rfl rfl) rfl) rfl rfl ?_
    refine DG.fr (d := 17) [15, 16] (DSr rfl rfl rfl rfl rfl hd1 fun v h => OpT.nilCheck rfl rfl (okd rfl rfl) (D h rfl rfl rfl rfl)) rfl rfl ?_
    refine DG.fr (d := 18) [15, 17] (DSr rfl rfl rfl rfl rfl hd1 fun v h => OpT.fieldAddr rfl rfl (okd rfl rfl) (D h rfl rfl rfl rfl) fd106_2 sz101 (by decide) sb106_2) rfl rfl ?_
    refine DG.fr (d := 19) [15, 18] (DSr rfl rfl rfl rfl rfl hd1 fun v h => OpT.load rfl rfl (okd rfl rfl) (D h rfl rfl rfl rfl) ag101 rfl) rfl rfl ?_
    refine DG.fr (d := 20) [15, 19] (DSr rfl rfl rfl rfl rfl hd1 fun v h => OpT.len rfl rfl (okd rfl rfl) (D h rfl rfl rfl rfl) el101) rfl rfl ?_
    refine DG.fr (d := 21) [1, 15] (DSr rfl rfl rfl rfl rfl hd1 fun v h => OpT.move (A := .cel _ _) (.inl rfl) rfl (okd rfl rfl) (D h rfl rfl rfl rfl) rfl) rfl rfl ?_
    refine DG.fr (d := 22) [15, 21] (DSr rfl rfl rfl rfl rfl hd1 fun v h => OpT.nilCheck rfl rfl (okd rfl rfl) (D h rfl rfl rfl rfl)) rfl rfl ?_
    refine DG.fr (d := 23) [15, 22] (DSr rfl rfl rfl rfl rfl hd1 fun v h => OpT.fieldAddr rfl rfl (okd rfl rfl) (D h rfl rfl rfl rfl) fd106_2 sz101 (by decide) sb106_2) rfl rfl ?_
    refine DG.fr (d := 24) [15, 23] (DSr rfl rfl rfl rfl rfl hd1 fun v h => OpT.load rfl rfl (okd rfl rfl) (D h rfl rfl rfl rfl) ag101 rfl) rfl rfl ?_
    refine DG.fr (d := 25) [15, 24] (DSr rfl rfl rfl rfl rfl hd1 fun v h => OpT.len rfl rfl (okd rfl rfl) (D h rfl rfl rfl rfl) el101) rfl rfl ?_
    refine DG.fr (d := 26) [15, 20, 25] (DSr rfl rfl rfl rfl rfl hd1 fun v h => OpT.neq rfl rfl (okd rfl rfl) (D h rfl rfl rfl rfl) (D h rfl rfl rfl rfl)) rfl rfl ?_
    refine DG.fr (d := 27) [15, 26] (DS rfl fun v h => OpT.pickF (A := .cel _ _) rfl rfl (okd rfl rfl) (D h rfl rfl rfl rfl) hd1 (D h rfl rfl rfl rfl) rfl) rfl rfl ?_
    refine DG.nil ⟨by kernel_rfl, by kernel_rfl, ?_⟩
    refine AX.pr (Kc 27 (.cel _ _) rfl <| Kc 4 (.cel _ _) rfl <| Kc 0 (.cel _ _) rfl <| Kc 1 (.cel _ _) rfl <| Kn) ?_
    refine AX.go ?_
    refine AW.cond (t := 27) rfl (by decide) (fun hc2 => ?_) (fun hc2 => ?_)
    ·
      try simp only [decide_eq_true_eq, decide_eq_false_iff_not, Bool.not_eq_true', Bool.not_eq_false'] at hc2
      simp only [bne_iff_ne, ne_eq, bne_eq_false_iff_eq] at hc2
      refine AW.seq ?_
      refine AW.region ?_
      refine AWl.sg rfl (OpT.move (A := .cel _ _) (.inr rfl) rfl (okd rfl rfl) Opd.bool rfl) (Kc 4 (.cel _ _) rfl <| Kc 27 (.cel _ _) rfl <| Kc 0 (.cel _ _) rfl <| Kc 1 (.cel _ _) rfl <| Kn) ?_
      refine AWl.nil ?_
      refine AX.pr (Kc 4 (.cel _ _) rfl <| Kc 0 (.cel _ _) rfl <| Kc 1 (.cel _ _) rfl <| Kn) ?_
      refine AX.go ?_
      refine AW.ret ?_
      refine AX.ret_then ?_
      exact AX.rt (rs := [.tmp 4]) (ts := [some 4]) (.inl rfl) rfl (ROs.cons (RO.tmp (At.self (by decide)) (Kv rfl (by first | exact knot_ne (.inl (by simpa [eqv_iff, eqv_false_iff] using hd1)) | exact knot_ne (.inr (.inr (fun e => hc2 (by rw [e])))) | exact knot_ne (.inr (.inr (eqv_false_iff.1 (eqs_ne ha hb (by simpa [eqv_iff, eqv_false_iff] using hc4)).symm))) | exact knot_last (by simpa [eqv_iff, eqv_false_iff] using hd1) (by simpa [eqv_iff, eqv_false_iff] using hd2) (eqs_all hI.2 (by omega) (by omega)) | exact knot_ne (.inr (.inl (by simpa [eqv_iff, eqv_false_iff] using hd2))))) rfl) <| ROs.nil) (by decide) OutsOK.nil
    ·
      try simp only [decide_eq_true_eq, decide_eq_false_iff_not, Bool.not_eq_true', Bool.not_eq_false'] at hc2
      simp only [bne_iff_ne, ne_eq, bne_eq_false_iff_eq] at hc2
      refine AW.skip ?_
      refine AX.pr (Kc 4 (.cel _ _) rfl <| Kc 0 (.cel _ _) rfl <| Kc 1 (.cel _ _) rfl <| Kn) ?_
      refine AX.go ?_
      refine AW.seq ?_
      refine AW.seq ?_
      refine AW.region ?_
      refine AWl.st rfl (OpT.move (A := .cel _ _) (.inr rfl) rfl (okd rfl rfl) (I rfl) rfl) rfl ?_
      refine AWl.nil ?_
      refine AX.go ?_
      refine AW.block ?_
      refine AW.loop (fun z : Nat => z ≤ x.2.2.1.length ∧ x.2.2.1.take z = y.2.2.1.take z) (fun z : Nat => keep [(0, .cel (Kd.ptr kKnot) x), (1, .cel (Kd.ptr kKnot) y), (5, .cel (Kd.int .i64) (z : Int))]) (fun z : Nat => x.2.2.1.length - z) (0) ⟨Nat.zero_le _, rfl⟩ (Kc 0 _ (Kv rfl rfl) <| Kc 1 _ (Kv rfl rfl) <| Kc 5 _ (Kv rfl rfl) <| Kn) ?_
      intro z hI
      refine AW.seq ?_
      refine AW.seq ?_
      refine AW.region ?_
      refine AWl.st rfl (OpT.move (A := .cel _ _) (.inl rfl) rfl (okd rfl rfl) (Tm rfl rfl rfl) rfl) rfl ?_
      refine AWl.st rfl (OpT.move (A := .cel _ _) (.inl rfl) rfl (okd rfl rfl) (Tm rfl rfl rfl) rfl) rfl ?_
      refine AWl.st rfl (OpT.nilCheck rfl rfl (okd rfl rfl) (Tm rfl rfl rfl)) rfl ?_
      refine AWl.st rfl (OpT.fieldAddr rfl rfl (okd rfl rfl) (Tm rfl rfl rfl) fd106_2 sz101 (by decide) sb106_2) rfl ?_
      refine AWl.st rfl (OpT.load rfl rfl (okd rfl rfl) (Tm rfl rfl rfl) ag101 rfl) rfl ?_
      refine AWl.st rfl (OpT.len rfl rfl (okd rfl rfl) (Tm rfl rfl rfl) el101) rfl ?_
      refine AWl.st rfl (OpT.lss rfl rfl (okd rfl rfl) (Tm rfl rfl rfl) (Tm rfl rfl rfl)) rfl ?_
      refine AWl.nil ?_
      refine AX.go ?_
      refine AW.cond (t := 34) rfl (by decide) (fun hc3 => ?_) (fun hc3 => ?_)
      ·
        try simp only [decide_eq_true_eq, decide_eq_false_iff_not, Bool.not_eq_true', Bool.not_eq_false'] at hc3
        obtain ⟨a, ha⟩ := getI (x := x.2.2.1) (z := z) (by omega); obtain ⟨b, hb⟩ := getI (x := y.2.2.1) (z := z) (by omega)
        refine AW.skip ?_
        refine AX.go ?_
        refine AW.seq ?_
        refine AW.block ?_
        refine AW.seq ?_
        refine AW.dg fomo ?_
        refine DG.fr (d := 37) [0] (DS rfl fun v h => OpT.move (A := .cel _ _) (.inl rfl) rfl (okd rfl rfl) (D h rfl rfl rfl rfl) rfl) rfl rfl ?_
        refine DG.fr (d := 38) [37] (DS rfl fun v h => OpT.nilCheck rfl rfl (okd rfl rfl) (D h rfl rfl rfl rfl)) rfl rfl ?_
        refine DG.fr (d := 39) [38] (DS rfl fun v h => OpT.fieldAddr rfl rfl (okd rfl rfl) (D h rfl rfl rfl rfl) fd106_2 sz101 (by decide) sb106_2) rfl rfl ?_
        refine DG.fr (d := 40) [39] (DS rfl fun v h => OpT.load rfl rfl (okd rfl rfl) (D h rfl rfl rfl rfl) ag101 rfl) rfl rfl ?_
        refine DG.fr (d := 41) [5] (DS rfl fun v h => OpT.move (A := .cel _ _) (.inl rfl) rfl (okd rfl rfl) (D h rfl rfl rfl rfl) rfl) rfl rfl ?_
        refine DG.fr (d := 42) [40, 41] (DS rfl fun v h => OpT.indexAddr rfl rfl (okd rfl rfl) (D h rfl rfl rfl rfl) (D h rfl rfl rfl rfl) el101 sz31 (by omega) (by assumption)) rfl rfl ?_
        refine DG.fr (d := 43) [42] (DS rfl fun v h => OpT.load rfl rfl (okd rfl rfl) (D h rfl rfl rfl rfl) ag31 rfl) rfl rfl ?_
        refine DG.fr (d := 44) [1] (DS rfl fun v h => OpT.move (A := .cel _ _) (.inl rfl) rfl (okd rfl rfl) (D h rfl rfl rfl rfl) rfl) rfl rfl ?_
        refine DG.fr (d := 45) [44] (DS rfl fun v h => OpT.nilCheck rfl rfl (okd rfl rfl) (D h rfl rfl rfl rfl)) rfl rfl ?_
        refine DG.fr (d := 46) [45] (DS rfl fun v h => OpT.fieldAddr rfl rfl (okd rfl rfl) (D h rfl rfl rfl rfl) fd106_2 sz101 (by decide) sb106_2) rfl rfl ?_
        refine DG.fr (d := 47) [46] (DS rfl fun v h => OpT.load rfl rfl (okd rfl rfl) (D h rfl rfl rfl rfl) ag101 rfl) rfl rfl ?_
        refine DG.fr (d := 48) [5] (DS rfl fun v h => OpT.move (A := .cel _ _) (.inl rfl) rfl (okd rfl rfl) (D h rfl rfl rfl rfl) rfl) rfl rfl ?_
        refine DG.fr (d := 49) [47, 48] (DS rfl fun v h => OpT.indexAddr rfl rfl (okd rfl rfl) (D h rfl rfl rfl rfl) (D h rfl rfl rfl rfl) el101 sz31 (by omega) (by assumption)) rfl rfl ?_
        refine DG.fr (d := 50) [49] (DS rfl fun v h => OpT.load rfl rfl (okd rfl rfl) (D h rfl rfl rfl rfl) ag31 rfl) rfl rfl ?_
        refine DG.fr (d := 51) [43, 50] (DS rfl fun v h => OpT.neq rfl rfl (okd rfl rfl) (D h rfl rfl rfl rfl) (D h rfl rfl rfl rfl)) rfl rfl ?_
        refine DG.nil ⟨by kernel_rfl, by kernel_rfl, ?_⟩
        refine AX.go ?_
        refine AW.cond (t := 51) rfl (by decide) (fun hc4 => ?_) (fun hc4 => ?_)
        ·
          try simp only [decide_eq_true_eq, decide_eq_false_iff_not, Bool.not_eq_true', Bool.not_eq_false'] at hc4
          refine AW.seq ?_
          refine AW.region ?_
          refine AWl.st rfl (OpT.move (A := .cel _ _) (.inr rfl) rfl (okd rfl rfl) Opd.bool rfl) rfl ?_
          refine AWl.nil ?_
          refine AX.go ?_
          refine AW.ret ?_
          refine AX.ret_block ?_
          refine AX.ret_then ?_
          refine AX.ret_then ?_
          refine AX.ret_block ?_
          refine AX.ret_then ?_
          exact AX.rt (rs := [.tmp 4]) (ts := [some 4]) (.inl rfl) rfl (ROs.cons (RO.tmp (At.self (by decide)) (Kv rfl (by first | exact knot_ne (.inl (by simpa [eqv_iff, eqv_false_iff] using hd1)) | exact knot_ne (.inr (.inr (fun e => hc2 (by rw [e])))) | exact knot_ne (.inr (.inr (eqv_false_iff.1 (eqs_ne ha hb (by simpa [eqv_iff, eqv_false_iff] using hc4)).symm))) | exact knot_last (by simpa [eqv_iff, eqv_false_iff] using hd1) (by simpa [eqv_iff, eqv_false_iff] using hd2) (eqs_all hI.2 (by omega) (by omega)) | exact knot_ne (.inr (.inl (by simpa [eqv_iff, eqv_false_iff] using hd2))))) rfl) <| ROs.nil) (by decide) OutsOK.nil
        ·
          try simp only [decide_eq_true_eq, decide_eq_false_iff_not, Bool.not_eq_true', Bool.not_eq_false'] at hc4
          refine AW.skip ?_
          refine AX.normal_block ?_
          refine AX.go ?_
          refine AW.region ?_
          refine AWl.st rfl (OpT.move (A := .cel _ _) (.inl rfl) rfl (okd rfl rfl) (Tm rfl rfl rfl) rfl) rfl ?_
          refine AWl.st rfl (OpT.add rfl rfl (okd rfl rfl) (Tm rfl rfl rfl) (I rfl) (nw (by omega))) rfl ?_
          refine AWl.sg rfl (OpT.move (A := .cel _ _) (.inr rfl) rfl (okd rfl rfl) (Tm rfl rfl rfl) rfl) (Kc 5 (.cel _ _) rfl <| Kc 36 (.cel _ _) rfl <| Kc 35 (.cel _ _) rfl <| Kc 51 (.cel _ _) rfl <| Kc 50 (.cel _ _) rfl <| Kc 49 (.cel _ _) rfl <| Kc 48 (.cel _ _) rfl <| Kc 47 (.cel _ _) rfl <| Kc 46 (.cel _ _) rfl <| Kc 45 (.cel _ _) rfl <| Kc 44 (.cel _ _) rfl <| Kc 43 (.cel _ _) rfl <| Kc 42 (.cel _ _) rfl <| Kc 41 (.cel _ _) rfl <| Kc 40 (.cel _ _) rfl <| Kc 39 (.cel _ _) rfl <| Kc 38 (.cel _ _) rfl <| Kc 37 (.cel _ _) rfl <| Kc 34 (.cel _ _) rfl <| Kc 33 (.cel _ _) rfl <| Kc 32 (.cel _ _) rfl <| Kc 31 (.cel _ _) rfl <| Kc 30 (.cel _ _) rfl <| Kc 29 (.cel _ _) rfl <| Kc 28 (.cel _ _) rfl <| Kc 0 (.cel _ _) rfl <| Kc 1 (.cel _ _) rfl <| Kn) ?_
          refine AWl.nil ?_
          exact AX.again (z + 1) ⟨by omega, eqs_step hI.2 ha hb (by simpa [eqv_iff, eqv_false_iff] using hc4)⟩ (by omega) (Kc 0 _ (Kv rfl rfl) <| Kc 1 _ (Kv rfl rfl) <| Kc 5 _ (Kv rfl (by omega)) <| Kn)
      ·
        try simp only [decide_eq_true_eq, decide_eq_false_iff_not, Bool.not_eq_true', Bool.not_eq_false'] at hc3
        refine AW.exit ?_
        refine AX.exit_then ?_
        refine AX.exit_then ?_
        refine AX.exit_hit ?_
        refine AX.pr (Kc 0 (.cel _ _) rfl <| Kc 1 (.cel _ _) rfl <| Kn) ?_
        refine AX.go ?_
        refine AW.seq ?_
        rcases Bool.eq_false_or_eq_true (eqv x.2.1 y.2.1) with hd2 | hd2
        ·
          refine AW.dg fomo ?_
          refine DG.fr (d := 52) [0] (DS rfl fun v h => OpT.move (A := .cel _ _) (.inl rfl) rfl (okd rfl rfl) (D h rfl rfl rfl rfl) rfl) rfl rfl ?_
          refine DG.fr (d := 53) [52] (DS rfl fun v h => OpT.nilCheck rfl rfl (okd rfl rfl) (D h rfl rfl rfl rfl)) rfl rfl ?_
          refine DG.fr (d := 54) [53] (DS rfl fun v h => OpT.fieldAddr rfl rfl (okd rfl rfl) (D h rfl rfl rfl rfl) fd106_1 sz50 (by decide) sb106_1) rfl rfl ?_
          refine DG.fr (d := 55) [54] (DS rfl fun v h => OpT.load rfl rfl (okd rfl rfl) (D h rfl rfl rfl rfl) ag50 rfl) rfl rfl ?_
          refine DG.fr (d := 56) [1] (DS rfl fun v h => OpT.move (A := .cel _ _) (.inl rfl) rfl (okd rfl rfl) (D h rfl rfl rfl rfl) rfl) rfl rfl ?_
          refine DG.fr (d := 57) [56] (DS rfl fun v h => OpT.nilCheck rfl rfl (okd rfl rfl) (D h rfl rfl rfl rfl)) rfl rfl ?_
          refine DG.fr (d := 58) [57] (DS rfl fun v h => OpT.fieldAddr rfl rfl (okd rfl rfl) (D h rfl rfl rfl rfl) fd106_1 sz50 (by decide) sb106_1) rfl rfl ?_
          refine DG.fr (d := 59) [58] (DS rfl fun v h => OpT.load rfl rfl (okd rfl rfl) (D h rfl rfl rfl rfl) ag50 rfl) rfl rfl ?_
          refine DG.fr (d := 60) [55, 59] (DS rfl fun v h => OpT.c1 (ms := [.flat, .flat]) (c_spec_l00Same _ _) rfl rfl (okd rfl rfl) (Af (D h rfl rfl rfl rfl) rfl rfl <| Af (D h rfl rfl rfl rfl) rfl rfl <| An) rfl rfl) rfl rfl ?_
          refine DG.fr (d := 61) [60] (DS rfl fun v h => OpT.move (A := .cel _ _) (.inl rfl) rfl (okd rfl rfl) (D h rfl rfl rfl rfl) rfl) rfl rfl ?_
          refine DG.fr (d := 62) [0, 61] (DSr rfl rfl rfl rfl rfl hd2 fun v h => OpT.move (A := .cel _ _) (.inl rfl) rfl (okd rfl rfl) (D h rfl rfl rfl rfl) rfl) rfl rfl ?_
          refine DG.fr (d := 63) [61, 62] (DSr rfl rfl rfl rfl rfl hd2 fun v h => OpT.nilCheck rfl rfl (okd rfl rfl) (D h rfl rfl rfl rfl)) rfl rfl ?_
          refine DG.fr (d := 64) [61, 63] (DSr rfl rfl rfl rfl rfl hd2 fun v h => OpT.fieldAddr rfl rfl (okd rfl rfl) (D h rfl rfl rfl rfl) fd106_3 sz50 (by decide) sb106_3) rfl rfl ?_
          refine DG.fr (d := 65) [61, 64] (DSr rfl rfl rfl rfl rfl hd2 fun v h => OpT.load rfl rfl (okd rfl rfl) (D h rfl rfl rfl rfl) ag50 rfl) rfl rfl ?_
          refine DG.fr (d := 66) [1, 61] (DSr rfl rfl rfl rfl rfl hd2 fun v h => OpT.move (A := .cel _ _) (.inl rfl) rfl (okd rfl rfl) (D h rfl rfl rfl rfl) rfl) rfl rfl ?_
          refine DG.fr (d := 67) [61, 66] (DSr rfl rfl rfl rfl rfl hd2 fun v h => OpT.nilCheck rfl rfl (okd rfl rfl) (D h rfl rfl rfl rfl)) rfl rfl ?_
          refine DG.fr (d := 68) [61, 67] (DSr rfl rfl rfl rfl rfl hd2 fun v h => OpT.fieldAddr rfl rfl (okd rfl rfl) (D h rfl rfl rfl rfl) fd106_3 sz50 (by decide) sb106_3) rfl rfl ?_
          refine DG.fr (d := 69) [61, 68] (DSr rfl rfl rfl rfl rfl hd2 fun v h => OpT.load rfl rfl (okd rfl rfl) (D h rfl rfl rfl rfl) ag50 rfl) rfl rfl ?_
          refine DG.fr (d := 70) [61, 65, 69] (DSr rfl rfl rfl rfl rfl hd2 fun v h => OpT.c1 (ms := [.flat, .flat]) (c_spec_l00Same _ _) rfl rfl (okd rfl rfl) (Af (D h rfl rfl rfl rfl) rfl rfl <| Af (D h rfl rfl rfl rfl) rfl rfl <| An) rfl rfl) rfl rfl ?_
          refine DG.fr (d := 71) [61, 70] (DS rfl fun v h => OpT.pickT (A := .cel _ _) rfl rfl (okd rfl rfl) (D h rfl rfl rfl rfl) hd2 (D h rfl rfl rfl rfl) rfl) rfl rfl ?_
          refine DG.fr (d := 4) [71] (DS rfl fun v h => OpT.move (A := .cel _ _) (.inr rfl) rfl (okd rfl rfl) (D h rfl rfl rfl rfl) rfl) rfl rfl ?_
          refine DG.nil ⟨by kernel_rfl, by kernel_rfl, ?_⟩
          refine AX.pr (Kc 4 (.cel _ _) rfl <| Kn) ?_
          refine AX.go ?_
          refine AW.ret ?_
          exact AX.rt (rs := [.tmp 4]) (ts := [some 4]) (.inl rfl) rfl (ROs.cons (RO.tmp (At.self (by decide)) (Kv rfl (by first | exact knot_ne (.inl (by simpa [eqv_iff, eqv_false_iff] using hd1)) | exact knot_ne (.inr (.inr (fun e => hc2 (by rw [e])))) | exact knot_ne (.inr (.inr (eqv_false_iff.1 (eqs_ne ha hb (by simpa [eqv_iff, eqv_false_iff] using hc4)).symm))) | exact knot_last (by simpa [eqv_iff, eqv_false_iff] using hd1) (by simpa [eqv_iff, eqv_false_iff] using hd2) (eqs_all hI.2 (by omega) (by omega)) | exact knot_ne (.inr (.inl (by simpa [eqv_iff, eqv_false_iff] using hd2))))) rfl) <| ROs.nil) (by decide) OutsOK.nil
        ·
          refine AW.dg fomo ?_
          refine DG.fr (d := 52) [0] (DS rfl fun v h => OpT.move (A := .cel _ _) (.inl rfl) rfl (okd rfl rfl) (D h rfl rfl rfl rfl) rfl) rfl rfl ?_
          refine DG.fr (d := 53) [52] (DS rfl fun v h => OpT.nilCheck rfl rfl (okd rfl rfl) (D h rfl rfl rfl rfl)) rfl rfl ?_
          refine DG.fr (d := 54) [53] (DS rfl fun v h => OpT.fieldAddr rfl rfl (okd rfl rfl) (D h rfl rfl rfl rfl) fd106_1 sz50 (by decide) sb106_1) rfl rfl ?_
          refine DG.fr (d := 55) [54] (DS rfl fun v h => OpT.load rfl rfl (okd rfl rfl) (D h rfl rfl rfl rfl) ag50 rfl) rfl rfl ?_
          refine DG.fr (d := 56) [1] (DS rfl fun v h => OpT.move (A := .cel _ _) (.inl rfl) rfl (okd rfl rfl) (D h rfl rfl rfl rfl) rfl) rfl rfl ?_
          refine DG.fr (d := 57) [56] (DS rfl fun v h => OpT.nilCheck rfl rfl (okd rfl rfl) (D h rfl rfl rfl rfl)) rfl rfl ?_
          refine DG.fr (d := 58) [57] (DS rfl fun v h => OpT.fieldAddr rfl rfl (okd rfl rfl) (D h rfl rfl rfl rfl) fd106_1 sz50 (by decide) sb106_1) rfl rfl ?_
          refine DG.fr (d := 59) [58] (DS rfl fun v h => OpT.load rfl rfl (okd rfl rfl) (D h rfl rfl rfl rfl) ag50 rfl) rfl rfl ?_
          refine DG.fr (d := 60) [55, 59] (DS rfl fun v h => OpT.c1 (ms := [.flat, .flat]) (c_spec_l00Same _ _) rfl rfl (okd rfl rfl) (Af (D h rfl rfl rfl rfl) rfl rfl <| Af (D h rfl rfl rfl rfl) rfl rfl <| An) rfl rfl) rfl rfl ?_
          refine DG.fr (d := 61) [60] (DS rfl fun v h => OpT.move (A := .cel _ _) (.inl rfl) rfl (okd rfl rfl) (D h rfl rfl rfl rfl) rfl) rfl rfl ?_
          refine DG.pas (d := 62) [61] (DSp rfl rfl rfl rfl rfl hd2 rfl (okd rfl rfl)) rfl rfl ?_
          refine DG.pas (d := 63) [61] (DSp rfl rfl rfl rfl rfl hd2 rfl (okd rfl rfl)) rfl rfl ?_
          refine DG.pas (d := 64) [61] (DSp rfl rfl rfl rfl rfl hd2 rfl (okd rfl rfl)) rfl rfl ?_
          refine DG.pas (d := 65) [61] (DSp rfl rfl rfl rfl rfl hd2 rfl (okd rfl rfl)) rfl rfl ?_
          refine DG.pas (d := 66) [61] (DSp rfl rfl rfl rfl rfl hd2 rfl (okd rfl rfl)) rfl rfl ?_
          refine DG.pas (d := 67) [61] (DSp rfl rfl rfl rfl rfl hd2 rfl (okd rfl rfl)) rfl rfl ?_
          refine DG.pas (d := 68) [61] (DSp rfl rfl rfl rfl rfl hd2 rfl (okd rfl rfl)) rfl rfl ?_
          refine DG.pas (d := 69) [61] (DSp rfl rfl rfl rfl rfl hd2 rfl (okd rfl rfl)) rfl rfl ?_
          refine DG.pas (d := 70) [61] (DSp rfl rfl rfl rfl rfl hd2 rfl (okd rfl rfl)) rfl rfl ?_
          refine DG.fr (d := 71) [61] (DS rfl fun v h => OpT.pickF (A := .cel _ _) rfl rfl (okd rfl rfl) (D h rfl rfl rfl rfl) hd2 Opd.bool rfl) rfl rfl ?_
          refine DG.fr (d := 4) [71] (DS rfl fun v h => OpT.move (A := .cel _ _) (.inr rfl) rfl (okd rfl rfl) (D h rfl rfl rfl rfl) rfl) rfl rfl ?_
          refine DG.nil ⟨by kernel_rfl, by kernel_rfl, ?_⟩
          refine AX.pr (Kc 4 (.cel _ _) rfl <| Kn) ?_
          refine AX.go ?_
          refine AW.ret ?_
          exact AX.rt (rs := [.tmp 4]) (ts := [some 4]) (.inl rfl) rfl (ROs.cons (RO.tmp (At.self (by decide)) (Kv rfl (by first | exact knot_ne (.inl (by simpa [eqv_iff, eqv_false_iff] using hd1)) | exact knot_ne (.inr (.inr (fun e => hc2 (by rw [e])))) | exact knot_ne (.inr (.inr (eqv_false_iff.1 (eqs_ne ha hb (by simpa [eqv_iff, eqv_false_iff] using hc4)).symm))) | exact knot_last (by simpa [eqv_iff, eqv_false_iff] using hd1) (by simpa [eqv_iff, eqv_false_iff] using hd2) (eqs_all hI.2 (by omega) (by omega)) | exact knot_ne (.inr (.inl (by simpa [eqv_iff, eqv_false_iff] using hd2))))) rfl) <| ROs.nil) (by decide) OutsOK.nil

/-- spec.SameTree -/
theorem c_spec_SameTree (x y : List (Int × List (Int) × List (Int) × List (Int))) : AC Try.prog 34 [.cel (Kd.slice kKnot) x, .cel (Kd.slice kKnot) y] [.cel Kd.bool (eqv x y)] [] := by
  refine ⟨ACall.intro (N := 25) Try.func34 (c := _) (rfl : Func.body _ = some _) rfl (Nat.le_of_ble_eq_true rfl) (Nat.le_of_ble_eq_true rfl) rfl (Nat.le_of_ble_eq_true rfl) fun w0 hd s0 ar har => ?_, _, Try.func34, rfl, by decide⟩
  refine AW.to (Kc 0 (.cel _ _) rfl <| Kc 1 (.cel _ _) rfl <| Kn) ?_
  refine AW.fact (fun a w hr => (ok_slice (R_ok (t := 0) rfl hr)).2) (fun hl0 => ?_)
  refine AW.fact (fun a w hr => (ok_slice (R_ok (t := 1) rfl hr)).2) (fun hl1 => ?_)
  refine AW.seq ?_
  refine AW.region ?_
  refine AWl.st rfl (OpT.move (A := .cel _ _) (.inr rfl) rfl (okd rfl rfl) Opd.bool rfl) rfl ?_
  refine AWl.nil ?_
  refine AX.go ?_
  refine AW.seq ?_
  refine AW.seq ?_
  refine AW.region ?_
  refine AWl.st rfl (OpT.move (A := .cel _ _) (.inl rfl) rfl (okd rfl rfl) (Tm rfl rfl rfl) rfl) rfl ?_
  refine AWl.st rfl (OpT.len rfl rfl (okd rfl rfl) (Tm rfl rfl rfl) el66) rfl ?_
  refine AWl.st rfl (OpT.move (A := .cel _ _) (.inl rfl) rfl (okd rfl rfl) (Tm rfl rfl rfl) rfl) rfl ?_
  refine AWl.st rfl (OpT.len rfl rfl (okd rfl rfl) (Tm rfl rfl rfl) el66) rfl ?_
  refine AWl.st rfl (OpT.neq rfl rfl (okd rfl rfl) (Tm rfl rfl rfl) (Tm rfl rfl rfl)) rfl ?_
  refine AWl.nil ?_
  refine AX.pr (Kc 10 (.cel _ _) rfl <| Kc 4 (.cel _ _) rfl <| Kc 0 (.cel _ _) rfl <| Kc 1 (.cel _ _) rfl <| Kn) ?_
  refine AX.go ?_
  refine AW.cond (t := 10) rfl (by decide) (fun hc1 => ?_) (fun hc1 => ?_)
  ·
    try simp only [decide_eq_true_eq, decide_eq_false_iff_not, Bool.not_eq_true', Bool.not_eq_false'] at hc1
    try simp only [bne_iff_ne, ne_eq, bne_eq_false_iff_eq] at hc1
    refine AW.seq ?_
    refine AW.region ?_
    refine AWl.sg rfl (OpT.move (A := .cel _ _) (.inr rfl) rfl (okd rfl rfl) Opd.bool rfl) (Kc 4 (.cel _ _) rfl <| Kc 10 (.cel _ _) rfl <| Kc 0 (.cel _ _) rfl <| Kc 1 (.cel _ _) rfl <| Kn) ?_
    refine AWl.nil ?_
    refine AX.pr (Kc 4 (.cel _ _) rfl <| Kc 0 (.cel _ _) rfl <| Kc 1 (.cel _ _) rfl <| Kn) ?_
    refine AX.go ?_
    refine AW.ret ?_
    refine AX.ret_then ?_
    exact AX.rt (rs := [.tmp 4]) (ts := [some 4]) (.inl rfl) rfl (ROs.cons (RO.tmp (At.self (by decide)) (Kv rfl (by first | exact eqs_len (by omega) | exact eqs_ne ha hb (by simpa [eqv_iff, eqv_false_iff] using hc3) | exact eqs_all hI.2 (by omega) (by omega))) rfl) <| ROs.nil) (by decide) OutsOK.nil
  ·
    try simp only [decide_eq_true_eq, decide_eq_false_iff_not, Bool.not_eq_true', Bool.not_eq_false'] at hc1
    try simp only [bne_iff_ne, ne_eq, bne_eq_false_iff_eq] at hc1
    refine AW.skip ?_
    refine AX.pr (Kc 4 (.cel _ _) rfl <| Kc 0 (.cel _ _) rfl <| Kc 1 (.cel _ _) rfl <| Kn) ?_
    refine AX.go ?_
    refine AW.seq ?_
    refine AW.seq ?_
    refine AW.region ?_
    refine AWl.st rfl (OpT.move (A := .cel _ _) (.inr rfl) rfl (okd rfl rfl) (I rfl) rfl) rfl ?_
    refine AWl.nil ?_
    refine AX.go ?_
    refine AW.block ?_
    refine AW.loop (fun z : Nat => z ≤ x.length ∧ x.take z = y.take z) (fun z : Nat => keep [(0, .cel (Kd.slice kKnot) x), (1, .cel (Kd.slice kKnot) y), (5, .cel (Kd.int .i64) (z : Int))]) (fun z : Nat => x.length - z) (0) ⟨Nat.zero_le _, rfl⟩ (Kc 0 _ (Kv rfl rfl) <| Kc 1 _ (Kv rfl rfl) <| Kc 5 _ (Kv rfl rfl) <| Kn) ?_
    intro z hI
    refine AW.seq ?_
    refine AW.seq ?_
    refine AW.region ?_
    refine AWl.st rfl (OpT.move (A := .cel _ _) (.inl rfl) rfl (okd rfl rfl) (Tm rfl rfl rfl) rfl) rfl ?_
    refine AWl.st rfl (OpT.move (A := .cel _ _) (.inl rfl) rfl (okd rfl rfl) (Tm rfl rfl rfl) rfl) rfl ?_
    refine AWl.st rfl (OpT.len rfl rfl (okd rfl rfl) (Tm rfl rfl rfl) el66) rfl ?_
    refine AWl.st rfl (OpT.lss rfl rfl (okd rfl rfl) (Tm rfl rfl rfl) (Tm rfl rfl rfl)) rfl ?_
    refine AWl.nil ?_
    refine AX.go ?_
    refine AW.cond (t := 14) rfl (by decide) (fun hc2 => ?_) (fun hc2 => ?_)
    ·
      try simp only [decide_eq_true_eq, decide_eq_false_iff_not, Bool.not_eq_true', Bool.not_eq_false'] at hc2
      obtain ⟨a, ha⟩ := getI (x := x) (z := z) (by omega); obtain ⟨b, hb⟩ := getI (x := y) (z := z) (by omega)
      refine AW.skip ?_
      refine AX.go ?_
      refine AW.seq ?_
      refine AW.block ?_
      refine AW.seq ?_
      refine AW.dg fomo ?_
      refine DG.fr (d := 17) [0] (DS rfl fun v h => OpT.move (A := .cel _ _) (.inl rfl) rfl (okd rfl rfl) (D h rfl rfl rfl rfl) rfl) rfl rfl ?_
      refine DG.fr (d := 18) [5] (DS rfl fun v h => OpT.move (A := .cel _ _) (.inl rfl) rfl (okd rfl rfl) (D h rfl rfl rfl rfl) rfl) rfl rfl ?_
      refine DG.fr (d := 19) [17, 18] (DS rfl fun v h => OpT.indexAddr rfl rfl (okd rfl rfl) (D h rfl rfl rfl rfl) (D h rfl rfl rfl rfl) el66 sz106 (by omega) (by assumption)) rfl rfl ?_
      refine DG.fr (d := 20) [1] (DS rfl fun v h => OpT.move (A := .cel _ _) (.inl rfl) rfl (okd rfl rfl) (D h rfl rfl rfl rfl) rfl) rfl rfl ?_
      refine DG.fr (d := 21) [5] (DS rfl fun v h => OpT.move (A := .cel _ _) (.inl rfl) rfl (okd rfl rfl) (D h rfl rfl rfl rfl) rfl) rfl rfl ?_
      refine DG.fr (d := 22) [20, 21] (DS rfl fun v h => OpT.indexAddr rfl rfl (okd rfl rfl) (D h rfl rfl rfl rfl) (D h rfl rfl rfl rfl) el66 sz106 (by omega) (by assumption)) rfl rfl ?_
      refine DG.fr (d := 23) [19, 22] (DS rfl fun v h => OpT.c1 (ms := [.flat, .flat]) (c_spec_l06Same _ _) rfl rfl (okd rfl rfl) (Af (D h rfl rfl rfl rfl) rfl rfl <| Af (D h rfl rfl rfl rfl) rfl rfl <| An) rfl rfl) rfl rfl ?_
      refine DG.fr (d := 24) [23] (DS rfl fun v h => OpT.not rfl rfl (okd rfl rfl) (D h rfl rfl rfl rfl)) rfl rfl ?_
      refine DG.nil ⟨by kernel_rfl, by kernel_rfl, ?_⟩
      refine AX.go ?_
      refine AW.cond (t := 24) rfl (by decide) (fun hc3 => ?_) (fun hc3 => ?_)
      ·
        try simp only [decide_eq_true_eq, decide_eq_false_iff_not, Bool.not_eq_true', Bool.not_eq_false'] at hc3
        refine AW.seq ?_
        refine AW.region ?_
        refine AWl.st rfl (OpT.move (A := .cel _ _) (.inr rfl) rfl (okd rfl rfl) Opd.bool rfl) rfl ?_
        refine AWl.nil ?_
        refine AX.go ?_
        refine AW.ret ?_
        refine AX.ret_block ?_
        refine AX.ret_then ?_
        refine AX.ret_then ?_
        refine AX.ret_block ?_
        refine AX.ret_then ?_
        exact AX.rt (rs := [.tmp 4]) (ts := [some 4]) (.inl rfl) rfl (ROs.cons (RO.tmp (At.self (by decide)) (Kv rfl (by first | exact eqs_len (by omega) | exact eqs_ne ha hb (by simpa [eqv_iff, eqv_false_iff] using hc3) | exact eqs_all hI.2 (by omega) (by omega))) rfl) <| ROs.nil) (by decide) OutsOK.nil
      ·
        try simp only [decide_eq_true_eq, decide_eq_false_iff_not, Bool.not_eq_true', Bool.not_eq_false'] at hc3
        refine AW.skip ?_
        refine AX.normal_block ?_
        refine AX.go ?_
        refine AW.region ?_
        refine AWl.st rfl (OpT.move (A := .cel _ _) (.inl rfl) rfl (okd rfl rfl) (Tm rfl rfl rfl) rfl) rfl ?_
        refine AWl.st rfl (OpT.add rfl rfl (okd rfl rfl) (Tm rfl rfl rfl) (I rfl) (nw (by omega))) rfl ?_
        refine AWl.sg rfl (OpT.move (A := .cel _ _) (.inr rfl) rfl (okd rfl rfl) (Tm rfl rfl rfl) rfl) (Kc 5 (.cel _ _) rfl <| Kc 16 (.cel _ _) rfl <| Kc 15 (.cel _ _) rfl <| Kc 24 (.cel _ _) rfl <| Kc 23 (.cel _ _) rfl <| Kc 22 (.cel _ _) rfl <| Kc 21 (.cel _ _) rfl <| Kc 20 (.cel _ _) rfl <| Kc 19 (.cel _ _) rfl <| Kc 18 (.cel _ _) rfl <| Kc 17 (.cel _ _) rfl <| Kc 14 (.cel _ _) rfl <| Kc 13 (.cel _ _) rfl <| Kc 12 (.cel _ _) rfl <| Kc 11 (.cel _ _) rfl <| Kc 0 (.cel _ _) rfl <| Kc 1 (.cel _ _) rfl <| Kn) ?_
        refine AWl.nil ?_
        exact AX.again (z + 1) ⟨by omega, eqs_step hI.2 ha hb (by simpa [eqv_iff, eqv_false_iff] using hc3)⟩ (by omega) (Kc 0 _ (Kv rfl rfl) <| Kc 1 _ (Kv rfl rfl) <| Kc 5 _ (Kv rfl (by omega)) <| Kn)
    ·
      try simp only [decide_eq_true_eq, decide_eq_false_iff_not, Bool.not_eq_true', Bool.not_eq_false'] at hc2
      refine AW.exit ?_
      refine AX.exit_then ?_
      refine AX.exit_then ?_
      refine AX.exit_hit ?_
      refine AX.pr (Kn) ?_
      refine AX.go ?_
      refine AW.seq ?_
      refine AW.region ?_
      refine AWl.st rfl (OpT.move (A := .cel _ _) (.inr rfl) rfl (okd rfl rfl) Opd.bool rfl) rfl ?_
      refine AWl.nil ?_
      refine AX.go ?_
      refine AW.ret ?_
      exact AX.rt (rs := [.tmp 4]) (ts := [some 4]) (.inl rfl) rfl (ROs.cons (RO.tmp (At.self (by decide)) (Kv rfl (by first | exact eqs_len (by omega) | exact eqs_ne ha hb (by simpa [eqv_iff, eqv_false_iff] using hc3) | exact eqs_all hI.2 (by omega) (by omega))) rfl) <| ROs.nil) (by decide) OutsOK.nil

/-- impl.SameTree$1 -/
theorem c_impl_SameTree_1 (x y : Int × List (Int) × List (Int) × List (Int)) : AC Try.prog 79 [.agg kKnot x, .agg kKnot y] [.cel Kd.bool (eqv x y)] [] := by
  refine ⟨ACall.intro (N := 31) Try.func79 (c := _) (rfl : Func.body _ = some _) rfl (Nat.le_of_ble_eq_true rfl) (Nat.le_of_ble_eq_true rfl) rfl (Nat.le_of_ble_eq_true rfl) fun w0 hd s0 ar har => ?_, _, Try.func79, rfl, by decide⟩
  refine AW.to (Kc 0 (.agg _ _) rfl <| Kc 1 (.agg _ _) rfl <| Kn) ?_
  refine AW.seq ?_
  refine AW.region ?_
  refine AWl.st rfl (OpT.frz (OpT.boxA (E := 106) rfl rfl (okd rfl rfl) (Tm rfl rfl rfl))) rfl ?_
  refine AWl.st rfl (OpT.frz (OpT.boxA (E := 106) rfl rfl (okd rfl rfl) (Tm rfl rfl rfl))) rfl ?_
  refine AWl.st rfl (OpT.move (A := .cel _ _) (.inr rfl) rfl (okd rfl rfl) Opd.bool rfl) rfl ?_
  refine AWl.nil ?_
  refine AX.pr (Kc 4 (.cel _ _) rfl <| Kc 3 (.cel _ _) rfl <| Kc 2 (.cel _ _) rfl <| Kn) ?_
  refine AX.go ?_
  refine AW.seq ?_
  refine AW.region ?_
  refine AWl.st rfl (OpT.fieldAddr rfl rfl (okd rfl rfl) (Tm rfl rfl rfl) fd106_0 sz31 (by decide) sb106_0) rfl ?_
  refine AWl.st rfl (OpT.load rfl rfl (okd rfl rfl) (Tm rfl rfl rfl) ag31 rfl) rfl ?_
  refine AWl.st rfl (OpT.fieldAddr rfl rfl (okd rfl rfl) (Tm rfl rfl rfl) fd106_0 sz31 (by decide) sb106_0) rfl ?_
  refine AWl.st rfl (OpT.load rfl rfl (okd rfl rfl) (Tm rfl rfl rfl) ag31 rfl) rfl ?_
  refine AWl.st rfl (OpT.eql rfl rfl (okd rfl rfl) (Tm rfl rfl rfl) (Tm rfl rfl rfl)) rfl ?_
  refine AWl.st rfl (OpT.move (A := .cel _ _) (.inl rfl) rfl (okd rfl rfl) (Tm rfl rfl rfl) rfl) rfl ?_
  apply AWl.and (d := 16) (t := 10) rfl
  · intro hb1 Q1 k1
    refine AWl.rs rfl rfl rfl rfl hb1 (OpT.fieldAddr rfl rfl (okd rfl rfl) (Tm rfl rfl rfl) fd106_1 sz50 (by decide) sb106_1) rfl ?_
    refine AWl.rs rfl rfl rfl rfl hb1 (OpT.load rfl rfl (okd rfl rfl) (Tm rfl rfl rfl) ag50 rfl) rfl ?_
    refine AWl.rs rfl rfl rfl rfl hb1 (OpT.fieldAddr rfl rfl (okd rfl rfl) (Tm rfl rfl rfl) fd106_1 sz50 (by decide) sb106_1) rfl ?_
    refine AWl.rs rfl rfl rfl rfl hb1 (OpT.load rfl rfl (okd rfl rfl) (Tm rfl rfl rfl) ag50 rfl) rfl ?_
    refine AWl.rs rfl rfl rfl rfl hb1 (OpT.c1 (ms := [.flat, .flat]) (c_slices_Equal_int64_int64 _ _) rfl rfl (okd rfl rfl) (Af (Tm rfl rfl rfl) rfl rfl <| Af (Tm rfl rfl rfl) rfl rfl <| An) rfl rfl) rfl ?_
    refine AWl.st rfl (OpT.pickT (A := .cel _ _) rfl rfl (okd rfl rfl) (Tm rfl rfl rfl) hb1 (Tm rfl rfl rfl) rfl) rfl ?_
    exact AWl.to (junk 5 rfl) k1
  · intro hb1 Q1 k1
    refine AWl.pas rfl rfl rfl rfl hb1 rfl (okd rfl rfl) rfl ?_
    refine AWl.pas rfl rfl rfl rfl hb1 rfl (okd rfl rfl) rfl ?_
    refine AWl.pas rfl rfl rfl rfl hb1 rfl (okd rfl rfl) rfl ?_
    refine AWl.pas rfl rfl rfl rfl hb1 rfl (okd rfl rfl) rfl ?_
    refine AWl.pas rfl rfl rfl rfl hb1 rfl (okd rfl rfl) rfl ?_
    refine AWl.st rfl (OpT.pickF (A := .cel _ _) rfl rfl (okd rfl rfl) (Tm rfl rfl rfl) hb1 Opd.bool rfl) rfl ?_
    exact k1
  refine AWl.st rfl (OpT.move (A := .cel _ _) (.inl rfl) rfl (okd rfl rfl) (Tm rfl rfl rfl) rfl) rfl ?_
  apply AWl.and (d := 23) (t := 17) rfl
  · intro hb2 Q1 k1
    refine AWl.rs rfl rfl rfl rfl hb2 (OpT.fieldAddr rfl rfl (okd rfl rfl) (Tm rfl rfl rfl) fd106_2 sz101 (by decide) sb106_2) rfl ?_
    refine AWl.rs rfl rfl rfl rfl hb2 (OpT.load rfl rfl (okd rfl rfl) (Tm rfl rfl rfl) ag101 rfl) rfl ?_
    refine AWl.rs rfl rfl rfl rfl hb2 (OpT.fieldAddr rfl rfl (okd rfl rfl) (Tm rfl rfl rfl) fd106_2 sz101 (by decide) sb106_2) rfl ?_
    refine AWl.rs rfl rfl rfl rfl hb2 (OpT.load rfl rfl (okd rfl rfl) (Tm rfl rfl rfl) ag101 rfl) rfl ?_
    refine AWl.rs rfl rfl rfl rfl hb2 (OpT.c1 (ms := [.flat, .flat]) (c_slices_Equal_int16_int16 _ _) rfl rfl (okd rfl rfl) (Af (Tm rfl rfl rfl) rfl rfl <| Af (Tm rfl rfl rfl) rfl rfl <| An) rfl rfl) rfl ?_
    refine AWl.st rfl (OpT.pickT (A := .cel _ _) rfl rfl (okd rfl rfl) (Tm rfl rfl rfl) hb2 (Tm rfl rfl rfl) rfl) rfl ?_
    exact AWl.to (junk 5 rfl) k1
  · intro hb2 Q1 k1
    refine AWl.pas rfl rfl rfl rfl hb2 rfl (okd rfl rfl) rfl ?_
    refine AWl.pas rfl rfl rfl rfl hb2 rfl (okd rfl rfl) rfl ?_
    refine AWl.pas rfl rfl rfl rfl hb2 rfl (okd rfl rfl) rfl ?_
    refine AWl.pas rfl rfl rfl rfl hb2 rfl (okd rfl rfl) rfl ?_
    refine AWl.pas rfl rfl rfl rfl hb2 rfl (okd rfl rfl) rfl ?_
    refine AWl.st rfl (OpT.pickF (A := .cel _ _) rfl rfl (okd rfl rfl) (Tm rfl rfl rfl) hb2 Opd.bool rfl) rfl ?_
    exact k1
  refine AWl.st rfl (OpT.move (A := .cel _ _) (.inl rfl) rfl (okd rfl rfl) (Tm rfl rfl rfl) rfl) rfl ?_
  apply AWl.and (d := 30) (t := 24) rfl
  · intro hb3 Q1 k1
    refine AWl.rs rfl rfl rfl rfl hb3 (OpT.fieldAddr rfl rfl (okd rfl rfl) (Tm rfl rfl rfl) fd106_3 sz50 (by decide) sb106_3) rfl ?_
    refine AWl.rs rfl rfl rfl rfl hb3 (OpT.load rfl rfl (okd rfl rfl) (Tm rfl rfl rfl) ag50 rfl) rfl ?_
    refine AWl.rs rfl rfl rfl rfl hb3 (OpT.fieldAddr rfl rfl (okd rfl rfl) (Tm rfl rfl rfl) fd106_3 sz50 (by decide) sb106_3) rfl ?_
    refine AWl.rs rfl rfl rfl rfl hb3 (OpT.load rfl rfl (okd rfl rfl) (Tm rfl rfl rfl) ag50 rfl) rfl ?_
    refine AWl.rs rfl rfl rfl rfl hb3 (OpT.c1 (ms := [.flat, .flat]) (c_slices_Equal_int64_int64 _ _) rfl rfl (okd rfl rfl) (Af (Tm rfl rfl rfl) rfl rfl <| Af (Tm rfl rfl rfl) rfl rfl <| An) rfl rfl) rfl ?_
    refine AWl.st rfl (OpT.pickT (A := .cel _ _) rfl rfl (okd rfl rfl) (Tm rfl rfl rfl) hb3 (Tm rfl rfl rfl) rfl) rfl ?_
    exact AWl.to (junk 5 rfl) k1
  · intro hb3 Q1 k1
    refine AWl.pas rfl rfl rfl rfl hb3 rfl (okd rfl rfl) rfl ?_
    refine AWl.pas rfl rfl rfl rfl hb3 rfl (okd rfl rfl) rfl ?_
    refine AWl.pas rfl rfl rfl rfl hb3 rfl (okd rfl rfl) rfl ?_
    refine AWl.pas rfl rfl rfl rfl hb3 rfl (okd rfl rfl) rfl ?_
    refine AWl.pas rfl rfl rfl rfl hb3 rfl (okd rfl rfl) rfl ?_
    refine AWl.st rfl (OpT.pickF (A := .cel _ _) rfl rfl (okd rfl rfl) (Tm rfl rfl rfl) hb3 Opd.bool rfl) rfl ?_
    exact k1
  refine AWl.sg rfl (OpT.move (A := .cel _ _) (.inr rfl) rfl (okd rfl rfl) (Tm rfl rfl rfl) rfl) (Kc 4 (.cel _ _) rfl <| Kc 30 (.cel _ _) rfl <| Kc 24 (.cel _ _) rfl <| Kc 23 (.cel _ _) rfl <| Kc 17 (.cel _ _) rfl <| Kc 16 (.cel _ _) rfl <| Kc 10 (.cel _ _) rfl <| Kc 9 (.cel _ _) rfl <| Kc 8 (.cel _ _) rfl <| Kc 7 (.cel _ _) rfl <| Kc 6 (.cel _ _) rfl <| Kc 5 (.cel _ _) rfl <| Kc 3 (.cel _ _) rfl <| Kc 2 (.cel _ _) rfl <| Kn) ?_
  refine AWl.nil ?_
  refine AX.pr (Kc 4 (.cel _ _) rfl <| Kn) ?_
  refine AX.go ?_
  refine AW.ret ?_
  exact AX.rt (rs := [.tmp 4]) (ts := [some 4]) (.inl rfl) rfl (ROs.cons (RO.tmp (At.self (by decide)) (Kv rfl (by rw [eqv_pair (x := x), eqv_pair (x := x.2), eqv_pair (x := x.2.2)]; simp_all [eqv_beq, eqv_bne, Bool.and_assoc])) rfl) <| ROs.nil) (by decide) OutsOK.nil

/-- laws.eqKnot -/
theorem c_laws_eqKnot (x y : Int × List (Int) × List (Int) × List (Int)) : AC Try.prog 81 [.agg kKnot x, .agg kKnot y] [.cel Kd.bool (eqv x y)] [] := by
  refine ⟨ACall.intro (N := 28) Try.func81 (c := _) (rfl : Func.body _ = some _) rfl (Nat.le_of_ble_eq_true rfl) (Nat.le_of_ble_eq_true rfl) rfl (Nat.le_of_ble_eq_true rfl) fun w0 hd s0 ar har => ?_, _, Try.func81, rfl, by decide⟩
  refine AW.to (Kc 0 (.agg _ _) rfl <| Kc 1 (.agg _ _) rfl <| Kn) ?_
  refine AW.seq ?_
  refine AW.region ?_
  refine AWl.st rfl (OpT.frz (OpT.boxA (E := 106) rfl rfl (okd rfl rfl) (Tm rfl rfl rfl))) rfl ?_
  refine AWl.st rfl (OpT.frz (OpT.boxA (E := 106) rfl rfl (okd rfl rfl) (Tm rfl rfl rfl))) rfl ?_
  refine AWl.st rfl (OpT.move (A := .cel _ _) (.inr rfl) rfl (okd rfl rfl) Opd.bool rfl) rfl ?_
  refine AWl.nil ?_
  refine AX.pr (Kc 4 (.cel _ _) rfl <| Kc 3 (.cel _ _) rfl <| Kc 2 (.cel _ _) rfl <| Kn) ?_
  refine AX.go ?_
  refine AW.seq ?_
  refine AW.seq ?_
  refine AW.region ?_
  refine AWl.st rfl (OpT.fieldAddr rfl rfl (okd rfl rfl) (Tm rfl rfl rfl) fd106_0 sz31 (by decide) sb106_0) rfl ?_
  refine AWl.st rfl (OpT.load rfl rfl (okd rfl rfl) (Tm rfl rfl rfl) ag31 rfl) rfl ?_
  refine AWl.st rfl (OpT.fieldAddr rfl rfl (okd rfl rfl) (Tm rfl rfl rfl) fd106_0 sz31 (by decide) sb106_0) rfl ?_
  refine AWl.st rfl (OpT.load rfl rfl (okd rfl rfl) (Tm rfl rfl rfl) ag31 rfl) rfl ?_
  refine AWl.st rfl (OpT.neq rfl rfl (okd rfl rfl) (Tm rfl rfl rfl) (Tm rfl rfl rfl)) rfl ?_
  refine AWl.nil ?_
  refine AX.pr (Kc 9 (.cel _ _) rfl <| Kc 4 (.cel _ _) rfl <| Kc 3 (.cel _ _) rfl <| Kc 2 (.cel _ _) rfl <| Kn) ?_
  refine AX.go ?_
  refine AW.cond (t := 9) rfl (by decide) (fun hc1 => ?_) (fun hc1 => ?_)
  ·
    try simp only [decide_eq_true_eq, decide_eq_false_iff_not, Bool.not_eq_true', Bool.not_eq_false'] at hc1
    refine AW.seq ?_
    refine AW.region ?_
    refine AWl.sg rfl (OpT.move (A := .cel _ _) (.inr rfl) rfl (okd rfl rfl) Opd.bool rfl) (Kc 4 (.cel _ _) rfl <| Kc 9 (.cel _ _) rfl <| Kc 3 (.cel _ _) rfl <| Kc 2 (.cel _ _) rfl <| Kn) ?_
    refine AWl.nil ?_
    refine AX.pr (Kc 4 (.cel _ _) rfl <| Kc 3 (.cel _ _) rfl <| Kc 2 (.cel _ _) rfl <| Kn) ?_
    refine AX.go ?_
    refine AW.ret ?_
    refine AX.ret_then ?_
    exact AX.rt (rs := [.tmp 4]) (ts := [some 4]) (.inl rfl) rfl (ROs.cons (RO.tmp (At.self (by decide)) (Kv rfl (by rw [eqv_pair (x := x), eqv_pair (x := x.2), eqv_pair (x := x.2.2)]; simp_all [eqv_beq, eqv_bne, Bool.and_assoc])) rfl) <| ROs.nil) (by decide) OutsOK.nil
  ·
    try simp only [decide_eq_true_eq, decide_eq_false_iff_not, Bool.not_eq_true', Bool.not_eq_false'] at hc1
    refine AW.skip ?_
    refine AX.pr (Kc 4 (.cel _ _) rfl <| Kc 3 (.cel _ _) rfl <| Kc 2 (.cel _ _) rfl <| Kn) ?_
    refine AX.go ?_
    refine AW.seq ?_
    refine AW.seq ?_
    refine AW.region ?_
    refine AWl.st rfl (OpT.fieldAddr rfl rfl (okd rfl rfl) (Tm rfl rfl rfl) fd106_1 sz50 (by decide) sb106_1) rfl ?_
    refine AWl.st rfl (OpT.load rfl rfl (okd rfl rfl) (Tm rfl rfl rfl) ag50 rfl) rfl ?_
    refine AWl.st rfl (OpT.fieldAddr rfl rfl (okd rfl rfl) (Tm rfl rfl rfl) fd106_1 sz50 (by decide) sb106_1) rfl ?_
    refine AWl.st rfl (OpT.load rfl rfl (okd rfl rfl) (Tm rfl rfl rfl) ag50 rfl) rfl ?_
    refine AWl.st rfl (OpT.c1 (ms := [.flat, .flat]) (c_laws_eqInt64S _ _) rfl rfl (okd rfl rfl) (Af (Tm rfl rfl rfl) rfl rfl <| Af (Tm rfl rfl rfl) rfl rfl <| An) rfl rfl) rfl ?_
    refine AWl.st rfl (OpT.not rfl rfl (okd rfl rfl) (Tm rfl rfl rfl)) rfl ?_
    refine AWl.nil ?_
    refine AX.pr (Kc 15 (.cel _ _) rfl <| Kc 4 (.cel _ _) rfl <| Kc 3 (.cel _ _) rfl <| Kc 2 (.cel _ _) rfl <| Kn) ?_
    refine AX.go ?_
    refine AW.cond (t := 15) rfl (by decide) (fun hc2 => ?_) (fun hc2 => ?_)
    ·
      try simp only [decide_eq_true_eq, decide_eq_false_iff_not, Bool.not_eq_true', Bool.not_eq_false'] at hc2
      refine AW.seq ?_
      refine AW.region ?_
      refine AWl.sg rfl (OpT.move (A := .cel _ _) (.inr rfl) rfl (okd rfl rfl) Opd.bool rfl) (Kc 4 (.cel _ _) rfl <| Kc 15 (.cel _ _) rfl <| Kc 3 (.cel _ _) rfl <| Kc 2 (.cel _ _) rfl <| Kn) ?_
      refine AWl.nil ?_
      refine AX.pr (Kc 4 (.cel _ _) rfl <| Kc 3 (.cel _ _) rfl <| Kc 2 (.cel _ _) rfl <| Kn) ?_
      refine AX.go ?_
      refine AW.ret ?_
      refine AX.ret_then ?_
      exact AX.rt (rs := [.tmp 4]) (ts := [some 4]) (.inl rfl) rfl (ROs.cons (RO.tmp (At.self (by decide)) (Kv rfl (by rw [eqv_pair (x := x), eqv_pair (x := x.2), eqv_pair (x := x.2.2)]; simp_all [eqv_beq, eqv_bne, Bool.and_assoc])) rfl) <| ROs.nil) (by decide) OutsOK.nil
    ·
      try simp only [decide_eq_true_eq, decide_eq_false_iff_not, Bool.not_eq_true', Bool.not_eq_false'] at hc2
      refine AW.skip ?_
      refine AX.pr (Kc 4 (.cel _ _) rfl <| Kc 3 (.cel _ _) rfl <| Kc 2 (.cel _ _) rfl <| Kn) ?_
      refine AX.go ?_
      refine AW.seq ?_
      refine AW.seq ?_
      refine AW.region ?_
      refine AWl.st rfl (OpT.fieldAddr rfl rfl (okd rfl rfl) (Tm rfl rfl rfl) fd106_2 sz101 (by decide) sb106_2) rfl ?_
      refine AWl.st rfl (OpT.load rfl rfl (okd rfl rfl) (Tm rfl rfl rfl) ag101 rfl) rfl ?_
      refine AWl.st rfl (OpT.fieldAddr rfl rfl (okd rfl rfl) (Tm rfl rfl rfl) fd106_2 sz101 (by decide) sb106_2) rfl ?_
      refine AWl.st rfl (OpT.load rfl rfl (okd rfl rfl) (Tm rfl rfl rfl) ag101 rfl) rfl ?_
      refine AWl.st rfl (OpT.c1 (ms := [.flat, .flat]) (c_laws_eqInt16S _ _) rfl rfl (okd rfl rfl) (Af (Tm rfl rfl rfl) rfl rfl <| Af (Tm rfl rfl rfl) rfl rfl <| An) rfl rfl) rfl ?_
      refine AWl.st rfl (OpT.not rfl rfl (okd rfl rfl) (Tm rfl rfl rfl)) rfl ?_
      refine AWl.nil ?_
      refine AX.pr (Kc 21 (.cel _ _) rfl <| Kc 4 (.cel _ _) rfl <| Kc 3 (.cel _ _) rfl <| Kc 2 (.cel _ _) rfl <| Kn) ?_
      refine AX.go ?_
      refine AW.cond (t := 21) rfl (by decide) (fun hc3 => ?_) (fun hc3 => ?_)
      ·
        try simp only [decide_eq_true_eq, decide_eq_false_iff_not, Bool.not_eq_true', Bool.not_eq_false'] at hc3
        refine AW.seq ?_
        refine AW.region ?_
        refine AWl.sg rfl (OpT.move (A := .cel _ _) (.inr rfl) rfl (okd rfl rfl) Opd.bool rfl) (Kc 4 (.cel _ _) rfl <| Kc 21 (.cel _ _) rfl <| Kc 3 (.cel _ _) rfl <| Kc 2 (.cel _ _) rfl <| Kn) ?_
        refine AWl.nil ?_
        refine AX.pr (Kc 4 (.cel _ _) rfl <| Kc 3 (.cel _ _) rfl <| Kc 2 (.cel _ _) rfl <| Kn) ?_
        refine AX.go ?_
        refine AW.ret ?_
        refine AX.ret_then ?_
        exact AX.rt (rs := [.tmp 4]) (ts := [some 4]) (.inl rfl) rfl (ROs.cons (RO.tmp (At.self (by decide)) (Kv rfl (by rw [eqv_pair (x := x), eqv_pair (x := x.2), eqv_pair (x := x.2.2)]; simp_all [eqv_beq, eqv_bne, Bool.and_assoc])) rfl) <| ROs.nil) (by decide) OutsOK.nil
      ·
        try simp only [decide_eq_true_eq, decide_eq_false_iff_not, Bool.not_eq_true', Bool.not_eq_false'] at hc3
        refine AW.skip ?_
        refine AX.pr (Kc 4 (.cel _ _) rfl <| Kc 3 (.cel _ _) rfl <| Kc 2 (.cel _ _) rfl <| Kn) ?_
        refine AX.go ?_
        refine AW.seq ?_
        refine AW.seq ?_
        refine AW.region ?_
        refine AWl.st rfl (OpT.fieldAddr rfl rfl (okd rfl rfl) (Tm rfl rfl rfl) fd106_3 sz50 (by decide) sb106_3) rfl ?_
        refine AWl.st rfl (OpT.load rfl rfl (okd rfl rfl) (Tm rfl rfl rfl) ag50 rfl) rfl ?_
        refine AWl.st rfl (OpT.fieldAddr rfl rfl (okd rfl rfl) (Tm rfl rfl rfl) fd106_3 sz50 (by decide) sb106_3) rfl ?_
        refine AWl.st rfl (OpT.load rfl rfl (okd rfl rfl) (Tm rfl rfl rfl) ag50 rfl) rfl ?_
        refine AWl.st rfl (OpT.c1 (ms := [.flat, .flat]) (c_laws_eqInt64S _ _) rfl rfl (okd rfl rfl) (Af (Tm rfl rfl rfl) rfl rfl <| Af (Tm rfl rfl rfl) rfl rfl <| An) rfl rfl) rfl ?_
        refine AWl.st rfl (OpT.not rfl rfl (okd rfl rfl) (Tm rfl rfl rfl)) rfl ?_
        refine AWl.nil ?_
        refine AX.pr (Kc 27 (.cel _ _) rfl <| Kc 4 (.cel _ _) rfl <| Kn) ?_
        refine AX.go ?_
        refine AW.cond (t := 27) rfl (by decide) (fun hc4 => ?_) (fun hc4 => ?_)
        ·
          try simp only [decide_eq_true_eq, decide_eq_false_iff_not, Bool.not_eq_true', Bool.not_eq_false'] at hc4
          refine AW.seq ?_
          refine AW.region ?_
          refine AWl.sg rfl (OpT.move (A := .cel _ _) (.inr rfl) rfl (okd rfl rfl) Opd.bool rfl) (Kc 4 (.cel _ _) rfl <| Kc 27 (.cel _ _) rfl <| Kn) ?_
          refine AWl.nil ?_
          refine AX.pr (Kc 4 (.cel _ _) rfl <| Kn) ?_
          refine AX.go ?_
          refine AW.ret ?_
          refine AX.ret_then ?_
          exact AX.rt (rs := [.tmp 4]) (ts := [some 4]) (.inl rfl) rfl (ROs.cons (RO.tmp (At.self (by decide)) (Kv rfl (by rw [eqv_pair (x := x), eqv_pair (x := x.2), eqv_pair (x := x.2.2)]; simp_all [eqv_beq, eqv_bne, Bool.and_assoc])) rfl) <| ROs.nil) (by decide) OutsOK.nil
        ·
          try simp only [decide_eq_true_eq, decide_eq_false_iff_not, Bool.not_eq_true', Bool.not_eq_false'] at hc4
          refine AW.skip ?_
          refine AX.pr (Kc 4 (.cel _ _) rfl <| Kn) ?_
          refine AX.go ?_
          refine AW.seq ?_
          refine AW.region ?_
          refine AWl.sg rfl (OpT.move (A := .cel _ _) (.inr rfl) rfl (okd rfl rfl) Opd.bool rfl) (Kc 4 (.cel _ _) rfl <| Kn) ?_
          refine AWl.nil ?_
          refine AX.go ?_
          refine AW.ret ?_
          exact AX.rt (rs := [.tmp 4]) (ts := [some 4]) (.inl rfl) rfl (ROs.cons (RO.tmp (At.self (by decide)) (Kv rfl (by rw [eqv_pair (x := x), eqv_pair (x := x.2), eqv_pair (x := x.2.2)]; simp_all [eqv_beq, eqv_bne, Bool.and_assoc])) rfl) <| ROs.nil) (by decide) OutsOK.nil

/-- laws.eqKnotS -/
theorem c_laws_eqKnotS (x y : List (Int × List (Int) × List (Int) × List (Int))) : AC Try.prog 37 [.cel (Kd.slice kKnot) x, .cel (Kd.slice kKnot) y] [.cel Kd.bool (eqv x y)] [] := by
  refine ⟨ACall.intro (N := 27) Try.func37 (c := _) (rfl : Func.body _ = some _) rfl (Nat.le_of_ble_eq_true rfl) (Nat.le_of_ble_eq_true rfl) rfl (Nat.le_of_ble_eq_true rfl) fun w0 hd s0 ar har => ?_, _, Try.func37, rfl, by decide⟩
  refine AW.to (Kc 0 (.cel _ _) rfl <| Kc 1 (.cel _ _) rfl <| Kn) ?_
  refine AW.fact (fun a w hr => (ok_slice (R_ok (t := 0) rfl hr)).2) (fun hl0 => ?_)
  refine AW.fact (fun a w hr => (ok_slice (R_ok (t := 1) rfl hr)).2) (fun hl1 => ?_)
  refine AW.seq ?_
  refine AW.region ?_
  refine AWl.st rfl (OpT.move (A := .cel _ _) (.inr rfl) rfl (okd rfl rfl) Opd.bool rfl) rfl ?_
  refine AWl.nil ?_
  refine AX.go ?_
  refine AW.seq ?_
  refine AW.seq ?_
  refine AW.region ?_
  refine AWl.st rfl (OpT.move (A := .cel _ _) (.inl rfl) rfl (okd rfl rfl) (Tm rfl rfl rfl) rfl) rfl ?_
  refine AWl.st rfl (OpT.len rfl rfl (okd rfl rfl) (Tm rfl rfl rfl) el66) rfl ?_
  refine AWl.st rfl (OpT.move (A := .cel _ _) (.inl rfl) rfl (okd rfl rfl) (Tm rfl rfl rfl) rfl) rfl ?_
  refine AWl.st rfl (OpT.len rfl rfl (okd rfl rfl) (Tm rfl rfl rfl) el66) rfl ?_
  refine AWl.st rfl (OpT.neq rfl rfl (okd rfl rfl) (Tm rfl rfl rfl) (Tm rfl rfl rfl)) rfl ?_
  refine AWl.nil ?_
  refine AX.pr (Kc 10 (.cel _ _) rfl <| Kc 4 (.cel _ _) rfl <| Kc 0 (.cel _ _) rfl <| Kc 1 (.cel _ _) rfl <| Kn) ?_
  refine AX.go ?_
  refine AW.cond (t := 10) rfl (by decide) (fun hc1 => ?_) (fun hc1 => ?_)
  ·
    try simp only [decide_eq_true_eq, decide_eq_false_iff_not, Bool.not_eq_true', Bool.not_eq_false'] at hc1
    try simp only [bne_iff_ne, ne_eq, bne_eq_false_iff_eq] at hc1
    refine AW.seq ?_
    refine AW.region ?_
    refine AWl.sg rfl (OpT.move (A := .cel _ _) (.inr rfl) rfl (okd rfl rfl) Opd.bool rfl) (Kc 4 (.cel _ _) rfl <| Kc 10 (.cel _ _) rfl <| Kc 0 (.cel _ _) rfl <| Kc 1 (.cel _ _) rfl <| Kn) ?_
    refine AWl.nil ?_
    refine AX.pr (Kc 4 (.cel _ _) rfl <| Kc 0 (.cel _ _) rfl <| Kc 1 (.cel _ _) rfl <| Kn) ?_
    refine AX.go ?_
    refine AW.ret ?_
    refine AX.ret_then ?_
    exact AX.rt (rs := [.tmp 4]) (ts := [some 4]) (.inl rfl) rfl (ROs.cons (RO.tmp (At.self (by decide)) (Kv rfl (by first | exact eqs_len (by omega) | exact eqs_ne ha hb (by simpa [eqv_iff, eqv_false_iff] using hc3) | exact eqs_all hI.2 (by omega) (by omega))) rfl) <| ROs.nil) (by decide) OutsOK.nil
  ·
    try simp only [decide_eq_true_eq, decide_eq_false_iff_not, Bool.not_eq_true', Bool.not_eq_false'] at hc1
    try simp only [bne_iff_ne, ne_eq, bne_eq_false_iff_eq] at hc1
    refine AW.skip ?_
    refine AX.pr (Kc 4 (.cel _ _) rfl <| Kc 0 (.cel _ _) rfl <| Kc 1 (.cel _ _) rfl <| Kn) ?_
    refine AX.go ?_
    refine AW.seq ?_
    refine AW.seq ?_
    refine AW.region ?_
    refine AWl.st rfl (OpT.move (A := .cel _ _) (.inr rfl) rfl (okd rfl rfl) (I rfl) rfl) rfl ?_
    refine AWl.nil ?_
    refine AX.go ?_
    refine AW.block ?_
    refine AW.loop (fun z : Nat => z ≤ x.length ∧ x.take z = y.take z) (fun z : Nat => keep [(0, .cel (Kd.slice kKnot) x), (1, .cel (Kd.slice kKnot) y), (5, .cel (Kd.int .i64) (z : Int))]) (fun z : Nat => x.length - z) (0) ⟨Nat.zero_le _, rfl⟩ (Kc 0 _ (Kv rfl rfl) <| Kc 1 _ (Kv rfl rfl) <| Kc 5 _ (Kv rfl rfl) <| Kn) ?_
    intro z hI
    refine AW.seq ?_
    refine AW.seq ?_
    refine AW.region ?_
    refine AWl.st rfl (OpT.move (A := .cel _ _) (.inl rfl) rfl (okd rfl rfl) (Tm rfl rfl rfl) rfl) rfl ?_
    refine AWl.st rfl (OpT.move (A := .cel _ _) (.inl rfl) rfl (okd rfl rfl) (Tm rfl rfl rfl) rfl) rfl ?_
    refine AWl.st rfl (OpT.len rfl rfl (okd rfl rfl) (Tm rfl rfl rfl) el66) rfl ?_
    refine AWl.st rfl (OpT.lss rfl rfl (okd rfl rfl) (Tm rfl rfl rfl) (Tm rfl rfl rfl)) rfl ?_
    refine AWl.nil ?_
    refine AX.go ?_
    refine AW.cond (t := 14) rfl (by decide) (fun hc2 => ?_) (fun hc2 => ?_)
    ·
      try simp only [decide_eq_true_eq, decide_eq_false_iff_not, Bool.not_eq_true', Bool.not_eq_false'] at hc2
      obtain ⟨a, ha⟩ := getI (x := x) (z := z) (by omega); obtain ⟨b, hb⟩ := getI (x := y) (z := z) (by omega)
      refine AW.skip ?_
      refine AX.go ?_
      refine AW.seq ?_
      refine AW.block ?_
      refine AW.seq ?_
      refine AW.dg fomo ?_
      refine DG.fr (d := 17) [0] (DS rfl fun v h => OpT.move (A := .cel _ _) (.inl rfl) rfl (okd rfl rfl) (D h rfl rfl rfl rfl) rfl) rfl rfl ?_
      refine DG.fr (d := 18) [5] (DS rfl fun v h => OpT.move (A := .cel _ _) (.inl rfl) rfl (okd rfl rfl) (D h rfl rfl rfl rfl) rfl) rfl rfl ?_
      refine DG.fr (d := 19) [17, 18] (DS rfl fun v h => OpT.indexAddr rfl rfl (okd rfl rfl) (D h rfl rfl rfl rfl) (D h rfl rfl rfl rfl) el66 sz106 (by omega) (by assumption)) rfl rfl ?_
      refine DG.fr (d := 20) [19] (DS rfl fun v h => OpT.loadA rfl rfl (okd rfl rfl) (D h rfl rfl rfl rfl) ag106 sz106) rfl rfl ?_
      refine DG.fr (d := 21) [1] (DS rfl fun v h => OpT.move (A := .cel _ _) (.inl rfl) rfl (okd rfl rfl) (D h rfl rfl rfl rfl) rfl) rfl rfl ?_
      refine DG.fr (d := 22) [5] (DS rfl fun v h => OpT.move (A := .cel _ _) (.inl rfl) rfl (okd rfl rfl) (D h rfl rfl rfl rfl) rfl) rfl rfl ?_
      refine DG.fr (d := 23) [21, 22] (DS rfl fun v h => OpT.indexAddr rfl rfl (okd rfl rfl) (D h rfl rfl rfl rfl) (D h rfl rfl rfl rfl) el66 sz106 (by omega) (by assumption)) rfl rfl ?_
      refine DG.fr (d := 24) [23] (DS rfl fun v h => OpT.loadA rfl rfl (okd rfl rfl) (D h rfl rfl rfl rfl) ag106 sz106) rfl rfl ?_
      refine DG.fr (d := 25) [20, 24] (DS rfl fun v h => OpT.c1 (ms := [.flat, .flat]) (c_laws_eqKnot _ _) rfl rfl (okd rfl rfl) (Af (D h rfl rfl rfl rfl) rfl rfl <| Af (D h rfl rfl rfl rfl) rfl rfl <| An) rfl rfl) rfl rfl ?_
      refine DG.fr (d := 26) [25] (DS rfl fun v h => OpT.not rfl rfl (okd rfl rfl) (D h rfl rfl rfl rfl)) rfl rfl ?_
      refine DG.nil ⟨by kernel_rfl, by kernel_rfl, ?_⟩
      refine AX.go ?_
      refine AW.cond (t := 26) rfl (by decide) (fun hc3 => ?_) (fun hc3 => ?_)
      ·
        try simp only [decide_eq_true_eq, decide_eq_false_iff_not, Bool.not_eq_true', Bool.not_eq_false'] at hc3
        refine AW.seq ?_
        refine AW.region ?_
        refine AWl.st rfl (OpT.move (A := .cel _ _) (.inr rfl) rfl (okd rfl rfl) Opd.bool rfl) rfl ?_
        refine AWl.nil ?_
        refine AX.go ?_
        refine AW.ret ?_
        refine AX.ret_block ?_
        refine AX.ret_then ?_
        refine AX.ret_then ?_
        refine AX.ret_block ?_
        refine AX.ret_then ?_
        exact AX.rt (rs := [.tmp 4]) (ts := [some 4]) (.inl rfl) rfl (ROs.cons (RO.tmp (At.self (by decide)) (Kv rfl (by first | exact eqs_len (by omega) | exact eqs_ne ha hb (by simpa [eqv_iff, eqv_false_iff] using hc3) | exact eqs_all hI.2 (by omega) (by omega))) rfl) <| ROs.nil) (by decide) OutsOK.nil
      ·
        try simp only [decide_eq_true_eq, decide_eq_false_iff_not, Bool.not_eq_true', Bool.not_eq_false'] at hc3
        refine AW.skip ?_
        refine AX.normal_block ?_
        refine AX.go ?_
        refine AW.region ?_
        refine AWl.st rfl (OpT.move (A := .cel _ _) (.inl rfl) rfl (okd rfl rfl) (Tm rfl rfl rfl) rfl) rfl ?_
        refine AWl.st rfl (OpT.add rfl rfl (okd rfl rfl) (Tm rfl rfl rfl) (I rfl) (nw (by omega))) rfl ?_
        refine AWl.sg rfl (OpT.move (A := .cel _ _) (.inr rfl) rfl (okd rfl rfl) (Tm rfl rfl rfl) rfl) (Kc 5 (.cel _ _) rfl <| Kc 16 (.cel _ _) rfl <| Kc 15 (.cel _ _) rfl <| Kc 26 (.cel _ _) rfl <| Kc 25 (.cel _ _) rfl <| Kc 24 (.agg _ _) rfl <| Kc 23 (.cel _ _) rfl <| Kc 22 (.cel _ _) rfl <| Kc 21 (.cel _ _) rfl <| Kc 20 (.agg _ _) rfl <| Kc 19 (.cel _ _) rfl <| Kc 18 (.cel _ _) rfl <| Kc 17 (.cel _ _) rfl <| Kc 14 (.cel _ _) rfl <| Kc 13 (.cel _ _) rfl <| Kc 12 (.cel _ _) rfl <| Kc 11 (.cel _ _) rfl <| Kc 0 (.cel _ _) rfl <| Kc 1 (.cel _ _) rfl <| Kn) ?_
        refine AWl.nil ?_
        exact AX.again (z + 1) ⟨by omega, eqs_step hI.2 ha hb (by simpa [eqv_iff, eqv_false_iff] using hc3)⟩ (by omega) (Kc 0 _ (Kv rfl rfl) <| Kc 1 _ (Kv rfl rfl) <| Kc 5 _ (Kv rfl (by omega)) <| Kn)
    ·
      try simp only [decide_eq_true_eq, decide_eq_false_iff_not, Bool.not_eq_true', Bool.not_eq_false'] at hc2
      refine AW.exit ?_
      refine AX.exit_then ?_
      refine AX.exit_then ?_
      refine AX.exit_hit ?_
      refine AX.pr (Kn) ?_
      refine AX.go ?_
      refine AW.seq ?_
      refine AW.region ?_
      refine AWl.st rfl (OpT.move (A := .cel _ _) (.inr rfl) rfl (okd rfl rfl) Opd.bool rfl) rfl ?_
      refine AWl.nil ?_
      refine AX.go ?_
      refine AW.ret ?_
      exact AX.rt (rs := [.tmp 4]) (ts := [some 4]) (.inl rfl) rfl (ROs.cons (RO.tmp (At.self (by decide)) (Kv rfl (by first | exact eqs_len (by omega) | exact eqs_ne ha hb (by simpa [eqv_iff, eqv_false_iff] using hc3) | exact eqs_all hI.2 (by omega) (by omega))) rfl) <| ROs.nil) (by decide) OutsOK.nil

/-- impl.Knot] -/
theorem c_slices_EqualFunc_impl_Knot_impl_Knot_impl_Knot_impl_Knot (x y : List (Int × List (Int) × List (Int) × List (Int))) : AC Try.prog 78 [.cel (Kd.slice kKnot) x, .cel (Kd.slice kKnot) y, .clo 79 Kd.unit ()] [.cel Kd.bool (eqv x y)] [] := by
  refine ⟨ACall.intro (N := 32) Try.func78 (c := _) (rfl : Func.body _ = some _) rfl (Nat.le_of_ble_eq_true rfl) (Nat.le_of_ble_eq_true rfl) rfl (Nat.le_of_ble_eq_true rfl) fun w0 hd s0 ar har => ?_, _, Try.func78, rfl, by decide⟩
  refine AW.to (Kc 0 (.cel _ _) rfl <| Kc 1 (.cel _ _) rfl <| Kc 2 (.clo _ _ _) rfl <| Kn) ?_
  refine AW.fact (fun a w hr => (ok_slice (R_ok (t := 0) rfl hr)).2) (fun hl0 => ?_)
  refine AW.fact (fun a w hr => (ok_slice (R_ok (t := 1) rfl hr)).2) (fun hl1 => ?_)
  refine AW.seq ?_
  refine AW.region ?_
  refine AWl.st rfl (OpT.move (A := .cel _ _) (.inr rfl) rfl (okd rfl rfl) Opd.bool rfl) rfl ?_
  refine AWl.nil ?_
  refine AX.go ?_
  refine AW.seq ?_
  refine AW.seq ?_
  refine AW.region ?_
  refine AWl.st rfl (OpT.move (A := .cel _ _) (.inl rfl) rfl (okd rfl rfl) (Tm rfl rfl rfl) rfl) rfl ?_
  refine AWl.st rfl (OpT.len rfl rfl (okd rfl rfl) (Tm rfl rfl rfl) el66) rfl ?_
  refine AWl.st rfl (OpT.move (A := .cel _ _) (.inl rfl) rfl (okd rfl rfl) (Tm rfl rfl rfl) rfl) rfl ?_
  refine AWl.st rfl (OpT.len rfl rfl (okd rfl rfl) (Tm rfl rfl rfl) el66) rfl ?_
  refine AWl.st rfl (OpT.neq rfl rfl (okd rfl rfl) (Tm rfl rfl rfl) (Tm rfl rfl rfl)) rfl ?_
  refine AWl.nil ?_
  refine AX.pr (Kc 14 (.cel _ _) rfl <| Kc 6 (.cel _ _) rfl <| Kc 0 (.cel _ _) rfl <| Kc 1 (.cel _ _) rfl <| Kc 2 (.clo _ _ _) rfl <| Kn) ?_
  refine AX.go ?_
  refine AW.cond (t := 14) rfl (by decide) (fun hc1 => ?_) (fun hc1 => ?_)
  ·
    try simp only [decide_eq_true_eq, decide_eq_false_iff_not, Bool.not_eq_true', Bool.not_eq_false'] at hc1
    try simp only [bne_iff_ne, ne_eq, bne_eq_false_iff_eq] at hc1
    refine AW.seq ?_
    refine AW.region ?_
    refine AWl.sg rfl (OpT.move (A := .cel _ _) (.inr rfl) rfl (okd rfl rfl) Opd.bool rfl) (Kc 6 (.cel _ _) rfl <| Kc 14 (.cel _ _) rfl <| Kc 0 (.cel _ _) rfl <| Kc 1 (.cel _ _) rfl <| Kc 2 (.clo _ _ _) rfl <| Kn) ?_
    refine AWl.nil ?_
    refine AX.pr (Kc 6 (.cel _ _) rfl <| Kc 0 (.cel _ _) rfl <| Kc 1 (.cel _ _) rfl <| Kc 2 (.clo _ _ _) rfl <| Kn) ?_
    refine AX.go ?_
    refine AW.ret ?_
    refine AX.ret_then ?_
    exact AX.rt (rs := [.tmp 6]) (ts := [some 6]) (.inl rfl) rfl (ROs.cons (RO.tmp (At.self (by decide)) (Kv rfl (by first | exact eqs_len (by omega) | exact eqs_ne ha hb (by simpa [eqv_iff, eqv_false_iff] using hc3) | exact eqs_all hI.2 (by omega) (by omega))) rfl) <| ROs.nil) (by decide) OutsOK.nil
  ·
    try simp only [decide_eq_true_eq, decide_eq_false_iff_not, Bool.not_eq_true', Bool.not_eq_false'] at hc1
    try simp only [bne_iff_ne, ne_eq, bne_eq_false_iff_eq] at hc1
    refine AW.skip ?_
    refine AX.pr (Kc 6 (.cel _ _) rfl <| Kc 0 (.cel _ _) rfl <| Kc 1 (.cel _ _) rfl <| Kc 2 (.clo _ _ _) rfl <| Kn) ?_
    refine AX.go ?_
    refine AW.seq ?_
    refine AW.seq ?_
    refine AW.region ?_
    refine AWl.st rfl (OpT.move (A := .cel _ _) (.inl rfl) rfl (okd rfl rfl) (Tm rfl rfl rfl) rfl) rfl ?_
    refine AWl.st rfl (OpT.len rfl rfl (okd rfl rfl) (Tm rfl rfl rfl) el66) rfl ?_
    refine AWl.st rfl (OpT.move (A := .cel _ _) (.inl rfl) rfl (okd rfl rfl) (I rfl) rfl) rfl ?_
    refine AWl.nil ?_
    refine AX.pr (Kc 17 (.cel _ _) rfl <| Kc 16 (.cel _ _) rfl <| Kc 15 (.cel _ _) rfl <| Kc 6 (.cel _ _) rfl <| Kc 1 (.cel _ _) rfl <| Kc 2 (.clo _ _ _) rfl <| Kn) ?_
    refine AX.go ?_
    refine AW.block ?_
    refine AW.loop (fun z : Nat => z ≤ x.length ∧ x.take z = y.take z) (fun z : Nat => keep [(1, .cel (Kd.slice kKnot) y), (2, .clo 79 Kd.unit ()), (15, .cel (Kd.slice kKnot) x), (16, .cel (Kd.int .i64) ((x.length : Nat) : Int)), (17, .cel (Kd.int .i64) (z : Int))]) (fun z : Nat => x.length - z) (0) ⟨Nat.zero_le _, rfl⟩ (Kc 1 _ (Kv rfl rfl) <| Kc 2 _ (rfl) <| Kc 15 _ (Kv rfl rfl) <| Kc 16 _ (Kv rfl rfl) <| Kc 17 _ (Kv rfl rfl) <| Kn) ?_
    intro z hI
    refine AW.seq ?_
    refine AW.region ?_
    refine AWl.st rfl (OpT.lss rfl rfl (okd rfl rfl) (Tm rfl rfl rfl) (Tm rfl rfl rfl)) rfl ?_
    refine AWl.nil ?_
    refine AX.go ?_
    refine AW.seq ?_
    refine AW.cond (t := 18) rfl (by decide) (fun hc2 => ?_) (fun hc2 => ?_)
    ·
      try simp only [decide_eq_true_eq, decide_eq_false_iff_not, Bool.not_eq_true', Bool.not_eq_false'] at hc2
      obtain ⟨a, ha⟩ := getI (x := x) (z := z) (by omega); obtain ⟨b, hb⟩ := getI (x := y) (z := z) (by omega)
      refine AW.skip ?_
      refine AX.go ?_
      refine AW.seq ?_
      refine AW.block ?_
      refine AW.seq ?_
      refine AW.region ?_
      refine AWl.st rfl (OpT.move (A := .cel _ _) (.inl rfl) rfl (okd rfl rfl) (Tm rfl rfl rfl) rfl) rfl ?_
      refine AWl.st rfl (OpT.indexAddr rfl rfl (okd rfl rfl) (Tm rfl rfl rfl) (Tm rfl rfl rfl) el66 sz106 (by omega) (by assumption)) rfl ?_
      refine AWl.st rfl (OpT.loadA rfl rfl (okd rfl rfl) (Tm rfl rfl rfl) ag106 sz106) rfl ?_
      refine AWl.st rfl (OpT.alloc rfl rfl (okd rfl rfl) zr106 zk106) rfl ?_
      refine AWl.st rfl (OpT.move (A := .cel _ _) (.inr rfl) rfl (okd rfl rfl) (Tm rfl rfl rfl) rfl) rfl ?_
      refine AWl.sg rfl (OpT.storeBA rfl rfl (Opd.whole (Root.self (by decide)) rfl) rfl sz106 (by decide) (Tm rfl rfl rfl)) (Kc 7 (.cel _ _) rfl <| Kc 8 (.box _ _ _) rfl <| Kc 21 (.agg _ _) rfl <| Kc 20 (.cel _ _) rfl <| Kc 19 (.cel _ _) rfl <| Kc 18 (.cel _ _) rfl <| Kc 1 (.cel _ _) rfl <| Kc 2 (.clo _ _ _) rfl <| Kc 15 (.cel _ _) rfl <| Kc 16 (.cel _ _) rfl <| Kc 17 (.cel _ _) rfl <| Kn) ?_
      refine AWl.nil ?_
      refine AX.go ?_
      refine AW.seq ?_
      refine AW.region ?_
      refine AWl.st rfl (OpT.move (A := .cel _ _) (.inl rfl) rfl (okd rfl rfl) (Tm rfl rfl rfl) rfl) rfl ?_
      refine AWl.st rfl (OpT.move (A := .cel _ _) (.inl rfl) rfl (okd rfl rfl) (Tm rfl rfl rfl) rfl) rfl ?_
      refine AWl.st rfl (OpT.indexAddr rfl rfl (okd rfl rfl) (Tm rfl rfl rfl) (Tm rfl rfl rfl) el66 sz106 (by omega) (by assumption)) rfl ?_
      refine AWl.st rfl (OpT.loadA rfl rfl (okd rfl rfl) (Tm rfl rfl rfl) ag106 sz106) rfl ?_
      refine AWl.st rfl (OpT.alloc rfl rfl (okd rfl rfl) zr106 zk106) rfl ?_
      refine AWl.sg rfl (OpT.storeBA rfl rfl (Opd.whole (Root.self (by decide)) rfl) rfl sz106 (by decide) (Tm rfl rfl rfl)) (Kc 9 (.box _ _ _) rfl <| Kc 25 (.agg _ _) rfl <| Kc 24 (.cel _ _) rfl <| Kc 23 (.cel _ _) rfl <| Kc 22 (.cel _ _) rfl <| Kc 7 (.cel _ _) rfl <| Kc 8 (.box _ _ _) rfl <| Kc 21 (.agg _ _) rfl <| Kc 20 (.cel _ _) rfl <| Kc 19 (.cel _ _) rfl <| Kc 18 (.cel _ _) rfl <| Kc 1 (.cel _ _) rfl <| Kc 2 (.clo _ _ _) rfl <| Kc 15 (.cel _ _) rfl <| Kc 16 (.cel _ _) rfl <| Kc 17 (.cel _ _) rfl <| Kn) ?_
      refine AWl.nil ?_
      refine AX.go ?_
      refine AW.seq ?_
      refine AW.region ?_
      refine AWl.st rfl (OpT.move (A := .clo _ _ _) (.inl rfl) rfl (okd rfl rfl) (Tm rfl rfl rfl) rfl) rfl ?_
      refine AWl.st rfl (OpT.loadB rfl rfl (okd rfl rfl) (Root.self (by decide)) rfl ag106 sz106) rfl ?_
      refine AWl.st rfl (OpT.loadB rfl rfl (okd rfl rfl) (Root.self (by decide)) rfl ag106 sz106) rfl ?_
      refine AWl.st rfl (OpT.v1 (ms := [.flat, .flat]) (Tm rfl rfl rfl) (c_impl_SameTree_1 _ _) rfl rfl (okd rfl rfl) (Af (Tm rfl rfl rfl) rfl rfl <| Af (Tm rfl rfl rfl) rfl rfl <| An) rfl rfl) rfl ?_
      refine AWl.st rfl (OpT.not rfl rfl (okd rfl rfl) (Tm rfl rfl rfl)) rfl ?_
      refine AWl.nil ?_
      refine AX.go ?_
      refine AW.cond (t := 30) rfl (by decide) (fun hc3 => ?_) (fun hc3 => ?_)
      ·
        try simp only [decide_eq_true_eq, decide_eq_false_iff_not, Bool.not_eq_true', Bool.not_eq_false'] at hc3
        refine AW.seq ?_
        refine AW.region ?_
        refine AWl.st rfl (OpT.move (A := .cel _ _) (.inr rfl) rfl (okd rfl rfl) Opd.bool rfl) rfl ?_
        refine AWl.nil ?_
        refine AX.go ?_
        refine AW.ret ?_
        refine AX.ret_block ?_
        refine AX.ret_then ?_
        refine AX.ret_then ?_
        refine AX.ret_block ?_
        refine AX.ret_then ?_
        exact AX.rt (rs := [.tmp 6]) (ts := [some 6]) (.inl rfl) rfl (ROs.cons (RO.tmp (At.self (by decide)) (Kv rfl (by first | exact eqs_len (by omega) | exact eqs_ne ha hb (by simpa [eqv_iff, eqv_false_iff] using hc3) | exact eqs_all hI.2 (by omega) (by omega))) rfl) <| ROs.nil) (by decide) OutsOK.nil
      ·
        try simp only [decide_eq_true_eq, decide_eq_false_iff_not, Bool.not_eq_true', Bool.not_eq_false'] at hc3
        refine AW.skip ?_
        refine AX.normal_block ?_
        refine AX.go ?_
        refine AW.region ?_
        refine AWl.st rfl (OpT.add rfl rfl (okd rfl rfl) (Tm rfl rfl rfl) (I rfl) (nw (by omega))) rfl ?_
        refine AWl.sg rfl (OpT.move (A := .cel _ _) (.inl rfl) rfl (okd rfl rfl) (Tm rfl rfl rfl) rfl) (Kc 17 (.cel _ _) rfl <| Kc 31 (.cel _ _) rfl <| Kc 30 (.cel _ _) rfl <| Kc 29 (.cel _ _) rfl <| Kc 28 (.agg _ _) rfl <| Kc 27 (.agg _ _) rfl <| Kc 26 (.clo _ _ _) rfl <| Kc 9 (.box _ _ _) rfl <| Kc 25 (.agg _ _) rfl <| Kc 24 (.cel _ _) rfl <| Kc 23 (.cel _ _) rfl <| Kc 22 (.cel _ _) rfl <| Kc 7 (.cel _ _) rfl <| Kc 8 (.box _ _ _) rfl <| Kc 21 (.agg _ _) rfl <| Kc 20 (.cel _ _) rfl <| Kc 19 (.cel _ _) rfl <| Kc 18 (.cel _ _) rfl <| Kc 1 (.cel _ _) rfl <| Kc 2 (.clo _ _ _) rfl <| Kc 15 (.cel _ _) rfl <| Kc 16 (.cel _ _) rfl <| Kn) ?_
        refine AWl.nil ?_
        exact AX.again (z + 1) ⟨by omega, eqs_step hI.2 ha hb (by simpa [eqv_iff, eqv_false_iff] using hc3)⟩ (by omega) (Kc 1 _ (Kv rfl rfl) <| Kc 2 _ (rfl) <| Kc 15 _ (Kv rfl rfl) <| Kc 16 _ (Kv rfl rfl) <| Kc 17 _ (Kv rfl (by omega)) <| Kn)
    ·
      try simp only [decide_eq_true_eq, decide_eq_false_iff_not, Bool.not_eq_true', Bool.not_eq_false'] at hc2
      refine AW.exit ?_
      refine AX.exit_then ?_
      refine AX.exit_then ?_
      refine AX.exit_hit ?_
      refine AX.pr (Kn) ?_
      refine AX.go ?_
      refine AW.seq ?_
      refine AW.region ?_
      refine AWl.st rfl (OpT.move (A := .cel _ _) (.inr rfl) rfl (okd rfl rfl) Opd.bool rfl) rfl ?_
      refine AWl.nil ?_
      refine AX.go ?_
      refine AW.ret ?_
      exact AX.rt (rs := [.tmp 6]) (ts := [some 6]) (.inl rfl) rfl (ROs.cons (RO.tmp (At.self (by decide)) (Kv rfl (by first | exact eqs_len (by omega) | exact eqs_ne ha hb (by simpa [eqv_iff, eqv_false_iff] using hc3) | exact eqs_all hI.2 (by omega) (by omega))) rfl) <| ROs.nil) (by decide) OutsOK.nil

/-- impl.SameTree -/
theorem c_impl_SameTree (x y : List DKnot) : AC Try.prog 36 [.cel (Kd.slice kKnot) x, .cel (Kd.slice kKnot) y] [.cel Kd.bool (eqv x y)] [] := by
  refine ⟨ACall.intro (N := 8) Try.func36 (c := _) (rfl : Func.body _ = some _) rfl (Nat.le_of_ble_eq_true rfl) (Nat.le_of_ble_eq_true rfl) rfl (Nat.le_of_ble_eq_true rfl) fun w0 hd s0 ar har => ?_, _, Try.func36, rfl, by decide⟩
  refine AW.to (Kc 0 (.cel _ _) rfl <| Kc 1 (.cel _ _) rfl <| Kn) ?_
  refine AW.seq ?_
  refine AW.region ?_
  refine AWl.st rfl (OpT.move (A := .cel _ _) (.inr rfl) rfl (okd rfl rfl) Opd.bool rfl) rfl ?_
  refine AWl.nil ?_
  refine AX.go ?_
  refine AW.seq ?_
  refine AW.region ?_
  refine AWl.st rfl (OpT.move (A := .cel _ _) (.inl rfl) rfl (okd rfl rfl) (Tm rfl rfl rfl) rfl) rfl ?_
  refine AWl.st rfl (OpT.move (A := .cel _ _) (.inl rfl) rfl (okd rfl rfl) (Tm rfl rfl rfl) rfl) rfl ?_
  refine AWl.st rfl (OpT.c1 (ms := [.flat, .flat, .flat]) (c_slices_EqualFunc_impl_Knot_impl_Knot_impl_Knot_impl_Knot _ _) rfl rfl (okd rfl rfl) (Af (Tm rfl rfl rfl) rfl rfl <| Af (Tm rfl rfl rfl) rfl rfl <| Af Opd.func rfl rfl <| An) rfl rfl) rfl ?_
  refine AWl.sg rfl (OpT.move (A := .cel _ _) (.inr rfl) rfl (okd rfl rfl) (Tm rfl rfl rfl) rfl) (Kc 4 (.cel _ _) rfl <| Kc 7 (.cel _ _) rfl <| Kc 6 (.cel _ _) rfl <| Kc 5 (.cel _ _) rfl <| Kc 0 (.cel _ _) rfl <| Kc 1 (.cel _ _) rfl <| Kn) ?_
  refine AWl.nil ?_
  refine AX.pr (Kc 4 (.cel _ _) rfl <| Kn) ?_
  refine AX.go ?_
  refine AW.ret ?_
  exact AX.rt (rs := [.tmp 4]) (ts := [some 4]) (.inl rfl) rfl (ROs.cons (RO.tmp (At.self (by decide)) (Kv rfl rfl) rfl) <| ROs.nil) (by decide) OutsOK.nil

set_option maxHeartbeats 4000000 in
/-- laws.FnExactSameTree -/
theorem c_laws_FnExactSameTree (x y : List DKnot) : AC Try.prog 9 [.cel (Kd.slice kKnot) x, .cel (Kd.slice kKnot) y] [.cel Kd.bool true] [] := by
  refine ⟨ACall.intro (N := 45) Try.func9 (c := _) (rfl : Func.body _ = some _) rfl (Nat.le_of_ble_eq_true rfl) (Nat.le_of_ble_eq_true rfl) rfl (Nat.le_of_ble_eq_true rfl) fun w0 hd s0 ar har => ?_, _, Try.func9, rfl, by decide⟩
  refine AW.to (Kc 0 (.cel _ _) rfl <| Kc 1 (.cel _ _) rfl <| Kn) ?_
  refine AW.seq ?_
  refine AW.region ?_
  refine AWl.st rfl (OpT.move (A := .cel _ _) (.inr rfl) rfl (okd rfl rfl) Opd.bool rfl) rfl ?_
  refine AWl.nil ?_
  refine AX.go ?_
  refine AW.seq ?_
  refine AW.region ?_
  refine AWl.st rfl (OpT.move (A := .cel _ _) (.inr rfl) rfl (okd rfl rfl) (I rfl) rfl) rfl ?_
  refine AWl.nil ?_
  refine AX.go ?_
  refine AW.seq ?_
  refine AW.region ?_
  refine AWl.st rfl (OpT.move (A := .cel _ _) (.inl rfl) rfl (okd rfl rfl) (Tm rfl rfl rfl) rfl) rfl ?_
  refine AWl.st rfl (OpT.move (A := .cel _ _) (.inl rfl) rfl (okd rfl rfl) (Tm rfl rfl rfl) rfl) rfl ?_
  refine AWl.st rfl (OpT.c1 (ms := [.flat, .flat]) (c_laws_szKnotS _ _ (by omega)) rfl rfl (okd rfl rfl) (Af (Tm rfl rfl rfl) rfl rfl <| Af (Tm rfl rfl rfl) rfl rfl <| An) rfl rfl) rfl ?_
  refine AWl.sg rfl (OpT.move (A := .cel _ _) (.inr rfl) rfl (okd rfl rfl) (Tm rfl rfl rfl) rfl) (Kc 5 (.cel _ _) rfl <| Kc 12 (.cel _ _) rfl <| Kc 11 (.cel _ _) rfl <| Kc 10 (.cel _ _) rfl <| Kc 4 (.cel _ _) rfl <| Kc 0 (.cel _ _) rfl <| Kc 1 (.cel _ _) rfl <| Kn) ?_
  refine AWl.nil ?_
  refine AX.pr (Kc 5 (.cel _ _) rfl <| Kc 4 (.cel _ _) rfl <| Kc 0 (.cel _ _) rfl <| Kc 1 (.cel _ _) rfl <| Kn) ?_
  refine AX.go ?_
  refine AW.seq ?_
  refine AW.seq ?_
  refine AW.region ?_
  refine AWl.st rfl (OpT.move (A := .cel _ _) (.inl rfl) rfl (okd rfl rfl) (Tm rfl rfl rfl) rfl) rfl ?_
  refine AWl.st rfl (OpT.lss rfl rfl (okd rfl rfl) (Tm rfl rfl rfl) (I rfl)) rfl ?_
  refine AWl.nil ?_
  refine AX.pr (Kc 14 (.cel _ _) rfl <| Kc 5 (.cel _ _) rfl <| Kc 4 (.cel _ _) rfl <| Kc 0 (.cel _ _) rfl <| Kc 1 (.cel _ _) rfl <| Kn) ?_
  refine AX.go ?_
  refine AW.cond (t := 14) rfl (by decide) (fun hc1 => ?_) (fun hc1 => ?_)
  ·
    try simp only [decide_eq_true_eq, decide_eq_false_iff_not, Bool.not_eq_true', Bool.not_eq_false'] at hc1
    refine AW.seq ?_
    refine AW.region ?_
    refine AWl.sg rfl (OpT.move (A := .cel _ _) (.inr rfl) rfl (okd rfl rfl) Opd.bool rfl) (Kc 4 (.cel _ _) rfl <| Kc 14 (.cel _ _) rfl <| Kc 5 (.cel _ _) rfl <| Kc 0 (.cel _ _) rfl <| Kc 1 (.cel _ _) rfl <| Kn) ?_
    refine AWl.nil ?_
    refine AX.pr (Kc 4 (.cel _ _) rfl <| Kc 5 (.cel _ _) rfl <| Kc 0 (.cel _ _) rfl <| Kc 1 (.cel _ _) rfl <| Kn) ?_
    refine AX.go ?_
    refine AW.ret ?_
    refine AX.ret_then ?_
    exact AX.rt (rs := [.tmp 4]) (ts := [some 4]) (.inl rfl) rfl (ROs.cons (RO.tmp (At.self (by decide)) (Kv rfl (by simp_all [eqv_self])) rfl) <| ROs.nil) (by decide) OutsOK.nil
  ·
    try simp only [decide_eq_true_eq, decide_eq_false_iff_not, Bool.not_eq_true', Bool.not_eq_false'] at hc1
    have k0 := szKS_in x (l := 1048576) (by omega)
    have k1 := k0.2.2 (by omega)
    refine AW.skip ?_
    refine AX.pr (Kc 5 (.cel _ _) rfl <| Kc 4 (.cel _ _) rfl <| Kc 0 (.cel _ _) rfl <| Kc 1 (.cel _ _) rfl <| Kn) ?_
    refine AX.go ?_
    refine AW.seq ?_
    refine AW.region ?_
    refine AWl.st rfl (OpT.move (A := .cel _ _) (.inl rfl) rfl (okd rfl rfl) (Tm rfl rfl rfl) rfl) rfl ?_
    refine AWl.st rfl (OpT.move (A := .cel _ _) (.inl rfl) rfl (okd rfl rfl) (Tm rfl rfl rfl) rfl) rfl ?_
    refine AWl.st rfl (OpT.c1 (ms := [.flat, .flat]) (c_laws_szKnotS _ _ (by omega)) rfl rfl (okd rfl rfl) (Af (Tm rfl rfl rfl) rfl rfl <| Af (Tm rfl rfl rfl) rfl rfl <| An) rfl rfl) rfl ?_
    refine AWl.sg rfl (OpT.move (A := .cel _ _) (.inr rfl) rfl (okd rfl rfl) (Tm rfl rfl rfl) rfl) (Kc 5 (.cel _ _) rfl <| Kc 17 (.cel _ _) rfl <| Kc 16 (.cel _ _) rfl <| Kc 15 (.cel _ _) rfl <| Kc 4 (.cel _ _) rfl <| Kc 0 (.cel _ _) rfl <| Kc 1 (.cel _ _) rfl <| Kn) ?_
    refine AWl.nil ?_
    refine AX.pr (Kc 5 (.cel _ _) rfl <| Kc 4 (.cel _ _) rfl <| Kc 0 (.cel _ _) rfl <| Kc 1 (.cel _ _) rfl <| Kn) ?_
    refine AX.go ?_
    refine AW.seq ?_
    refine AW.seq ?_
    refine AW.region ?_
    refine AWl.st rfl (OpT.move (A := .cel _ _) (.inl rfl) rfl (okd rfl rfl) (Tm rfl rfl rfl) rfl) rfl ?_
    refine AWl.st rfl (OpT.lss rfl rfl (okd rfl rfl) (Tm rfl rfl rfl) (I rfl)) rfl ?_
    refine AWl.nil ?_
    refine AX.pr (Kc 19 (.cel _ _) rfl <| Kc 4 (.cel _ _) rfl <| Kc 0 (.cel _ _) rfl <| Kc 1 (.cel _ _) rfl <| Kn) ?_
    refine AX.go ?_
    refine AW.cond (t := 19) rfl (by decide) (fun hc2 => ?_) (fun hc2 => ?_)
    ·
      try simp only [decide_eq_true_eq, decide_eq_false_iff_not, Bool.not_eq_true', Bool.not_eq_false'] at hc2
      refine AW.seq ?_
      refine AW.region ?_
      refine AWl.sg rfl (OpT.move (A := .cel _ _) (.inr rfl) rfl (okd rfl rfl) Opd.bool rfl) (Kc 4 (.cel _ _) rfl <| Kc 19 (.cel _ _) rfl <| Kc 0 (.cel _ _) rfl <| Kc 1 (.cel _ _) rfl <| Kn) ?_
      refine AWl.nil ?_
      refine AX.pr (Kc 4 (.cel _ _) rfl <| Kc 0 (.cel _ _) rfl <| Kc 1 (.cel _ _) rfl <| Kn) ?_
      refine AX.go ?_
      refine AW.ret ?_
      refine AX.ret_then ?_
      exact AX.rt (rs := [.tmp 4]) (ts := [some 4]) (.inl rfl) rfl (ROs.cons (RO.tmp (At.self (by decide)) (Kv rfl (by simp_all [eqv_self])) rfl) <| ROs.nil) (by decide) OutsOK.nil
    ·
      try simp only [decide_eq_true_eq, decide_eq_false_iff_not, Bool.not_eq_true', Bool.not_eq_false'] at hc2
      have k2 := (szKS_in y (l := szKS x 1048576) (by omega)).2.2 (by omega)
      refine AW.skip ?_
      refine AX.pr (Kc 4 (.cel _ _) rfl <| Kc 0 (.cel _ _) rfl <| Kc 1 (.cel _ _) rfl <| Kn) ?_
      refine AX.go ?_
      refine AW.seq ?_
      refine AW.region ?_
      refine AWl.st rfl (OpT.move (A := .cel _ _) (.inl rfl) rfl (okd rfl rfl) (Tm rfl rfl rfl) rfl) rfl ?_
      refine AWl.st rfl (OpT.c1 (ms := [.flat]) (c_laws_toKnotS x k1) rfl rfl (okd rfl rfl) (Af (Tm rfl rfl rfl) rfl rfl <| An) rfl rfl) rfl ?_
      refine AWl.st rfl (OpT.move (A := .cel _ _) (.inl rfl) rfl (okd rfl rfl) (Tm rfl rfl rfl) rfl) rfl ?_
      refine AWl.st rfl (OpT.c1 (ms := [.flat]) (c_laws_toKnotS y k2) rfl rfl (okd rfl rfl) (Af (Tm rfl rfl rfl) rfl rfl <| An) rfl rfl) rfl ?_
      refine AWl.st rfl (OpT.c1 (ms := [.flat, .flat]) (c_spec_SameTree _ _) rfl rfl (okd rfl rfl) (Af (Tm rfl rfl rfl) rfl rfl <| Af (Tm rfl rfl rfl) rfl rfl <| An) rfl rfl) rfl ?_
      refine AWl.st rfl (OpT.move (A := .cel _ _) (.inr rfl) rfl (okd rfl rfl) (Tm rfl rfl rfl) rfl) rfl ?_
      refine AWl.nil ?_
      refine AX.pr (Kc 6 (.cel _ _) rfl <| Kc 4 (.cel _ _) rfl <| Kc 0 (.cel _ _) rfl <| Kc 1 (.cel _ _) rfl <| Kn) ?_
      refine AX.go ?_
      refine AW.seq ?_
      refine AW.region ?_
      refine AWl.st rfl (OpT.move (A := .cel _ _) (.inl rfl) rfl (okd rfl rfl) (Tm rfl rfl rfl) rfl) rfl ?_
      refine AWl.st rfl (OpT.c1 (ms := [.flat]) (c_laws_toKnotS x k1) rfl rfl (okd rfl rfl) (Af (Tm rfl rfl rfl) rfl rfl <| An) rfl rfl) rfl ?_
      refine AWl.st rfl (OpT.move (A := .cel _ _) (.inr rfl) rfl (okd rfl rfl) (Tm rfl rfl rfl) rfl) rfl ?_
      refine AWl.nil ?_
      refine AX.pr (Kc 7 (.cel _ _) rfl <| Kc 6 (.cel _ _) rfl <| Kc 4 (.cel _ _) rfl <| Kc 0 (.cel _ _) rfl <| Kc 1 (.cel _ _) rfl <| Kn) ?_
      refine AX.go ?_
      refine AW.seq ?_
      refine AW.region ?_
      refine AWl.st rfl (OpT.move (A := .cel _ _) (.inl rfl) rfl (okd rfl rfl) (Tm rfl rfl rfl) rfl) rfl ?_
      refine AWl.st rfl (OpT.c1 (ms := [.flat]) (c_laws_toKnotS y k2) rfl rfl (okd rfl rfl) (Af (Tm rfl rfl rfl) rfl rfl <| An) rfl rfl) rfl ?_
      refine AWl.st rfl (OpT.move (A := .cel _ _) (.inr rfl) rfl (okd rfl rfl) (Tm rfl rfl rfl) rfl) rfl ?_
      refine AWl.nil ?_
      refine AX.pr (Kc 8 (.cel _ _) rfl <| Kc 7 (.cel _ _) rfl <| Kc 6 (.cel _ _) rfl <| Kc 4 (.cel _ _) rfl <| Kc 0 (.cel _ _) rfl <| Kc 1 (.cel _ _) rfl <| Kn) ?_
      refine AX.go ?_
      refine AW.seq ?_
      refine AW.region ?_
      refine AWl.st rfl (OpT.move (A := .cel _ _) (.inl rfl) rfl (okd rfl rfl) (Tm rfl rfl rfl) rfl) rfl ?_
      refine AWl.st rfl (OpT.move (A := .cel _ _) (.inl rfl) rfl (okd rfl rfl) (Tm rfl rfl rfl) rfl) rfl ?_
      refine AWl.st rfl (OpT.c1 (ms := [.flat, .flat]) (c_impl_SameTree _ _) rfl rfl (okd rfl rfl) (Af (Tm rfl rfl rfl) rfl rfl <| Af (Tm rfl rfl rfl) rfl rfl <| An) rfl rfl) rfl ?_
      refine AWl.st rfl (OpT.move (A := .cel _ _) (.inr rfl) rfl (okd rfl rfl) (Tm rfl rfl rfl) rfl) rfl ?_
      refine AWl.nil ?_
      refine AX.pr (Kc 9 (.cel _ _) rfl <| Kc 8 (.cel _ _) rfl <| Kc 7 (.cel _ _) rfl <| Kc 6 (.cel _ _) rfl <| Kc 4 (.cel _ _) rfl <| Kc 0 (.cel _ _) rfl <| Kc 1 (.cel _ _) rfl <| Kn) ?_
      refine AX.go ?_
      refine AW.seq ?_
      refine AW.seq ?_
      refine AW.region ?_
      refine AWl.st rfl (OpT.move (A := .cel _ _) (.inl rfl) rfl (okd rfl rfl) (Tm rfl rfl rfl) rfl) rfl ?_
      refine AWl.st rfl (OpT.move (A := .cel _ _) (.inl rfl) rfl (okd rfl rfl) (Tm rfl rfl rfl) rfl) rfl ?_
      refine AWl.st rfl (OpT.bneq rfl rfl (okd rfl rfl) Try.underlying4 (Tm rfl rfl rfl) (Tm rfl rfl rfl)) rfl ?_
      refine AWl.nil ?_
      refine AX.pr (Kc 34 (.cel _ _) rfl <| Kc 8 (.cel _ _) rfl <| Kc 7 (.cel _ _) rfl <| Kc 4 (.cel _ _) rfl <| Kc 0 (.cel _ _) rfl <| Kc 1 (.cel _ _) rfl <| Kn) ?_
      refine AX.go ?_
      refine AW.cond (t := 34) rfl (by decide) (fun hc3 => ?_) (fun hc3 => ?_)
      ·
        try simp only [decide_eq_true_eq, decide_eq_false_iff_not, Bool.not_eq_true', Bool.not_eq_false'] at hc3
        refine AW.seq ?_
        refine AW.region ?_
        refine AWl.sg rfl (OpT.move (A := .cel _ _) (.inr rfl) rfl (okd rfl rfl) Opd.bool rfl) (Kc 4 (.cel _ _) rfl <| Kc 34 (.cel _ _) rfl <| Kc 8 (.cel _ _) rfl <| Kc 7 (.cel _ _) rfl <| Kc 0 (.cel _ _) rfl <| Kc 1 (.cel _ _) rfl <| Kn) ?_
        refine AWl.nil ?_
        refine AX.pr (Kc 4 (.cel _ _) rfl <| Kc 8 (.cel _ _) rfl <| Kc 7 (.cel _ _) rfl <| Kc 0 (.cel _ _) rfl <| Kc 1 (.cel _ _) rfl <| Kn) ?_
        refine AX.go ?_
        refine AW.ret ?_
        refine AX.ret_then ?_
        exact AX.rt (rs := [.tmp 4]) (ts := [some 4]) (.inl rfl) rfl (ROs.cons (RO.tmp (At.self (by decide)) (Kv rfl (by simp_all [eqv_self])) rfl) <| ROs.nil) (by decide) OutsOK.nil
      ·
        try simp only [decide_eq_true_eq, decide_eq_false_iff_not, Bool.not_eq_true', Bool.not_eq_false'] at hc3
        refine AW.skip ?_
        refine AX.pr (Kc 8 (.cel _ _) rfl <| Kc 7 (.cel _ _) rfl <| Kc 4 (.cel _ _) rfl <| Kc 0 (.cel _ _) rfl <| Kc 1 (.cel _ _) rfl <| Kn) ?_
        refine AX.go ?_
        refine AW.seq ?_
        refine AW.seq ?_
        refine AW.region ?_
        refine AWl.st rfl (OpT.move (A := .cel _ _) (.inl rfl) rfl (okd rfl rfl) (Tm rfl rfl rfl) rfl) rfl ?_
        refine AWl.st rfl (OpT.move (A := .cel _ _) (.inl rfl) rfl (okd rfl rfl) (Tm rfl rfl rfl) rfl) rfl ?_
        refine AWl.st rfl (OpT.c1 (ms := [.flat]) (c_laws_toKnotS x k1) rfl rfl (okd rfl rfl) (Af (Tm rfl rfl rfl) rfl rfl <| An) rfl rfl) rfl ?_
        refine AWl.st rfl (OpT.c1 (ms := [.flat, .flat]) (c_laws_eqKnotS _ _) rfl rfl (okd rfl rfl) (Af (Tm rfl rfl rfl) rfl rfl <| Af (Tm rfl rfl rfl) rfl rfl <| An) rfl rfl) rfl ?_
        refine AWl.st rfl (OpT.not rfl rfl (okd rfl rfl) (Tm rfl rfl rfl)) rfl ?_
        refine AWl.nil ?_
        refine AX.pr (Kc 39 (.cel _ _) rfl <| Kc 8 (.cel _ _) rfl <| Kc 4 (.cel _ _) rfl <| Kc 1 (.cel _ _) rfl <| Kn) ?_
        refine AX.go ?_
        refine AW.cond (t := 39) rfl (by decide) (fun hc4 => ?_) (fun hc4 => ?_)
        ·
          try simp only [decide_eq_true_eq, decide_eq_false_iff_not, Bool.not_eq_true', Bool.not_eq_false'] at hc4
          refine AW.seq ?_
          refine AW.region ?_
          refine AWl.sg rfl (OpT.move (A := .cel _ _) (.inr rfl) rfl (okd rfl rfl) Opd.bool rfl) (Kc 4 (.cel _ _) rfl <| Kc 39 (.cel _ _) rfl <| Kc 8 (.cel _ _) rfl <| Kc 1 (.cel _ _) rfl <| Kn) ?_
          refine AWl.nil ?_
          refine AX.pr (Kc 4 (.cel _ _) rfl <| Kc 8 (.cel _ _) rfl <| Kc 1 (.cel _ _) rfl <| Kn) ?_
          refine AX.go ?_
          refine AW.ret ?_
          refine AX.ret_then ?_
          exact AX.rt (rs := [.tmp 4]) (ts := [some 4]) (.inl rfl) rfl (ROs.cons (RO.tmp (At.self (by decide)) (Kv rfl (by simp_all [eqv_self])) rfl) <| ROs.nil) (by decide) OutsOK.nil
        ·
          try simp only [decide_eq_true_eq, decide_eq_false_iff_not, Bool.not_eq_true', Bool.not_eq_false'] at hc4
          refine AW.skip ?_
          refine AX.pr (Kc 8 (.cel _ _) rfl <| Kc 4 (.cel _ _) rfl <| Kc 1 (.cel _ _) rfl <| Kn) ?_
          refine AX.go ?_
          refine AW.seq ?_
          refine AW.seq ?_
          refine AW.region ?_
          refine AWl.st rfl (OpT.move (A := .cel _ _) (.inl rfl) rfl (okd rfl rfl) (Tm rfl rfl rfl) rfl) rfl ?_
          refine AWl.st rfl (OpT.move (A := .cel _ _) (.inl rfl) rfl (okd rfl rfl) (Tm rfl rfl rfl) rfl) rfl ?_
          refine AWl.st rfl (OpT.c1 (ms := [.flat]) (c_laws_toKnotS y k2) rfl rfl (okd rfl rfl) (Af (Tm rfl rfl rfl) rfl rfl <| An) rfl rfl) rfl ?_
          refine AWl.st rfl (OpT.c1 (ms := [.flat, .flat]) (c_laws_eqKnotS _ _) rfl rfl (okd rfl rfl) (Af (Tm rfl rfl rfl) rfl rfl <| Af (Tm rfl rfl rfl) rfl rfl <| An) rfl rfl) rfl ?_
          refine AWl.st rfl (OpT.not rfl rfl (okd rfl rfl) (Tm rfl rfl rfl)) rfl ?_
          refine AWl.nil ?_
          refine AX.pr (Kc 44 (.cel _ _) rfl <| Kc 4 (.cel _ _) rfl <| Kn) ?_
          refine AX.go ?_
          refine AW.cond (t := 44) rfl (by decide) (fun hc5 => ?_) (fun hc5 => ?_)
          ·
            try simp only [decide_eq_true_eq, decide_eq_false_iff_not, Bool.not_eq_true', Bool.not_eq_false'] at hc5
            refine AW.seq ?_
            refine AW.region ?_
            refine AWl.sg rfl (OpT.move (A := .cel _ _) (.inr rfl) rfl (okd rfl rfl) Opd.bool rfl) (Kc 4 (.cel _ _) rfl <| Kc 44 (.cel _ _) rfl <| Kn) ?_
            refine AWl.nil ?_
            refine AX.pr (Kc 4 (.cel _ _) rfl <| Kn) ?_
            refine AX.go ?_
            refine AW.ret ?_
            refine AX.ret_then ?_
            exact AX.rt (rs := [.tmp 4]) (ts := [some 4]) (.inl rfl) rfl (ROs.cons (RO.tmp (At.self (by decide)) (Kv rfl (by simp_all [eqv_self])) rfl) <| ROs.nil) (by decide) OutsOK.nil
          ·
            try simp only [decide_eq_true_eq, decide_eq_false_iff_not, Bool.not_eq_true', Bool.not_eq_false'] at hc5
            refine AW.skip ?_
            refine AX.pr (Kc 4 (.cel _ _) rfl <| Kn) ?_
            refine AX.go ?_
            refine AW.seq ?_
            refine AW.region ?_
            refine AWl.sg rfl (OpT.move (A := .cel _ _) (.inr rfl) rfl (okd rfl rfl) Opd.bool rfl) (Kc 4 (.cel _ _) rfl <| Kn) ?_
            refine AWl.nil ?_
            refine AX.go ?_
            refine AW.ret ?_
            exact AX.rt (rs := [.tmp 4]) (ts := [some 4]) (.inl rfl) rfl (ROs.cons (RO.tmp (At.self (by decide)) (Kv rfl (by simp_all [eqv_self])) rfl) <| ROs.nil) (by decide) OutsOK.nil
end Go.Proofs.Ytdjbdaidnlbhhaa.VL
