/- Proved here: what some functions of the program take and give: walks with the words of VA..VQ. Printed by program. -/
import Derived.Test.YtdjbdaidnlbhhaaWT
import Derived.Test.YtdjbdaidnlbhhaaPC
import Derived.Test.YtdjbdaidnlbhhaaWB
set_option linter.unusedVariables false
set_option linter.unusedSimpArgs false
set_option maxRecDepth 4000
namespace Go.Proofs.Ytdjbdaidnlbhhaa.VL
open Go
/-- laws.szInt64S -/
theorem c_laws_szInt64S (x : List (Int)) (l : Int) (hl : 0 ≤ l ∧ l ≤ 1048576) : AC Try.prog 66 [.cel (Kd.slice (Kd.int .i64)) x, .cel (Kd.int .i64) l] [.cel (Kd.int .i64) (szL x l)] [] := by
  refine ⟨ACall.intro (N := 12) Try.func66 (c := _) (rfl : Func.body _ = some _) rfl (Nat.le_of_ble_eq_true rfl) (Nat.le_of_ble_eq_true rfl) rfl (Nat.le_of_ble_eq_true rfl) fun w0 hd s0 ar har => ?_, _, Try.func66, rfl, by decide⟩
  refine AW.to (Kc 0 (.cel _ _) rfl <| Kc 1 (.cel _ _) rfl <| Kn) ?_
  refine AW.fact (fun a w hr => (ok_slice (R_ok (t := 0) rfl hr)).2) (fun hl0 => ?_)
  refine AW.seq ?_
  refine AW.region ?_
  refine AWl.st rfl (OpT.move (A := .cel _ _) (.inr rfl) rfl (okd rfl rfl) (I rfl) rfl) rfl ?_
  refine AWl.nil ?_
  refine AX.go ?_
  refine AW.seq ?_
  refine AW.region ?_
  refine AWl.st rfl (OpT.move (A := .cel _ _) (.inl rfl) rfl (okd rfl rfl) (Tm rfl rfl rfl) rfl) rfl ?_
  refine AWl.st rfl (OpT.move (A := .cel _ _) (.inl rfl) rfl (okd rfl rfl) (Tm rfl rfl rfl) rfl) rfl ?_
  refine AWl.st rfl (OpT.len rfl rfl (okd rfl rfl) (Tm rfl rfl rfl) el50) rfl ?_
  refine AWl.st rfl (OpT.sub rfl rfl (okd rfl rfl) (Tm rfl rfl rfl) (Tm rfl rfl rfl) (nw (by omega))) rfl ?_
  refine AWl.sg rfl (OpT.move (A := .cel _ _) (.inr rfl) rfl (okd rfl rfl) (Tm rfl rfl rfl) rfl) (Kc 1 (.cel _ _) rfl <| Kc 8 (.cel _ _) rfl <| Kc 7 (.cel _ _) rfl <| Kc 6 (.cel _ _) rfl <| Kc 5 (.cel _ _) rfl <| Kc 4 (.cel _ _) rfl <| Kc 0 (.cel _ _) rfl <| Kn) ?_
  refine AWl.nil ?_
  refine AX.pr (Kc 1 (.cel _ _) rfl <| Kc 4 (.cel _ _) rfl <| Kn) ?_
  refine AX.go ?_
  refine AW.seq ?_
  refine AW.seq ?_
  refine AW.region ?_
  refine AWl.st rfl (OpT.move (A := .cel _ _) (.inl rfl) rfl (okd rfl rfl) (Tm rfl rfl rfl) rfl) rfl ?_
  refine AWl.st rfl (OpT.lss rfl rfl (okd rfl rfl) (Tm rfl rfl rfl) (I rfl)) rfl ?_
  refine AWl.nil ?_
  refine AX.pr (Kc 10 (.cel _ _) rfl <| Kc 1 (.cel _ _) rfl <| Kc 4 (.cel _ _) rfl <| Kn) ?_
  refine AX.go ?_
  refine AW.cond (t := 10) rfl (by decide) (fun hc1 => ?_) (fun hc1 => ?_)
  ·
    try simp only [decide_eq_true_eq, decide_eq_false_iff_not, Bool.not_eq_true', Bool.not_eq_false'] at hc1
    refine AW.seq ?_
    refine AW.region ?_
    refine AWl.sg rfl (OpT.move (A := .cel _ _) (.inr rfl) rfl (okd rfl rfl) (I rfl) rfl) (Kc 4 (.cel _ _) rfl <| Kc 10 (.cel _ _) rfl <| Kc 1 (.cel _ _) rfl <| Kn) ?_
    refine AWl.nil ?_
    refine AX.pr (Kc 4 (.cel _ _) rfl <| Kc 1 (.cel _ _) rfl <| Kn) ?_
    refine AX.go ?_
    refine AW.ret ?_
    refine AX.ret_then ?_
    exact AX.rt (rs := [.tmp 4]) (ts := [some 4]) (.inl rfl) rfl (ROs.cons (RO.tmp (At.self (by decide)) (Kv rfl (by unfold szL; split <;> first | rfl | omega)) rfl) <| ROs.nil) (by decide) OutsOK.nil
  ·
    try simp only [decide_eq_true_eq, decide_eq_false_iff_not, Bool.not_eq_true', Bool.not_eq_false'] at hc1
    refine AW.skip ?_
    refine AX.pr (Kc 1 (.cel _ _) rfl <| Kc 4 (.cel _ _) rfl <| Kn) ?_
    refine AX.go ?_
    refine AW.seq ?_
    refine AW.region ?_
    refine AWl.st rfl (OpT.move (A := .cel _ _) (.inl rfl) rfl (okd rfl rfl) (Tm rfl rfl rfl) rfl) rfl ?_
    refine AWl.sg rfl (OpT.move (A := .cel _ _) (.inr rfl) rfl (okd rfl rfl) (Tm rfl rfl rfl) rfl) (Kc 4 (.cel _ _) rfl <| Kc 11 (.cel _ _) rfl <| Kc 1 (.cel _ _) rfl <| Kn) ?_
    refine AWl.nil ?_
    refine AX.pr (Kc 4 (.cel _ _) rfl <| Kn) ?_
    refine AX.go ?_
    refine AW.ret ?_
    exact AX.rt (rs := [.tmp 4]) (ts := [some 4]) (.inl rfl) rfl (ROs.cons (RO.tmp (At.self (by decide)) (Kv rfl (by unfold szL; split <;> first | rfl | omega)) rfl) <| ROs.nil) (by decide) OutsOK.nil

/-- laws.szWitnessS -/
theorem c_laws_szWitnessS (x : List (Int × Int)) (l : Int) (hl : 0 ≤ l ∧ l ≤ 1048576) : AC Try.prog 67 [.cel (Kd.slice kWit) x, .cel (Kd.int .i64) l] [.cel (Kd.int .i64) (szL x l)] [] := by
  refine ⟨ACall.intro (N := 12) Try.func67 (c := _) (rfl : Func.body _ = some _) rfl (Nat.le_of_ble_eq_true rfl) (Nat.le_of_ble_eq_true rfl) rfl (Nat.le_of_ble_eq_true rfl) fun w0 hd s0 ar har => ?_, _, Try.func67, rfl, by decide⟩
  refine AW.to (Kc 0 (.cel _ _) rfl <| Kc 1 (.cel _ _) rfl <| Kn) ?_
  refine AW.fact (fun a w hr => (ok_slice (R_ok (t := 0) rfl hr)).2) (fun hl0 => ?_)
  refine AW.seq ?_
  refine AW.region ?_
  refine AWl.st rfl (OpT.move (A := .cel _ _) (.inr rfl) rfl (okd rfl rfl) (I rfl) rfl) rfl ?_
  refine AWl.nil ?_
  refine AX.go ?_
  refine AW.seq ?_
  refine AW.region ?_
  refine AWl.st rfl (OpT.move (A := .cel _ _) (.inl rfl) rfl (okd rfl rfl) (Tm rfl rfl rfl) rfl) rfl ?_
  refine AWl.st rfl (OpT.move (A := .cel _ _) (.inl rfl) rfl (okd rfl rfl) (Tm rfl rfl rfl) rfl) rfl ?_
  refine AWl.st rfl (OpT.len rfl rfl (okd rfl rfl) (Tm rfl rfl rfl) el51) rfl ?_
  refine AWl.st rfl (OpT.sub rfl rfl (okd rfl rfl) (Tm rfl rfl rfl) (Tm rfl rfl rfl) (nw (by omega))) rfl ?_
  refine AWl.sg rfl (OpT.move (A := .cel _ _) (.inr rfl) rfl (okd rfl rfl) (Tm rfl rfl rfl) rfl) (Kc 1 (.cel _ _) rfl <| Kc 8 (.cel _ _) rfl <| Kc 7 (.cel _ _) rfl <| Kc 6 (.cel _ _) rfl <| Kc 5 (.cel _ _) rfl <| Kc 4 (.cel _ _) rfl <| Kc 0 (.cel _ _) rfl <| Kn) ?_
  refine AWl.nil ?_
  refine AX.pr (Kc 1 (.cel _ _) rfl <| Kc 4 (.cel _ _) rfl <| Kn) ?_
  refine AX.go ?_
  refine AW.seq ?_
  refine AW.seq ?_
  refine AW.region ?_
  refine AWl.st rfl (OpT.move (A := .cel _ _) (.inl rfl) rfl (okd rfl rfl) (Tm rfl rfl rfl) rfl) rfl ?_
  refine AWl.st rfl (OpT.lss rfl rfl (okd rfl rfl) (Tm rfl rfl rfl) (I rfl)) rfl ?_
  refine AWl.nil ?_
  refine AX.pr (Kc 10 (.cel _ _) rfl <| Kc 1 (.cel _ _) rfl <| Kc 4 (.cel _ _) rfl <| Kn) ?_
  refine AX.go ?_
  refine AW.cond (t := 10) rfl (by decide) (fun hc1 => ?_) (fun hc1 => ?_)
  ·
    try simp only [decide_eq_true_eq, decide_eq_false_iff_not, Bool.not_eq_true', Bool.not_eq_false'] at hc1
    refine AW.seq ?_
    refine AW.region ?_
    refine AWl.sg rfl (OpT.move (A := .cel _ _) (.inr rfl) rfl (okd rfl rfl) (I rfl) rfl) (Kc 4 (.cel _ _) rfl <| Kc 10 (.cel _ _) rfl <| Kc 1 (.cel _ _) rfl <| Kn) ?_
    refine AWl.nil ?_
    refine AX.pr (Kc 4 (.cel _ _) rfl <| Kc 1 (.cel _ _) rfl <| Kn) ?_
    refine AX.go ?_
    refine AW.ret ?_
    refine AX.ret_then ?_
    exact AX.rt (rs := [.tmp 4]) (ts := [some 4]) (.inl rfl) rfl (ROs.cons (RO.tmp (At.self (by decide)) (Kv rfl (by unfold szL; split <;> first | rfl | omega)) rfl) <| ROs.nil) (by decide) OutsOK.nil
  ·
    try simp only [decide_eq_true_eq, decide_eq_false_iff_not, Bool.not_eq_true', Bool.not_eq_false'] at hc1
    refine AW.skip ?_
    refine AX.pr (Kc 1 (.cel _ _) rfl <| Kc 4 (.cel _ _) rfl <| Kn) ?_
    refine AX.go ?_
    refine AW.seq ?_
    refine AW.region ?_
    refine AWl.st rfl (OpT.move (A := .cel _ _) (.inl rfl) rfl (okd rfl rfl) (Tm rfl rfl rfl) rfl) rfl ?_
    refine AWl.sg rfl (OpT.move (A := .cel _ _) (.inr rfl) rfl (okd rfl rfl) (Tm rfl rfl rfl) rfl) (Kc 4 (.cel _ _) rfl <| Kc 11 (.cel _ _) rfl <| Kc 1 (.cel _ _) rfl <| Kn) ?_
    refine AWl.nil ?_
    refine AX.pr (Kc 4 (.cel _ _) rfl <| Kn) ?_
    refine AX.go ?_
    refine AW.ret ?_
    exact AX.rt (rs := [.tmp 4]) (ts := [some 4]) (.inl rfl) rfl (ROs.cons (RO.tmp (At.self (by decide)) (Kv rfl (by unfold szL; split <;> first | rfl | omega)) rfl) <| ROs.nil) (by decide) OutsOK.nil

/-- spec.l00Same -/
theorem c_spec_l00Same (x y : List (Int)) : AC Try.prog 98 [.cel (Kd.slice (Kd.int .i64)) x, .cel (Kd.slice (Kd.int .i64)) y] [.cel Kd.bool (eqv x y)] [] := by
  refine ⟨ACall.intro (N := 26) Try.func98 (c := _) (rfl : Func.body _ = some _) rfl (Nat.le_of_ble_eq_true rfl) (Nat.le_of_ble_eq_true rfl) rfl (Nat.le_of_ble_eq_true rfl) fun w0 hd s0 ar har => ?_, _, Try.func98, rfl, by decide⟩
  refine AW.to (Kc 0 (.cel _ _) rfl <| Kc 1 (.cel _ _) rfl <| Kn) ?_
  refine AW.fact (fun a w hr => (ok_slice (R_ok (t := 0) rfl hr)).2) (fun hl0 => ?_)
  refine AW.fact (fun a w hr => (ok_slice (R_ok (t := 1) rfl hr)).2) (fun hl1 => ?_)
  refine AW.seq ?_
  refine AW.region ?_
  refine AWl.st rfl (OpT.move (A := .cel _ _) (.inr rfl) rfl (okd rfl rfl) Opd.bool rfl) rfl ?_
  refine AWl.nil ?_
  refine AX.go ?_
  refine AW.seq ?_
  refine AW.seq ?_
  refine AW.region ?_
  refine AWl.st rfl (OpT.move (A := .cel _ _) (.inl rfl) rfl (okd rfl rfl) (Tm rfl rfl rfl) rfl) rfl ?_
  refine AWl.st rfl (OpT.len rfl rfl (okd rfl rfl) (Tm rfl rfl rfl) el50) rfl ?_
  refine AWl.st rfl (OpT.move (A := .cel _ _) (.inl rfl) rfl (okd rfl rfl) (Tm rfl rfl rfl) rfl) rfl ?_
  refine AWl.st rfl (OpT.len rfl rfl (okd rfl rfl) (Tm rfl rfl rfl) el50) rfl ?_
  refine AWl.st rfl (OpT.neq rfl rfl (okd rfl rfl) (Tm rfl rfl rfl) (Tm rfl rfl rfl)) rfl ?_
  refine AWl.nil ?_
  refine AX.pr (Kc 10 (.cel _ _) rfl <| Kc 4 (.cel _ _) rfl <| Kc 0 (.cel _ _) rfl <| Kc 1 (.cel _ _) rfl <| Kn) ?_
  refine AX.go ?_
  refine AW.cond (t := 10) rfl (by decide) (fun hc1 => ?_) (fun hc1 => ?_)
  ·
    try simp only [decide_eq_true_eq, decide_eq_false_iff_not, Bool.not_eq_true', Bool.not_eq_false'] at hc1
    try simp only [bne_iff_ne, ne_eq, bne_eq_false_iff_eq] at hc1
    refine AW.seq ?_
    refine AW.region ?_
    refine AWl.sg rfl (OpT.move (A := .cel _ _) (.inr rfl) rfl (okd rfl rfl) Opd.bool rfl) (Kc 4 (.cel _ _) rfl <| Kc 10 (.cel _ _) rfl <| Kc 0 (.cel _ _) rfl <| Kc 1 (.cel _ _) rfl <| Kn) ?_
    refine AWl.nil ?_
    refine AX.pr (Kc 4 (.cel _ _) rfl <| Kc 0 (.cel _ _) rfl <| Kc 1 (.cel _ _) rfl <| Kn) ?_
    refine AX.go ?_
    refine AW.ret ?_
    refine AX.ret_then ?_
    exact AX.rt (rs := [.tmp 4]) (ts := [some 4]) (.inl rfl) rfl (ROs.cons (RO.tmp (At.self (by decide)) (Kv rfl (by first | exact eqs_len (by omega) | exact eqs_ne ha hb (by simpa [eqv_iff, eqv_false_iff] using hc3) | exact eqs_all hI.2 (by omega) (by omega))) rfl) <| ROs.nil) (by decide) OutsOK.nil
  ·
    try simp only [decide_eq_true_eq, decide_eq_false_iff_not, Bool.not_eq_true', Bool.not_eq_false'] at hc1
    try simp only [bne_iff_ne, ne_eq, bne_eq_false_iff_eq] at hc1
    refine AW.skip ?_
    refine AX.pr (Kc 4 (.cel _ _) rfl <| Kc 0 (.cel _ _) rfl <| Kc 1 (.cel _ _) rfl <| Kn) ?_
    refine AX.go ?_
    refine AW.seq ?_
    refine AW.seq ?_
    refine AW.region ?_
    refine AWl.st rfl (OpT.move (A := .cel _ _) (.inr rfl) rfl (okd rfl rfl) (I rfl) rfl) rfl ?_
    refine AWl.nil ?_
    refine AX.go ?_
    refine AW.block ?_
    refine AW.loop (fun z : Nat => z ≤ x.length ∧ x.take z = y.take z) (fun z : Nat => keep [(0, .cel (Kd.slice (Kd.int .i64)) x), (1, .cel (Kd.slice (Kd.int .i64)) y), (5, .cel (Kd.int .i64) (z : Int))]) (fun z : Nat => x.length - z) (0) ⟨Nat.zero_le _, rfl⟩ (Kc 0 _ (Kv rfl rfl) <| Kc 1 _ (Kv rfl rfl) <| Kc 5 _ (Kv rfl rfl) <| Kn) ?_
    intro z hI
    refine AW.seq ?_
    refine AW.seq ?_
    refine AW.region ?_
    refine AWl.st rfl (OpT.move (A := .cel _ _) (.inl rfl) rfl (okd rfl rfl) (Tm rfl rfl rfl) rfl) rfl ?_
    refine AWl.st rfl (OpT.move (A := .cel _ _) (.inl rfl) rfl (okd rfl rfl) (Tm rfl rfl rfl) rfl) rfl ?_
    refine AWl.st rfl (OpT.len rfl rfl (okd rfl rfl) (Tm rfl rfl rfl) el50) rfl ?_
    refine AWl.st rfl (OpT.lss rfl rfl (okd rfl rfl) (Tm rfl rfl rfl) (Tm rfl rfl rfl)) rfl ?_
    refine AWl.nil ?_
    refine AX.go ?_
    refine AW.cond (t := 14) rfl (by decide) (fun hc2 => ?_) (fun hc2 => ?_)
    ·
      try simp only [decide_eq_true_eq, decide_eq_false_iff_not, Bool.not_eq_true', Bool.not_eq_false'] at hc2
      obtain ⟨a, ha⟩ := getI (x := x) (z := z) (by omega); obtain ⟨b, hb⟩ := getI (x := y) (z := z) (by omega)
      refine AW.skip ?_
      refine AX.go ?_
      refine AW.seq ?_
      refine AW.block ?_
      refine AW.seq ?_
      refine AW.dg fomo ?_
      refine DG.fr (d := 17) [0] (DS rfl fun v h => OpT.move (A := .cel _ _) (.inl rfl) rfl (okd rfl rfl) (D h rfl rfl rfl rfl) rfl) rfl rfl ?_
      refine DG.fr (d := 18) [5] (DS rfl fun v h => OpT.move (A := .cel _ _) (.inl rfl) rfl (okd rfl rfl) (D h rfl rfl rfl rfl) rfl) rfl rfl ?_
      refine DG.fr (d := 19) [17, 18] (DS rfl fun v h => OpT.indexAddr rfl rfl (okd rfl rfl) (D h rfl rfl rfl rfl) (D h rfl rfl rfl rfl) el50 sz2 (by omega) (by assumption)) rfl rfl ?_
      refine DG.fr (d := 20) [19] (DS rfl fun v h => OpT.load rfl rfl (okd rfl rfl) (D h rfl rfl rfl rfl) ag2 rfl) rfl rfl ?_
      refine DG.fr (d := 21) [1] (DS rfl fun v h => OpT.move (A := .cel _ _) (.inl rfl) rfl (okd rfl rfl) (D h rfl rfl rfl rfl) rfl) rfl rfl ?_
      refine DG.fr (d := 22) [5] (DS rfl fun v h => OpT.move (A := .cel _ _) (.inl rfl) rfl (okd rfl rfl) (D h rfl rfl rfl rfl) rfl) rfl rfl ?_
      refine DG.fr (d := 23) [21, 22] (DS rfl fun v h => OpT.indexAddr rfl rfl (okd rfl rfl) (D h rfl rfl rfl rfl) (D h rfl rfl rfl rfl) el50 sz2 (by omega) (by assumption)) rfl rfl ?_
      refine DG.fr (d := 24) [23] (DS rfl fun v h => OpT.load rfl rfl (okd rfl rfl) (D h rfl rfl rfl rfl) ag2 rfl) rfl rfl ?_
      refine DG.fr (d := 25) [20, 24] (DS rfl fun v h => OpT.neq rfl rfl (okd rfl rfl) (D h rfl rfl rfl rfl) (D h rfl rfl rfl rfl)) rfl rfl ?_
      refine DG.nil ⟨by kernel_rfl, by kernel_rfl, ?_⟩
      refine AX.go ?_
      refine AW.cond (t := 25) rfl (by decide) (fun hc3 => ?_) (fun hc3 => ?_)
      ·
        try simp only [decide_eq_true_eq, decide_eq_false_iff_not, Bool.not_eq_true', Bool.not_eq_false'] at hc3
        refine AW.seq ?_
        refine AW.region ?_
        refine AWl.st rfl (OpT.move (A := .cel _ _) (.inr rfl) rfl (okd rfl rfl) Opd.bool rfl) rfl ?_
        refine AWl.nil ?_
        refine AX.go ?_
        refine AW.ret ?_
        refine AX.ret_block ?_
        refine AX.ret_then ?_
        refine AX.ret_then ?_
        refine AX.ret_block ?_
        refine AX.ret_then ?_
        exact AX.rt (rs := [.tmp 4]) (ts := [some 4]) (.inl rfl) rfl (ROs.cons (RO.tmp (At.self (by decide)) (Kv rfl (by first | exact eqs_len (by omega) | exact eqs_ne ha hb (by simpa [eqv_iff, eqv_false_iff] using hc3) | exact eqs_all hI.2 (by omega) (by omega))) rfl) <| ROs.nil) (by decide) OutsOK.nil
      ·
        try simp only [decide_eq_true_eq, decide_eq_false_iff_not, Bool.not_eq_true', Bool.not_eq_false'] at hc3
        refine AW.skip ?_
        refine AX.normal_block ?_
        refine AX.go ?_
        refine AW.region ?_
        refine AWl.st rfl (OpT.move (A := .cel _ _) (.inl rfl) rfl (okd rfl rfl) (Tm rfl rfl rfl) rfl) rfl ?_
        refine AWl.st rfl (OpT.add rfl rfl (okd rfl rfl) (Tm rfl rfl rfl) (I rfl) (nw (by omega))) rfl ?_
        refine AWl.sg rfl (OpT.move (A := .cel _ _) (.inr rfl) rfl (okd rfl rfl) (Tm rfl rfl rfl) rfl) (Kc 5 (.cel _ _) rfl <| Kc 16 (.cel _ _) rfl <| Kc 15 (.cel _ _) rfl <| Kc 25 (.cel _ _) rfl <| Kc 24 (.cel _ _) rfl <| Kc 23 (.cel _ _) rfl <| Kc 22 (.cel _ _) rfl <| Kc 21 (.cel _ _) rfl <| Kc 20 (.cel _ _) rfl <| Kc 19 (.cel _ _) rfl <| Kc 18 (.cel _ _) rfl <| Kc 17 (.cel _ _) rfl <| Kc 14 (.cel _ _) rfl <| Kc 13 (.cel _ _) rfl <| Kc 12 (.cel _ _) rfl <| Kc 11 (.cel _ _) rfl <| Kc 0 (.cel _ _) rfl <| Kc 1 (.cel _ _) rfl <| Kn) ?_
        refine AWl.nil ?_
        exact AX.again (z + 1) ⟨by omega, eqs_step hI.2 ha hb (by simpa [eqv_iff, eqv_false_iff] using hc3)⟩ (by omega) (Kc 0 _ (Kv rfl rfl) <| Kc 1 _ (Kv rfl rfl) <| Kc 5 _ (Kv rfl (by omega)) <| Kn)
    ·
      try simp only [decide_eq_true_eq, decide_eq_false_iff_not, Bool.not_eq_true', Bool.not_eq_false'] at hc2
      refine AW.exit ?_
      refine AX.exit_then ?_
      refine AX.exit_then ?_
      refine AX.exit_hit ?_
      refine AX.pr (Kn) ?_
      refine AX.go ?_
      refine AW.seq ?_
      refine AW.region ?_
      refine AWl.st rfl (OpT.move (A := .cel _ _) (.inr rfl) rfl (okd rfl rfl) Opd.bool rfl) rfl ?_
      refine AWl.nil ?_
      refine AX.go ?_
      refine AW.ret ?_
      exact AX.rt (rs := [.tmp 4]) (ts := [some 4]) (.inl rfl) rfl (ROs.cons (RO.tmp (At.self (by decide)) (Kv rfl (by first | exact eqs_len (by omega) | exact eqs_ne ha hb (by simpa [eqv_iff, eqv_false_iff] using hc3) | exact eqs_all hI.2 (by omega) (by omega))) rfl) <| ROs.nil) (by decide) OutsOK.nil

/-- laws.eqInt64S -/
theorem c_laws_eqInt64S (x y : List (Int)) : AC Try.prog 47 [.cel (Kd.slice (Kd.int .i64)) x, .cel (Kd.slice (Kd.int .i64)) y] [.cel Kd.bool (eqv x y)] [] := by
  refine ⟨ACall.intro (N := 26) Try.func47 (c := _) (rfl : Func.body _ = some _) rfl (Nat.le_of_ble_eq_true rfl) (Nat.le_of_ble_eq_true rfl) rfl (Nat.le_of_ble_eq_true rfl) fun w0 hd s0 ar har => ?_, _, Try.func47, rfl, by decide⟩
  refine AW.to (Kc 0 (.cel _ _) rfl <| Kc 1 (.cel _ _) rfl <| Kn) ?_
  refine AW.fact (fun a w hr => (ok_slice (R_ok (t := 0) rfl hr)).2) (fun hl0 => ?_)
  refine AW.fact (fun a w hr => (ok_slice (R_ok (t := 1) rfl hr)).2) (fun hl1 => ?_)
  refine AW.seq ?_
  refine AW.region ?_
  refine AWl.st rfl (OpT.move (A := .cel _ _) (.inr rfl) rfl (okd rfl rfl) Opd.bool rfl) rfl ?_
  refine AWl.nil ?_
  refine AX.go ?_
  refine AW.seq ?_
  refine AW.seq ?_
  refine AW.region ?_
  refine AWl.st rfl (OpT.move (A := .cel _ _) (.inl rfl) rfl (okd rfl rfl) (Tm rfl rfl rfl) rfl) rfl ?_
  refine AWl.st rfl (OpT.len rfl rfl (okd rfl rfl) (Tm rfl rfl rfl) el50) rfl ?_
  refine AWl.st rfl (OpT.move (A := .cel _ _) (.inl rfl) rfl (okd rfl rfl) (Tm rfl rfl rfl) rfl) rfl ?_
  refine AWl.st rfl (OpT.len rfl rfl (okd rfl rfl) (Tm rfl rfl rfl) el50) rfl ?_
  refine AWl.st rfl (OpT.neq rfl rfl (okd rfl rfl) (Tm rfl rfl rfl) (Tm rfl rfl rfl)) rfl ?_
  refine AWl.nil ?_
  refine AX.pr (Kc 10 (.cel _ _) rfl <| Kc 4 (.cel _ _) rfl <| Kc 0 (.cel _ _) rfl <| Kc 1 (.cel _ _) rfl <| Kn) ?_
  refine AX.go ?_
  refine AW.cond (t := 10) rfl (by decide) (fun hc1 => ?_) (fun hc1 => ?_)
  ·
    try simp only [decide_eq_true_eq, decide_eq_false_iff_not, Bool.not_eq_true', Bool.not_eq_false'] at hc1
    try simp only [bne_iff_ne, ne_eq, bne_eq_false_iff_eq] at hc1
    refine AW.seq ?_
    refine AW.region ?_
    refine AWl.sg rfl (OpT.move (A := .cel _ _) (.inr rfl) rfl (okd rfl rfl) Opd.bool rfl) (Kc 4 (.cel _ _) rfl <| Kc 10 (.cel _ _) rfl <| Kc 0 (.cel _ _) rfl <| Kc 1 (.cel _ _) rfl <| Kn) ?_
    refine AWl.nil ?_
    refine AX.pr (Kc 4 (.cel _ _) rfl <| Kc 0 (.cel _ _) rfl <| Kc 1 (.cel _ _) rfl <| Kn) ?_
    refine AX.go ?_
    refine AW.ret ?_
    refine AX.ret_then ?_
    exact AX.rt (rs := [.tmp 4]) (ts := [some 4]) (.inl rfl) rfl (ROs.cons (RO.tmp (At.self (by decide)) (Kv rfl (by first | exact eqs_len (by omega) | exact eqs_ne ha hb (by simpa [eqv_iff, eqv_false_iff] using hc3) | exact eqs_all hI.2 (by omega) (by omega))) rfl) <| ROs.nil) (by decide) OutsOK.nil
  ·
    try simp only [decide_eq_true_eq, decide_eq_false_iff_not, Bool.not_eq_true', Bool.not_eq_false'] at hc1
    try simp only [bne_iff_ne, ne_eq, bne_eq_false_iff_eq] at hc1
    refine AW.skip ?_
    refine AX.pr (Kc 4 (.cel _ _) rfl <| Kc 0 (.cel _ _) rfl <| Kc 1 (.cel _ _) rfl <| Kn) ?_
    refine AX.go ?_
    refine AW.seq ?_
    refine AW.seq ?_
    refine AW.region ?_
    refine AWl.st rfl (OpT.move (A := .cel _ _) (.inr rfl) rfl (okd rfl rfl) (I rfl) rfl) rfl ?_
    refine AWl.nil ?_
    refine AX.go ?_
    refine AW.block ?_
    refine AW.loop (fun z : Nat => z ≤ x.length ∧ x.take z = y.take z) (fun z : Nat => keep [(0, .cel (Kd.slice (Kd.int .i64)) x), (1, .cel (Kd.slice (Kd.int .i64)) y), (5, .cel (Kd.int .i64) (z : Int))]) (fun z : Nat => x.length - z) (0) ⟨Nat.zero_le _, rfl⟩ (Kc 0 _ (Kv rfl rfl) <| Kc 1 _ (Kv rfl rfl) <| Kc 5 _ (Kv rfl rfl) <| Kn) ?_
    intro z hI
    refine AW.seq ?_
    refine AW.seq ?_
    refine AW.region ?_
    refine AWl.st rfl (OpT.move (A := .cel _ _) (.inl rfl) rfl (okd rfl rfl) (Tm rfl rfl rfl) rfl) rfl ?_
    refine AWl.st rfl (OpT.move (A := .cel _ _) (.inl rfl) rfl (okd rfl rfl) (Tm rfl rfl rfl) rfl) rfl ?_
    refine AWl.st rfl (OpT.len rfl rfl (okd rfl rfl) (Tm rfl rfl rfl) el50) rfl ?_
    refine AWl.st rfl (OpT.lss rfl rfl (okd rfl rfl) (Tm rfl rfl rfl) (Tm rfl rfl rfl)) rfl ?_
    refine AWl.nil ?_
    refine AX.go ?_
    refine AW.cond (t := 14) rfl (by decide) (fun hc2 => ?_) (fun hc2 => ?_)
    ·
      try simp only [decide_eq_true_eq, decide_eq_false_iff_not, Bool.not_eq_true', Bool.not_eq_false'] at hc2
      obtain ⟨a, ha⟩ := getI (x := x) (z := z) (by omega); obtain ⟨b, hb⟩ := getI (x := y) (z := z) (by omega)
      refine AW.skip ?_
      refine AX.go ?_
      refine AW.seq ?_
      refine AW.block ?_
      refine AW.seq ?_
      refine AW.dg fomo ?_
      refine DG.fr (d := 17) [0] (DS rfl fun v h => OpT.move (A := .cel _ _) (.inl rfl) rfl (okd rfl rfl) (D h rfl rfl rfl rfl) rfl) rfl rfl ?_
      refine DG.fr (d := 18) [5] (DS rfl fun v h => OpT.move (A := .cel _ _) (.inl rfl) rfl (okd rfl rfl) (D h rfl rfl rfl rfl) rfl) rfl rfl ?_
      refine DG.fr (d := 19) [17, 18] (DS rfl fun v h => OpT.indexAddr rfl rfl (okd rfl rfl) (D h rfl rfl rfl rfl) (D h rfl rfl rfl rfl) el50 sz2 (by omega) (by assumption)) rfl rfl ?_
      refine DG.fr (d := 20) [19] (DS rfl fun v h => OpT.load rfl rfl (okd rfl rfl) (D h rfl rfl rfl rfl) ag2 rfl) rfl rfl ?_
      refine DG.fr (d := 21) [1] (DS rfl fun v h => OpT.move (A := .cel _ _) (.inl rfl) rfl (okd rfl rfl) (D h rfl rfl rfl rfl) rfl) rfl rfl ?_
      refine DG.fr (d := 22) [5] (DS rfl fun v h => OpT.move (A := .cel _ _) (.inl rfl) rfl (okd rfl rfl) (D h rfl rfl rfl rfl) rfl) rfl rfl ?_
      refine DG.fr (d := 23) [21, 22] (DS rfl fun v h => OpT.indexAddr rfl rfl (okd rfl rfl) (D h rfl rfl rfl rfl) (D h rfl rfl rfl rfl) el50 sz2 (by omega) (by assumption)) rfl rfl ?_
      refine DG.fr (d := 24) [23] (DS rfl fun v h => OpT.load rfl rfl (okd rfl rfl) (D h rfl rfl rfl rfl) ag2 rfl) rfl rfl ?_
      refine DG.fr (d := 25) [20, 24] (DS rfl fun v h => OpT.neq rfl rfl (okd rfl rfl) (D h rfl rfl rfl rfl) (D h rfl rfl rfl rfl)) rfl rfl ?_
      refine DG.nil ⟨by kernel_rfl, by kernel_rfl, ?_⟩
      refine AX.go ?_
      refine AW.cond (t := 25) rfl (by decide) (fun hc3 => ?_) (fun hc3 => ?_)
      ·
        try simp only [decide_eq_true_eq, decide_eq_false_iff_not, Bool.not_eq_true', Bool.not_eq_false'] at hc3
        refine AW.seq ?_
        refine AW.region ?_
        refine AWl.st rfl (OpT.move (A := .cel _ _) (.inr rfl) rfl (okd rfl rfl) Opd.bool rfl) rfl ?_
        refine AWl.nil ?_
        refine AX.go ?_
        refine AW.ret ?_
        refine AX.ret_block ?_
        refine AX.ret_then ?_
        refine AX.ret_then ?_
        refine AX.ret_block ?_
        refine AX.ret_then ?_
        exact AX.rt (rs := [.tmp 4]) (ts := [some 4]) (.inl rfl) rfl (ROs.cons (RO.tmp (At.self (by decide)) (Kv rfl (by first | exact eqs_len (by omega) | exact eqs_ne ha hb (by simpa [eqv_iff, eqv_false_iff] using hc3) | exact eqs_all hI.2 (by omega) (by omega))) rfl) <| ROs.nil) (by decide) OutsOK.nil
      ·
        try simp only [decide_eq_true_eq, decide_eq_false_iff_not, Bool.not_eq_true', Bool.not_eq_false'] at hc3
        refine AW.skip ?_
        refine AX.normal_block ?_
        refine AX.go ?_
        refine AW.region ?_
        refine AWl.st rfl (OpT.move (A := .cel _ _) (.inl rfl) rfl (okd rfl rfl) (Tm rfl rfl rfl) rfl) rfl ?_
        refine AWl.st rfl (OpT.add rfl rfl (okd rfl rfl) (Tm rfl rfl rfl) (I rfl) (nw (by omega))) rfl ?_
        refine AWl.sg rfl (OpT.move (A := .cel _ _) (.inr rfl) rfl (okd rfl rfl) (Tm rfl rfl rfl) rfl) (Kc 5 (.cel _ _) rfl <| Kc 16 (.cel _ _) rfl <| Kc 15 (.cel _ _) rfl <| Kc 25 (.cel _ _) rfl <| Kc 24 (.cel _ _) rfl <| Kc 23 (.cel _ _) rfl <| Kc 22 (.cel _ _) rfl <| Kc 21 (.cel _ _) rfl <| Kc 20 (.cel _ _) rfl <| Kc 19 (.cel _ _) rfl <| Kc 18 (.cel _ _) rfl <| Kc 17 (.cel _ _) rfl <| Kc 14 (.cel _ _) rfl <| Kc 13 (.cel _ _) rfl <| Kc 12 (.cel _ _) rfl <| Kc 11 (.cel _ _) rfl <| Kc 0 (.cel _ _) rfl <| Kc 1 (.cel _ _) rfl <| Kn) ?_
        refine AWl.nil ?_
        exact AX.again (z + 1) ⟨by omega, eqs_step hI.2 ha hb (by simpa [eqv_iff, eqv_false_iff] using hc3)⟩ (by omega) (Kc 0 _ (Kv rfl rfl) <| Kc 1 _ (Kv rfl rfl) <| Kc 5 _ (Kv rfl (by omega)) <| Kn)
    ·
      try simp only [decide_eq_true_eq, decide_eq_false_iff_not, Bool.not_eq_true', Bool.not_eq_false'] at hc2
      refine AW.exit ?_
      refine AX.exit_then ?_
      refine AX.exit_then ?_
      refine AX.exit_hit ?_
      refine AX.pr (Kn) ?_
      refine AX.go ?_
      refine AW.seq ?_
      refine AW.region ?_
      refine AWl.st rfl (OpT.move (A := .cel _ _) (.inr rfl) rfl (okd rfl rfl) Opd.bool rfl) rfl ?_
      refine AWl.nil ?_
      refine AX.go ?_
      refine AW.ret ?_
      exact AX.rt (rs := [.tmp 4]) (ts := [some 4]) (.inl rfl) rfl (ROs.cons (RO.tmp (At.self (by decide)) (Kv rfl (by first | exact eqs_len (by omega) | exact eqs_ne ha hb (by simpa [eqv_iff, eqv_false_iff] using hc3) | exact eqs_all hI.2 (by omega) (by omega))) rfl) <| ROs.nil) (by decide) OutsOK.nil

/-- slices.Equal[[]int64,int64] -/
theorem c_slices_Equal_int64_int64 (x y : List (Int)) : AC Try.prog 71 [.cel (Kd.slice (Kd.int .i64)) x, .cel (Kd.slice (Kd.int .i64)) y] [.cel Kd.bool (eqv x y)] [] := by
  refine ⟨ACall.intro (N := 26) Try.func71 (c := _) (rfl : Func.body _ = some _) rfl (Nat.le_of_ble_eq_true rfl) (Nat.le_of_ble_eq_true rfl) rfl (Nat.le_of_ble_eq_true rfl) fun w0 hd s0 ar har => ?_, _, Try.func71, rfl, by decide⟩
  refine AW.to (Kc 0 (.cel _ _) rfl <| Kc 1 (.cel _ _) rfl <| Kn) ?_
  refine AW.fact (fun a w hr => (ok_slice (R_ok (t := 0) rfl hr)).2) (fun hl0 => ?_)
  refine AW.fact (fun a w hr => (ok_slice (R_ok (t := 1) rfl hr)).2) (fun hl1 => ?_)
  refine AW.seq ?_
  refine AW.region ?_
  refine AWl.st rfl (OpT.move (A := .cel _ _) (.inr rfl) rfl (okd rfl rfl) Opd.bool rfl) rfl ?_
  refine AWl.nil ?_
  refine AX.go ?_
  refine AW.seq ?_
  refine AW.seq ?_
  refine AW.region ?_
  refine AWl.st rfl (OpT.move (A := .cel _ _) (.inl rfl) rfl (okd rfl rfl) (Tm rfl rfl rfl) rfl) rfl ?_
  refine AWl.st rfl (OpT.len rfl rfl (okd rfl rfl) (Tm rfl rfl rfl) el50) rfl ?_
  refine AWl.st rfl (OpT.move (A := .cel _ _) (.inl rfl) rfl (okd rfl rfl) (Tm rfl rfl rfl) rfl) rfl ?_
  refine AWl.st rfl (OpT.len rfl rfl (okd rfl rfl) (Tm rfl rfl rfl) el50) rfl ?_
  refine AWl.st rfl (OpT.neq rfl rfl (okd rfl rfl) (Tm rfl rfl rfl) (Tm rfl rfl rfl)) rfl ?_
  refine AWl.nil ?_
  refine AX.pr (Kc 10 (.cel _ _) rfl <| Kc 4 (.cel _ _) rfl <| Kc 0 (.cel _ _) rfl <| Kc 1 (.cel _ _) rfl <| Kn) ?_
  refine AX.go ?_
  refine AW.cond (t := 10) rfl (by decide) (fun hc1 => ?_) (fun hc1 => ?_)
  ·
    try simp only [decide_eq_true_eq, decide_eq_false_iff_not, Bool.not_eq_true', Bool.not_eq_false'] at hc1
    try simp only [bne_iff_ne, ne_eq, bne_eq_false_iff_eq] at hc1
    refine AW.seq ?_
    refine AW.region ?_
    refine AWl.sg rfl (OpT.move (A := .cel _ _) (.inr rfl) rfl (okd rfl rfl) Opd.bool rfl) (Kc 4 (.cel _ _) rfl <| Kc 10 (.cel _ _) rfl <| Kc 0 (.cel _ _) rfl <| Kc 1 (.cel _ _) rfl <| Kn) ?_
    refine AWl.nil ?_
    refine AX.pr (Kc 4 (.cel _ _) rfl <| Kc 0 (.cel _ _) rfl <| Kc 1 (.cel _ _) rfl <| Kn) ?_
    refine AX.go ?_
    refine AW.ret ?_
    refine AX.ret_then ?_
    exact AX.rt (rs := [.tmp 4]) (ts := [some 4]) (.inl rfl) rfl (ROs.cons (RO.tmp (At.self (by decide)) (Kv rfl (by first | exact eqs_len (by omega) | exact eqs_ne ha hb (by simpa [eqv_iff, eqv_false_iff] using hc3) | exact eqs_all hI.2 (by omega) (by omega))) rfl) <| ROs.nil) (by decide) OutsOK.nil
  ·
    try simp only [decide_eq_true_eq, decide_eq_false_iff_not, Bool.not_eq_true', Bool.not_eq_false'] at hc1
    try simp only [bne_iff_ne, ne_eq, bne_eq_false_iff_eq] at hc1
    refine AW.skip ?_
    refine AX.pr (Kc 4 (.cel _ _) rfl <| Kc 0 (.cel _ _) rfl <| Kc 1 (.cel _ _) rfl <| Kn) ?_
    refine AX.go ?_
    refine AW.seq ?_
    refine AW.seq ?_
    refine AW.region ?_
    refine AWl.st rfl (OpT.move (A := .cel _ _) (.inl rfl) rfl (okd rfl rfl) (Tm rfl rfl rfl) rfl) rfl ?_
    refine AWl.st rfl (OpT.len rfl rfl (okd rfl rfl) (Tm rfl rfl rfl) el50) rfl ?_
    refine AWl.st rfl (OpT.move (A := .cel _ _) (.inl rfl) rfl (okd rfl rfl) (I rfl) rfl) rfl ?_
    refine AWl.nil ?_
    refine AX.pr (Kc 13 (.cel _ _) rfl <| Kc 12 (.cel _ _) rfl <| Kc 4 (.cel _ _) rfl <| Kc 0 (.cel _ _) rfl <| Kc 1 (.cel _ _) rfl <| Kn) ?_
    refine AX.go ?_
    refine AW.block ?_
    refine AW.loop (fun z : Nat => z ≤ x.length ∧ x.take z = y.take z) (fun z : Nat => keep [(0, .cel (Kd.slice (Kd.int .i64)) x), (1, .cel (Kd.slice (Kd.int .i64)) y), (12, .cel (Kd.int .i64) ((x.length : Nat) : Int)), (13, .cel (Kd.int .i64) (z : Int))]) (fun z : Nat => x.length - z) (0) ⟨Nat.zero_le _, rfl⟩ (Kc 0 _ (Kv rfl rfl) <| Kc 1 _ (Kv rfl rfl) <| Kc 12 _ (Kv rfl rfl) <| Kc 13 _ (Kv rfl rfl) <| Kn) ?_
    intro z hI
    refine AW.seq ?_
    refine AW.region ?_
    refine AWl.st rfl (OpT.lss rfl rfl (okd rfl rfl) (Tm rfl rfl rfl) (Tm rfl rfl rfl)) rfl ?_
    refine AWl.nil ?_
    refine AX.go ?_
    refine AW.seq ?_
    refine AW.cond (t := 14) rfl (by decide) (fun hc2 => ?_) (fun hc2 => ?_)
    ·
      try simp only [decide_eq_true_eq, decide_eq_false_iff_not, Bool.not_eq_true', Bool.not_eq_false'] at hc2
      obtain ⟨a, ha⟩ := getI (x := x) (z := z) (by omega); obtain ⟨b, hb⟩ := getI (x := y) (z := z) (by omega)
      refine AW.skip ?_
      refine AX.go ?_
      refine AW.seq ?_
      refine AW.block ?_
      refine AW.seq ?_
      refine AW.region ?_
      refine AWl.st rfl (OpT.move (A := .cel _ _) (.inl rfl) rfl (okd rfl rfl) (Tm rfl rfl rfl) rfl) rfl ?_
      refine AWl.st rfl (OpT.move (A := .cel _ _) (.inr rfl) rfl (okd rfl rfl) (Tm rfl rfl rfl) rfl) rfl ?_
      refine AWl.nil ?_
      refine AX.go ?_
      refine AW.seq ?_
      refine AW.dg fomo ?_
      refine DG.fr (d := 16) [0] (DS rfl fun v h => OpT.move (A := .cel _ _) (.inl rfl) rfl (okd rfl rfl) (D h rfl rfl rfl rfl) rfl) rfl rfl ?_
      refine DG.fr (d := 17) [5] (DS rfl fun v h => OpT.move (A := .cel _ _) (.inl rfl) rfl (okd rfl rfl) (D h rfl rfl rfl rfl) rfl) rfl rfl ?_
      refine DG.fr (d := 18) [16, 17] (DS rfl fun v h => OpT.indexAddr rfl rfl (okd rfl rfl) (D h rfl rfl rfl rfl) (D h rfl rfl rfl rfl) el50 sz2 (by omega) (by assumption)) rfl rfl ?_
      refine DG.fr (d := 19) [18] (DS rfl fun v h => OpT.load rfl rfl (okd rfl rfl) (D h rfl rfl rfl rfl) ag2 rfl) rfl rfl ?_
      refine DG.fr (d := 20) [1] (DS rfl fun v h => OpT.move (A := .cel _ _) (.inl rfl) rfl (okd rfl rfl) (D h rfl rfl rfl rfl) rfl) rfl rfl ?_
      refine DG.fr (d := 21) [5] (DS rfl fun v h => OpT.move (A := .cel _ _) (.inl rfl) rfl (okd rfl rfl) (D h rfl rfl rfl rfl) rfl) rfl rfl ?_
      refine DG.fr (d := 22) [20, 21] (DS rfl fun v h => OpT.indexAddr rfl rfl (okd rfl rfl) (D h rfl rfl rfl rfl) (D h rfl rfl rfl rfl) el50 sz2 (by omega) (by assumption)) rfl rfl ?_
      refine DG.fr (d := 23) [22] (DS rfl fun v h => OpT.load rfl rfl (okd rfl rfl) (D h rfl rfl rfl rfl) ag2 rfl) rfl rfl ?_
      refine DG.fr (d := 24) [19, 23] (DS rfl fun v h => OpT.neq rfl rfl (okd rfl rfl) (D h rfl rfl rfl rfl) (D h rfl rfl rfl rfl)) rfl rfl ?_
      refine DG.nil ⟨by kernel_rfl, by kernel_rfl, ?_⟩
      refine AX.go ?_
      refine AW.cond (t := 24) rfl (by decide) (fun hc3 => ?_) (fun hc3 => ?_)
      ·
        try simp only [decide_eq_true_eq, decide_eq_false_iff_not, Bool.not_eq_true', Bool.not_eq_false'] at hc3
        refine AW.seq ?_
        refine AW.region ?_
        refine AWl.st rfl (OpT.move (A := .cel _ _) (.inr rfl) rfl (okd rfl rfl) Opd.bool rfl) rfl ?_
        refine AWl.nil ?_
        refine AX.go ?_
        refine AW.ret ?_
        refine AX.ret_block ?_
        refine AX.ret_then ?_
        refine AX.ret_then ?_
        refine AX.ret_block ?_
        refine AX.ret_then ?_
        exact AX.rt (rs := [.tmp 4]) (ts := [some 4]) (.inl rfl) rfl (ROs.cons (RO.tmp (At.self (by decide)) (Kv rfl (by first | exact eqs_len (by omega) | exact eqs_ne ha hb (by simpa [eqv_iff, eqv_false_iff] using hc3) | exact eqs_all hI.2 (by omega) (by omega))) rfl) <| ROs.nil) (by decide) OutsOK.nil
      ·
        try simp only [decide_eq_true_eq, decide_eq_false_iff_not, Bool.not_eq_true', Bool.not_eq_false'] at hc3
        refine AW.skip ?_
        refine AX.normal_block ?_
        refine AX.go ?_
        refine AW.region ?_
        refine AWl.st rfl (OpT.add rfl rfl (okd rfl rfl) (Tm rfl rfl rfl) (I rfl) (nw (by omega))) rfl ?_
        refine AWl.sg rfl (OpT.move (A := .cel _ _) (.inl rfl) rfl (okd rfl rfl) (Tm rfl rfl rfl) rfl) (Kc 13 (.cel _ _) rfl <| Kc 25 (.cel _ _) rfl <| Kc 24 (.cel _ _) rfl <| Kc 23 (.cel _ _) rfl <| Kc 22 (.cel _ _) rfl <| Kc 21 (.cel _ _) rfl <| Kc 20 (.cel _ _) rfl <| Kc 19 (.cel _ _) rfl <| Kc 18 (.cel _ _) rfl <| Kc 17 (.cel _ _) rfl <| Kc 16 (.cel _ _) rfl <| Kc 5 (.cel _ _) rfl <| Kc 15 (.cel _ _) rfl <| Kc 14 (.cel _ _) rfl <| Kc 0 (.cel _ _) rfl <| Kc 1 (.cel _ _) rfl <| Kc 12 (.cel _ _) rfl <| Kn) ?_
        refine AWl.nil ?_
        exact AX.again (z + 1) ⟨by omega, eqs_step hI.2 ha hb (by simpa [eqv_iff, eqv_false_iff] using hc3)⟩ (by omega) (Kc 0 _ (Kv rfl rfl) <| Kc 1 _ (Kv rfl rfl) <| Kc 12 _ (Kv rfl rfl) <| Kc 13 _ (Kv rfl (by omega)) <| Kn)
    ·
      try simp only [decide_eq_true_eq, decide_eq_false_iff_not, Bool.not_eq_true', Bool.not_eq_false'] at hc2
      refine AW.exit ?_
      refine AX.exit_then ?_
      refine AX.exit_then ?_
      refine AX.exit_hit ?_
      refine AX.pr (Kn) ?_
      refine AX.go ?_
      refine AW.seq ?_
      refine AW.region ?_
      refine AWl.st rfl (OpT.move (A := .cel _ _) (.inr rfl) rfl (okd rfl rfl) Opd.bool rfl) rfl ?_
      refine AWl.nil ?_
      refine AX.go ?_
      refine AW.ret ?_
      exact AX.rt (rs := [.tmp 4]) (ts := [some 4]) (.inl rfl) rfl (ROs.cons (RO.tmp (At.self (by decide)) (Kv rfl (by first | exact eqs_len (by omega) | exact eqs_ne ha hb (by simpa [eqv_iff, eqv_false_iff] using hc3) | exact eqs_all hI.2 (by omega) (by omega))) rfl) <| ROs.nil) (by decide) OutsOK.nil

/-- impl.Witness] -/
theorem c_slices_Equal_impl_Witness_impl_Witness (x y : List (Int × Int)) : AC Try.prog 72 [.cel (Kd.slice kWit) x, .cel (Kd.slice kWit) y] [.cel Kd.bool (eqv x y)] [] := by
  refine ⟨ACall.intro (N := 26) Try.func72 (c := _) (rfl : Func.body _ = some _) rfl (Nat.le_of_ble_eq_true rfl) (Nat.le_of_ble_eq_true rfl) rfl (Nat.le_of_ble_eq_true rfl) fun w0 hd s0 ar har => ?_, _, Try.func72, rfl, by decide⟩
  refine AW.to (Kc 0 (.cel _ _) rfl <| Kc 1 (.cel _ _) rfl <| Kn) ?_
  refine AW.fact (fun a w hr => (ok_slice (R_ok (t := 0) rfl hr)).2) (fun hl0 => ?_)
  refine AW.fact (fun a w hr => (ok_slice (R_ok (t := 1) rfl hr)).2) (fun hl1 => ?_)
  refine AW.seq ?_
  refine AW.region ?_
  refine AWl.st rfl (OpT.move (A := .cel _ _) (.inr rfl) rfl (okd rfl rfl) Opd.bool rfl) rfl ?_
  refine AWl.nil ?_
  refine AX.go ?_
  refine AW.seq ?_
  refine AW.seq ?_
  refine AW.region ?_
  refine AWl.st rfl (OpT.move (A := .cel _ _) (.inl rfl) rfl (okd rfl rfl) (Tm rfl rfl rfl) rfl) rfl ?_
  refine AWl.st rfl (OpT.len rfl rfl (okd rfl rfl) (Tm rfl rfl rfl) el58) rfl ?_
  refine AWl.st rfl (OpT.move (A := .cel _ _) (.inl rfl) rfl (okd rfl rfl) (Tm rfl rfl rfl) rfl) rfl ?_
  refine AWl.st rfl (OpT.len rfl rfl (okd rfl rfl) (Tm rfl rfl rfl) el58) rfl ?_
  refine AWl.st rfl (OpT.neq rfl rfl (okd rfl rfl) (Tm rfl rfl rfl) (Tm rfl rfl rfl)) rfl ?_
  refine AWl.nil ?_
  refine AX.pr (Kc 10 (.cel _ _) rfl <| Kc 4 (.cel _ _) rfl <| Kc 0 (.cel _ _) rfl <| Kc 1 (.cel _ _) rfl <| Kn) ?_
  refine AX.go ?_
  refine AW.cond (t := 10) rfl (by decide) (fun hc1 => ?_) (fun hc1 => ?_)
  ·
    try simp only [decide_eq_true_eq, decide_eq_false_iff_not, Bool.not_eq_true', Bool.not_eq_false'] at hc1
    try simp only [bne_iff_ne, ne_eq, bne_eq_false_iff_eq] at hc1
    refine AW.seq ?_
    refine AW.region ?_
    refine AWl.sg rfl (OpT.move (A := .cel _ _) (.inr rfl) rfl (okd rfl rfl) Opd.bool rfl) (Kc 4 (.cel _ _) rfl <| Kc 10 (.cel _ _) rfl <| Kc 0 (.cel _ _) rfl <| Kc 1 (.cel _ _) rfl <| Kn) ?_
    refine AWl.nil ?_
    refine AX.pr (Kc 4 (.cel _ _) rfl <| Kc 0 (.cel _ _) rfl <| Kc 1 (.cel _ _) rfl <| Kn) ?_
    refine AX.go ?_
    refine AW.ret ?_
    refine AX.ret_then ?_
    exact AX.rt (rs := [.tmp 4]) (ts := [some 4]) (.inl rfl) rfl (ROs.cons (RO.tmp (At.self (by decide)) (Kv rfl (by first | exact eqs_len (by omega) | exact eqs_ne ha hb (by simpa [eqv_iff, eqv_false_iff] using hc3) | exact eqs_all hI.2 (by omega) (by omega))) rfl) <| ROs.nil) (by decide) OutsOK.nil
  ·
    try simp only [decide_eq_true_eq, decide_eq_false_iff_not, Bool.not_eq_true', Bool.not_eq_false'] at hc1
    try simp only [bne_iff_ne, ne_eq, bne_eq_false_iff_eq] at hc1
    refine AW.skip ?_
    refine AX.pr (Kc 4 (.cel _ _) rfl <| Kc 0 (.cel _ _) rfl <| Kc 1 (.cel _ _) rfl <| Kn) ?_
    refine AX.go ?_
    refine AW.seq ?_
    refine AW.seq ?_
    refine AW.region ?_
    refine AWl.st rfl (OpT.move (A := .cel _ _) (.inl rfl) rfl (okd rfl rfl) (Tm rfl rfl rfl) rfl) rfl ?_
    refine AWl.st rfl (OpT.len rfl rfl (okd rfl rfl) (Tm rfl rfl rfl) el58) rfl ?_
    refine AWl.st rfl (OpT.move (A := .cel _ _) (.inl rfl) rfl (okd rfl rfl) (I rfl) rfl) rfl ?_
    refine AWl.nil ?_
    refine AX.pr (Kc 13 (.cel _ _) rfl <| Kc 12 (.cel _ _) rfl <| Kc 4 (.cel _ _) rfl <| Kc 0 (.cel _ _) rfl <| Kc 1 (.cel _ _) rfl <| Kn) ?_
    refine AX.go ?_
    refine AW.block ?_
    refine AW.loop (fun z : Nat => z ≤ x.length ∧ x.take z = y.take z) (fun z : Nat => keep [(0, .cel (Kd.slice kWit) x), (1, .cel (Kd.slice kWit) y), (12, .cel (Kd.int .i64) ((x.length : Nat) : Int)), (13, .cel (Kd.int .i64) (z : Int))]) (fun z : Nat => x.length - z) (0) ⟨Nat.zero_le _, rfl⟩ (Kc 0 _ (Kv rfl rfl) <| Kc 1 _ (Kv rfl rfl) <| Kc 12 _ (Kv rfl rfl) <| Kc 13 _ (Kv rfl rfl) <| Kn) ?_
    intro z hI
    refine AW.seq ?_
    refine AW.region ?_
    refine AWl.st rfl (OpT.lss rfl rfl (okd rfl rfl) (Tm rfl rfl rfl) (Tm rfl rfl rfl)) rfl ?_
    refine AWl.nil ?_
    refine AX.go ?_
    refine AW.seq ?_
    refine AW.cond (t := 14) rfl (by decide) (fun hc2 => ?_) (fun hc2 => ?_)
    ·
      try simp only [decide_eq_true_eq, decide_eq_false_iff_not, Bool.not_eq_true', Bool.not_eq_false'] at hc2
      obtain ⟨a, ha⟩ := getI (x := x) (z := z) (by omega); obtain ⟨b, hb⟩ := getI (x := y) (z := z) (by omega)
      refine AW.skip ?_
      refine AX.go ?_
      refine AW.seq ?_
      refine AW.block ?_
      refine AW.seq ?_
      refine AW.region ?_
      refine AWl.st rfl (OpT.move (A := .cel _ _) (.inl rfl) rfl (okd rfl rfl) (Tm rfl rfl rfl) rfl) rfl ?_
      refine AWl.st rfl (OpT.move (A := .cel _ _) (.inr rfl) rfl (okd rfl rfl) (Tm rfl rfl rfl) rfl) rfl ?_
      refine AWl.nil ?_
      refine AX.go ?_
      refine AW.seq ?_
      refine AW.dg fomo ?_
      refine DG.fr (d := 16) [0] (DS rfl fun v h => OpT.move (A := .cel _ _) (.inl rfl) rfl (okd rfl rfl) (D h rfl rfl rfl rfl) rfl) rfl rfl ?_
      refine DG.fr (d := 17) [5] (DS rfl fun v h => OpT.move (A := .cel _ _) (.inl rfl) rfl (okd rfl rfl) (D h rfl rfl rfl rfl) rfl) rfl rfl ?_
      refine DG.fr (d := 18) [16, 17] (DS rfl fun v h => OpT.indexAddr rfl rfl (okd rfl rfl) (D h rfl rfl rfl rfl) (D h rfl rfl rfl rfl) el58 sz98 (by omega) (by assumption)) rfl rfl ?_
      refine DG.fr (d := 19) [18] (DS rfl fun v h => OpT.loadA rfl rfl (okd rfl rfl) (D h rfl rfl rfl rfl) ag98 sz98) rfl rfl ?_
      refine DG.fr (d := 20) [1] (DS rfl fun v h => OpT.move (A := .cel _ _) (.inl rfl) rfl (okd rfl rfl) (D h rfl rfl rfl rfl) rfl) rfl rfl ?_
      refine DG.fr (d := 21) [5] (DS rfl fun v h => OpT.move (A := .cel _ _) (.inl rfl) rfl (okd rfl rfl) (D h rfl rfl rfl rfl) rfl) rfl rfl ?_
      refine DG.fr (d := 22) [20, 21] (DS rfl fun v h => OpT.indexAddr rfl rfl (okd rfl rfl) (D h rfl rfl rfl rfl) (D h rfl rfl rfl rfl) el58 sz98 (by omega) (by assumption)) rfl rfl ?_
      refine DG.fr (d := 23) [22] (DS rfl fun v h => OpT.loadA rfl rfl (okd rfl rfl) (D h rfl rfl rfl rfl) ag98 sz98) rfl rfl ?_
      refine DG.fr (d := 24) [19, 23] (DS rfl fun v h => OpT.neA rfl rfl (okd rfl rfl) (D h rfl rfl rfl rfl) (D h rfl rfl rfl rfl) eq98 ag98 rfl eg98) rfl rfl ?_
      refine DG.nil ⟨by kernel_rfl, by kernel_rfl, ?_⟩
      refine AX.go ?_
      refine AW.cond (t := 24) rfl (by decide) (fun hc3 => ?_) (fun hc3 => ?_)
      ·
        try simp only [decide_eq_true_eq, decide_eq_false_iff_not, Bool.not_eq_true', Bool.not_eq_false'] at hc3
        refine AW.seq ?_
        refine AW.region ?_
        refine AWl.st rfl (OpT.move (A := .cel _ _) (.inr rfl) rfl (okd rfl rfl) Opd.bool rfl) rfl ?_
        refine AWl.nil ?_
        refine AX.go ?_
        refine AW.ret ?_
        refine AX.ret_block ?_
        refine AX.ret_then ?_
        refine AX.ret_then ?_
        refine AX.ret_block ?_
        refine AX.ret_then ?_
        exact AX.rt (rs := [.tmp 4]) (ts := [some 4]) (.inl rfl) rfl (ROs.cons (RO.tmp (At.self (by decide)) (Kv rfl (by first | exact eqs_len (by omega) | exact eqs_ne ha hb (by simpa [eqv_iff, eqv_false_iff] using hc3) | exact eqs_all hI.2 (by omega) (by omega))) rfl) <| ROs.nil) (by decide) OutsOK.nil
      ·
        try simp only [decide_eq_true_eq, decide_eq_false_iff_not, Bool.not_eq_true', Bool.not_eq_false'] at hc3
        refine AW.skip ?_
        refine AX.normal_block ?_
        refine AX.go ?_
        refine AW.region ?_
        refine AWl.st rfl (OpT.add rfl rfl (okd rfl rfl) (Tm rfl rfl rfl) (I rfl) (nw (by omega))) rfl ?_
        refine AWl.sg rfl (OpT.move (A := .cel _ _) (.inl rfl) rfl (okd rfl rfl) (Tm rfl rfl rfl) rfl) (Kc 13 (.cel _ _) rfl <| Kc 25 (.cel _ _) rfl <| Kc 24 (.cel _ _) rfl <| Kc 23 (.agg _ _) rfl <| Kc 22 (.cel _ _) rfl <| Kc 21 (.cel _ _) rfl <| Kc 20 (.cel _ _) rfl <| Kc 19 (.agg _ _) rfl <| Kc 18 (.cel _ _) rfl <| Kc 17 (.cel _ _) rfl <| Kc 16 (.cel _ _) rfl <| Kc 5 (.cel _ _) rfl <| Kc 15 (.cel _ _) rfl <| Kc 14 (.cel _ _) rfl <| Kc 0 (.cel _ _) rfl <| Kc 1 (.cel _ _) rfl <| Kc 12 (.cel _ _) rfl <| Kn) ?_
        refine AWl.nil ?_
        exact AX.again (z + 1) ⟨by omega, eqs_step hI.2 ha hb (by simpa [eqv_iff, eqv_false_iff] using hc3)⟩ (by omega) (Kc 0 _ (Kv rfl rfl) <| Kc 1 _ (Kv rfl rfl) <| Kc 12 _ (Kv rfl rfl) <| Kc 13 _ (Kv rfl (by omega)) <| Kn)
    ·
      try simp only [decide_eq_true_eq, decide_eq_false_iff_not, Bool.not_eq_true', Bool.not_eq_false'] at hc2
      refine AW.exit ?_
      refine AX.exit_then ?_
      refine AX.exit_then ?_
      refine AX.exit_hit ?_
      refine AX.pr (Kn) ?_
      refine AX.go ?_
      refine AW.seq ?_
      refine AW.region ?_
      refine AWl.st rfl (OpT.move (A := .cel _ _) (.inr rfl) rfl (okd rfl rfl) Opd.bool rfl) rfl ?_
      refine AWl.nil ?_
      refine AX.go ?_
      refine AW.ret ?_
      exact AX.rt (rs := [.tmp 4]) (ts := [some 4]) (.inl rfl) rfl (ROs.cons (RO.tmp (At.self (by decide)) (Kv rfl (by first | exact eqs_len (by omega) | exact eqs_ne ha hb (by simpa [eqv_iff, eqv_false_iff] using hc3) | exact eqs_all hI.2 (by omega) (by omega))) rfl) <| ROs.nil) (by decide) OutsOK.nil

/-- laws.eqWitness -/
theorem c_laws_eqWitness (x y : Int × Int) : AC Try.prog 101 [.agg kWit x, .agg kWit y] [.cel Kd.bool (eqv x y)] [] := by
  refine ⟨ACall.intro (N := 15) Try.func101 (c := _) (rfl : Func.body _ = some _) rfl (Nat.le_of_ble_eq_true rfl) (Nat.le_of_ble_eq_true rfl) rfl (Nat.le_of_ble_eq_true rfl) fun w0 hd s0 ar har => ?_, _, Try.func101, rfl, by decide⟩
  refine AW.to (Kc 0 (.agg _ _) rfl <| Kc 1 (.agg _ _) rfl <| Kn) ?_
  refine AW.seq ?_
  refine AW.region ?_
  refine AWl.st rfl (OpT.frz (OpT.boxA (E := 98) rfl rfl (okd rfl rfl) (Tm rfl rfl rfl))) rfl ?_
  refine AWl.st rfl (OpT.frz (OpT.boxA (E := 98) rfl rfl (okd rfl rfl) (Tm rfl rfl rfl))) rfl ?_
  refine AWl.st rfl (OpT.move (A := .cel _ _) (.inr rfl) rfl (okd rfl rfl) Opd.bool rfl) rfl ?_
  refine AWl.nil ?_
  refine AX.pr (Kc 4 (.cel _ _) rfl <| Kc 3 (.cel _ _) rfl <| Kc 2 (.cel _ _) rfl <| Kn) ?_
  refine AX.go ?_
  refine AW.seq ?_
  refine AW.seq ?_
  refine AW.region ?_
  refine AWl.st rfl (OpT.fieldAddr rfl rfl (okd rfl rfl) (Tm rfl rfl rfl) fd98_0 sz2 (by decide) sb98_0) rfl ?_
  refine AWl.st rfl (OpT.load rfl rfl (okd rfl rfl) (Tm rfl rfl rfl) ag2 rfl) rfl ?_
  refine AWl.st rfl (OpT.fieldAddr rfl rfl (okd rfl rfl) (Tm rfl rfl rfl) fd98_0 sz2 (by decide) sb98_0) rfl ?_
  refine AWl.st rfl (OpT.load rfl rfl (okd rfl rfl) (Tm rfl rfl rfl) ag2 rfl) rfl ?_
  refine AWl.st rfl (OpT.neq rfl rfl (okd rfl rfl) (Tm rfl rfl rfl) (Tm rfl rfl rfl)) rfl ?_
  refine AWl.nil ?_
  refine AX.pr (Kc 9 (.cel _ _) rfl <| Kc 4 (.cel _ _) rfl <| Kc 3 (.cel _ _) rfl <| Kc 2 (.cel _ _) rfl <| Kn) ?_
  refine AX.go ?_
  refine AW.cond (t := 9) rfl (by decide) (fun hc1 => ?_) (fun hc1 => ?_)
  ·
    try simp only [decide_eq_true_eq, decide_eq_false_iff_not, Bool.not_eq_true', Bool.not_eq_false'] at hc1
    refine AW.seq ?_
    refine AW.region ?_
    refine AWl.sg rfl (OpT.move (A := .cel _ _) (.inr rfl) rfl (okd rfl rfl) Opd.bool rfl) (Kc 4 (.cel _ _) rfl <| Kc 9 (.cel _ _) rfl <| Kc 3 (.cel _ _) rfl <| Kc 2 (.cel _ _) rfl <| Kn) ?_
    refine AWl.nil ?_
    refine AX.pr (Kc 4 (.cel _ _) rfl <| Kc 3 (.cel _ _) rfl <| Kc 2 (.cel _ _) rfl <| Kn) ?_
    refine AX.go ?_
    refine AW.ret ?_
    refine AX.ret_then ?_
    exact AX.rt (rs := [.tmp 4]) (ts := [some 4]) (.inl rfl) rfl (ROs.cons (RO.tmp (At.self (by decide)) (Kv rfl (by rw [eqv_pair]; simp_all [eqv_beq, eqv_bne])) rfl) <| ROs.nil) (by decide) OutsOK.nil
  ·
    try simp only [decide_eq_true_eq, decide_eq_false_iff_not, Bool.not_eq_true', Bool.not_eq_false'] at hc1
    refine AW.skip ?_
    refine AX.pr (Kc 4 (.cel _ _) rfl <| Kc 3 (.cel _ _) rfl <| Kc 2 (.cel _ _) rfl <| Kn) ?_
    refine AX.go ?_
    refine AW.seq ?_
    refine AW.seq ?_
    refine AW.region ?_
    refine AWl.st rfl (OpT.fieldAddr rfl rfl (okd rfl rfl) (Tm rfl rfl rfl) fd98_1 sz31 (by decide) sb98_1) rfl ?_
    refine AWl.st rfl (OpT.load rfl rfl (okd rfl rfl) (Tm rfl rfl rfl) ag31 rfl) rfl ?_
    refine AWl.st rfl (OpT.fieldAddr rfl rfl (okd rfl rfl) (Tm rfl rfl rfl) fd98_1 sz31 (by decide) sb98_1) rfl ?_
    refine AWl.st rfl (OpT.load rfl rfl (okd rfl rfl) (Tm rfl rfl rfl) ag31 rfl) rfl ?_
    refine AWl.st rfl (OpT.neq rfl rfl (okd rfl rfl) (Tm rfl rfl rfl) (Tm rfl rfl rfl)) rfl ?_
    refine AWl.nil ?_
    refine AX.pr (Kc 14 (.cel _ _) rfl <| Kc 4 (.cel _ _) rfl <| Kn) ?_
    refine AX.go ?_
    refine AW.cond (t := 14) rfl (by decide) (fun hc2 => ?_) (fun hc2 => ?_)
    ·
      try simp only [decide_eq_true_eq, decide_eq_false_iff_not, Bool.not_eq_true', Bool.not_eq_false'] at hc2
      refine AW.seq ?_
      refine AW.region ?_
      refine AWl.sg rfl (OpT.move (A := .cel _ _) (.inr rfl) rfl (okd rfl rfl) Opd.bool rfl) (Kc 4 (.cel _ _) rfl <| Kc 14 (.cel _ _) rfl <| Kn) ?_
      refine AWl.nil ?_
      refine AX.pr (Kc 4 (.cel _ _) rfl <| Kn) ?_
      refine AX.go ?_
      refine AW.ret ?_
      refine AX.ret_then ?_
      exact AX.rt (rs := [.tmp 4]) (ts := [some 4]) (.inl rfl) rfl (ROs.cons (RO.tmp (At.self (by decide)) (Kv rfl (by rw [eqv_pair]; simp_all [eqv_beq, eqv_bne])) rfl) <| ROs.nil) (by decide) OutsOK.nil
    ·
      try simp only [decide_eq_true_eq, decide_eq_false_iff_not, Bool.not_eq_true', Bool.not_eq_false'] at hc2
      refine AW.skip ?_
      refine AX.pr (Kc 4 (.cel _ _) rfl <| Kn) ?_
      refine AX.go ?_
      refine AW.seq ?_
      refine AW.region ?_
      refine AWl.sg rfl (OpT.move (A := .cel _ _) (.inr rfl) rfl (okd rfl rfl) Opd.bool rfl) (Kc 4 (.cel _ _) rfl <| Kn) ?_
      refine AWl.nil ?_
      refine AX.go ?_
      refine AW.ret ?_
      exact AX.rt (rs := [.tmp 4]) (ts := [some 4]) (.inl rfl) rfl (ROs.cons (RO.tmp (At.self (by decide)) (Kv rfl (by rw [eqv_pair]; simp_all [eqv_beq, eqv_bne])) rfl) <| ROs.nil) (by decide) OutsOK.nil

/-- laws.eqWitnessS -/
theorem c_laws_eqWitnessS (x y : List (Int × Int)) : AC Try.prog 74 [.cel (Kd.slice kWit) x, .cel (Kd.slice kWit) y] [.cel Kd.bool (eqv x y)] [] := by
  refine ⟨ACall.intro (N := 27) Try.func74 (c := _) (rfl : Func.body _ = some _) rfl (Nat.le_of_ble_eq_true rfl) (Nat.le_of_ble_eq_true rfl) rfl (Nat.le_of_ble_eq_true rfl) fun w0 hd s0 ar har => ?_, _, Try.func74, rfl, by decide⟩
  refine AW.to (Kc 0 (.cel _ _) rfl <| Kc 1 (.cel _ _) rfl <| Kn) ?_
  refine AW.fact (fun a w hr => (ok_slice (R_ok (t := 0) rfl hr)).2) (fun hl0 => ?_)
  refine AW.fact (fun a w hr => (ok_slice (R_ok (t := 1) rfl hr)).2) (fun hl1 => ?_)
  refine AW.seq ?_
  refine AW.region ?_
  refine AWl.st rfl (OpT.move (A := .cel _ _) (.inr rfl) rfl (okd rfl rfl) Opd.bool rfl) rfl ?_
  refine AWl.nil ?_
  refine AX.go ?_
  refine AW.seq ?_
  refine AW.seq ?_
  refine AW.region ?_
  refine AWl.st rfl (OpT.move (A := .cel _ _) (.inl rfl) rfl (okd rfl rfl) (Tm rfl rfl rfl) rfl) rfl ?_
  refine AWl.st rfl (OpT.len rfl rfl (okd rfl rfl) (Tm rfl rfl rfl) el58) rfl ?_
  refine AWl.st rfl (OpT.move (A := .cel _ _) (.inl rfl) rfl (okd rfl rfl) (Tm rfl rfl rfl) rfl) rfl ?_
  refine AWl.st rfl (OpT.len rfl rfl (okd rfl rfl) (Tm rfl rfl rfl) el58) rfl ?_
  refine AWl.st rfl (OpT.neq rfl rfl (okd rfl rfl) (Tm rfl rfl rfl) (Tm rfl rfl rfl)) rfl ?_
  refine AWl.nil ?_
  refine AX.pr (Kc 10 (.cel _ _) rfl <| Kc 4 (.cel _ _) rfl <| Kc 0 (.cel _ _) rfl <| Kc 1 (.cel _ _) rfl <| Kn) ?_
  refine AX.go ?_
  refine AW.cond (t := 10) rfl (by decide) (fun hc1 => ?_) (fun hc1 => ?_)
  ·
    try simp only [decide_eq_true_eq, decide_eq_false_iff_not, Bool.not_eq_true', Bool.not_eq_false'] at hc1
    try simp only [bne_iff_ne, ne_eq, bne_eq_false_iff_eq] at hc1
    refine AW.seq ?_
    refine AW.region ?_
    refine AWl.sg rfl (OpT.move (A := .cel _ _) (.inr rfl) rfl (okd rfl rfl) Opd.bool rfl) (Kc 4 (.cel _ _) rfl <| Kc 10 (.cel _ _) rfl <| Kc 0 (.cel _ _) rfl <| Kc 1 (.cel _ _) rfl <| Kn) ?_
    refine AWl.nil ?_
    refine AX.pr (Kc 4 (.cel _ _) rfl <| Kc 0 (.cel _ _) rfl <| Kc 1 (.cel _ _) rfl <| Kn) ?_
    refine AX.go ?_
    refine AW.ret ?_
    refine AX.ret_then ?_
    exact AX.rt (rs := [.tmp 4]) (ts := [some 4]) (.inl rfl) rfl (ROs.cons (RO.tmp (At.self (by decide)) (Kv rfl (by first | exact eqs_len (by omega) | exact eqs_ne ha hb (by simpa [eqv_iff, eqv_false_iff] using hc3) | exact eqs_all hI.2 (by omega) (by omega))) rfl) <| ROs.nil) (by decide) OutsOK.nil
  ·
    try simp only [decide_eq_true_eq, decide_eq_false_iff_not, Bool.not_eq_true', Bool.not_eq_false'] at hc1
    try simp only [bne_iff_ne, ne_eq, bne_eq_false_iff_eq] at hc1
    refine AW.skip ?_
    refine AX.pr (Kc 4 (.cel _ _) rfl <| Kc 0 (.cel _ _) rfl <| Kc 1 (.cel _ _) rfl <| Kn) ?_
    refine AX.go ?_
    refine AW.seq ?_
    refine AW.seq ?_
    refine AW.region ?_
    refine AWl.st rfl (OpT.move (A := .cel _ _) (.inr rfl) rfl (okd rfl rfl) (I rfl) rfl) rfl ?_
    refine AWl.nil ?_
    refine AX.go ?_
    refine AW.block ?_
    refine AW.loop (fun z : Nat => z ≤ x.length ∧ x.take z = y.take z) (fun z : Nat => keep [(0, .cel (Kd.slice kWit) x), (1, .cel (Kd.slice kWit) y), (5, .cel (Kd.int .i64) (z : Int))]) (fun z : Nat => x.length - z) (0) ⟨Nat.zero_le _, rfl⟩ (Kc 0 _ (Kv rfl rfl) <| Kc 1 _ (Kv rfl rfl) <| Kc 5 _ (Kv rfl rfl) <| Kn) ?_
    intro z hI
    refine AW.seq ?_
    refine AW.seq ?_
    refine AW.region ?_
    refine AWl.st rfl (OpT.move (A := .cel _ _) (.inl rfl) rfl (okd rfl rfl) (Tm rfl rfl rfl) rfl) rfl ?_
    refine AWl.st rfl (OpT.move (A := .cel _ _) (.inl rfl) rfl (okd rfl rfl) (Tm rfl rfl rfl) rfl) rfl ?_
    refine AWl.st rfl (OpT.len rfl rfl (okd rfl rfl) (Tm rfl rfl rfl) el58) rfl ?_
    refine AWl.st rfl (OpT.lss rfl rfl (okd rfl rfl) (Tm rfl rfl rfl) (Tm rfl rfl rfl)) rfl ?_
    refine AWl.nil ?_
    refine AX.go ?_
    refine AW.cond (t := 14) rfl (by decide) (fun hc2 => ?_) (fun hc2 => ?_)
    ·
      try simp only [decide_eq_true_eq, decide_eq_false_iff_not, Bool.not_eq_true', Bool.not_eq_false'] at hc2
      obtain ⟨a, ha⟩ := getI (x := x) (z := z) (by omega); obtain ⟨b, hb⟩ := getI (x := y) (z := z) (by omega)
      refine AW.skip ?_
      refine AX.go ?_
      refine AW.seq ?_
      refine AW.block ?_
      refine AW.seq ?_
      refine AW.dg fomo ?_
      refine DG.fr (d := 17) [0] (DS rfl fun v h => OpT.move (A := .cel _ _) (.inl rfl) rfl (okd rfl rfl) (D h rfl rfl rfl rfl) rfl) rfl rfl ?_
      refine DG.fr (d := 18) [5] (DS rfl fun v h => OpT.move (A := .cel _ _) (.inl rfl) rfl (okd rfl rfl) (D h rfl rfl rfl rfl) rfl) rfl rfl ?_
      refine DG.fr (d := 19) [17, 18] (DS rfl fun v h => OpT.indexAddr rfl rfl (okd rfl rfl) (D h rfl rfl rfl rfl) (D h rfl rfl rfl rfl) el58 sz98 (by omega) (by assumption)) rfl rfl ?_
      refine DG.fr (d := 20) [19] (DS rfl fun v h => OpT.loadA rfl rfl (okd rfl rfl) (D h rfl rfl rfl rfl) ag98 sz98) rfl rfl ?_
      refine DG.fr (d := 21) [1] (DS rfl fun v h => OpT.move (A := .cel _ _) (.inl rfl) rfl (okd rfl rfl) (D h rfl rfl rfl rfl) rfl) rfl rfl ?_
      refine DG.fr (d := 22) [5] (DS rfl fun v h => OpT.move (A := .cel _ _) (.inl rfl) rfl (okd rfl rfl) (D h rfl rfl rfl rfl) rfl) rfl rfl ?_
      refine DG.fr (d := 23) [21, 22] (DS rfl fun v h => OpT.indexAddr rfl rfl (okd rfl rfl) (D h rfl rfl rfl rfl) (D h rfl rfl rfl rfl) el58 sz98 (by omega) (by assumption)) rfl rfl ?_
      refine DG.fr (d := 24) [23] (DS rfl fun v h => OpT.loadA rfl rfl (okd rfl rfl) (D h rfl rfl rfl rfl) ag98 sz98) rfl rfl ?_
      refine DG.fr (d := 25) [20, 24] (DS rfl fun v h => OpT.c1 (ms := [.flat, .flat]) (c_laws_eqWitness _ _) rfl rfl (okd rfl rfl) (Af (D h rfl rfl rfl rfl) rfl rfl <| Af (D h rfl rfl rfl rfl) rfl rfl <| An) rfl rfl) rfl rfl ?_
      refine DG.fr (d := 26) [25] (DS rfl fun v h => OpT.not rfl rfl (okd rfl rfl) (D h rfl rfl rfl rfl)) rfl rfl ?_
      refine DG.nil ⟨by kernel_rfl, by kernel_rfl, ?_⟩
      refine AX.go ?_
      refine AW.cond (t := 26) rfl (by decide) (fun hc3 => ?_) (fun hc3 => ?_)
      ·
        try simp only [decide_eq_true_eq, decide_eq_false_iff_not, Bool.not_eq_true', Bool.not_eq_false'] at hc3
        refine AW.seq ?_
        refine AW.region ?_
        refine AWl.st rfl (OpT.move (A := .cel _ _) (.inr rfl) rfl (okd rfl rfl) Opd.bool rfl) rfl ?_
        refine AWl.nil ?_
        refine AX.go ?_
        refine AW.ret ?_
        refine AX.ret_block ?_
        refine AX.ret_then ?_
        refine AX.ret_then ?_
        refine AX.ret_block ?_
        refine AX.ret_then ?_
        exact AX.rt (rs := [.tmp 4]) (ts := [some 4]) (.inl rfl) rfl (ROs.cons (RO.tmp (At.self (by decide)) (Kv rfl (by first | exact eqs_len (by omega) | exact eqs_ne ha hb (by simpa [eqv_iff, eqv_false_iff] using hc3) | exact eqs_all hI.2 (by omega) (by omega))) rfl) <| ROs.nil) (by decide) OutsOK.nil
      ·
        try simp only [decide_eq_true_eq, decide_eq_false_iff_not, Bool.not_eq_true', Bool.not_eq_false'] at hc3
        refine AW.skip ?_
        refine AX.normal_block ?_
        refine AX.go ?_
        refine AW.region ?_
        refine AWl.st rfl (OpT.move (A := .cel _ _) (.inl rfl) rfl (okd rfl rfl) (Tm rfl rfl rfl) rfl) rfl ?_
        refine AWl.st rfl (OpT.add rfl rfl (okd rfl rfl) (Tm rfl rfl rfl) (I rfl) (nw (by omega))) rfl ?_
        refine AWl.sg rfl (OpT.move (A := .cel _ _) (.inr rfl) rfl (okd rfl rfl) (Tm rfl rfl rfl) rfl) (Kc 5 (.cel _ _) rfl <| Kc 16 (.cel _ _) rfl <| Kc 15 (.cel _ _) rfl <| Kc 26 (.cel _ _) rfl <| Kc 25 (.cel _ _) rfl <| Kc 24 (.agg _ _) rfl <| Kc 23 (.cel _ _) rfl <| Kc 22 (.cel _ _) rfl <| Kc 21 (.cel _ _) rfl <| Kc 20 (.agg _ _) rfl <| Kc 19 (.cel _ _) rfl <| Kc 18 (.cel _ _) rfl <| Kc 17 (.cel _ _) rfl <| Kc 14 (.cel _ _) rfl <| Kc 13 (.cel _ _) rfl <| Kc 12 (.cel _ _) rfl <| Kc 11 (.cel _ _) rfl <| Kc 0 (.cel _ _) rfl <| Kc 1 (.cel _ _) rfl <| Kn) ?_
        refine AWl.nil ?_
        exact AX.again (z + 1) ⟨by omega, eqs_step hI.2 ha hb (by simpa [eqv_iff, eqv_false_iff] using hc3)⟩ (by omega) (Kc 0 _ (Kv rfl rfl) <| Kc 1 _ (Kv rfl rfl) <| Kc 5 _ (Kv rfl (by omega)) <| Kn)
    ·
      try simp only [decide_eq_true_eq, decide_eq_false_iff_not, Bool.not_eq_true', Bool.not_eq_false'] at hc2
      refine AW.exit ?_
      refine AX.exit_then ?_
      refine AX.exit_then ?_
      refine AX.exit_hit ?_
      refine AX.pr (Kn) ?_
      refine AX.go ?_
      refine AW.seq ?_
      refine AW.region ?_
      refine AWl.st rfl (OpT.move (A := .cel _ _) (.inr rfl) rfl (okd rfl rfl) Opd.bool rfl) rfl ?_
      refine AWl.nil ?_
      refine AX.go ?_
      refine AW.ret ?_
      exact AX.rt (rs := [.tmp 4]) (ts := [some 4]) (.inl rfl) rfl (ROs.cons (RO.tmp (At.self (by decide)) (Kv rfl (by first | exact eqs_len (by omega) | exact eqs_ne ha hb (by simpa [eqv_iff, eqv_false_iff] using hc3) | exact eqs_all hI.2 (by omega) (by omega))) rfl) <| ROs.nil) (by decide) OutsOK.nil

/-- laws.toInt64S -/
theorem c_laws_toInt64S (x : List (Int)) (hn : x.length ≤ 1099511627776) : AC Try.prog 45 [.cel (Kd.slice (Kd.int .i64)) x] [.cel (Kd.slice (Kd.int .i64)) x] [] := by
  refine ⟨ACall.intro (N := 22) Try.func45 (c := _) (rfl : Func.body _ = some _) rfl (Nat.le_of_ble_eq_true rfl) (Nat.le_of_ble_eq_true rfl) rfl (Nat.le_of_ble_eq_true rfl) fun w0 hd s0 ar har => ?_, _, Try.func45, rfl, by decide⟩
  refine AW.to (Kc 0 (.cel _ _) rfl <| Kn) ?_
  refine AW.seq ?_
  refine AW.region ?_
  refine AWl.st rfl (OpT.move (A := .cel _ _) (.inr rfl) rfl (okd rfl rfl) (Opd.nilslice (Kd.int .i64)) rfl) rfl ?_
  refine AWl.nil ?_
  refine AX.go ?_
  refine AW.seq ?_
  refine AW.region ?_
  refine AWl.st rfl (OpT.move (A := .cel _ _) (.inl rfl) rfl (okd rfl rfl) (Tm rfl rfl rfl) rfl) rfl ?_
  refine AWl.st rfl (OpT.len rfl rfl (okd rfl rfl) (Tm rfl rfl rfl) el50) rfl ?_
  refine AWl.st rfl (OpT.make rfl rfl (okd rfl rfl) (Tm rfl rfl rfl) (Tm rfl rfl rfl) el50 zr2 sz2 by2 (by decide) zk2 (by omega) (by omega)) rfl ?_
  refine AWl.sg rfl (OpT.take (.inl rfl) rfl (okd rfl rfl) (Root.self (by decide)) rfl rfl (by decide)) (Kc 3 (.own _ _ _) rfl <| Kc 6 (.cel _ _) rfl <| Kc 5 (.cel _ _) rfl <| Kc 2 (.cel _ _) rfl <| Kc 0 (.cel _ _) rfl <| Kn) ?_
  refine AWl.nil ?_
  refine AX.pr (Kc 3 (.own _ _ _) rfl <| Kc 2 (.cel _ _) rfl <| Kc 0 (.cel _ _) rfl <| Kn) ?_
  refine AX.go ?_
  refine AW.seq ?_
  refine AW.seq ?_
  refine AW.region ?_
  refine AWl.st rfl (OpT.move (A := .cel _ _) (.inr rfl) rfl (okd rfl rfl) (I rfl) rfl) rfl ?_
  refine AWl.nil ?_
  refine AX.go ?_
  refine AW.block ?_
  refine AW.loop (fun z : Nat => z ≤ x.length) (fun z : Nat => keep [(0, .cel (Kd.slice (Kd.int .i64)) x), (3, .own 2 (Kd.int .i64) (cpy x z (0))), (4, .cel (Kd.int .i64) (z : Int))]) (fun z : Nat => x.length - z) (0) (by omega) (Kc 0 _ (Kv rfl rfl) <| Kc 3 _ (Ko rfl rfl) <| Kc 4 _ (Kv rfl rfl) <| Kn) ?_
  intro z hI
  refine AW.seq ?_
  refine AW.seq ?_
  refine AW.region ?_
  refine AWl.st rfl (OpT.move (A := .cel _ _) (.inl rfl) rfl (okd rfl rfl) (Tm rfl rfl rfl) rfl) rfl ?_
  refine AWl.st rfl (OpT.move (A := .cel _ _) (.inl rfl) rfl (okd rfl rfl) (Tm rfl rfl rfl) rfl) rfl ?_
  refine AWl.st rfl (OpT.len rfl rfl (okd rfl rfl) (Tm rfl rfl rfl) el50) rfl ?_
  refine AWl.st rfl (OpT.lss rfl rfl (okd rfl rfl) (Tm rfl rfl rfl) (Tm rfl rfl rfl)) rfl ?_
  refine AWl.nil ?_
  refine AX.go ?_
  refine AW.cond (t := 11) rfl (by decide) (fun hc1 => ?_) (fun hc1 => ?_)
  ·
    try simp only [decide_eq_true_eq, decide_eq_false_iff_not, Bool.not_eq_true', Bool.not_eq_false'] at hc1
    obtain ⟨a, ha⟩ := getI (x := x) (z := z) (by omega); have hd := cpy_get (x := x) (z := z) (d := (0 : Int)) (by omega)
    refine AW.skip ?_
    refine AX.go ?_
    refine AW.seq ?_
    refine AW.block ?_
    refine AW.region ?_
    refine AWl.st rfl (OpT.alias rfl rfl (okd rfl rfl) (by decide) (by decide)) rfl ?_
    refine AWl.st rfl (OpT.move (A := .cel _ _) (.inl rfl) rfl (okd rfl rfl) (Tm rfl rfl rfl) rfl) rfl ?_
    refine AWl.st rfl (OpT.move (A := .cel _ _) (.inl rfl) rfl (okd rfl rfl) (Tm rfl rfl rfl) rfl) rfl ?_
    refine AWl.st rfl (OpT.move (A := .cel _ _) (.inl rfl) rfl (okd rfl rfl) (Tm rfl rfl rfl) rfl) rfl ?_
    refine AWl.st rfl (OpT.indexAddr rfl rfl (okd rfl rfl) (Tm rfl rfl rfl) (Tm rfl rfl rfl) el50 sz2 (by omega) (by assumption)) rfl ?_
    refine AWl.st rfl (OpT.load rfl rfl (okd rfl rfl) (Tm rfl rfl rfl) ag2 rfl) rfl ?_
    refine AWl.st rfl (OpT.indexAddrO rfl rfl (okd rfl rfl) (Root.ali rfl (by decide) (by decide)) rfl (by decide) (Tm rfl rfl rfl) el50 sz2 (by omega) (by assumption)) rfl ?_
    refine AWl.sg rfl (OpT.storeO rfl rfl (Tm rfl rfl rfl) rfl (by assumption) sz2 rfl (Tm rfl rfl rfl)) (Kc 20 (.pel _ _ _ _ _ _ _) rfl <| Kc 19 (.cel _ _) rfl <| Kc 18 (.cel _ _) rfl <| Kc 17 (.cel _ _) rfl <| Kc 16 (.cel _ _) rfl <| Kc 15 (.cel _ _) rfl <| Kc 14 (.ali _) rfl <| Kc 11 (.cel _ _) rfl <| Kc 10 (.cel _ _) rfl <| Kc 9 (.cel _ _) rfl <| Kc 8 (.cel _ _) rfl <| Kc 0 (.cel _ _) rfl <| Kc 3 (.own _ _ _) rfl <| Kc 4 (.cel _ _) rfl <| Kn) ?_
    refine AWl.nil ?_
    refine AX.normal_block ?_
    refine AX.go ?_
    refine AW.region ?_
    refine AWl.st rfl (OpT.move (A := .cel _ _) (.inl rfl) rfl (okd rfl rfl) (Tm rfl rfl rfl) rfl) rfl ?_
    refine AWl.st rfl (OpT.add rfl rfl (okd rfl rfl) (Tm rfl rfl rfl) (I rfl) (nw (by omega))) rfl ?_
    refine AWl.sg rfl (OpT.move (A := .cel _ _) (.inr rfl) rfl (okd rfl rfl) (Tm rfl rfl rfl) rfl) (Kc 4 (.cel _ _) rfl <| Kc 13 (.cel _ _) rfl <| Kc 12 (.cel _ _) rfl <| Kc 20 (.pel _ _ _ _ _ _ _) rfl <| Kc 19 (.cel _ _) rfl <| Kc 18 (.cel _ _) rfl <| Kc 17 (.cel _ _) rfl <| Kc 16 (.cel _ _) rfl <| Kc 15 (.cel _ _) rfl <| Kc 14 (.ali _) rfl <| Kc 11 (.cel _ _) rfl <| Kc 10 (.cel _ _) rfl <| Kc 9 (.cel _ _) rfl <| Kc 8 (.cel _ _) rfl <| Kc 0 (.cel _ _) rfl <| Kc 3 (.own _ _ _) rfl <| Kn) ?_
    refine AWl.nil ?_
    exact AX.again (z + 1) (by omega) (by omega) (Kc 0 _ (Kv rfl rfl) <| Kc 3 _ (Ko rfl (cpy_step ha)) <| Kc 4 _ (Kv rfl (by omega)) <| Kn)
  ·
    try simp only [decide_eq_true_eq, decide_eq_false_iff_not, Bool.not_eq_true', Bool.not_eq_false'] at hc1
    refine AW.exit ?_
    refine AX.freeze (t := 3) rfl ?_
    refine AX.pr (Kc 11 (.cel _ _) rfl <| Kc 10 (.cel _ _) rfl <| Kc 9 (.cel _ _) rfl <| Kc 8 (.cel _ _) rfl <| Kc 0 (.cel _ _) rfl <| Kc 3 (.cel _ _) rfl <| Kc 4 (.cel _ _) rfl <| Kn) ?_
    refine AX.exit_then ?_
    refine AX.exit_then ?_
    refine AX.exit_hit ?_
    refine AX.pr (Kc 3 (.cel _ _) rfl <| Kn) ?_
    refine AX.go ?_
    refine AW.seq ?_
    refine AW.region ?_
    refine AWl.st rfl (OpT.move (A := .cel _ _) (.inl rfl) rfl (okd rfl rfl) (Tm rfl rfl rfl) rfl) rfl ?_
    refine AWl.st rfl (OpT.move (A := .cel _ _) (.inr rfl) rfl (okd rfl rfl) (Tm rfl rfl rfl) rfl) rfl ?_
    refine AWl.nil ?_
    refine AX.pr (Kc 2 (.cel _ _) rfl <| Kn) ?_
    refine AX.go ?_
    refine AW.ret ?_
    exact AX.rt (rs := [.tmp 2]) (ts := [some 2]) (.inl rfl) rfl (ROs.cons (RO.tmp (At.self (by decide)) (Kv rfl (cpy_end (by omega))) rfl) <| ROs.nil) (by decide) OutsOK.nil

/-- laws.toWitness -/
theorem c_laws_toWitness (x : Int × Int) : AC Try.prog 99 [.agg kWit x] [.agg kWit x] [] := by
  refine ⟨ACall.intro (N := 11) Try.func99 (c := _) (rfl : Func.body _ = some _) rfl (Nat.le_of_ble_eq_true rfl) (Nat.le_of_ble_eq_true rfl) rfl (Nat.le_of_ble_eq_true rfl) fun w0 hd s0 ar har => ?_, _, Try.func99, rfl, by decide⟩
  refine AW.to (Kc 0 (.agg _ _) rfl <| Kn) ?_
  refine AW.seq ?_
  refine AW.region ?_
  refine AWl.st rfl (OpT.frz (OpT.boxA (E := 121) rfl rfl (okd rfl rfl) (Tm rfl rfl rfl))) rfl ?_
  refine AWl.st rfl (OpT.alloc rfl rfl (okd rfl rfl) zr98 zk98) rfl ?_
  refine AWl.nil ?_
  refine AX.pr (Kc 2 (.box _ _ _) rfl <| Kc 1 (.cel _ _) rfl <| Kn) ?_
  refine AX.go ?_
  refine AW.seq ?_
  refine AW.region ?_
  refine AWl.st rfl (OpT.alloc rfl rfl (okd rfl rfl) zr98 zk98) rfl ?_
  refine AWl.nil ?_
  refine AX.go ?_
  refine AW.seq ?_
  refine AW.region ?_
  refine AWl.st rfl (OpT.fieldAddr rfl rfl (okd rfl rfl) (Tm rfl rfl rfl) fd121_0 sz2 (by decide) sb121_0) rfl ?_
  refine AWl.st rfl (OpT.load rfl rfl (okd rfl rfl) (Tm rfl rfl rfl) ag2 rfl) rfl ?_
  refine AWl.st rfl (OpT.fieldAddrB rfl rfl (okd rfl rfl) (Root.self (by decide)) rfl (by decide) fd98_0 sz2 (by decide) sb98_0) rfl ?_
  refine AWl.sg rfl (OpT.storeB rfl rfl (Tm rfl rfl rfl) rfl sz2 rfl (Tm rfl rfl rfl)) (Kc 6 (.pel _ _ _ _ _ _ _) rfl <| Kc 5 (.cel _ _) rfl <| Kc 4 (.cel _ _) rfl <| Kc 3 (.box _ _ _) rfl <| Kc 2 (.box _ _ _) rfl <| Kc 1 (.cel _ _) rfl <| Kn) ?_
  refine AWl.nil ?_
  refine AX.pr (Kc 3 (.box _ _ _) rfl <| Kc 2 (.box _ _ _) rfl <| Kc 1 (.cel _ _) rfl <| Kn) ?_
  refine AX.go ?_
  refine AW.seq ?_
  refine AW.region ?_
  refine AWl.st rfl (OpT.fieldAddr rfl rfl (okd rfl rfl) (Tm rfl rfl rfl) fd121_1 sz31 (by decide) sb121_1) rfl ?_
  refine AWl.st rfl (OpT.load rfl rfl (okd rfl rfl) (Tm rfl rfl rfl) ag31 rfl) rfl ?_
  refine AWl.st rfl (OpT.fieldAddrB rfl rfl (okd rfl rfl) (Root.self (by decide)) rfl (by decide) fd98_1 sz31 (by decide) sb98_1) rfl ?_
  refine AWl.sg rfl (OpT.storeB rfl rfl (Tm rfl rfl rfl) rfl sz31 rfl (Tm rfl rfl rfl)) (Kc 9 (.pel _ _ _ _ _ _ _) rfl <| Kc 8 (.cel _ _) rfl <| Kc 7 (.cel _ _) rfl <| Kc 3 (.box _ _ _) rfl <| Kc 2 (.box _ _ _) rfl <| Kc 1 (.cel _ _) rfl <| Kn) ?_
  refine AWl.nil ?_
  refine AX.pr (Kc 3 (.box _ _ _) rfl <| Kc 2 (.box _ _ _) rfl <| Kn) ?_
  refine AX.go ?_
  refine AW.seq ?_
  refine AW.region ?_
  refine AWl.st rfl (OpT.loadB rfl rfl (okd rfl rfl) (Root.self (by decide)) rfl ag98 sz98) rfl ?_
  refine AWl.sg rfl (OpT.storeBA rfl rfl (Opd.whole (Root.self (by decide)) rfl) rfl sz98 (by decide) (Tm rfl rfl rfl)) (Kc 10 (.agg _ _) rfl <| Kc 3 (.box _ _ _) rfl <| Kc 2 (.box _ _ _) rfl <| Kn) ?_
  refine AWl.nil ?_
  refine AX.pr (Kc 2 (.box _ _ _) rfl <| Kn) ?_
  refine AX.go ?_
  refine AW.ret ?_
  exact AX.rt (rs := [.cell 2 98]) (ts := [none]) (.inl rfl) rfl (ROs.cons (RO.cellA (by decide) (Kb rfl rfl) ag98 sz98) <| ROs.nil) (by decide) OutsOK.nil

/-- laws.toWitnessS -/
theorem c_laws_toWitnessS (x : List (Int × Int)) (hn : x.length ≤ 1099511627776) : AC Try.prog 70 [.cel (Kd.slice kWit) x] [.cel (Kd.slice kWit) x] [] := by
  refine ⟨ACall.intro (N := 23) Try.func70 (c := _) (rfl : Func.body _ = some _) rfl (Nat.le_of_ble_eq_true rfl) (Nat.le_of_ble_eq_true rfl) rfl (Nat.le_of_ble_eq_true rfl) fun w0 hd s0 ar har => ?_, _, Try.func70, rfl, by decide⟩
  refine AW.to (Kc 0 (.cel _ _) rfl <| Kn) ?_
  refine AW.seq ?_
  refine AW.region ?_
  refine AWl.st rfl (OpT.move (A := .cel _ _) (.inr rfl) rfl (okd rfl rfl) (Opd.nilslice kWit) rfl) rfl ?_
  refine AWl.nil ?_
  refine AX.go ?_
  refine AW.seq ?_
  refine AW.region ?_
  refine AWl.st rfl (OpT.move (A := .cel _ _) (.inl rfl) rfl (okd rfl rfl) (Tm rfl rfl rfl) rfl) rfl ?_
  refine AWl.st rfl (OpT.len rfl rfl (okd rfl rfl) (Tm rfl rfl rfl) el51) rfl ?_
  refine AWl.st rfl (OpT.make rfl rfl (okd rfl rfl) (Tm rfl rfl rfl) (Tm rfl rfl rfl) el58 zr98 sz98 by98 (by decide) zk98 (by omega) (by omega)) rfl ?_
  refine AWl.sg rfl (OpT.take (.inl rfl) rfl (okd rfl rfl) (Root.self (by decide)) rfl rfl (by decide)) (Kc 3 (.own _ _ _) rfl <| Kc 6 (.cel _ _) rfl <| Kc 5 (.cel _ _) rfl <| Kc 2 (.cel _ _) rfl <| Kc 0 (.cel _ _) rfl <| Kn) ?_
  refine AWl.nil ?_
  refine AX.pr (Kc 3 (.own _ _ _) rfl <| Kc 2 (.cel _ _) rfl <| Kc 0 (.cel _ _) rfl <| Kn) ?_
  refine AX.go ?_
  refine AW.seq ?_
  refine AW.seq ?_
  refine AW.region ?_
  refine AWl.st rfl (OpT.move (A := .cel _ _) (.inr rfl) rfl (okd rfl rfl) (I rfl) rfl) rfl ?_
  refine AWl.nil ?_
  refine AX.go ?_
  refine AW.block ?_
  refine AW.loop (fun z : Nat => z ≤ x.length) (fun z : Nat => keep [(0, .cel (Kd.slice kWit) x), (3, .own 98 kWit (cpy x z ((0, 0)))), (4, .cel (Kd.int .i64) (z : Int))]) (fun z : Nat => x.length - z) (0) (by omega) (Kc 0 _ (Kv rfl rfl) <| Kc 3 _ (Ko rfl rfl) <| Kc 4 _ (Kv rfl rfl) <| Kn) ?_
  intro z hI
  refine AW.seq ?_
  refine AW.seq ?_
  refine AW.region ?_
  refine AWl.st rfl (OpT.move (A := .cel _ _) (.inl rfl) rfl (okd rfl rfl) (Tm rfl rfl rfl) rfl) rfl ?_
  refine AWl.st rfl (OpT.move (A := .cel _ _) (.inl rfl) rfl (okd rfl rfl) (Tm rfl rfl rfl) rfl) rfl ?_
  refine AWl.st rfl (OpT.len rfl rfl (okd rfl rfl) (Tm rfl rfl rfl) el51) rfl ?_
  refine AWl.st rfl (OpT.lss rfl rfl (okd rfl rfl) (Tm rfl rfl rfl) (Tm rfl rfl rfl)) rfl ?_
  refine AWl.nil ?_
  refine AX.go ?_
  refine AW.cond (t := 11) rfl (by decide) (fun hc1 => ?_) (fun hc1 => ?_)
  ·
    try simp only [decide_eq_true_eq, decide_eq_false_iff_not, Bool.not_eq_true', Bool.not_eq_false'] at hc1
    obtain ⟨a, ha⟩ := getI (x := x) (z := z) (by omega); have hd := cpy_get (x := x) (z := z) (d := ((0, 0) : Int × Int)) (by omega)
    refine AW.skip ?_
    refine AX.go ?_
    refine AW.seq ?_
    refine AW.block ?_
    refine AW.region ?_
    refine AWl.st rfl (OpT.alias rfl rfl (okd rfl rfl) (by decide) (by decide)) rfl ?_
    refine AWl.st rfl (OpT.move (A := .cel _ _) (.inl rfl) rfl (okd rfl rfl) (Tm rfl rfl rfl) rfl) rfl ?_
    refine AWl.st rfl (OpT.move (A := .cel _ _) (.inl rfl) rfl (okd rfl rfl) (Tm rfl rfl rfl) rfl) rfl ?_
    refine AWl.st rfl (OpT.move (A := .cel _ _) (.inl rfl) rfl (okd rfl rfl) (Tm rfl rfl rfl) rfl) rfl ?_
    refine AWl.st rfl (OpT.indexAddr rfl rfl (okd rfl rfl) (Tm rfl rfl rfl) (Tm rfl rfl rfl) el51 sz121 (by omega) (by assumption)) rfl ?_
    refine AWl.st rfl (OpT.loadA rfl rfl (okd rfl rfl) (Tm rfl rfl rfl) ag121 sz121) rfl ?_
    refine AWl.st rfl (OpT.c1 (ms := [.flat]) (c_laws_toWitness _) rfl rfl (okd rfl rfl) (Af (Tm rfl rfl rfl) rfl rfl <| An) rfl rfl) rfl ?_
    refine AWl.st rfl (OpT.indexAddrO rfl rfl (okd rfl rfl) (Root.ali rfl (by decide) (by decide)) rfl (by decide) (Tm rfl rfl rfl) el58 sz98 (by omega) (by assumption)) rfl ?_
    refine AWl.sg rfl (OpT.storeOA rfl rfl (Tm rfl rfl rfl) rfl (by assumption) sz98 (by decide) (Tm rfl rfl rfl)) (Kc 21 (.pel _ _ _ _ _ _ _) rfl <| Kc 20 (.agg _ _) rfl <| Kc 19 (.agg _ _) rfl <| Kc 18 (.cel _ _) rfl <| Kc 17 (.cel _ _) rfl <| Kc 16 (.cel _ _) rfl <| Kc 15 (.cel _ _) rfl <| Kc 14 (.ali _) rfl <| Kc 11 (.cel _ _) rfl <| Kc 10 (.cel _ _) rfl <| Kc 9 (.cel _ _) rfl <| Kc 8 (.cel _ _) rfl <| Kc 0 (.cel _ _) rfl <| Kc 3 (.own _ _ _) rfl <| Kc 4 (.cel _ _) rfl <| Kn) ?_
    refine AWl.nil ?_
    refine AX.normal_block ?_
    refine AX.go ?_
    refine AW.region ?_
    refine AWl.st rfl (OpT.move (A := .cel _ _) (.inl rfl) rfl (okd rfl rfl) (Tm rfl rfl rfl) rfl) rfl ?_
    refine AWl.st rfl (OpT.add rfl rfl (okd rfl rfl) (Tm rfl rfl rfl) (I rfl) (nw (by omega))) rfl ?_
    refine AWl.sg rfl (OpT.move (A := .cel _ _) (.inr rfl) rfl (okd rfl rfl) (Tm rfl rfl rfl) rfl) (Kc 4 (.cel _ _) rfl <| Kc 13 (.cel _ _) rfl <| Kc 12 (.cel _ _) rfl <| Kc 21 (.pel _ _ _ _ _ _ _) rfl <| Kc 20 (.agg _ _) rfl <| Kc 19 (.agg _ _) rfl <| Kc 18 (.cel _ _) rfl <| Kc 17 (.cel _ _) rfl <| Kc 16 (.cel _ _) rfl <| Kc 15 (.cel _ _) rfl <| Kc 14 (.ali _) rfl <| Kc 11 (.cel _ _) rfl <| Kc 10 (.cel _ _) rfl <| Kc 9 (.cel _ _) rfl <| Kc 8 (.cel _ _) rfl <| Kc 0 (.cel _ _) rfl <| Kc 3 (.own _ _ _) rfl <| Kn) ?_
    refine AWl.nil ?_
    exact AX.again (z + 1) (by omega) (by omega) (Kc 0 _ (Kv rfl rfl) <| Kc 3 _ (Ko rfl (cpy_step ha)) <| Kc 4 _ (Kv rfl (by omega)) <| Kn)
  ·
    try simp only [decide_eq_true_eq, decide_eq_false_iff_not, Bool.not_eq_true', Bool.not_eq_false'] at hc1
    refine AW.exit ?_
    refine AX.freeze (t := 3) rfl ?_
    refine AX.pr (Kc 11 (.cel _ _) rfl <| Kc 10 (.cel _ _) rfl <| Kc 9 (.cel _ _) rfl <| Kc 8 (.cel _ _) rfl <| Kc 0 (.cel _ _) rfl <| Kc 3 (.cel _ _) rfl <| Kc 4 (.cel _ _) rfl <| Kn) ?_
    refine AX.exit_then ?_
    refine AX.exit_then ?_
    refine AX.exit_hit ?_
    refine AX.pr (Kc 3 (.cel _ _) rfl <| Kn) ?_
    refine AX.go ?_
    refine AW.seq ?_
    refine AW.region ?_
    refine AWl.st rfl (OpT.move (A := .cel _ _) (.inl rfl) rfl (okd rfl rfl) (Tm rfl rfl rfl) rfl) rfl ?_
    refine AWl.st rfl (OpT.move (A := .cel _ _) (.inr rfl) rfl (okd rfl rfl) (Tm rfl rfl rfl) rfl) rfl ?_
    refine AWl.nil ?_
    refine AX.pr (Kc 2 (.cel _ _) rfl <| Kn) ?_
    refine AX.go ?_
    refine AW.ret ?_
    exact AX.rt (rs := [.tmp 2]) (ts := [some 2]) (.inl rfl) rfl (ROs.cons (RO.tmp (At.self (by decide)) (Kv rfl (cpy_end (by omega))) rfl) <| ROs.nil) (by decide) OutsOK.nil

/-- laws.eqMask -/
theorem c_laws_eqMask (x y : BitVec 64 × BitVec 64) : AC Try.prog 100 [.agg kMask x, .agg kMask y] [.cel Kd.bool (eqv x y)] [] := by
  refine ⟨ACall.intro (N := 17) Try.func100 (c := _) (rfl : Func.body _ = some _) rfl (Nat.le_of_ble_eq_true rfl) (Nat.le_of_ble_eq_true rfl) rfl (Nat.le_of_ble_eq_true rfl) fun w0 hd s0 ar har => ?_, _, Try.func100, rfl, by decide⟩
  refine AW.to (Kc 0 (.agg _ _) rfl <| Kc 1 (.agg _ _) rfl <| Kn) ?_
  refine AW.seq ?_
  refine AW.region ?_
  refine AWl.st rfl (OpT.frz (OpT.boxA (E := 41) rfl rfl (okd rfl rfl) (Tm rfl rfl rfl))) rfl ?_
  refine AWl.st rfl (OpT.frz (OpT.boxA (E := 41) rfl rfl (okd rfl rfl) (Tm rfl rfl rfl))) rfl ?_
  refine AWl.st rfl (OpT.move (A := .cel _ _) (.inr rfl) rfl (okd rfl rfl) Opd.bool rfl) rfl ?_
  refine AWl.nil ?_
  refine AX.pr (Kc 4 (.cel _ _) rfl <| Kc 3 (.cel _ _) rfl <| Kc 2 (.cel _ _) rfl <| Kn) ?_
  refine AX.go ?_
  refine AW.seq ?_
  refine AW.seq ?_
  refine AW.region ?_
  refine AWl.st rfl (OpT.move (A := .cel _ _) (.inr rfl) rfl (okd rfl rfl) (I rfl) rfl) rfl ?_
  refine AWl.nil ?_
  refine AX.go ?_
  refine AW.block ?_
  refine AW.loop (fun z : Nat => z ≤ 2 ∧ (0 < z → x.1 = y.1) ∧ (1 < z → x.2 = y.2)) (fun z : Nat => keep [(2, .cel (Kd.ptr kMask) x), (3, .cel (Kd.ptr kMask) y), (5, .cel (Kd.int .i64) (z : Int))]) (fun z : Nat => 2 - z) (0) (eqM_zero x y) (Kc 2 _ (Kv rfl rfl) <| Kc 3 _ (Kv rfl rfl) <| Kc 5 _ (Kv rfl rfl) <| Kn) ?_
  intro z hI
  refine AW.seq ?_
  refine AW.seq ?_
  refine AW.region ?_
  refine AWl.st rfl (OpT.move (A := .cel _ _) (.inl rfl) rfl (okd rfl rfl) (Tm rfl rfl rfl) rfl) rfl ?_
  refine AWl.st rfl (OpT.lss rfl rfl (okd rfl rfl) (Tm rfl rfl rfl) (I rfl)) rfl ?_
  refine AWl.nil ?_
  refine AX.go ?_
  refine AW.cond (t := 7) rfl (by decide) (fun hc1 => ?_) (fun hc1 => ?_)
  ·
    try simp only [decide_eq_true_eq, decide_eq_false_iff_not, Bool.not_eq_true', Bool.not_eq_false'] at hc1
    refine AW.skip ?_
    refine AX.go ?_
    refine AW.seq ?_
    refine AW.block ?_
    refine AW.seq ?_
    refine AW.dg fomo ?_
    refine DG.fr (d := 10) [5] (DS rfl fun v h => OpT.move (A := .cel _ _) (.inl rfl) rfl (okd rfl rfl) (D h rfl rfl rfl rfl) rfl) rfl rfl ?_
    refine DG.fr (d := 11) [2, 10] (DS rfl fun v h => OpT.indexAddrP rfl rfl (okd rfl rfl) (D h rfl rfl rfl rfl) (D h rfl rfl rfl rfl) ar41 sz38 (by omega) (Sub.two (by omega) rfl)) rfl rfl ?_
    refine DG.fr (d := 12) [11] (DS rfl fun v h => OpT.load rfl rfl (okd rfl rfl) (D h rfl rfl rfl rfl) ag38 rfl) rfl rfl ?_
    refine DG.fr (d := 13) [5] (DS rfl fun v h => OpT.move (A := .cel _ _) (.inl rfl) rfl (okd rfl rfl) (D h rfl rfl rfl rfl) rfl) rfl rfl ?_
    refine DG.fr (d := 14) [3, 13] (DS rfl fun v h => OpT.indexAddrP rfl rfl (okd rfl rfl) (D h rfl rfl rfl rfl) (D h rfl rfl rfl rfl) ar41 sz38 (by omega) (Sub.two (by omega) rfl)) rfl rfl ?_
    refine DG.fr (d := 15) [14] (DS rfl fun v h => OpT.load rfl rfl (okd rfl rfl) (D h rfl rfl rfl rfl) ag38 rfl) rfl rfl ?_
    refine DG.fr (d := 16) [12, 15] (DS rfl fun v h => OpT.uneq rfl rfl (okd rfl rfl) (D h rfl rfl rfl rfl) (D h rfl rfl rfl rfl)) rfl rfl ?_
    refine DG.nil ⟨by kernel_rfl, by kernel_rfl, ?_⟩
    refine AX.go ?_
    refine AW.cond (t := 16) rfl (by decide) (fun hc2 => ?_) (fun hc2 => ?_)
    ·
      try simp only [decide_eq_true_eq, decide_eq_false_iff_not, Bool.not_eq_true', Bool.not_eq_false'] at hc2
      refine AW.seq ?_
      refine AW.region ?_
      refine AWl.st rfl (OpT.move (A := .cel _ _) (.inr rfl) rfl (okd rfl rfl) Opd.bool rfl) rfl ?_
      refine AWl.nil ?_
      refine AX.go ?_
      refine AW.ret ?_
      refine AX.ret_block ?_
      refine AX.ret_then ?_
      refine AX.ret_then ?_
      refine AX.ret_block ?_
      refine AX.ret_then ?_
      exact AX.rt (rs := [.tmp 4]) (ts := [some 4]) (.inl rfl) rfl (ROs.cons (RO.tmp (At.self (by decide)) (Kv rfl (by first | exact eqM_ne (by omega) (bne_iff_ne.1 hc2) | exact eqM_all hI (by omega))) rfl) <| ROs.nil) (by decide) OutsOK.nil
    ·
      try simp only [decide_eq_true_eq, decide_eq_false_iff_not, Bool.not_eq_true', Bool.not_eq_false'] at hc2
      refine AW.skip ?_
      refine AX.normal_block ?_
      refine AX.go ?_
      refine AW.region ?_
      refine AWl.st rfl (OpT.move (A := .cel _ _) (.inl rfl) rfl (okd rfl rfl) (Tm rfl rfl rfl) rfl) rfl ?_
      refine AWl.st rfl (OpT.add rfl rfl (okd rfl rfl) (Tm rfl rfl rfl) (I rfl) (nw (by omega))) rfl ?_
      refine AWl.sg rfl (OpT.move (A := .cel _ _) (.inr rfl) rfl (okd rfl rfl) (Tm rfl rfl rfl) rfl) (Kc 5 (.cel _ _) rfl <| Kc 9 (.cel _ _) rfl <| Kc 8 (.cel _ _) rfl <| Kc 16 (.cel _ _) rfl <| Kc 15 (.cel _ _) rfl <| Kc 14 (.cel _ _) rfl <| Kc 13 (.cel _ _) rfl <| Kc 12 (.cel _ _) rfl <| Kc 11 (.cel _ _) rfl <| Kc 10 (.cel _ _) rfl <| Kc 7 (.cel _ _) rfl <| Kc 6 (.cel _ _) rfl <| Kc 2 (.cel _ _) rfl <| Kc 3 (.cel _ _) rfl <| Kn) ?_
      refine AWl.nil ?_
      exact AX.again (z + 1) (eqM_step hI (by omega) (by simpa [eqv_iff, eqv_false_iff] using hc2)) (by omega) (Kc 2 _ (Kv rfl rfl) <| Kc 3 _ (Kv rfl rfl) <| Kc 5 _ (Kv rfl (by omega)) <| Kn)
  ·
    try simp only [decide_eq_true_eq, decide_eq_false_iff_not, Bool.not_eq_true', Bool.not_eq_false'] at hc1
    refine AW.exit ?_
    refine AX.exit_then ?_
    refine AX.exit_then ?_
    refine AX.exit_hit ?_
    refine AX.pr (Kn) ?_
    refine AX.go ?_
    refine AW.seq ?_
    refine AW.region ?_
    refine AWl.st rfl (OpT.move (A := .cel _ _) (.inr rfl) rfl (okd rfl rfl) Opd.bool rfl) rfl ?_
    refine AWl.nil ?_
    refine AX.go ?_
    refine AW.ret ?_
    exact AX.rt (rs := [.tmp 4]) (ts := [some 4]) (.inl rfl) rfl (ROs.cons (RO.tmp (At.self (by decide)) (Kv rfl (by first | exact eqM_ne (by omega) (bne_iff_ne.1 hc2) | exact eqM_all hI (by omega))) rfl) <| ROs.nil) (by decide) OutsOK.nil

/-- laws.eqQuery -/
theorem c_laws_eqQuery (x y : (BitVec 64 × BitVec 64) × (BitVec 64 × BitVec 64)) : AC Try.prog 73 [.agg kQuery x, .agg kQuery y] [.cel Kd.bool (eqv x y)] [] := by
  refine ⟨ACall.intro (N := 17) Try.func73 (c := _) (rfl : Func.body _ = some _) rfl (Nat.le_of_ble_eq_true rfl) (Nat.le_of_ble_eq_true rfl) rfl (Nat.le_of_ble_eq_true rfl) fun w0 hd s0 ar har => ?_, _, Try.func73, rfl, by decide⟩
  refine AW.to (Kc 0 (.agg _ _) rfl <| Kc 1 (.agg _ _) rfl <| Kn) ?_
  refine AW.seq ?_
  refine AW.region ?_
  refine AWl.st rfl (OpT.frz (OpT.boxA (E := 57) rfl rfl (okd rfl rfl) (Tm rfl rfl rfl))) rfl ?_
  refine AWl.st rfl (OpT.frz (OpT.boxA (E := 57) rfl rfl (okd rfl rfl) (Tm rfl rfl rfl))) rfl ?_
  refine AWl.st rfl (OpT.move (A := .cel _ _) (.inr rfl) rfl (okd rfl rfl) Opd.bool rfl) rfl ?_
  refine AWl.nil ?_
  refine AX.pr (Kc 4 (.cel _ _) rfl <| Kc 3 (.cel _ _) rfl <| Kc 2 (.cel _ _) rfl <| Kn) ?_
  refine AX.go ?_
  refine AW.seq ?_
  refine AW.seq ?_
  refine AW.region ?_
  refine AWl.st rfl (OpT.fieldAddr rfl rfl (okd rfl rfl) (Tm rfl rfl rfl) fd57_0 sz41 (by decide) sb57_0) rfl ?_
  refine AWl.st rfl (OpT.loadA rfl rfl (okd rfl rfl) (Tm rfl rfl rfl) ag41 sz41) rfl ?_
  refine AWl.st rfl (OpT.fieldAddr rfl rfl (okd rfl rfl) (Tm rfl rfl rfl) fd57_0 sz41 (by decide) sb57_0) rfl ?_
  refine AWl.st rfl (OpT.loadA rfl rfl (okd rfl rfl) (Tm rfl rfl rfl) ag41 sz41) rfl ?_
  refine AWl.st rfl (OpT.c1 (ms := [.flat, .flat]) (c_laws_eqMask _ _) rfl rfl (okd rfl rfl) (Af (Tm rfl rfl rfl) rfl rfl <| Af (Tm rfl rfl rfl) rfl rfl <| An) rfl rfl) rfl ?_
  refine AWl.st rfl (OpT.not rfl rfl (okd rfl rfl) (Tm rfl rfl rfl)) rfl ?_
  refine AWl.nil ?_
  refine AX.pr (Kc 10 (.cel _ _) rfl <| Kc 4 (.cel _ _) rfl <| Kc 3 (.cel _ _) rfl <| Kc 2 (.cel _ _) rfl <| Kn) ?_
  refine AX.go ?_
  refine AW.cond (t := 10) rfl (by decide) (fun hc1 => ?_) (fun hc1 => ?_)
  ·
    try simp only [decide_eq_true_eq, decide_eq_false_iff_not, Bool.not_eq_true', Bool.not_eq_false'] at hc1
    refine AW.seq ?_
    refine AW.region ?_
    refine AWl.sg rfl (OpT.move (A := .cel _ _) (.inr rfl) rfl (okd rfl rfl) Opd.bool rfl) (Kc 4 (.cel _ _) rfl <| Kc 10 (.cel _ _) rfl <| Kc 3 (.cel _ _) rfl <| Kc 2 (.cel _ _) rfl <| Kn) ?_
    refine AWl.nil ?_
    refine AX.pr (Kc 4 (.cel _ _) rfl <| Kc 3 (.cel _ _) rfl <| Kc 2 (.cel _ _) rfl <| Kn) ?_
    refine AX.go ?_
    refine AW.ret ?_
    refine AX.ret_then ?_
    exact AX.rt (rs := [.tmp 4]) (ts := [some 4]) (.inl rfl) rfl (ROs.cons (RO.tmp (At.self (by decide)) (Kv rfl (by rw [eqv_pair (x := x)]; simp_all [eqv_beq, eqv_bne, Bool.and_assoc])) rfl) <| ROs.nil) (by decide) OutsOK.nil
  ·
    try simp only [decide_eq_true_eq, decide_eq_false_iff_not, Bool.not_eq_true', Bool.not_eq_false'] at hc1
    refine AW.skip ?_
    refine AX.pr (Kc 4 (.cel _ _) rfl <| Kc 3 (.cel _ _) rfl <| Kc 2 (.cel _ _) rfl <| Kn) ?_
    refine AX.go ?_
    refine AW.seq ?_
    refine AW.seq ?_
    refine AW.region ?_
    refine AWl.st rfl (OpT.fieldAddr rfl rfl (okd rfl rfl) (Tm rfl rfl rfl) fd57_1 sz41 (by decide) sb57_1) rfl ?_
    refine AWl.st rfl (OpT.loadA rfl rfl (okd rfl rfl) (Tm rfl rfl rfl) ag41 sz41) rfl ?_
    refine AWl.st rfl (OpT.fieldAddr rfl rfl (okd rfl rfl) (Tm rfl rfl rfl) fd57_1 sz41 (by decide) sb57_1) rfl ?_
    refine AWl.st rfl (OpT.loadA rfl rfl (okd rfl rfl) (Tm rfl rfl rfl) ag41 sz41) rfl ?_
    refine AWl.st rfl (OpT.c1 (ms := [.flat, .flat]) (c_laws_eqMask _ _) rfl rfl (okd rfl rfl) (Af (Tm rfl rfl rfl) rfl rfl <| Af (Tm rfl rfl rfl) rfl rfl <| An) rfl rfl) rfl ?_
    refine AWl.st rfl (OpT.not rfl rfl (okd rfl rfl) (Tm rfl rfl rfl)) rfl ?_
    refine AWl.nil ?_
    refine AX.pr (Kc 16 (.cel _ _) rfl <| Kc 4 (.cel _ _) rfl <| Kn) ?_
    refine AX.go ?_
    refine AW.cond (t := 16) rfl (by decide) (fun hc2 => ?_) (fun hc2 => ?_)
    ·
      try simp only [decide_eq_true_eq, decide_eq_false_iff_not, Bool.not_eq_true', Bool.not_eq_false'] at hc2
      refine AW.seq ?_
      refine AW.region ?_
      refine AWl.sg rfl (OpT.move (A := .cel _ _) (.inr rfl) rfl (okd rfl rfl) Opd.bool rfl) (Kc 4 (.cel _ _) rfl <| Kc 16 (.cel _ _) rfl <| Kn) ?_
      refine AWl.nil ?_
      refine AX.pr (Kc 4 (.cel _ _) rfl <| Kn) ?_
      refine AX.go ?_
      refine AW.ret ?_
      refine AX.ret_then ?_
      exact AX.rt (rs := [.tmp 4]) (ts := [some 4]) (.inl rfl) rfl (ROs.cons (RO.tmp (At.self (by decide)) (Kv rfl (by rw [eqv_pair (x := x)]; simp_all [eqv_beq, eqv_bne, Bool.and_assoc])) rfl) <| ROs.nil) (by decide) OutsOK.nil
    ·
      try simp only [decide_eq_true_eq, decide_eq_false_iff_not, Bool.not_eq_true', Bool.not_eq_false'] at hc2
      refine AW.skip ?_
      refine AX.pr (Kc 4 (.cel _ _) rfl <| Kn) ?_
      refine AX.go ?_
      refine AW.seq ?_
      refine AW.region ?_
      refine AWl.sg rfl (OpT.move (A := .cel _ _) (.inr rfl) rfl (okd rfl rfl) Opd.bool rfl) (Kc 4 (.cel _ _) rfl <| Kn) ?_
      refine AWl.nil ?_
      refine AX.go ?_
      refine AW.ret ?_
      exact AX.rt (rs := [.tmp 4]) (ts := [some 4]) (.inl rfl) rfl (ROs.cons (RO.tmp (At.self (by decide)) (Kv rfl (by rw [eqv_pair (x := x)]; simp_all [eqv_beq, eqv_bne, Bool.and_assoc])) rfl) <| ROs.nil) (by decide) OutsOK.nil

/-- laws.eqAnswer -/
theorem c_laws_eqAnswer (x y : ((BitVec 64 × BitVec 64) × (BitVec 64 × BitVec 64)) × List (Int) × List (Int × Int)) : AC Try.prog 32 [.agg kAns x, .agg kAns y] [.cel Kd.bool (eqv x y)] [] := by
  refine ⟨ACall.intro (N := 23) Try.func32 (c := _) (rfl : Func.body _ = some _) rfl (Nat.le_of_ble_eq_true rfl) (Nat.le_of_ble_eq_true rfl) rfl (Nat.le_of_ble_eq_true rfl) fun w0 hd s0 ar har => ?_, _, Try.func32, rfl, by decide⟩
  refine AW.to (Kc 0 (.agg _ _) rfl <| Kc 1 (.agg _ _) rfl <| Kn) ?_
  refine AW.seq ?_
  refine AW.region ?_
  refine AWl.st rfl (OpT.frz (OpT.boxA (E := 60) rfl rfl (okd rfl rfl) (Tm rfl rfl rfl))) rfl ?_
  refine AWl.st rfl (OpT.frz (OpT.boxA (E := 60) rfl rfl (okd rfl rfl) (Tm rfl rfl rfl))) rfl ?_
  refine AWl.st rfl (OpT.move (A := .cel _ _) (.inr rfl) rfl (okd rfl rfl) Opd.bool rfl) rfl ?_
  refine AWl.nil ?_
  refine AX.pr (Kc 4 (.cel _ _) rfl <| Kc 3 (.cel _ _) rfl <| Kc 2 (.cel _ _) rfl <| Kn) ?_
  refine AX.go ?_
  refine AW.seq ?_
  refine AW.seq ?_
  refine AW.region ?_
  refine AWl.st rfl (OpT.fieldAddr rfl rfl (okd rfl rfl) (Tm rfl rfl rfl) fd60_0 sz57 (by decide) sb60_0) rfl ?_
  refine AWl.st rfl (OpT.loadA rfl rfl (okd rfl rfl) (Tm rfl rfl rfl) ag57 sz57) rfl ?_
  refine AWl.st rfl (OpT.fieldAddr rfl rfl (okd rfl rfl) (Tm rfl rfl rfl) fd60_0 sz57 (by decide) sb60_0) rfl ?_
  refine AWl.st rfl (OpT.loadA rfl rfl (okd rfl rfl) (Tm rfl rfl rfl) ag57 sz57) rfl ?_
  refine AWl.st rfl (OpT.c1 (ms := [.flat, .flat]) (c_laws_eqQuery _ _) rfl rfl (okd rfl rfl) (Af (Tm rfl rfl rfl) rfl rfl <| Af (Tm rfl rfl rfl) rfl rfl <| An) rfl rfl) rfl ?_
  refine AWl.st rfl (OpT.not rfl rfl (okd rfl rfl) (Tm rfl rfl rfl)) rfl ?_
  refine AWl.nil ?_
  refine AX.pr (Kc 10 (.cel _ _) rfl <| Kc 4 (.cel _ _) rfl <| Kc 3 (.cel _ _) rfl <| Kc 2 (.cel _ _) rfl <| Kn) ?_
  refine AX.go ?_
  refine AW.cond (t := 10) rfl (by decide) (fun hc1 => ?_) (fun hc1 => ?_)
  ·
    try simp only [decide_eq_true_eq, decide_eq_false_iff_not, Bool.not_eq_true', Bool.not_eq_false'] at hc1
    refine AW.seq ?_
    refine AW.region ?_
    refine AWl.sg rfl (OpT.move (A := .cel _ _) (.inr rfl) rfl (okd rfl rfl) Opd.bool rfl) (Kc 4 (.cel _ _) rfl <| Kc 10 (.cel _ _) rfl <| Kc 3 (.cel _ _) rfl <| Kc 2 (.cel _ _) rfl <| Kn) ?_
    refine AWl.nil ?_
    refine AX.pr (Kc 4 (.cel _ _) rfl <| Kc 3 (.cel _ _) rfl <| Kc 2 (.cel _ _) rfl <| Kn) ?_
    refine AX.go ?_
    refine AW.ret ?_
    refine AX.ret_then ?_
    exact AX.rt (rs := [.tmp 4]) (ts := [some 4]) (.inl rfl) rfl (ROs.cons (RO.tmp (At.self (by decide)) (Kv rfl (by rw [eqv_pair (x := x), eqv_pair (x := x.2)]; simp_all [eqv_beq, eqv_bne, Bool.and_assoc])) rfl) <| ROs.nil) (by decide) OutsOK.nil
  ·
    try simp only [decide_eq_true_eq, decide_eq_false_iff_not, Bool.not_eq_true', Bool.not_eq_false'] at hc1
    refine AW.skip ?_
    refine AX.pr (Kc 4 (.cel _ _) rfl <| Kc 3 (.cel _ _) rfl <| Kc 2 (.cel _ _) rfl <| Kn) ?_
    refine AX.go ?_
    refine AW.seq ?_
    refine AW.seq ?_
    refine AW.region ?_
    refine AWl.st rfl (OpT.fieldAddr rfl rfl (okd rfl rfl) (Tm rfl rfl rfl) fd60_1 sz50 (by decide) sb60_1) rfl ?_
    refine AWl.st rfl (OpT.load rfl rfl (okd rfl rfl) (Tm rfl rfl rfl) ag50 rfl) rfl ?_
    refine AWl.st rfl (OpT.fieldAddr rfl rfl (okd rfl rfl) (Tm rfl rfl rfl) fd60_1 sz50 (by decide) sb60_1) rfl ?_
    refine AWl.st rfl (OpT.load rfl rfl (okd rfl rfl) (Tm rfl rfl rfl) ag50 rfl) rfl ?_
    refine AWl.st rfl (OpT.c1 (ms := [.flat, .flat]) (c_laws_eqInt64S _ _) rfl rfl (okd rfl rfl) (Af (Tm rfl rfl rfl) rfl rfl <| Af (Tm rfl rfl rfl) rfl rfl <| An) rfl rfl) rfl ?_
    refine AWl.st rfl (OpT.not rfl rfl (okd rfl rfl) (Tm rfl rfl rfl)) rfl ?_
    refine AWl.nil ?_
    refine AX.pr (Kc 16 (.cel _ _) rfl <| Kc 4 (.cel _ _) rfl <| Kc 3 (.cel _ _) rfl <| Kc 2 (.cel _ _) rfl <| Kn) ?_
    refine AX.go ?_
    refine AW.cond (t := 16) rfl (by decide) (fun hc2 => ?_) (fun hc2 => ?_)
    ·
      try simp only [decide_eq_true_eq, decide_eq_false_iff_not, Bool.not_eq_true', Bool.not_eq_false'] at hc2
      refine AW.seq ?_
      refine AW.region ?_
      refine AWl.sg rfl (OpT.move (A := .cel _ _) (.inr rfl) rfl (okd rfl rfl) Opd.bool rfl) (Kc 4 (.cel _ _) rfl <| Kc 16 (.cel _ _) rfl <| Kc 3 (.cel _ _) rfl <| Kc 2 (.cel _ _) rfl <| Kn) ?_
      refine AWl.nil ?_
      refine AX.pr (Kc 4 (.cel _ _) rfl <| Kc 3 (.cel _ _) rfl <| Kc 2 (.cel _ _) rfl <| Kn) ?_
      refine AX.go ?_
      refine AW.ret ?_
      refine AX.ret_then ?_
      exact AX.rt (rs := [.tmp 4]) (ts := [some 4]) (.inl rfl) rfl (ROs.cons (RO.tmp (At.self (by decide)) (Kv rfl (by rw [eqv_pair (x := x), eqv_pair (x := x.2)]; simp_all [eqv_beq, eqv_bne, Bool.and_assoc])) rfl) <| ROs.nil) (by decide) OutsOK.nil
    ·
      try simp only [decide_eq_true_eq, decide_eq_false_iff_not, Bool.not_eq_true', Bool.not_eq_false'] at hc2
      refine AW.skip ?_
      refine AX.pr (Kc 4 (.cel _ _) rfl <| Kc 3 (.cel _ _) rfl <| Kc 2 (.cel _ _) rfl <| Kn) ?_
      refine AX.go ?_
      refine AW.seq ?_
      refine AW.seq ?_
      refine AW.region ?_
      refine AWl.st rfl (OpT.fieldAddr rfl rfl (okd rfl rfl) (Tm rfl rfl rfl) fd60_2 sz58 (by decide) sb60_2) rfl ?_
      refine AWl.st rfl (OpT.load rfl rfl (okd rfl rfl) (Tm rfl rfl rfl) ag58 rfl) rfl ?_
      refine AWl.st rfl (OpT.fieldAddr rfl rfl (okd rfl rfl) (Tm rfl rfl rfl) fd60_2 sz58 (by decide) sb60_2) rfl ?_
      refine AWl.st rfl (OpT.load rfl rfl (okd rfl rfl) (Tm rfl rfl rfl) ag58 rfl) rfl ?_
      refine AWl.st rfl (OpT.c1 (ms := [.flat, .flat]) (c_laws_eqWitnessS _ _) rfl rfl (okd rfl rfl) (Af (Tm rfl rfl rfl) rfl rfl <| Af (Tm rfl rfl rfl) rfl rfl <| An) rfl rfl) rfl ?_
      refine AWl.st rfl (OpT.not rfl rfl (okd rfl rfl) (Tm rfl rfl rfl)) rfl ?_
      refine AWl.nil ?_
      refine AX.pr (Kc 22 (.cel _ _) rfl <| Kc 4 (.cel _ _) rfl <| Kn) ?_
      refine AX.go ?_
      refine AW.cond (t := 22) rfl (by decide) (fun hc3 => ?_) (fun hc3 => ?_)
      ·
        try simp only [decide_eq_true_eq, decide_eq_false_iff_not, Bool.not_eq_true', Bool.not_eq_false'] at hc3
        refine AW.seq ?_
        refine AW.region ?_
        refine AWl.sg rfl (OpT.move (A := .cel _ _) (.inr rfl) rfl (okd rfl rfl) Opd.bool rfl) (Kc 4 (.cel _ _) rfl <| Kc 22 (.cel _ _) rfl <| Kn) ?_
        refine AWl.nil ?_
        refine AX.pr (Kc 4 (.cel _ _) rfl <| Kn) ?_
        refine AX.go ?_
        refine AW.ret ?_
        refine AX.ret_then ?_
        exact AX.rt (rs := [.tmp 4]) (ts := [some 4]) (.inl rfl) rfl (ROs.cons (RO.tmp (At.self (by decide)) (Kv rfl (by rw [eqv_pair (x := x), eqv_pair (x := x.2)]; simp_all [eqv_beq, eqv_bne, Bool.and_assoc])) rfl) <| ROs.nil) (by decide) OutsOK.nil
      ·
        try simp only [decide_eq_true_eq, decide_eq_false_iff_not, Bool.not_eq_true', Bool.not_eq_false'] at hc3
        refine AW.skip ?_
        refine AX.pr (Kc 4 (.cel _ _) rfl <| Kn) ?_
        refine AX.go ?_
        refine AW.seq ?_
        refine AW.region ?_
        refine AWl.sg rfl (OpT.move (A := .cel _ _) (.inr rfl) rfl (okd rfl rfl) Opd.bool rfl) (Kc 4 (.cel _ _) rfl <| Kn) ?_
        refine AWl.nil ?_
        refine AX.go ?_
        refine AW.ret ?_
        exact AX.rt (rs := [.tmp 4]) (ts := [some 4]) (.inl rfl) rfl (ROs.cons (RO.tmp (At.self (by decide)) (Kv rfl (by rw [eqv_pair (x := x), eqv_pair (x := x.2)]; simp_all [eqv_beq, eqv_bne, Bool.and_assoc])) rfl) <| ROs.nil) (by decide) OutsOK.nil

/-- impl.SameAnswer -/
theorem c_impl_SameAnswer (x y : ((BitVec 64 × BitVec 64) × (BitVec 64 × BitVec 64)) × List (Int) × List (Int × Int)) : AC Try.prog 31 [.agg kAns x, .agg kAns y] [.cel Kd.bool (eqv x y)] [] := by
  refine ⟨ACall.intro (N := 24) Try.func31 (c := _) (rfl : Func.body _ = some _) rfl (Nat.le_of_ble_eq_true rfl) (Nat.le_of_ble_eq_true rfl) rfl (Nat.le_of_ble_eq_true rfl) fun w0 hd s0 ar har => ?_, _, Try.func31, rfl, by decide⟩
  refine AW.to (Kc 0 (.agg _ _) rfl <| Kc 1 (.agg _ _) rfl <| Kn) ?_
  refine AW.seq ?_
  refine AW.region ?_
  refine AWl.st rfl (OpT.frz (OpT.boxA (E := 60) rfl rfl (okd rfl rfl) (Tm rfl rfl rfl))) rfl ?_
  refine AWl.st rfl (OpT.frz (OpT.boxA (E := 60) rfl rfl (okd rfl rfl) (Tm rfl rfl rfl))) rfl ?_
  refine AWl.st rfl (OpT.move (A := .cel _ _) (.inr rfl) rfl (okd rfl rfl) Opd.bool rfl) rfl ?_
  refine AWl.nil ?_
  refine AX.pr (Kc 4 (.cel _ _) rfl <| Kc 3 (.cel _ _) rfl <| Kc 2 (.cel _ _) rfl <| Kn) ?_
  refine AX.go ?_
  refine AW.seq ?_
  refine AW.region ?_
  refine AWl.st rfl (OpT.fieldAddr rfl rfl (okd rfl rfl) (Tm rfl rfl rfl) fd60_0 sz57 (by decide) sb60_0) rfl ?_
  refine AWl.st rfl (OpT.loadA rfl rfl (okd rfl rfl) (Tm rfl rfl rfl) ag57 sz57) rfl ?_
  refine AWl.st rfl (OpT.fieldAddr rfl rfl (okd rfl rfl) (Tm rfl rfl rfl) fd60_0 sz57 (by decide) sb60_0) rfl ?_
  refine AWl.st rfl (OpT.loadA rfl rfl (okd rfl rfl) (Tm rfl rfl rfl) ag57 sz57) rfl ?_
  refine AWl.st rfl (OpT.eqA rfl rfl (okd rfl rfl) (Tm rfl rfl rfl) (Tm rfl rfl rfl) eq57 ag57 rfl eg57) rfl ?_
  refine AWl.st rfl (OpT.move (A := .cel _ _) (.inl rfl) rfl (okd rfl rfl) (Tm rfl rfl rfl) rfl) rfl ?_
  apply AWl.and (d := 16) (t := 10) rfl
  · intro hb1 Q1 k1
    refine AWl.rs rfl rfl rfl rfl hb1 (OpT.fieldAddr rfl rfl (okd rfl rfl) (Tm rfl rfl rfl) fd60_1 sz50 (by decide) sb60_1) rfl ?_
    refine AWl.rs rfl rfl rfl rfl hb1 (OpT.load rfl rfl (okd rfl rfl) (Tm rfl rfl rfl) ag50 rfl) rfl ?_
    refine AWl.rs rfl rfl rfl rfl hb1 (OpT.fieldAddr rfl rfl (okd rfl rfl) (Tm rfl rfl rfl) fd60_1 sz50 (by decide) sb60_1) rfl ?_
    refine AWl.rs rfl rfl rfl rfl hb1 (OpT.load rfl rfl (okd rfl rfl) (Tm rfl rfl rfl) ag50 rfl) rfl ?_
    refine AWl.rs rfl rfl rfl rfl hb1 (OpT.c1 (ms := [.flat, .flat]) (c_slices_Equal_int64_int64 _ _) rfl rfl (okd rfl rfl) (Af (Tm rfl rfl rfl) rfl rfl <| Af (Tm rfl rfl rfl) rfl rfl <| An) rfl rfl) rfl ?_
    refine AWl.st rfl (OpT.pickT (A := .cel _ _) rfl rfl (okd rfl rfl) (Tm rfl rfl rfl) hb1 (Tm rfl rfl rfl) rfl) rfl ?_
    exact AWl.to (junk 5 rfl) k1
  · intro hb1 Q1 k1
    refine AWl.pas rfl rfl rfl rfl hb1 rfl (okd rfl rfl) rfl ?_
    refine AWl.pas rfl rfl rfl rfl hb1 rfl (okd rfl rfl) rfl ?_
    refine AWl.pas rfl rfl rfl rfl hb1 rfl (okd rfl rfl) rfl ?_
    refine AWl.pas rfl rfl rfl rfl hb1 rfl (okd rfl rfl) rfl ?_
    refine AWl.pas rfl rfl rfl rfl hb1 rfl (okd rfl rfl) rfl ?_
    refine AWl.st rfl (OpT.pickF (A := .cel _ _) rfl rfl (okd rfl rfl) (Tm rfl rfl rfl) hb1 Opd.bool rfl) rfl ?_
    exact k1
  refine AWl.st rfl (OpT.move (A := .cel _ _) (.inl rfl) rfl (okd rfl rfl) (Tm rfl rfl rfl) rfl) rfl ?_
  apply AWl.and (d := 23) (t := 17) rfl
  · intro hb2 Q1 k1
    refine AWl.rs rfl rfl rfl rfl hb2 (OpT.fieldAddr rfl rfl (okd rfl rfl) (Tm rfl rfl rfl) fd60_2 sz58 (by decide) sb60_2) rfl ?_
    refine AWl.rs rfl rfl rfl rfl hb2 (OpT.load rfl rfl (okd rfl rfl) (Tm rfl rfl rfl) ag58 rfl) rfl ?_
    refine AWl.rs rfl rfl rfl rfl hb2 (OpT.fieldAddr rfl rfl (okd rfl rfl) (Tm rfl rfl rfl) fd60_2 sz58 (by decide) sb60_2) rfl ?_
    refine AWl.rs rfl rfl rfl rfl hb2 (OpT.load rfl rfl (okd rfl rfl) (Tm rfl rfl rfl) ag58 rfl) rfl ?_
    refine AWl.rs rfl rfl rfl rfl hb2 (OpT.c1 (ms := [.flat, .flat]) (c_slices_Equal_impl_Witness_impl_Witness _ _) rfl rfl (okd rfl rfl) (Af (Tm rfl rfl rfl) rfl rfl <| Af (Tm rfl rfl rfl) rfl rfl <| An) rfl rfl) rfl ?_
    refine AWl.st rfl (OpT.pickT (A := .cel _ _) rfl rfl (okd rfl rfl) (Tm rfl rfl rfl) hb2 (Tm rfl rfl rfl) rfl) rfl ?_
    exact AWl.to (junk 5 rfl) k1
  · intro hb2 Q1 k1
    refine AWl.pas rfl rfl rfl rfl hb2 rfl (okd rfl rfl) rfl ?_
    refine AWl.pas rfl rfl rfl rfl hb2 rfl (okd rfl rfl) rfl ?_
    refine AWl.pas rfl rfl rfl rfl hb2 rfl (okd rfl rfl) rfl ?_
    refine AWl.pas rfl rfl rfl rfl hb2 rfl (okd rfl rfl) rfl ?_
    refine AWl.pas rfl rfl rfl rfl hb2 rfl (okd rfl rfl) rfl ?_
    refine AWl.st rfl (OpT.pickF (A := .cel _ _) rfl rfl (okd rfl rfl) (Tm rfl rfl rfl) hb2 Opd.bool rfl) rfl ?_
    exact k1
  refine AWl.sg rfl (OpT.move (A := .cel _ _) (.inr rfl) rfl (okd rfl rfl) (Tm rfl rfl rfl) rfl) (Kc 4 (.cel _ _) rfl <| Kc 23 (.cel _ _) rfl <| Kc 17 (.cel _ _) rfl <| Kc 16 (.cel _ _) rfl <| Kc 10 (.cel _ _) rfl <| Kc 9 (.cel _ _) rfl <| Kc 8 (.agg _ _) rfl <| Kc 7 (.cel _ _) rfl <| Kc 6 (.agg _ _) rfl <| Kc 5 (.cel _ _) rfl <| Kc 3 (.cel _ _) rfl <| Kc 2 (.cel _ _) rfl <| Kn) ?_
  refine AWl.nil ?_
  refine AX.pr (Kc 4 (.cel _ _) rfl <| Kn) ?_
  refine AX.go ?_
  refine AW.ret ?_
  exact AX.rt (rs := [.tmp 4]) (ts := [some 4]) (.inl rfl) rfl (ROs.cons (RO.tmp (At.self (by decide)) (Kv rfl (by rw [eqv_pair (x := x), eqv_pair (x := x.2)]; simp_all [eqv_beq, eqv_bne, Bool.and_assoc])) rfl) <| ROs.nil) (by decide) OutsOK.nil

/-- laws.toQuery -/
theorem c_laws_toQuery (x : (BitVec 64 × BitVec 64) × (BitVec 64 × BitVec 64)) : AC Try.prog 69 [.agg kQuery x] [.agg kQuery x] [] := by
  refine ⟨ACall.intro (N := 13) Try.func69 (c := _) (rfl : Func.body _ = some _) rfl (Nat.le_of_ble_eq_true rfl) (Nat.le_of_ble_eq_true rfl) rfl (Nat.le_of_ble_eq_true rfl) fun w0 hd s0 ar har => ?_, _, Try.func69, rfl, by decide⟩
  refine AW.to (Kc 0 (.agg _ _) rfl <| Kn) ?_
  refine AW.seq ?_
  refine AW.region ?_
  refine AWl.st rfl (OpT.frz (OpT.boxA (E := 49) rfl rfl (okd rfl rfl) (Tm rfl rfl rfl))) rfl ?_
  refine AWl.st rfl (OpT.alloc rfl rfl (okd rfl rfl) zr57 zk57) rfl ?_
  refine AWl.nil ?_
  refine AX.pr (Kc 2 (.box _ _ _) rfl <| Kc 1 (.cel _ _) rfl <| Kn) ?_
  refine AX.go ?_
  refine AW.seq ?_
  refine AW.region ?_
  refine AWl.st rfl (OpT.alloc rfl rfl (okd rfl rfl) zr57 zk57) rfl ?_
  refine AWl.nil ?_
  refine AX.go ?_
  refine AW.seq ?_
  refine AW.region ?_
  refine AWl.st rfl (OpT.fieldAddr rfl rfl (okd rfl rfl) (Tm rfl rfl rfl) fd49_0 sz39 (by decide) sb49_0) rfl ?_
  refine AWl.st rfl (OpT.loadA rfl rfl (okd rfl rfl) (Tm rfl rfl rfl) ag39 sz39) rfl ?_
  refine AWl.st rfl (OpT.c1 (ms := [.flat]) (c_laws_toMask _) rfl rfl (okd rfl rfl) (Af (Tm rfl rfl rfl) rfl rfl <| An) rfl rfl) rfl ?_
  refine AWl.st rfl (OpT.fieldAddrB rfl rfl (okd rfl rfl) (Root.self (by decide)) rfl (by decide) fd57_0 sz41 (by decide) sb57_0) rfl ?_
  refine AWl.sg rfl (OpT.storeBA rfl rfl (Tm rfl rfl rfl) rfl sz41 (by decide) (Tm rfl rfl rfl)) (Kc 7 (.pel _ _ _ _ _ _ _) rfl <| Kc 6 (.agg _ _) rfl <| Kc 5 (.agg _ _) rfl <| Kc 4 (.cel _ _) rfl <| Kc 3 (.box _ _ _) rfl <| Kc 2 (.box _ _ _) rfl <| Kc 1 (.cel _ _) rfl <| Kn) ?_
  refine AWl.nil ?_
  refine AX.pr (Kc 3 (.box _ _ _) rfl <| Kc 2 (.box _ _ _) rfl <| Kc 1 (.cel _ _) rfl <| Kn) ?_
  refine AX.go ?_
  refine AW.seq ?_
  refine AW.region ?_
  refine AWl.st rfl (OpT.fieldAddr rfl rfl (okd rfl rfl) (Tm rfl rfl rfl) fd49_1 sz39 (by decide) sb49_1) rfl ?_
  refine AWl.st rfl (OpT.loadA rfl rfl (okd rfl rfl) (Tm rfl rfl rfl) ag39 sz39) rfl ?_
  refine AWl.st rfl (OpT.c1 (ms := [.flat]) (c_laws_toMask _) rfl rfl (okd rfl rfl) (Af (Tm rfl rfl rfl) rfl rfl <| An) rfl rfl) rfl ?_
  refine AWl.st rfl (OpT.fieldAddrB rfl rfl (okd rfl rfl) (Root.self (by decide)) rfl (by decide) fd57_1 sz41 (by decide) sb57_1) rfl ?_
  refine AWl.sg rfl (OpT.storeBA rfl rfl (Tm rfl rfl rfl) rfl sz41 (by decide) (Tm rfl rfl rfl)) (Kc 11 (.pel _ _ _ _ _ _ _) rfl <| Kc 10 (.agg _ _) rfl <| Kc 9 (.agg _ _) rfl <| Kc 8 (.cel _ _) rfl <| Kc 3 (.box _ _ _) rfl <| Kc 2 (.box _ _ _) rfl <| Kc 1 (.cel _ _) rfl <| Kn) ?_
  refine AWl.nil ?_
  refine AX.pr (Kc 3 (.box _ _ _) rfl <| Kc 2 (.box _ _ _) rfl <| Kn) ?_
  refine AX.go ?_
  refine AW.seq ?_
  refine AW.region ?_
  refine AWl.st rfl (OpT.loadB rfl rfl (okd rfl rfl) (Root.self (by decide)) rfl ag57 sz57) rfl ?_
  refine AWl.sg rfl (OpT.storeBA rfl rfl (Opd.whole (Root.self (by decide)) rfl) rfl sz57 (by decide) (Tm rfl rfl rfl)) (Kc 12 (.agg _ _) rfl <| Kc 3 (.box _ _ _) rfl <| Kc 2 (.box _ _ _) rfl <| Kn) ?_
  refine AWl.nil ?_
  refine AX.pr (Kc 2 (.box _ _ _) rfl <| Kn) ?_
  refine AX.go ?_
  refine AW.ret ?_
  exact AX.rt (rs := [.cell 2 57]) (ts := [none]) (.inl rfl) rfl (ROs.cons (RO.cellA (by decide) (Kb rfl rfl) ag57 sz57) <| ROs.nil) (by decide) OutsOK.nil

/-- laws.toAnswer -/
theorem c_laws_toAnswer (x : DAns) (hn : x.2.1.length ≤ 1099511627776 ∧ x.2.2.length ≤ 1099511627776) : AC Try.prog 30 [.agg kAns x] [.agg kAns x] [] := by
  refine ⟨ACall.intro (N := 17) Try.func30 (c := _) (rfl : Func.body _ = some _) rfl (Nat.le_of_ble_eq_true rfl) (Nat.le_of_ble_eq_true rfl) rfl (Nat.le_of_ble_eq_true rfl) fun w0 hd s0 ar har => ?_, _, Try.func30, rfl, by decide⟩
  refine AW.to (Kc 0 (.agg _ _) rfl <| Kn) ?_
  refine AW.seq ?_
  refine AW.region ?_
  refine AWl.st rfl (OpT.frz (OpT.boxA (E := 53) rfl rfl (okd rfl rfl) (Tm rfl rfl rfl))) rfl ?_
  refine AWl.st rfl (OpT.alloc rfl rfl (okd rfl rfl) zr60 zk60) rfl ?_
  refine AWl.nil ?_
  refine AX.pr (Kc 2 (.box _ _ _) rfl <| Kc 1 (.cel _ _) rfl <| Kn) ?_
  refine AX.go ?_
  refine AW.seq ?_
  refine AW.region ?_
  refine AWl.st rfl (OpT.alloc rfl rfl (okd rfl rfl) zr60 zk60) rfl ?_
  refine AWl.nil ?_
  refine AX.go ?_
  refine AW.seq ?_
  refine AW.region ?_
  refine AWl.st rfl (OpT.fieldAddr rfl rfl (okd rfl rfl) (Tm rfl rfl rfl) fd53_0 sz49 (by decide) sb53_0) rfl ?_
  refine AWl.st rfl (OpT.loadA rfl rfl (okd rfl rfl) (Tm rfl rfl rfl) ag49 sz49) rfl ?_
  refine AWl.st rfl (OpT.c1 (ms := [.flat]) (c_laws_toQuery _) rfl rfl (okd rfl rfl) (Af (Tm rfl rfl rfl) rfl rfl <| An) rfl rfl) rfl ?_
  refine AWl.st rfl (OpT.fieldAddrB rfl rfl (okd rfl rfl) (Root.self (by decide)) rfl (by decide) fd60_0 sz57 (by decide) sb60_0) rfl ?_
  refine AWl.sg rfl (OpT.storeBA rfl rfl (Tm rfl rfl rfl) rfl sz57 (by decide) (Tm rfl rfl rfl)) (Kc 7 (.pel _ _ _ _ _ _ _) rfl <| Kc 6 (.agg _ _) rfl <| Kc 5 (.agg _ _) rfl <| Kc 4 (.cel _ _) rfl <| Kc 3 (.box _ _ _) rfl <| Kc 2 (.box _ _ _) rfl <| Kc 1 (.cel _ _) rfl <| Kn) ?_
  refine AWl.nil ?_
  refine AX.pr (Kc 3 (.box _ _ _) rfl <| Kc 2 (.box _ _ _) rfl <| Kc 1 (.cel _ _) rfl <| Kn) ?_
  refine AX.go ?_
  refine AW.seq ?_
  refine AW.region ?_
  refine AWl.st rfl (OpT.fieldAddr rfl rfl (okd rfl rfl) (Tm rfl rfl rfl) fd53_1 sz50 (by decide) sb53_1) rfl ?_
  refine AWl.st rfl (OpT.load rfl rfl (okd rfl rfl) (Tm rfl rfl rfl) ag50 rfl) rfl ?_
  refine AWl.st rfl (OpT.c1 (ms := [.flat]) (c_laws_toInt64S _ hn.1) rfl rfl (okd rfl rfl) (Af (Tm rfl rfl rfl) rfl rfl <| An) rfl rfl) rfl ?_
  refine AWl.st rfl (OpT.fieldAddrB rfl rfl (okd rfl rfl) (Root.self (by decide)) rfl (by decide) fd60_1 sz50 (by decide) sb60_1) rfl ?_
  refine AWl.sg rfl (OpT.storeB rfl rfl (Tm rfl rfl rfl) rfl sz50 rfl (Tm rfl rfl rfl)) (Kc 11 (.pel _ _ _ _ _ _ _) rfl <| Kc 10 (.cel _ _) rfl <| Kc 9 (.cel _ _) rfl <| Kc 8 (.cel _ _) rfl <| Kc 3 (.box _ _ _) rfl <| Kc 2 (.box _ _ _) rfl <| Kc 1 (.cel _ _) rfl <| Kn) ?_
  refine AWl.nil ?_
  refine AX.pr (Kc 3 (.box _ _ _) rfl <| Kc 2 (.box _ _ _) rfl <| Kc 1 (.cel _ _) rfl <| Kn) ?_
  refine AX.go ?_
  refine AW.seq ?_
  refine AW.region ?_
  refine AWl.st rfl (OpT.fieldAddr rfl rfl (okd rfl rfl) (Tm rfl rfl rfl) fd53_2 sz51 (by decide) sb53_2) rfl ?_
  refine AWl.st rfl (OpT.load rfl rfl (okd rfl rfl) (Tm rfl rfl rfl) ag51 rfl) rfl ?_
  refine AWl.st rfl (OpT.c1 (ms := [.flat]) (c_laws_toWitnessS _ hn.2) rfl rfl (okd rfl rfl) (Af (Tm rfl rfl rfl) rfl rfl <| An) rfl rfl) rfl ?_
  refine AWl.st rfl (OpT.fieldAddrB rfl rfl (okd rfl rfl) (Root.self (by decide)) rfl (by decide) fd60_2 sz58 (by decide) sb60_2) rfl ?_
  refine AWl.sg rfl (OpT.storeB rfl rfl (Tm rfl rfl rfl) rfl sz58 rfl (Tm rfl rfl rfl)) (Kc 15 (.pel _ _ _ _ _ _ _) rfl <| Kc 14 (.cel _ _) rfl <| Kc 13 (.cel _ _) rfl <| Kc 12 (.cel _ _) rfl <| Kc 3 (.box _ _ _) rfl <| Kc 2 (.box _ _ _) rfl <| Kc 1 (.cel _ _) rfl <| Kn) ?_
  refine AWl.nil ?_
  refine AX.pr (Kc 3 (.box _ _ _) rfl <| Kc 2 (.box _ _ _) rfl <| Kn) ?_
  refine AX.go ?_
  refine AW.seq ?_
  refine AW.region ?_
  refine AWl.st rfl (OpT.loadB rfl rfl (okd rfl rfl) (Root.self (by decide)) rfl ag60 sz60) rfl ?_
  refine AWl.sg rfl (OpT.storeBA rfl rfl (Opd.whole (Root.self (by decide)) rfl) rfl sz60 (by decide) (Tm rfl rfl rfl)) (Kc 16 (.agg _ _) rfl <| Kc 3 (.box _ _ _) rfl <| Kc 2 (.box _ _ _) rfl <| Kn) ?_
  refine AWl.nil ?_
  refine AX.pr (Kc 2 (.box _ _ _) rfl <| Kn) ?_
  refine AX.go ?_
  refine AW.ret ?_
  exact AX.rt (rs := [.cell 2 60]) (ts := [none]) (.inl rfl) rfl (ROs.cons (RO.cellA (by decide) (Kb rfl rfl) ag60 sz60) <| ROs.nil) (by decide) OutsOK.nil

/-- laws.szAnswer -/
theorem c_laws_szAnswer (x : DAns) (l : Int) (hl : 0 ≤ l ∧ l ≤ 1048576) : AC Try.prog 28 [.agg kAns x, .cel (Kd.int .i64) l] [.cel (Kd.int .i64) (szA x l)] [] := by
  refine ⟨ACall.intro (N := 18) Try.func28 (c := _) (rfl : Func.body _ = some _) rfl (Nat.le_of_ble_eq_true rfl) (Nat.le_of_ble_eq_true rfl) rfl (Nat.le_of_ble_eq_true rfl) fun w0 hd s0 ar har => ?_, _, Try.func28, rfl, by decide⟩
  refine AW.to (Kc 0 (.agg _ _) rfl <| Kc 1 (.cel _ _) rfl <| Kn) ?_
  refine AW.seq ?_
  refine AW.region ?_
  refine AWl.st rfl (OpT.frz (OpT.boxA (E := 53) rfl rfl (okd rfl rfl) (Tm rfl rfl rfl))) rfl ?_
  refine AWl.st rfl (OpT.move (A := .cel _ _) (.inr rfl) rfl (okd rfl rfl) (I rfl) rfl) rfl ?_
  refine AWl.nil ?_
  refine AX.pr (Kc 4 (.cel _ _) rfl <| Kc 2 (.cel _ _) rfl <| Kc 1 (.cel _ _) rfl <| Kn) ?_
  refine AX.go ?_
  refine AW.seq ?_
  refine AW.region ?_
  refine AWl.st rfl (OpT.fieldAddr rfl rfl (okd rfl rfl) (Tm rfl rfl rfl) fd53_1 sz50 (by decide) sb53_1) rfl ?_
  refine AWl.st rfl (OpT.load rfl rfl (okd rfl rfl) (Tm rfl rfl rfl) ag50 rfl) rfl ?_
  refine AWl.st rfl (OpT.move (A := .cel _ _) (.inl rfl) rfl (okd rfl rfl) (Tm rfl rfl rfl) rfl) rfl ?_
  refine AWl.st rfl (OpT.c1 (ms := [.flat, .flat]) (c_laws_szInt64S _ _ hl) rfl rfl (okd rfl rfl) (Af (Tm rfl rfl rfl) rfl rfl <| Af (Tm rfl rfl rfl) rfl rfl <| An) rfl rfl) rfl ?_
  refine AWl.sg rfl (OpT.move (A := .cel _ _) (.inr rfl) rfl (okd rfl rfl) (Tm rfl rfl rfl) rfl) (Kc 1 (.cel _ _) rfl <| Kc 8 (.cel _ _) rfl <| Kc 7 (.cel _ _) rfl <| Kc 6 (.cel _ _) rfl <| Kc 5 (.cel _ _) rfl <| Kc 4 (.cel _ _) rfl <| Kc 2 (.cel _ _) rfl <| Kn) ?_
  refine AWl.nil ?_
  refine AX.pr (Kc 1 (.cel _ _) rfl <| Kc 4 (.cel _ _) rfl <| Kc 2 (.cel _ _) rfl <| Kn) ?_
  refine AX.go ?_
  refine AW.seq ?_
  refine AW.seq ?_
  refine AW.region ?_
  refine AWl.st rfl (OpT.move (A := .cel _ _) (.inl rfl) rfl (okd rfl rfl) (Tm rfl rfl rfl) rfl) rfl ?_
  refine AWl.st rfl (OpT.lss rfl rfl (okd rfl rfl) (Tm rfl rfl rfl) (I rfl)) rfl ?_
  refine AWl.nil ?_
  refine AX.pr (Kc 10 (.cel _ _) rfl <| Kc 1 (.cel _ _) rfl <| Kc 4 (.cel _ _) rfl <| Kc 2 (.cel _ _) rfl <| Kn) ?_
  refine AX.go ?_
  refine AW.cond (t := 10) rfl (by decide) (fun hc1 => ?_) (fun hc1 => ?_)
  ·
    try simp only [decide_eq_true_eq, decide_eq_false_iff_not, Bool.not_eq_true', Bool.not_eq_false'] at hc1
    refine AW.seq ?_
    refine AW.region ?_
    refine AWl.sg rfl (OpT.move (A := .cel _ _) (.inr rfl) rfl (okd rfl rfl) (I rfl) rfl) (Kc 4 (.cel _ _) rfl <| Kc 10 (.cel _ _) rfl <| Kc 1 (.cel _ _) rfl <| Kc 2 (.cel _ _) rfl <| Kn) ?_
    refine AWl.nil ?_
    refine AX.pr (Kc 4 (.cel _ _) rfl <| Kc 1 (.cel _ _) rfl <| Kc 2 (.cel _ _) rfl <| Kn) ?_
    refine AX.go ?_
    refine AW.ret ?_
    refine AX.ret_then ?_
    exact AX.rt (rs := [.tmp 4]) (ts := [some 4]) (.inl rfl) rfl (ROs.cons (RO.tmp (At.self (by decide)) (Kv rfl (by unfold szA; split <;> first | rfl | (have := szL_in x.2.1 hl; have := szL_in x.2.2 (l := szL x.2.1 l) (by omega); omega))) rfl) <| ROs.nil) (by decide) OutsOK.nil
  ·
    try simp only [decide_eq_true_eq, decide_eq_false_iff_not, Bool.not_eq_true', Bool.not_eq_false'] at hc1
    refine AW.skip ?_
    refine AX.pr (Kc 1 (.cel _ _) rfl <| Kc 4 (.cel _ _) rfl <| Kc 2 (.cel _ _) rfl <| Kn) ?_
    refine AX.go ?_
    refine AW.seq ?_
    refine AW.region ?_
    refine AWl.st rfl (OpT.fieldAddr rfl rfl (okd rfl rfl) (Tm rfl rfl rfl) fd53_2 sz51 (by decide) sb53_2) rfl ?_
    refine AWl.st rfl (OpT.load rfl rfl (okd rfl rfl) (Tm rfl rfl rfl) ag51 rfl) rfl ?_
    refine AWl.st rfl (OpT.move (A := .cel _ _) (.inl rfl) rfl (okd rfl rfl) (Tm rfl rfl rfl) rfl) rfl ?_
    refine AWl.st rfl (OpT.c1 (ms := [.flat, .flat]) (c_laws_szWitnessS _ _ (by have := szL_in x.2.1 hl; omega)) rfl rfl (okd rfl rfl) (Af (Tm rfl rfl rfl) rfl rfl <| Af (Tm rfl rfl rfl) rfl rfl <| An) rfl rfl) rfl ?_
    refine AWl.sg rfl (OpT.move (A := .cel _ _) (.inr rfl) rfl (okd rfl rfl) (Tm rfl rfl rfl) rfl) (Kc 1 (.cel _ _) rfl <| Kc 14 (.cel _ _) rfl <| Kc 13 (.cel _ _) rfl <| Kc 12 (.cel _ _) rfl <| Kc 11 (.cel _ _) rfl <| Kc 4 (.cel _ _) rfl <| Kc 2 (.cel _ _) rfl <| Kn) ?_
    refine AWl.nil ?_
    refine AX.pr (Kc 1 (.cel _ _) rfl <| Kc 4 (.cel _ _) rfl <| Kn) ?_
    refine AX.go ?_
    refine AW.seq ?_
    refine AW.seq ?_
    refine AW.region ?_
    refine AWl.st rfl (OpT.move (A := .cel _ _) (.inl rfl) rfl (okd rfl rfl) (Tm rfl rfl rfl) rfl) rfl ?_
    refine AWl.st rfl (OpT.lss rfl rfl (okd rfl rfl) (Tm rfl rfl rfl) (I rfl)) rfl ?_
    refine AWl.nil ?_
    refine AX.pr (Kc 16 (.cel _ _) rfl <| Kc 1 (.cel _ _) rfl <| Kc 4 (.cel _ _) rfl <| Kn) ?_
    refine AX.go ?_
    refine AW.cond (t := 16) rfl (by decide) (fun hc2 => ?_) (fun hc2 => ?_)
    ·
      try simp only [decide_eq_true_eq, decide_eq_false_iff_not, Bool.not_eq_true', Bool.not_eq_false'] at hc2
      refine AW.seq ?_
      refine AW.region ?_
      refine AWl.sg rfl (OpT.move (A := .cel _ _) (.inr rfl) rfl (okd rfl rfl) (I rfl) rfl) (Kc 4 (.cel _ _) rfl <| Kc 16 (.cel _ _) rfl <| Kc 1 (.cel _ _) rfl <| Kn) ?_
      refine AWl.nil ?_
      refine AX.pr (Kc 4 (.cel _ _) rfl <| Kc 1 (.cel _ _) rfl <| Kn) ?_
      refine AX.go ?_
      refine AW.ret ?_
      refine AX.ret_then ?_
      exact AX.rt (rs := [.tmp 4]) (ts := [some 4]) (.inl rfl) rfl (ROs.cons (RO.tmp (At.self (by decide)) (Kv rfl (by unfold szA; split <;> first | rfl | (have := szL_in x.2.1 hl; have := szL_in x.2.2 (l := szL x.2.1 l) (by omega); omega))) rfl) <| ROs.nil) (by decide) OutsOK.nil
    ·
      try simp only [decide_eq_true_eq, decide_eq_false_iff_not, Bool.not_eq_true', Bool.not_eq_false'] at hc2
      refine AW.skip ?_
      refine AX.pr (Kc 1 (.cel _ _) rfl <| Kc 4 (.cel _ _) rfl <| Kn) ?_
      refine AX.go ?_
      refine AW.seq ?_
      refine AW.region ?_
      refine AWl.st rfl (OpT.move (A := .cel _ _) (.inl rfl) rfl (okd rfl rfl) (Tm rfl rfl rfl) rfl) rfl ?_
      refine AWl.sg rfl (OpT.move (A := .cel _ _) (.inr rfl) rfl (okd rfl rfl) (Tm rfl rfl rfl) rfl) (Kc 4 (.cel _ _) rfl <| Kc 17 (.cel _ _) rfl <| Kc 1 (.cel _ _) rfl <| Kn) ?_
      refine AWl.nil ?_
      refine AX.pr (Kc 4 (.cel _ _) rfl <| Kn) ?_
      refine AX.go ?_
      refine AW.ret ?_
      exact AX.rt (rs := [.tmp 4]) (ts := [some 4]) (.inl rfl) rfl (ROs.cons (RO.tmp (At.self (by decide)) (Kv rfl (by unfold szA; split <;> first | rfl | (have := szL_in x.2.1 hl; have := szL_in x.2.2 (l := szL x.2.1 l) (by omega); omega))) rfl) <| ROs.nil) (by decide) OutsOK.nil

set_option maxHeartbeats 4000000 in
/-- spec.l07Same -/
theorem c_spec_l07Same (x y : DAns) : AC Try.prog 68 [.cel (Kd.ptr kAns) x, .cel (Kd.ptr kAns) y] [.cel Kd.bool (eqv x y)] [] := by
  refine ⟨ACall.intro (N := 64) Try.func68 (c := _) (rfl : Func.body _ = some _) rfl (Nat.le_of_ble_eq_true rfl) (Nat.le_of_ble_eq_true rfl) rfl (Nat.le_of_ble_eq_true rfl) fun w0 hd s0 ar har => ?_, _, Try.func68, rfl, by decide⟩
  refine AW.to (Kc 0 (.cel _ _) rfl <| Kc 1 (.cel _ _) rfl <| Kn) ?_
  refine AW.fact (fun a w hr => (ok_slice (ok_pair (ok_pair (ok_ptr (R_ok (t := 0) rfl hr))).2).2).2) (fun hl0 => ?_)
  refine AW.seq ?_
  refine AW.region ?_
  refine AWl.st rfl (OpT.move (A := .cel _ _) (.inr rfl) rfl (okd rfl rfl) Opd.bool rfl) rfl ?_
  refine AWl.nil ?_
  refine AX.go ?_
  refine AW.seq ?_
  refine AW.seq ?_
  rcases Bool.eq_false_or_eq_true (!(eqv x.1 y.1)) with hd1 | hd1
  ·
    refine AW.dg fomo ?_
    refine DG.fr (d := 6) [0] (DS rfl fun v h => OpT.move (A := .cel _ _) (.inl rfl) rfl (okd rfl rfl) (D h rfl rfl rfl rfl) rfl) rfl rfl ?_
    refine DG.fr (d := 7) [6] (DS rfl fun v h => OpT.nilCheck rfl rfl (okd rfl rfl) (D h rfl rfl rfl rfl)) rfl rfl ?_
    refine DG.fr (d := 8) [7] (DS rfl fun v h => OpT.fieldAddr rfl rfl (okd rfl rfl) (D h rfl rfl rfl rfl) fd60_0 sz57 (by decide) sb60_0) rfl rfl ?_
    refine DG.fr (d := 9) [8] (DS rfl fun v h => OpT.loadA rfl rfl (okd rfl rfl) (D h rfl rfl rfl rfl) ag57 sz57) rfl rfl ?_
    refine DG.fr (d := 10) [1] (DS rfl fun v h => OpT.move (A := .cel _ _) (.inl rfl) rfl (okd rfl rfl) (D h rfl rfl rfl rfl) rfl) rfl rfl ?_
    refine DG.fr (d := 11) [10] (DS rfl fun v h => OpT.nilCheck rfl rfl (okd rfl rfl) (D h rfl rfl rfl rfl)) rfl rfl ?_
    refine DG.fr (d := 12) [11] (DS rfl fun v h => OpT.fieldAddr rfl rfl (okd rfl rfl) (D h rfl rfl rfl rfl) fd60_0 sz57 (by decide) sb60_0) rfl rfl ?_
    refine DG.fr (d := 13) [12] (DS rfl fun v h => OpT.loadA rfl rfl (okd rfl rfl) (D h rfl rfl rfl rfl) ag57 sz57) rfl rfl ?_
    refine DG.fr (d := 14) [9, 13] (DS rfl fun v h => OpT.neA rfl rfl (okd rfl rfl) (D h rfl rfl rfl rfl) (D h rfl rfl rfl rfl) eq57 ag57 rfl eg57) rfl rfl ?_
    refine DG.fr (d := 15) [14] (DS rfl fun v h => OpT.move (A := .cel _ _) (.inl rfl) rfl (okd rfl rfl) (D h rfl rfl rfl rfl) rfl) rfl rfl ?_
    refine DG.pas (d := 16) [15] (DSp rfl rfl rfl rfl rfl hd1 rfl (okd rfl rfl)) rfl rfl ?_
    refine DG.pas (d := 17) [15] (DSp rfl rfl rfl rfl rfl hd1 rfl (okd rfl rfl)) rfl rfl ?_
    refine DG.pas (d := 18) [15] (DSp rfl rfl rfl rfl rfl hd1 rfl (okd rfl rfl)) rfl rfl ?_
    refine DG.pas (d := 19) [15] (DSp rfl rfl rfl rfl rfl hd1 rfl (okd rfl rfl)) rfl rfl ?_
    refine DG.pas (d := 20) [15] (DSp rfl rfl rfl rfl rfl hd1 rfl (okd rfl rfl)) rfl rfl ?_
    refine DG.pas (d := 21) [15] (DSp rfl rfl rfl rfl rfl hd1 rfl (okd rfl rfl)) rfl rfl ?_
    refine DG.pas (d := 22) [15] (DSp rfl rfl rfl rfl rfl hd1 rfl (okd rfl rfl)) rfl rfl ?_
    refine DG.pas (d := 23) [15] (DSp rfl rfl rfl rfl rfl hd1 rfl (okd rfl rfl)) rfl rfl ?_
    refine DG.pas (d := 24) [15] (DSp rfl rfl rfl rfl rfl hd1 rfl (okd rfl rfl)) rfl rfl ?_
    refine DG.pas (d := 25) [15] (DSp rfl rfl rfl rfl rfl hd1 rfl (okd rfl rfl)) rfl rfl ?_
    refine DG.fr (d := 26) [15] (DS rfl fun v h => OpT.pickT (A := .cel _ _) rfl rfl (okd rfl rfl) (D h rfl rfl rfl rfl) hd1 Opd.bool rfl) rfl rfl ?_
    refine DG.fr (d := 27) [26] (DS rfl fun v h => OpT.move (A := .cel _ _) (.inl rfl) rfl (okd rfl rfl) (D h rfl rfl rfl rfl) rfl) rfl rfl ?_
    refine DG.pas (d := 28) [27] (DSp rfl rfl rfl rfl rfl rfl rfl (okd rfl rfl)) rfl rfl ?_
    refine DG.pas (d := 29) [27] (DSp rfl rfl rfl rfl rfl rfl rfl (okd rfl rfl)) rfl rfl ?_
    refine DG.pas (d := 30) [27] (DSp rfl rfl rfl rfl rfl rfl rfl (okd rfl rfl)) rfl rfl ?_
    refine DG.pas (d := 31) [27] (DSp rfl rfl rfl rfl rfl rfl rfl (okd rfl rfl)) rfl rfl ?_
    refine DG.pas (d := 32) [27] (DSp rfl rfl rfl rfl rfl rfl rfl (okd rfl rfl)) rfl rfl ?_
    refine DG.pas (d := 33) [27] (DSp rfl rfl rfl rfl rfl rfl rfl (okd rfl rfl)) rfl rfl ?_
    refine DG.pas (d := 34) [27] (DSp rfl rfl rfl rfl rfl rfl rfl (okd rfl rfl)) rfl rfl ?_
    refine DG.pas (d := 35) [27] (DSp rfl rfl rfl rfl rfl rfl rfl (okd rfl rfl)) rfl rfl ?_
    refine DG.pas (d := 36) [27] (DSp rfl rfl rfl rfl rfl rfl rfl (okd rfl rfl)) rfl rfl ?_
    refine DG.pas (d := 37) [27] (DSp rfl rfl rfl rfl rfl rfl rfl (okd rfl rfl)) rfl rfl ?_
    refine DG.pas (d := 38) [27] (DSp rfl rfl rfl rfl rfl rfl rfl (okd rfl rfl)) rfl rfl ?_
    refine DG.fr (d := 39) [27] (DS rfl fun v h => OpT.pickT (A := .cel _ _) rfl rfl (okd rfl rfl) (D h rfl rfl rfl rfl) rfl Opd.bool rfl) rfl rfl ?_
    refine DG.nil ⟨by kernel_rfl, by kernel_rfl, ?_⟩
    refine AX.pr (Kc 39 (.cel _ _) rfl <| Kc 4 (.cel _ _) rfl <| Kc 0 (.cel _ _) rfl <| Kc 1 (.cel _ _) rfl <| Kn) ?_
    refine AX.go ?_
    refine AW.cond (t := 39) rfl (by decide) (fun hc1 => ?_) (fun hc1 => ?_)
    ·
      try simp only [decide_eq_true_eq, decide_eq_false_iff_not, Bool.not_eq_true', Bool.not_eq_false'] at hc1
      refine AW.seq ?_
      refine AW.region ?_
      refine AWl.sg rfl (OpT.move (A := .cel _ _) (.inr rfl) rfl (okd rfl rfl) Opd.bool rfl) (Kc 4 (.cel _ _) rfl <| Kc 39 (.cel _ _) rfl <| Kc 0 (.cel _ _) rfl <| Kc 1 (.cel _ _) rfl <| Kn) ?_
      refine AWl.nil ?_
      refine AX.pr (Kc 4 (.cel _ _) rfl <| Kc 0 (.cel _ _) rfl <| Kc 1 (.cel _ _) rfl <| Kn) ?_
      refine AX.go ?_
      refine AW.ret ?_
      refine AX.ret_then ?_
      exact AX.rt (rs := [.tmp 4]) (ts := [some 4]) (.inl rfl) rfl (ROs.cons (RO.tmp (At.self (by decide)) (Kv rfl (by first | exact same_ne (.inl (by simpa [eqv_iff, eqv_false_iff] using hd1)) | exact same_ne (.inr (.inl (by simpa [eqv_iff, eqv_false_iff] using hd2))) | exact same_ne (.inr (.inr (fun e => hc3 (by rw [e])))) | exact same_ne (.inr (.inr (eqv_false_iff.1 (eqs_ne ha hb (by simpa [eqv_iff, eqv_false_iff] using hc5)).symm))) | exact same_eq (by simpa [eqv_iff, eqv_false_iff] using hd1) (by simpa [eqv_iff, eqv_false_iff] using hd2) (eqs_all hI.2 (by omega) (by omega)))) rfl) <| ROs.nil) (by decide) OutsOK.nil
    ·
      try simp only [decide_eq_true_eq, decide_eq_false_iff_not, Bool.not_eq_true', Bool.not_eq_false'] at hc1
      exact absurd hc1 (by decide)
  ·
    rcases Bool.eq_false_or_eq_true (!(eqv x.2.1 y.2.1)) with hd2 | hd2
    ·
      refine AW.dg fomo ?_
      refine DG.fr (d := 6) [0] (DS rfl fun v h => OpT.move (A := .cel _ _) (.inl rfl) rfl (okd rfl rfl) (D h rfl rfl rfl rfl) rfl) rfl rfl ?_
      refine DG.fr (d := 7) [6] (DS rfl fun v h => OpT.nilCheck rfl rfl (okd rfl rfl) (D h rfl rfl rfl rfl)) rfl rfl ?_
      refine DG.fr (d := 8) [7] (DS rfl fun v h => OpT.fieldAddr rfl rfl (okd rfl rfl) (D h rfl rfl rfl rfl) fd60_0 sz57 (by decide) sb60_0) rfl rfl ?_
      refine DG.fr (d := 9) [8] (DS rfl fun v h => OpT.loadA rfl rfl (okd rfl rfl) (D h rfl rfl rfl rfl) ag57 sz57) rfl rfl ?_
      refine DG.fr (d := 10) [1] (DS rfl fun v h => OpT.move (A := .cel _ _) (.inl rfl) rfl (okd rfl rfl) (D h rfl rfl rfl rfl) rfl) rfl rfl ?_
      refine DG.fr (d := 11) [10] (DS rfl fun v h => OpT.nilCheck rfl rfl (okd rfl rfl) (D h rfl rfl rfl rfl)) rfl rfl ?_
      refine DG.fr (d := 12) [11] (DS rfl fun v h => OpT.fieldAddr rfl rfl (okd rfl rfl) (D h rfl rfl rfl rfl) fd60_0 sz57 (by decide) sb60_0) rfl rfl ?_
      refine DG.fr (d := 13) [12] (DS rfl fun v h => OpT.loadA rfl rfl (okd rfl rfl) (D h rfl rfl rfl rfl) ag57 sz57) rfl rfl ?_
      refine DG.fr (d := 14) [9, 13] (DS rfl fun v h => OpT.neA rfl rfl (okd rfl rfl) (D h rfl rfl rfl rfl) (D h rfl rfl rfl rfl) eq57 ag57 rfl eg57) rfl rfl ?_
      refine DG.fr (d := 15) [14] (DS rfl fun v h => OpT.move (A := .cel _ _) (.inl rfl) rfl (okd rfl rfl) (D h rfl rfl rfl rfl) rfl) rfl rfl ?_
      refine DG.fr (d := 16) [0, 15] (DSr rfl rfl rfl rfl rfl hd1 fun v h => OpT.move (A := .cel _ _) (.inl rfl) rfl (okd rfl rfl) (D h rfl rfl rfl rfl) rfl) rfl rfl ?_
      refine DG.fr (d := 17) [15, 16] (DSr rfl rfl rfl rfl rfl hd1 fun v h => OpT.nilCheck rfl rfl (okd rfl rfl) (D h rfl rfl rfl rfl)) rfl rfl ?_
      refine DG.fr (d := 18) [15, 17] (DSr rfl rfl rfl rfl rfl hd1 fun v h => OpT.fieldAddr rfl rfl (okd rfl rfl) (D h rfl rfl rfl rfl) fd60_1 sz50 (by decide) sb60_1) rfl rfl ?_
      refine DG.fr (d := 19) [15, 18] (DSr rfl rfl rfl rfl rfl hd1 fun v h => OpT.load rfl rfl (okd rfl rfl) (D h rfl rfl rfl rfl) ag50 rfl) rfl rfl ?_
      refine DG.fr (d := 20) [1, 15] (DSr rfl rfl rfl rfl rfl hd1 fun v h => OpT.move (A := .cel _ _) (.inl rfl) rfl (okd rfl rfl) (D h rfl rfl rfl rfl) rfl) rfl rfl ?_
      refine DG.fr (d := 21) [15, 20] (DSr rfl rfl rfl rfl rfl hd1 fun v h => OpT.nilCheck rfl rfl (okd rfl rfl) (D h rfl rfl rfl rfl)) rfl rfl ?_
      refine DG.fr (d := 22) [15, 21] (DSr rfl rfl rfl rfl rfl hd1 fun v h => OpT.fieldAddr rfl rfl (okd rfl rfl) (D h rfl rfl rfl rfl) fd60_1 sz50 (by decide) sb60_1) rfl rfl ?_
      refine DG.fr (d := 23) [15, 22] (DSr rfl rfl rfl rfl rfl hd1 fun v h => OpT.load rfl rfl (okd rfl rfl) (D h rfl rfl rfl rfl) ag50 rfl) rfl rfl ?_
      refine DG.fr (d := 24) [15, 19, 23] (DSr rfl rfl rfl rfl rfl hd1 fun v h => OpT.c1 (ms := [.flat, .flat]) (c_spec_l00Same _ _) rfl rfl (okd rfl rfl) (Af (D h rfl rfl rfl rfl) rfl rfl <| Af (D h rfl rfl rfl rfl) rfl rfl <| An) rfl rfl) rfl rfl ?_
      refine DG.fr (d := 25) [15, 24] (DSr rfl rfl rfl rfl rfl hd1 fun v h => OpT.not rfl rfl (okd rfl rfl) (D h rfl rfl rfl rfl)) rfl rfl ?_
      refine DG.fr (d := 26) [15, 25] (DS rfl fun v h => OpT.pickF (A := .cel _ _) rfl rfl (okd rfl rfl) (D h rfl rfl rfl rfl) hd1 (D h rfl rfl rfl rfl) rfl) rfl rfl ?_
      refine DG.fr (d := 27) [26] (DS rfl fun v h => OpT.move (A := .cel _ _) (.inl rfl) rfl (okd rfl rfl) (D h rfl rfl rfl rfl) rfl) rfl rfl ?_
      refine DG.pas (d := 28) [27] (DSp rfl rfl rfl rfl rfl hd2 rfl (okd rfl rfl)) rfl rfl ?_
      refine DG.pas (d := 29) [27] (DSp rfl rfl rfl rfl rfl hd2 rfl (okd rfl rfl)) rfl rfl ?_
      refine DG.pas (d := 30) [27] (DSp rfl rfl rfl rfl rfl hd2 rfl (okd rfl rfl)) rfl rfl ?_
      refine DG.pas (d := 31) [27] (DSp rfl rfl rfl rfl rfl hd2 rfl (okd rfl rfl)) rfl rfl ?_
      refine DG.pas (d := 32) [27] (DSp rfl rfl rfl rfl rfl hd2 rfl (okd rfl rfl)) rfl rfl ?_
      refine DG.pas (d := 33) [27] (DSp rfl rfl rfl rfl rfl hd2 rfl (okd rfl rfl)) rfl rfl ?_
      refine DG.pas (d := 34) [27] (DSp rfl rfl rfl rfl rfl hd2 rfl (okd rfl rfl)) rfl rfl ?_
      refine DG.pas (d := 35) [27] (DSp rfl rfl rfl rfl rfl hd2 rfl (okd rfl rfl)) rfl rfl ?_
      refine DG.pas (d := 36) [27] (DSp rfl rfl rfl rfl rfl hd2 rfl (okd rfl rfl)) rfl rfl ?_
      refine DG.pas (d := 37) [27] (DSp rfl rfl rfl rfl rfl hd2 rfl (okd rfl rfl)) rfl rfl ?_
      refine DG.pas (d := 38) [27] (DSp rfl rfl rfl rfl rfl hd2 rfl (okd rfl rfl)) rfl rfl ?_
      refine DG.fr (d := 39) [27] (DS rfl fun v h => OpT.pickT (A := .cel _ _) rfl rfl (okd rfl rfl) (D h rfl rfl rfl rfl) hd2 Opd.bool rfl) rfl rfl ?_
      refine DG.nil ⟨by kernel_rfl, by kernel_rfl, ?_⟩
      refine AX.pr (Kc 39 (.cel _ _) rfl <| Kc 4 (.cel _ _) rfl <| Kc 0 (.cel _ _) rfl <| Kc 1 (.cel _ _) rfl <| Kn) ?_
      refine AX.go ?_
      refine AW.cond (t := 39) rfl (by decide) (fun hc2 => ?_) (fun hc2 => ?_)
      ·
        try simp only [decide_eq_true_eq, decide_eq_false_iff_not, Bool.not_eq_true', Bool.not_eq_false'] at hc2
        refine AW.seq ?_
        refine AW.region ?_
        refine AWl.sg rfl (OpT.move (A := .cel _ _) (.inr rfl) rfl (okd rfl rfl) Opd.bool rfl) (Kc 4 (.cel _ _) rfl <| Kc 39 (.cel _ _) rfl <| Kc 0 (.cel _ _) rfl <| Kc 1 (.cel _ _) rfl <| Kn) ?_
        refine AWl.nil ?_
        refine AX.pr (Kc 4 (.cel _ _) rfl <| Kc 0 (.cel _ _) rfl <| Kc 1 (.cel _ _) rfl <| Kn) ?_
        refine AX.go ?_
        refine AW.ret ?_
        refine AX.ret_then ?_
        exact AX.rt (rs := [.tmp 4]) (ts := [some 4]) (.inl rfl) rfl (ROs.cons (RO.tmp (At.self (by decide)) (Kv rfl (by first | exact same_ne (.inl (by simpa [eqv_iff, eqv_false_iff] using hd1)) | exact same_ne (.inr (.inl (by simpa [eqv_iff, eqv_false_iff] using hd2))) | exact same_ne (.inr (.inr (fun e => hc3 (by rw [e])))) | exact same_ne (.inr (.inr (eqv_false_iff.1 (eqs_ne ha hb (by simpa [eqv_iff, eqv_false_iff] using hc5)).symm))) | exact same_eq (by simpa [eqv_iff, eqv_false_iff] using hd1) (by simpa [eqv_iff, eqv_false_iff] using hd2) (eqs_all hI.2 (by omega) (by omega)))) rfl) <| ROs.nil) (by decide) OutsOK.nil
      ·
        try simp only [decide_eq_true_eq, decide_eq_false_iff_not, Bool.not_eq_true', Bool.not_eq_false'] at hc2
        exact absurd hc2 (by decide)
    ·
      refine AW.dg fomo ?_
      refine DG.fr (d := 6) [0] (DS rfl fun v h => OpT.move (A := .cel _ _) (.inl rfl) rfl (okd rfl rfl) (D h rfl rfl rfl rfl) rfl) rfl rfl ?_
      refine DG.fr (d := 7) [6] (DS rfl fun v h => OpT.nilCheck rfl rfl (okd rfl rfl) (D h rfl rfl rfl rfl)) rfl rfl ?_
      refine DG.fr (d := 8) [7] (DS rfl fun v h => OpT.fieldAddr rfl rfl (okd rfl rfl) (D h rfl rfl rfl rfl) fd60_0 sz57 (by decide) sb60_0) rfl rfl ?_
      refine DG.fr (d := 9) [8] (DS rfl fun v h => OpT.loadA rfl rfl (okd rfl rfl) (D h rfl rfl rfl rfl) ag57 sz57) rfl rfl ?_
      refine DG.fr (d := 10) [1] (DS rfl fun v h => OpT.move (A := .cel _ _) (.inl rfl) rfl (okd rfl rfl) (D h rfl rfl rfl rfl) rfl) rfl rfl ?_
      refine DG.fr (d := 11) [10] (DS rfl fun v h => OpT.nilCheck rfl rfl (okd rfl rfl) (D h rfl rfl rfl rfl)) rfl rfl ?_
      refine DG.fr (d := 12) [11] (DS rfl fun v h => OpT.fieldAddr rfl rfl (okd rfl rfl) (D h rfl rfl rfl rfl) fd60_0 sz57 (by decide) sb60_0) rfl rfl ?_
      refine DG.fr (d := 13) [12] (DS rfl fun v h => OpT.loadA rfl rfl (okd rfl rfl) (D h rfl rfl rfl rfl) ag57 sz57) rfl rfl ?_
      refine DG.fr (d := 14) [9, 13] (DS rfl fun v h => OpT.neA rfl rfl (okd rfl rfl) (D h rfl rfl rfl rfl) (D h rfl rfl rfl rfl) eq57 ag57 rfl eg57) rfl rfl ?_
      refine DG.fr (d := 15) [14] (DS rfl fun v h => OpT.move (A := .cel _ _) (.inl rfl) rfl (okd rfl rfl) (D h rfl rfl rfl rfl) rfl) rfl rfl ?_
      refine DG.fr (d := 16) [0, 15] (DSr rfl rfl rfl rfl rfl hd1 fun v h => OpT.move (A := .cel _ _) (.inl rfl) rfl (okd rfl rfl) (D h rfl rfl rfl rfl) rfl) rfl rfl ?_
      refine DG.fr (d := 17) [15, 16] (DSr rfl rfl rfl rfl rfl hd1 fun v h => OpT.nilCheck rfl rfl (okd rfl rfl) (D h rfl rfl rfl rfl)) rfl rfl ?_
      refine DG.fr (d := 18) [15, 17] (DSr rfl rfl rfl rfl rfl hd1 fun v h => OpT.fieldAddr rfl rfl (okd rfl rfl) (D h rfl rfl rfl rfl) fd60_1 sz50 (by decide) sb60_1) rfl rfl ?_
      refine DG.fr (d := 19) [15, 18] (DSr rfl rfl rfl rfl rfl hd1 fun v h => OpT.load rfl rfl (okd rfl rfl) (D h rfl rfl rfl rfl) ag50 rfl) rfl rfl ?_
      refine DG.fr (d := 20) [1, 15] (DSr rfl rfl rfl rfl rfl hd1 fun v h => OpT.move (A := .cel _ _) (.inl rfl) rfl (okd rfl rfl) (D h rfl rfl rfl rfl) rfl) rfl rfl ?_
      refine DG.fr (d := 21) [15, 20] (DSr rfl rfl rfl rfl rfl hd1 fun v h => OpT.nilCheck rfl rfl (okd rfl rfl) (D h rfl rfl rfl rfl)) rfl rfl ?_
      refine DG.fr (d := 22) [15, 21] (DSr rfl rfl rfl rfl rfl hd1 fun v h => OpT.fieldAddr rfl rfl (okd rfl rfl) (D h rfl rfl rfl rfl) fd60_1 sz50 (by decide) sb60_1) rfl rfl ?_
      refine DG.fr (d := 23) [15, 22] (DSr rfl rfl rfl rfl rfl hd1 fun v h => OpT.load rfl rfl (okd rfl rfl) (D h rfl rfl rfl rfl) ag50 rfl) rfl rfl ?_
      refine DG.fr (d := 24) [15, 19, 23] (DSr rfl rfl rfl rfl rfl hd1 fun v h => OpT.c1 (ms := [.flat, .flat]) (c_spec_l00Same _ _) rfl rfl (okd rfl rfl) (Af (D h rfl rfl rfl rfl) rfl rfl <| Af (D h rfl rfl rfl rfl) rfl rfl <| An) rfl rfl) rfl rfl ?_
      refine DG.fr (d := 25) [15, 24] (DSr rfl rfl rfl rfl rfl hd1 fun v h => OpT.not rfl rfl (okd rfl rfl) (D h rfl rfl rfl rfl)) rfl rfl ?_
      refine DG.fr (d := 26) [15, 25] (DS rfl fun v h => OpT.pickF (A := .cel _ _) rfl rfl (okd rfl rfl) (D h rfl rfl rfl rfl) hd1 (D h rfl rfl rfl rfl) rfl) rfl rfl ?_
      refine DG.fr (d := 27) [26] (DS rfl fun v h => OpT.move (A := .cel _ _) (.inl rfl) rfl (okd rfl rfl) (D h rfl rfl rfl rfl) rfl) rfl rfl ?_
      refine DG.fr (d := 28) [0, 27] (DSr rfl rfl rfl rfl rfl hd2 fun v h => OpT.move (A := .cel _ _) (.inl rfl) rfl (okd rfl rfl) (D h rfl rfl rfl rfl) rfl) rfl rfl ?_
      refine DG.fr (d := 29) [27, 28] (DSr rfl rfl rfl rfl rfl hd2 fun v h => OpT.nilCheck rfl rfl (okd rfl rfl) (D h rfl rfl rfl rfl)) rfl rfl ?_
      refine DG.fr (d := 30) [27, 29] (DSr rfl rfl rfl rfl rfl hd2 fun v h => OpT.fieldAddr rfl rfl (okd rfl rfl) (D h rfl rfl rfl rfl) fd60_2 sz58 (by decide) sb60_2) rfl rfl ?_
      refine DG.fr (d := 31) [27, 30] (DSr rfl rfl rfl rfl rfl hd2 fun v h => OpT.load rfl rfl (okd rfl rfl) (D h rfl rfl rfl rfl) ag58 rfl) rfl rfl ?_
      refine DG.fr (d := 32) [27, 31] (DSr rfl rfl rfl rfl rfl hd2 fun v h => OpT.len rfl rfl (okd rfl rfl) (D h rfl rfl rfl rfl) el58) rfl rfl ?_
      refine DG.fr (d := 33) [1, 27] (DSr rfl rfl rfl rfl rfl hd2 fun v h => OpT.move (A := .cel _ _) (.inl rfl) rfl (okd rfl rfl) (D h rfl rfl rfl rfl) rfl) rfl rfl ?_
      refine DG.fr (d := 34) [27, 33] (DSr rfl rfl rfl rfl rfl hd2 fun v h => OpT.nilCheck rfl rfl (okd rfl rfl) (D h rfl rfl rfl rfl)) rfl rfl ?_
      refine DG.fr (d := 35) [27, 34] (DSr rfl rfl rfl rfl rfl hd2 fun v h => OpT.fieldAddr rfl rfl (okd rfl rfl) (D h rfl rfl rfl rfl) fd60_2 sz58 (by decide) sb60_2) rfl rfl ?_
      refine DG.fr (d := 36) [27, 35] (DSr rfl rfl rfl rfl rfl hd2 fun v h => OpT.load rfl rfl (okd rfl rfl) (D h rfl rfl rfl rfl) ag58 rfl) rfl rfl ?_
      refine DG.fr (d := 37) [27, 36] (DSr rfl rfl rfl rfl rfl hd2 fun v h => OpT.len rfl rfl (okd rfl rfl) (D h rfl rfl rfl rfl) el58) rfl rfl ?_
      refine DG.fr (d := 38) [27, 32, 37] (DSr rfl rfl rfl rfl rfl hd2 fun v h => OpT.neq rfl rfl (okd rfl rfl) (D h rfl rfl rfl rfl) (D h rfl rfl rfl rfl)) rfl rfl ?_
      refine DG.fr (d := 39) [27, 38] (DS rfl fun v h => OpT.pickF (A := .cel _ _) rfl rfl (okd rfl rfl) (D h rfl rfl rfl rfl) hd2 (D h rfl rfl rfl rfl) rfl) rfl rfl ?_
      refine DG.nil ⟨by kernel_rfl, by kernel_rfl, ?_⟩
      refine AX.pr (Kc 39 (.cel _ _) rfl <| Kc 4 (.cel _ _) rfl <| Kc 0 (.cel _ _) rfl <| Kc 1 (.cel _ _) rfl <| Kn) ?_
      refine AX.go ?_
      refine AW.cond (t := 39) rfl (by decide) (fun hc3 => ?_) (fun hc3 => ?_)
      ·
        try simp only [decide_eq_true_eq, decide_eq_false_iff_not, Bool.not_eq_true', Bool.not_eq_false'] at hc3
        simp only [bne_iff_ne, ne_eq, bne_eq_false_iff_eq] at hc3
        refine AW.seq ?_
        refine AW.region ?_
        refine AWl.sg rfl (OpT.move (A := .cel _ _) (.inr rfl) rfl (okd rfl rfl) Opd.bool rfl) (Kc 4 (.cel _ _) rfl <| Kc 39 (.cel _ _) rfl <| Kc 0 (.cel _ _) rfl <| Kc 1 (.cel _ _) rfl <| Kn) ?_
        refine AWl.nil ?_
        refine AX.pr (Kc 4 (.cel _ _) rfl <| Kc 0 (.cel _ _) rfl <| Kc 1 (.cel _ _) rfl <| Kn) ?_
        refine AX.go ?_
        refine AW.ret ?_
        refine AX.ret_then ?_
        exact AX.rt (rs := [.tmp 4]) (ts := [some 4]) (.inl rfl) rfl (ROs.cons (RO.tmp (At.self (by decide)) (Kv rfl (by first | exact same_ne (.inl (by simpa [eqv_iff, eqv_false_iff] using hd1)) | exact same_ne (.inr (.inl (by simpa [eqv_iff, eqv_false_iff] using hd2))) | exact same_ne (.inr (.inr (fun e => hc3 (by rw [e])))) | exact same_ne (.inr (.inr (eqv_false_iff.1 (eqs_ne ha hb (by simpa [eqv_iff, eqv_false_iff] using hc5)).symm))) | exact same_eq (by simpa [eqv_iff, eqv_false_iff] using hd1) (by simpa [eqv_iff, eqv_false_iff] using hd2) (eqs_all hI.2 (by omega) (by omega)))) rfl) <| ROs.nil) (by decide) OutsOK.nil
      ·
        try simp only [decide_eq_true_eq, decide_eq_false_iff_not, Bool.not_eq_true', Bool.not_eq_false'] at hc3
        simp only [bne_iff_ne, ne_eq, bne_eq_false_iff_eq] at hc3
        refine AW.skip ?_
        refine AX.pr (Kc 4 (.cel _ _) rfl <| Kc 0 (.cel _ _) rfl <| Kc 1 (.cel _ _) rfl <| Kn) ?_
        refine AX.go ?_
        refine AW.seq ?_
        refine AW.seq ?_
        refine AW.region ?_
        refine AWl.st rfl (OpT.move (A := .cel _ _) (.inr rfl) rfl (okd rfl rfl) (I rfl) rfl) rfl ?_
        refine AWl.nil ?_
        refine AX.go ?_
        refine AW.block ?_
        refine AW.loop (fun z : Nat => z ≤ x.2.2.length ∧ x.2.2.take z = y.2.2.take z) (fun z : Nat => keep [(0, .cel (Kd.ptr kAns) x), (1, .cel (Kd.ptr kAns) y), (5, .cel (Kd.int .i64) (z : Int))]) (fun z : Nat => x.2.2.length - z) (0) ⟨Nat.zero_le _, rfl⟩ (Kc 0 _ (Kv rfl rfl) <| Kc 1 _ (Kv rfl rfl) <| Kc 5 _ (Kv rfl rfl) <| Kn) ?_
        intro z hI
        refine AW.seq ?_
        refine AW.seq ?_
        refine AW.region ?_
        refine AWl.st rfl (OpT.move (A := .cel _ _) (.inl rfl) rfl (okd rfl rfl) (Tm rfl rfl rfl) rfl) rfl ?_
        refine AWl.st rfl (OpT.move (A := .cel _ _) (.inl rfl) rfl (okd rfl rfl) (Tm rfl rfl rfl) rfl) rfl ?_
        refine AWl.st rfl (OpT.nilCheck rfl rfl (okd rfl rfl) (Tm rfl rfl rfl)) rfl ?_
        refine AWl.st rfl (OpT.fieldAddr rfl rfl (okd rfl rfl) (Tm rfl rfl rfl) fd60_2 sz58 (by decide) sb60_2) rfl ?_
        refine AWl.st rfl (OpT.load rfl rfl (okd rfl rfl) (Tm rfl rfl rfl) ag58 rfl) rfl ?_
        refine AWl.st rfl (OpT.len rfl rfl (okd rfl rfl) (Tm rfl rfl rfl) el58) rfl ?_
        refine AWl.st rfl (OpT.lss rfl rfl (okd rfl rfl) (Tm rfl rfl rfl) (Tm rfl rfl rfl)) rfl ?_
        refine AWl.nil ?_
        refine AX.go ?_
        refine AW.cond (t := 46) rfl (by decide) (fun hc4 => ?_) (fun hc4 => ?_)
        ·
          try simp only [decide_eq_true_eq, decide_eq_false_iff_not, Bool.not_eq_true', Bool.not_eq_false'] at hc4
          obtain ⟨a, ha⟩ := getI (x := x.2.2) (z := z) (by omega); obtain ⟨b, hb⟩ := getI (x := y.2.2) (z := z) (by omega)
          refine AW.skip ?_
          refine AX.go ?_
          refine AW.seq ?_
          refine AW.block ?_
          refine AW.seq ?_
          refine AW.dg fomo ?_
          refine DG.fr (d := 49) [0] (DS rfl fun v h => OpT.move (A := .cel _ _) (.inl rfl) rfl (okd rfl rfl) (D h rfl rfl rfl rfl) rfl) rfl rfl ?_
          refine DG.fr (d := 50) [49] (DS rfl fun v h => OpT.nilCheck rfl rfl (okd rfl rfl) (D h rfl rfl rfl rfl)) rfl rfl ?_
          refine DG.fr (d := 51) [50] (DS rfl fun v h => OpT.fieldAddr rfl rfl (okd rfl rfl) (D h rfl rfl rfl rfl) fd60_2 sz58 (by decide) sb60_2) rfl rfl ?_
          refine DG.fr (d := 52) [51] (DS rfl fun v h => OpT.load rfl rfl (okd rfl rfl) (D h rfl rfl rfl rfl) ag58 rfl) rfl rfl ?_
          refine DG.fr (d := 53) [5] (DS rfl fun v h => OpT.move (A := .cel _ _) (.inl rfl) rfl (okd rfl rfl) (D h rfl rfl rfl rfl) rfl) rfl rfl ?_
          refine DG.fr (d := 54) [52, 53] (DS rfl fun v h => OpT.indexAddr rfl rfl (okd rfl rfl) (D h rfl rfl rfl rfl) (D h rfl rfl rfl rfl) el58 sz98 (by omega) (by assumption)) rfl rfl ?_
          refine DG.fr (d := 55) [54] (DS rfl fun v h => OpT.loadA rfl rfl (okd rfl rfl) (D h rfl rfl rfl rfl) ag98 sz98) rfl rfl ?_
          refine DG.fr (d := 56) [1] (DS rfl fun v h => OpT.move (A := .cel _ _) (.inl rfl) rfl (okd rfl rfl) (D h rfl rfl rfl rfl) rfl) rfl rfl ?_
          refine DG.fr (d := 57) [56] (DS rfl fun v h => OpT.nilCheck rfl rfl (okd rfl rfl) (D h rfl rfl rfl rfl)) rfl rfl ?_
          refine DG.fr (d := 58) [57] (DS rfl fun v h => OpT.fieldAddr rfl rfl (okd rfl rfl) (D h rfl rfl rfl rfl) fd60_2 sz58 (by decide) sb60_2) rfl rfl ?_
          refine DG.fr (d := 59) [58] (DS rfl fun v h => OpT.load rfl rfl (okd rfl rfl) (D h rfl rfl rfl rfl) ag58 rfl) rfl rfl ?_
          refine DG.fr (d := 60) [5] (DS rfl fun v h => OpT.move (A := .cel _ _) (.inl rfl) rfl (okd rfl rfl) (D h rfl rfl rfl rfl) rfl) rfl rfl ?_
          refine DG.fr (d := 61) [59, 60] (DS rfl fun v h => OpT.indexAddr rfl rfl (okd rfl rfl) (D h rfl rfl rfl rfl) (D h rfl rfl rfl rfl) el58 sz98 (by omega) (by assumption)) rfl rfl ?_
          refine DG.fr (d := 62) [61] (DS rfl fun v h => OpT.loadA rfl rfl (okd rfl rfl) (D h rfl rfl rfl rfl) ag98 sz98) rfl rfl ?_
          refine DG.fr (d := 63) [55, 62] (DS rfl fun v h => OpT.neA rfl rfl (okd rfl rfl) (D h rfl rfl rfl rfl) (D h rfl rfl rfl rfl) eq98 ag98 rfl eg98) rfl rfl ?_
          refine DG.nil ⟨by kernel_rfl, by kernel_rfl, ?_⟩
          refine AX.go ?_
          refine AW.cond (t := 63) rfl (by decide) (fun hc5 => ?_) (fun hc5 => ?_)
          ·
            try simp only [decide_eq_true_eq, decide_eq_false_iff_not, Bool.not_eq_true', Bool.not_eq_false'] at hc5
            refine AW.seq ?_
            refine AW.region ?_
            refine AWl.st rfl (OpT.move (A := .cel _ _) (.inr rfl) rfl (okd rfl rfl) Opd.bool rfl) rfl ?_
            refine AWl.nil ?_
            refine AX.go ?_
            refine AW.ret ?_
            refine AX.ret_block ?_
            refine AX.ret_then ?_
            refine AX.ret_then ?_
            refine AX.ret_block ?_
            refine AX.ret_then ?_
            exact AX.rt (rs := [.tmp 4]) (ts := [some 4]) (.inl rfl) rfl (ROs.cons (RO.tmp (At.self (by decide)) (Kv rfl (by first | exact same_ne (.inl (by simpa [eqv_iff, eqv_false_iff] using hd1)) | exact same_ne (.inr (.inl (by simpa [eqv_iff, eqv_false_iff] using hd2))) | exact same_ne (.inr (.inr (fun e => hc3 (by rw [e])))) | exact same_ne (.inr (.inr (eqv_false_iff.1 (eqs_ne ha hb (by simpa [eqv_iff, eqv_false_iff] using hc5)).symm))) | exact same_eq (by simpa [eqv_iff, eqv_false_iff] using hd1) (by simpa [eqv_iff, eqv_false_iff] using hd2) (eqs_all hI.2 (by omega) (by omega)))) rfl) <| ROs.nil) (by decide) OutsOK.nil
          ·
            try simp only [decide_eq_true_eq, decide_eq_false_iff_not, Bool.not_eq_true', Bool.not_eq_false'] at hc5
            refine AW.skip ?_
            refine AX.normal_block ?_
            refine AX.go ?_
            refine AW.region ?_
            refine AWl.st rfl (OpT.move (A := .cel _ _) (.inl rfl) rfl (okd rfl rfl) (Tm rfl rfl rfl) rfl) rfl ?_
            refine AWl.st rfl (OpT.add rfl rfl (okd rfl rfl) (Tm rfl rfl rfl) (I rfl) (nw (by omega))) rfl ?_
            refine AWl.sg rfl (OpT.move (A := .cel _ _) (.inr rfl) rfl (okd rfl rfl) (Tm rfl rfl rfl) rfl) (Kc 5 (.cel _ _) rfl <| Kc 48 (.cel _ _) rfl <| Kc 47 (.cel _ _) rfl <| Kc 63 (.cel _ _) rfl <| Kc 62 (.agg _ _) rfl <| Kc 61 (.cel _ _) rfl <| Kc 60 (.cel _ _) rfl <| Kc 59 (.cel _ _) rfl <| Kc 58 (.cel _ _) rfl <| Kc 57 (.cel _ _) rfl <| Kc 56 (.cel _ _) rfl <| Kc 55 (.agg _ _) rfl <| Kc 54 (.cel _ _) rfl <| Kc 53 (.cel _ _) rfl <| Kc 52 (.cel _ _) rfl <| Kc 51 (.cel _ _) rfl <| Kc 50 (.cel _ _) rfl <| Kc 49 (.cel _ _) rfl <| Kc 46 (.cel _ _) rfl <| Kc 45 (.cel _ _) rfl <| Kc 44 (.cel _ _) rfl <| Kc 43 (.cel _ _) rfl <| Kc 42 (.cel _ _) rfl <| Kc 41 (.cel _ _) rfl <| Kc 40 (.cel _ _) rfl <| Kc 0 (.cel _ _) rfl <| Kc 1 (.cel _ _) rfl <| Kn) ?_
            refine AWl.nil ?_
            exact AX.again (z + 1) ⟨by omega, eqs_step hI.2 ha hb (by simpa [eqv_iff, eqv_false_iff] using hc5)⟩ (by omega) (Kc 0 _ (Kv rfl rfl) <| Kc 1 _ (Kv rfl rfl) <| Kc 5 _ (Kv rfl (by omega)) <| Kn)
        ·
          try simp only [decide_eq_true_eq, decide_eq_false_iff_not, Bool.not_eq_true', Bool.not_eq_false'] at hc4
          refine AW.exit ?_
          refine AX.exit_then ?_
          refine AX.exit_then ?_
          refine AX.exit_hit ?_
          refine AX.pr (Kn) ?_
          refine AX.go ?_
          refine AW.seq ?_
          refine AW.region ?_
          refine AWl.st rfl (OpT.move (A := .cel _ _) (.inr rfl) rfl (okd rfl rfl) Opd.bool rfl) rfl ?_
          refine AWl.nil ?_
          refine AX.go ?_
          refine AW.ret ?_
          exact AX.rt (rs := [.tmp 4]) (ts := [some 4]) (.inl rfl) rfl (ROs.cons (RO.tmp (At.self (by decide)) (Kv rfl (by first | exact same_ne (.inl (by simpa [eqv_iff, eqv_false_iff] using hd1)) | exact same_ne (.inr (.inl (by simpa [eqv_iff, eqv_false_iff] using hd2))) | exact same_ne (.inr (.inr (fun e => hc3 (by rw [e])))) | exact same_ne (.inr (.inr (eqv_false_iff.1 (eqs_ne ha hb (by simpa [eqv_iff, eqv_false_iff] using hc5)).symm))) | exact same_eq (by simpa [eqv_iff, eqv_false_iff] using hd1) (by simpa [eqv_iff, eqv_false_iff] using hd2) (eqs_all hI.2 (by omega) (by omega)))) rfl) <| ROs.nil) (by decide) OutsOK.nil

/-- spec.SameAnswer -/
theorem c_spec_SameAnswer (x y : DAns) : AC Try.prog 29 [.agg kAns x, .agg kAns y] [.cel Kd.bool (eqv x y)] [] := by
  refine ⟨ACall.intro (N := 6) Try.func29 (c := _) (rfl : Func.body _ = some _) rfl (Nat.le_of_ble_eq_true rfl) (Nat.le_of_ble_eq_true rfl) rfl (Nat.le_of_ble_eq_true rfl) fun w0 hd s0 ar har => ?_, _, Try.func29, rfl, by decide⟩
  refine AW.to (Kc 0 (.agg _ _) rfl <| Kc 1 (.agg _ _) rfl <| Kn) ?_
  refine AW.seq ?_
  refine AW.region ?_
  refine AWl.st rfl (OpT.frz (OpT.boxA (E := 60) rfl rfl (okd rfl rfl) (Tm rfl rfl rfl))) rfl ?_
  refine AWl.st rfl (OpT.frz (OpT.boxA (E := 60) rfl rfl (okd rfl rfl) (Tm rfl rfl rfl))) rfl ?_
  refine AWl.st rfl (OpT.move (A := .cel _ _) (.inr rfl) rfl (okd rfl rfl) Opd.bool rfl) rfl ?_
  refine AWl.nil ?_
  refine AX.pr (Kc 4 (.cel _ _) rfl <| Kc 3 (.cel _ _) rfl <| Kc 2 (.cel _ _) rfl <| Kn) ?_
  refine AX.go ?_
  refine AW.seq ?_
  refine AW.region ?_
  refine AWl.st rfl (OpT.c1 (ms := [.flat, .flat]) (c_spec_l07Same _ _) rfl rfl (okd rfl rfl) (Af (Tm rfl rfl rfl) rfl rfl <| Af (Tm rfl rfl rfl) rfl rfl <| An) rfl rfl) rfl ?_
  refine AWl.sg rfl (OpT.move (A := .cel _ _) (.inr rfl) rfl (okd rfl rfl) (Tm rfl rfl rfl) rfl) (Kc 4 (.cel _ _) rfl <| Kc 5 (.cel _ _) rfl <| Kc 3 (.cel _ _) rfl <| Kc 2 (.cel _ _) rfl <| Kn) ?_
  refine AWl.nil ?_
  refine AX.pr (Kc 4 (.cel _ _) rfl <| Kn) ?_
  refine AX.go ?_
  refine AW.ret ?_
  exact AX.rt (rs := [.tmp 4]) (ts := [some 4]) (.inl rfl) rfl (ROs.cons (RO.tmp (At.self (by decide)) (Kv rfl rfl) rfl) <| ROs.nil) (by decide) OutsOK.nil

set_option maxHeartbeats 4000000 in
/-- laws.FnExactSameAnswer -/
theorem c_laws_FnExactSameAnswer (x y : DAns) : AC Try.prog 8 [.agg kAns x, .agg kAns y] [.cel Kd.bool true] [] := by
  refine ⟨ACall.intro (N := 45) Try.func8 (c := _) (rfl : Func.body _ = some _) rfl (Nat.le_of_ble_eq_true rfl) (Nat.le_of_ble_eq_true rfl) rfl (Nat.le_of_ble_eq_true rfl) fun w0 hd s0 ar har => ?_, _, Try.func8, rfl, by decide⟩
  refine AW.to (Kc 0 (.agg _ _) rfl <| Kc 1 (.agg _ _) rfl <| Kn) ?_
  refine AW.seq ?_
  refine AW.region ?_
  refine AWl.st rfl (OpT.frz (OpT.boxA (E := 53) rfl rfl (okd rfl rfl) (Tm rfl rfl rfl))) rfl ?_
  refine AWl.st rfl (OpT.frz (OpT.boxA (E := 53) rfl rfl (okd rfl rfl) (Tm rfl rfl rfl))) rfl ?_
  refine AWl.st rfl (OpT.move (A := .cel _ _) (.inr rfl) rfl (okd rfl rfl) Opd.bool rfl) rfl ?_
  refine AWl.nil ?_
  refine AX.pr (Kc 4 (.cel _ _) rfl <| Kc 3 (.cel _ _) rfl <| Kc 2 (.cel _ _) rfl <| Kn) ?_
  refine AX.go ?_
  refine AW.seq ?_
  refine AW.region ?_
  refine AWl.st rfl (OpT.move (A := .cel _ _) (.inr rfl) rfl (okd rfl rfl) (I rfl) rfl) rfl ?_
  refine AWl.nil ?_
  refine AX.go ?_
  refine AW.seq ?_
  refine AW.region ?_
  refine AWl.st rfl (OpT.loadA rfl rfl (okd rfl rfl) (Tm rfl rfl rfl) ag53 sz53) rfl ?_
  refine AWl.st rfl (OpT.move (A := .cel _ _) (.inl rfl) rfl (okd rfl rfl) (Tm rfl rfl rfl) rfl) rfl ?_
  refine AWl.st rfl (OpT.c1 (ms := [.flat, .flat]) (c_laws_szAnswer _ _ (by omega)) rfl rfl (okd rfl rfl) (Af (Tm rfl rfl rfl) rfl rfl <| Af (Tm rfl rfl rfl) rfl rfl <| An) rfl rfl) rfl ?_
  refine AWl.sg rfl (OpT.move (A := .cel _ _) (.inr rfl) rfl (okd rfl rfl) (Tm rfl rfl rfl) rfl) (Kc 5 (.cel _ _) rfl <| Kc 12 (.cel _ _) rfl <| Kc 11 (.cel _ _) rfl <| Kc 10 (.agg _ _) rfl <| Kc 4 (.cel _ _) rfl <| Kc 3 (.cel _ _) rfl <| Kc 2 (.cel _ _) rfl <| Kn) ?_
  refine AWl.nil ?_
  refine AX.pr (Kc 5 (.cel _ _) rfl <| Kc 4 (.cel _ _) rfl <| Kc 3 (.cel _ _) rfl <| Kc 2 (.cel _ _) rfl <| Kn) ?_
  refine AX.go ?_
  refine AW.seq ?_
  refine AW.seq ?_
  refine AW.region ?_
  refine AWl.st rfl (OpT.move (A := .cel _ _) (.inl rfl) rfl (okd rfl rfl) (Tm rfl rfl rfl) rfl) rfl ?_
  refine AWl.st rfl (OpT.lss rfl rfl (okd rfl rfl) (Tm rfl rfl rfl) (I rfl)) rfl ?_
  refine AWl.nil ?_
  refine AX.pr (Kc 14 (.cel _ _) rfl <| Kc 5 (.cel _ _) rfl <| Kc 4 (.cel _ _) rfl <| Kc 3 (.cel _ _) rfl <| Kc 2 (.cel _ _) rfl <| Kn) ?_
  refine AX.go ?_
  refine AW.cond (t := 14) rfl (by decide) (fun hc1 => ?_) (fun hc1 => ?_)
  ·
    try simp only [decide_eq_true_eq, decide_eq_false_iff_not, Bool.not_eq_true', Bool.not_eq_false'] at hc1
    refine AW.seq ?_
    refine AW.region ?_
    refine AWl.sg rfl (OpT.move (A := .cel _ _) (.inr rfl) rfl (okd rfl rfl) Opd.bool rfl) (Kc 4 (.cel _ _) rfl <| Kc 14 (.cel _ _) rfl <| Kc 5 (.cel _ _) rfl <| Kc 3 (.cel _ _) rfl <| Kc 2 (.cel _ _) rfl <| Kn) ?_
    refine AWl.nil ?_
    refine AX.pr (Kc 4 (.cel _ _) rfl <| Kc 5 (.cel _ _) rfl <| Kc 3 (.cel _ _) rfl <| Kc 2 (.cel _ _) rfl <| Kn) ?_
    refine AX.go ?_
    refine AW.ret ?_
    refine AX.ret_then ?_
    exact AX.rt (rs := [.tmp 4]) (ts := [some 4]) (.inl rfl) rfl (ROs.cons (RO.tmp (At.self (by decide)) (Kv rfl (by simp_all [eqv_self])) rfl) <| ROs.nil) (by decide) OutsOK.nil
  ·
    try simp only [decide_eq_true_eq, decide_eq_false_iff_not, Bool.not_eq_true', Bool.not_eq_false'] at hc1
    have k0 := szA_in x (l := 1048576) (by omega)
    have k1 := k0.2.2 (by omega)
    refine AW.skip ?_
    refine AX.pr (Kc 5 (.cel _ _) rfl <| Kc 4 (.cel _ _) rfl <| Kc 3 (.cel _ _) rfl <| Kc 2 (.cel _ _) rfl <| Kn) ?_
    refine AX.go ?_
    refine AW.seq ?_
    refine AW.region ?_
    refine AWl.st rfl (OpT.loadA rfl rfl (okd rfl rfl) (Tm rfl rfl rfl) ag53 sz53) rfl ?_
    refine AWl.st rfl (OpT.move (A := .cel _ _) (.inl rfl) rfl (okd rfl rfl) (Tm rfl rfl rfl) rfl) rfl ?_
    refine AWl.st rfl (OpT.c1 (ms := [.flat, .flat]) (c_laws_szAnswer _ _ (by have := szA_in x (l := 1048576) (by omega); omega)) rfl rfl (okd rfl rfl) (Af (Tm rfl rfl rfl) rfl rfl <| Af (Tm rfl rfl rfl) rfl rfl <| An) rfl rfl) rfl ?_
    refine AWl.sg rfl (OpT.move (A := .cel _ _) (.inr rfl) rfl (okd rfl rfl) (Tm rfl rfl rfl) rfl) (Kc 5 (.cel _ _) rfl <| Kc 17 (.cel _ _) rfl <| Kc 16 (.cel _ _) rfl <| Kc 15 (.agg _ _) rfl <| Kc 4 (.cel _ _) rfl <| Kc 3 (.cel _ _) rfl <| Kc 2 (.cel _ _) rfl <| Kn) ?_
    refine AWl.nil ?_
    refine AX.pr (Kc 5 (.cel _ _) rfl <| Kc 4 (.cel _ _) rfl <| Kc 3 (.cel _ _) rfl <| Kc 2 (.cel _ _) rfl <| Kn) ?_
    refine AX.go ?_
    refine AW.seq ?_
    refine AW.seq ?_
    refine AW.region ?_
    refine AWl.st rfl (OpT.move (A := .cel _ _) (.inl rfl) rfl (okd rfl rfl) (Tm rfl rfl rfl) rfl) rfl ?_
    refine AWl.st rfl (OpT.lss rfl rfl (okd rfl rfl) (Tm rfl rfl rfl) (I rfl)) rfl ?_
    refine AWl.nil ?_
    refine AX.pr (Kc 19 (.cel _ _) rfl <| Kc 4 (.cel _ _) rfl <| Kc 3 (.cel _ _) rfl <| Kc 2 (.cel _ _) rfl <| Kn) ?_
    refine AX.go ?_
    refine AW.cond (t := 19) rfl (by decide) (fun hc2 => ?_) (fun hc2 => ?_)
    ·
      try simp only [decide_eq_true_eq, decide_eq_false_iff_not, Bool.not_eq_true', Bool.not_eq_false'] at hc2
      refine AW.seq ?_
      refine AW.region ?_
      refine AWl.sg rfl (OpT.move (A := .cel _ _) (.inr rfl) rfl (okd rfl rfl) Opd.bool rfl) (Kc 4 (.cel _ _) rfl <| Kc 19 (.cel _ _) rfl <| Kc 3 (.cel _ _) rfl <| Kc 2 (.cel _ _) rfl <| Kn) ?_
      refine AWl.nil ?_
      refine AX.pr (Kc 4 (.cel _ _) rfl <| Kc 3 (.cel _ _) rfl <| Kc 2 (.cel _ _) rfl <| Kn) ?_
      refine AX.go ?_
      refine AW.ret ?_
      refine AX.ret_then ?_
      exact AX.rt (rs := [.tmp 4]) (ts := [some 4]) (.inl rfl) rfl (ROs.cons (RO.tmp (At.self (by decide)) (Kv rfl (by simp_all [eqv_self])) rfl) <| ROs.nil) (by decide) OutsOK.nil
    ·
      try simp only [decide_eq_true_eq, decide_eq_false_iff_not, Bool.not_eq_true', Bool.not_eq_false'] at hc2
      have k2 := (szA_in y (l := szA x 1048576) (by omega)).2.2 (by omega)
      refine AW.skip ?_
      refine AX.pr (Kc 4 (.cel _ _) rfl <| Kc 3 (.cel _ _) rfl <| Kc 2 (.cel _ _) rfl <| Kn) ?_
      refine AX.go ?_
      refine AW.seq ?_
      refine AW.dg fomo ?_
      refine DG.fr (d := 20) [2] (DS rfl fun v h => OpT.loadA rfl rfl (okd rfl rfl) (D h rfl rfl rfl rfl) ag53 sz53) rfl rfl ?_
      refine DG.fr (d := 21) [20] (DS rfl fun v h => OpT.c1 (ms := [.flat]) (c_laws_toAnswer x k1) rfl rfl (okd rfl rfl) (Af (D h rfl rfl rfl rfl) rfl rfl <| An) rfl rfl) rfl rfl ?_
      refine DG.fr (d := 22) [3] (DS rfl fun v h => OpT.loadA rfl rfl (okd rfl rfl) (D h rfl rfl rfl rfl) ag53 sz53) rfl rfl ?_
      refine DG.fr (d := 23) [22] (DS rfl fun v h => OpT.c1 (ms := [.flat]) (c_laws_toAnswer y k2) rfl rfl (okd rfl rfl) (Af (D h rfl rfl rfl rfl) rfl rfl <| An) rfl rfl) rfl rfl ?_
      refine DG.fr (d := 24) [21, 23] (DS rfl fun v h => OpT.c1 (ms := [.flat, .flat]) (c_spec_SameAnswer _ _) rfl rfl (okd rfl rfl) (Af (D h rfl rfl rfl rfl) rfl rfl <| Af (D h rfl rfl rfl rfl) rfl rfl <| An) rfl rfl) rfl rfl ?_
      refine DG.fr (d := 6) [24] (DS rfl fun v h => OpT.move (A := .cel _ _) (.inr rfl) rfl (okd rfl rfl) (D h rfl rfl rfl rfl) rfl) rfl rfl ?_
      refine DG.nil ⟨by kernel_rfl, by kernel_rfl, ?_⟩
      refine AX.pr (Kc 6 (.cel _ _) rfl <| Kc 4 (.cel _ _) rfl <| Kc 3 (.cel _ _) rfl <| Kc 2 (.cel _ _) rfl <| Kn) ?_
      refine AX.go ?_
      refine AW.seq ?_
      refine AW.region ?_
      refine AWl.st rfl (OpT.loadA rfl rfl (okd rfl rfl) (Tm rfl rfl rfl) ag53 sz53) rfl ?_
      refine AWl.st rfl (OpT.c1 (ms := [.flat]) (c_laws_toAnswer x k1) rfl rfl (okd rfl rfl) (Af (Tm rfl rfl rfl) rfl rfl <| An) rfl rfl) rfl ?_
      refine AWl.st rfl (OpT.alloc rfl rfl (okd rfl rfl) zr60 zk60) rfl ?_
      refine AWl.sg rfl (OpT.storeBA rfl rfl (Opd.whole (Root.self (by decide)) rfl) rfl sz60 (by decide) (Tm rfl rfl rfl)) (Kc 7 (.box _ _ _) rfl <| Kc 26 (.agg _ _) rfl <| Kc 25 (.agg _ _) rfl <| Kc 6 (.cel _ _) rfl <| Kc 4 (.cel _ _) rfl <| Kc 3 (.cel _ _) rfl <| Kc 2 (.cel _ _) rfl <| Kn) ?_
      refine AWl.nil ?_
      refine AX.pr (Kc 7 (.box _ _ _) rfl <| Kc 6 (.cel _ _) rfl <| Kc 4 (.cel _ _) rfl <| Kc 3 (.cel _ _) rfl <| Kc 2 (.cel _ _) rfl <| Kn) ?_
      refine AX.go ?_
      refine AW.seq ?_
      refine AW.region ?_
      refine AWl.st rfl (OpT.loadA rfl rfl (okd rfl rfl) (Tm rfl rfl rfl) ag53 sz53) rfl ?_
      refine AWl.st rfl (OpT.c1 (ms := [.flat]) (c_laws_toAnswer y k2) rfl rfl (okd rfl rfl) (Af (Tm rfl rfl rfl) rfl rfl <| An) rfl rfl) rfl ?_
      refine AWl.st rfl (OpT.alloc rfl rfl (okd rfl rfl) zr60 zk60) rfl ?_
      refine AWl.sg rfl (OpT.storeBA rfl rfl (Opd.whole (Root.self (by decide)) rfl) rfl sz60 (by decide) (Tm rfl rfl rfl)) (Kc 8 (.box _ _ _) rfl <| Kc 28 (.agg _ _) rfl <| Kc 27 (.agg _ _) rfl <| Kc 7 (.box _ _ _) rfl <| Kc 6 (.cel _ _) rfl <| Kc 4 (.cel _ _) rfl <| Kc 3 (.cel _ _) rfl <| Kc 2 (.cel _ _) rfl <| Kn) ?_
      refine AWl.nil ?_
      refine AX.pr (Kc 8 (.box _ _ _) rfl <| Kc 7 (.box _ _ _) rfl <| Kc 6 (.cel _ _) rfl <| Kc 4 (.cel _ _) rfl <| Kc 3 (.cel _ _) rfl <| Kc 2 (.cel _ _) rfl <| Kn) ?_
      refine AX.go ?_
      refine AW.seq ?_
      refine AW.region ?_
      refine AWl.st rfl (OpT.loadB rfl rfl (okd rfl rfl) (Root.self (by decide)) rfl ag60 sz60) rfl ?_
      refine AWl.st rfl (OpT.loadB rfl rfl (okd rfl rfl) (Root.self (by decide)) rfl ag60 sz60) rfl ?_
      refine AWl.st rfl (OpT.c1 (ms := [.flat, .flat]) (c_impl_SameAnswer _ _) rfl rfl (okd rfl rfl) (Af (Tm rfl rfl rfl) rfl rfl <| Af (Tm rfl rfl rfl) rfl rfl <| An) rfl rfl) rfl ?_
      refine AWl.st rfl (OpT.move (A := .cel _ _) (.inr rfl) rfl (okd rfl rfl) (Tm rfl rfl rfl) rfl) rfl ?_
      refine AWl.nil ?_
      refine AX.pr (Kc 9 (.cel _ _) rfl <| Kc 8 (.box _ _ _) rfl <| Kc 7 (.box _ _ _) rfl <| Kc 6 (.cel _ _) rfl <| Kc 4 (.cel _ _) rfl <| Kc 3 (.cel _ _) rfl <| Kc 2 (.cel _ _) rfl <| Kn) ?_
      refine AX.go ?_
      refine AW.seq ?_
      refine AW.seq ?_
      refine AW.region ?_
      refine AWl.st rfl (OpT.move (A := .cel _ _) (.inl rfl) rfl (okd rfl rfl) (Tm rfl rfl rfl) rfl) rfl ?_
      refine AWl.st rfl (OpT.move (A := .cel _ _) (.inl rfl) rfl (okd rfl rfl) (Tm rfl rfl rfl) rfl) rfl ?_
      refine AWl.st rfl (OpT.bneq rfl rfl (okd rfl rfl) Try.underlying4 (Tm rfl rfl rfl) (Tm rfl rfl rfl)) rfl ?_
      refine AWl.nil ?_
      refine AX.pr (Kc 34 (.cel _ _) rfl <| Kc 8 (.box _ _ _) rfl <| Kc 7 (.box _ _ _) rfl <| Kc 4 (.cel _ _) rfl <| Kc 3 (.cel _ _) rfl <| Kc 2 (.cel _ _) rfl <| Kn) ?_
      refine AX.go ?_
      refine AW.cond (t := 34) rfl (by decide) (fun hc3 => ?_) (fun hc3 => ?_)
      ·
        try simp only [decide_eq_true_eq, decide_eq_false_iff_not, Bool.not_eq_true', Bool.not_eq_false'] at hc3
        refine AW.seq ?_
        refine AW.region ?_
        refine AWl.sg rfl (OpT.move (A := .cel _ _) (.inr rfl) rfl (okd rfl rfl) Opd.bool rfl) (Kc 4 (.cel _ _) rfl <| Kc 34 (.cel _ _) rfl <| Kc 8 (.box _ _ _) rfl <| Kc 7 (.box _ _ _) rfl <| Kc 3 (.cel _ _) rfl <| Kc 2 (.cel _ _) rfl <| Kn) ?_
        refine AWl.nil ?_
        refine AX.pr (Kc 4 (.cel _ _) rfl <| Kc 8 (.box _ _ _) rfl <| Kc 7 (.box _ _ _) rfl <| Kc 3 (.cel _ _) rfl <| Kc 2 (.cel _ _) rfl <| Kn) ?_
        refine AX.go ?_
        refine AW.ret ?_
        refine AX.ret_then ?_
        exact AX.rt (rs := [.tmp 4]) (ts := [some 4]) (.inl rfl) rfl (ROs.cons (RO.tmp (At.self (by decide)) (Kv rfl (by simp_all [eqv_self])) rfl) <| ROs.nil) (by decide) OutsOK.nil
      ·
        try simp only [decide_eq_true_eq, decide_eq_false_iff_not, Bool.not_eq_true', Bool.not_eq_false'] at hc3
        refine AW.skip ?_
        refine AX.pr (Kc 8 (.box _ _ _) rfl <| Kc 7 (.box _ _ _) rfl <| Kc 4 (.cel _ _) rfl <| Kc 3 (.cel _ _) rfl <| Kc 2 (.cel _ _) rfl <| Kn) ?_
        refine AX.go ?_
        refine AW.seq ?_
        refine AW.seq ?_
        refine AW.dg fomo ?_
        refine DG.fr (d := 35) [7] (DS rfl fun v h => OpT.loadB rfl rfl (okd rfl rfl) (Root.self (by decide)) ((h _ (List.elem_iff.1 rfl)).trans rfl) ag60 sz60) rfl rfl ?_
        refine DG.fr (d := 36) [2] (DS rfl fun v h => OpT.loadA rfl rfl (okd rfl rfl) (D h rfl rfl rfl rfl) ag53 sz53) rfl rfl ?_
        refine DG.fr (d := 37) [36] (DS rfl fun v h => OpT.c1 (ms := [.flat]) (c_laws_toAnswer x k1) rfl rfl (okd rfl rfl) (Af (D h rfl rfl rfl rfl) rfl rfl <| An) rfl rfl) rfl rfl ?_
        refine DG.fr (d := 38) [35, 37] (DS rfl fun v h => OpT.c1 (ms := [.flat, .flat]) (c_laws_eqAnswer _ _) rfl rfl (okd rfl rfl) (Af (D h rfl rfl rfl rfl) rfl rfl <| Af (D h rfl rfl rfl rfl) rfl rfl <| An) rfl rfl) rfl rfl ?_
        refine DG.fr (d := 39) [38] (DS rfl fun v h => OpT.not rfl rfl (okd rfl rfl) (D h rfl rfl rfl rfl)) rfl rfl ?_
        refine DG.nil ⟨by kernel_rfl, by kernel_rfl, ?_⟩
        refine AX.pr (Kc 39 (.cel _ _) rfl <| Kc 8 (.box _ _ _) rfl <| Kc 4 (.cel _ _) rfl <| Kc 3 (.cel _ _) rfl <| Kn) ?_
        refine AX.go ?_
        refine AW.cond (t := 39) rfl (by decide) (fun hc4 => ?_) (fun hc4 => ?_)
        ·
          try simp only [decide_eq_true_eq, decide_eq_false_iff_not, Bool.not_eq_true', Bool.not_eq_false'] at hc4
          refine AW.seq ?_
          refine AW.region ?_
          refine AWl.sg rfl (OpT.move (A := .cel _ _) (.inr rfl) rfl (okd rfl rfl) Opd.bool rfl) (Kc 4 (.cel _ _) rfl <| Kc 39 (.cel _ _) rfl <| Kc 8 (.box _ _ _) rfl <| Kc 3 (.cel _ _) rfl <| Kn) ?_
          refine AWl.nil ?_
          refine AX.pr (Kc 4 (.cel _ _) rfl <| Kc 8 (.box _ _ _) rfl <| Kc 3 (.cel _ _) rfl <| Kn) ?_
          refine AX.go ?_
          refine AW.ret ?_
          refine AX.ret_then ?_
          exact AX.rt (rs := [.tmp 4]) (ts := [some 4]) (.inl rfl) rfl (ROs.cons (RO.tmp (At.self (by decide)) (Kv rfl (by simp_all [eqv_self])) rfl) <| ROs.nil) (by decide) OutsOK.nil
        ·
          try simp only [decide_eq_true_eq, decide_eq_false_iff_not, Bool.not_eq_true', Bool.not_eq_false'] at hc4
          refine AW.skip ?_
          refine AX.pr (Kc 8 (.box _ _ _) rfl <| Kc 4 (.cel _ _) rfl <| Kc 3 (.cel _ _) rfl <| Kn) ?_
          refine AX.go ?_
          refine AW.seq ?_
          refine AW.seq ?_
          refine AW.dg fomo ?_
          refine DG.fr (d := 40) [8] (DS rfl fun v h => OpT.loadB rfl rfl (okd rfl rfl) (Root.self (by decide)) ((h _ (List.elem_iff.1 rfl)).trans rfl) ag60 sz60) rfl rfl ?_
          refine DG.fr (d := 41) [3] (DS rfl fun v h => OpT.loadA rfl rfl (okd rfl rfl) (D h rfl rfl rfl rfl) ag53 sz53) rfl rfl ?_
          refine DG.fr (d := 42) [41] (DS rfl fun v h => OpT.c1 (ms := [.flat]) (c_laws_toAnswer y k2) rfl rfl (okd rfl rfl) (Af (D h rfl rfl rfl rfl) rfl rfl <| An) rfl rfl) rfl rfl ?_
          refine DG.fr (d := 43) [40, 42] (DS rfl fun v h => OpT.c1 (ms := [.flat, .flat]) (c_laws_eqAnswer _ _) rfl rfl (okd rfl rfl) (Af (D h rfl rfl rfl rfl) rfl rfl <| Af (D h rfl rfl rfl rfl) rfl rfl <| An) rfl rfl) rfl rfl ?_
          refine DG.fr (d := 44) [43] (DS rfl fun v h => OpT.not rfl rfl (okd rfl rfl) (D h rfl rfl rfl rfl)) rfl rfl ?_
          refine DG.nil ⟨by kernel_rfl, by kernel_rfl, ?_⟩
          refine AX.pr (Kc 44 (.cel _ _) rfl <| Kc 4 (.cel _ _) rfl <| Kn) ?_
          refine AX.go ?_
          refine AW.cond (t := 44) rfl (by decide) (fun hc5 => ?_) (fun hc5 => ?_)
          ·
            try simp only [decide_eq_true_eq, decide_eq_false_iff_not, Bool.not_eq_true', Bool.not_eq_false'] at hc5
            refine AW.seq ?_
            refine AW.region ?_
            refine AWl.sg rfl (OpT.move (A := .cel _ _) (.inr rfl) rfl (okd rfl rfl) Opd.bool rfl) (Kc 4 (.cel _ _) rfl <| Kc 44 (.cel _ _) rfl <| Kn) ?_
            refine AWl.nil ?_
            refine AX.pr (Kc 4 (.cel _ _) rfl <| Kn) ?_
            refine AX.go ?_
            refine AW.ret ?_
            refine AX.ret_then ?_
            exact AX.rt (rs := [.tmp 4]) (ts := [some 4]) (.inl rfl) rfl (ROs.cons (RO.tmp (At.self (by decide)) (Kv rfl (by simp_all [eqv_self])) rfl) <| ROs.nil) (by decide) OutsOK.nil
          ·
            try simp only [decide_eq_true_eq, decide_eq_false_iff_not, Bool.not_eq_true', Bool.not_eq_false'] at hc5
            refine AW.skip ?_
            refine AX.pr (Kc 4 (.cel _ _) rfl <| Kn) ?_
            refine AX.go ?_
            refine AW.seq ?_
            refine AW.region ?_
            refine AWl.sg rfl (OpT.move (A := .cel _ _) (.inr rfl) rfl (okd rfl rfl) Opd.bool rfl) (Kc 4 (.cel _ _) rfl <| Kn) ?_
            refine AWl.nil ?_
            refine AX.go ?_
            refine AW.ret ?_
            exact AX.rt (rs := [.tmp 4]) (ts := [some 4]) (.inl rfl) rfl (ROs.cons (RO.tmp (At.self (by decide)) (Kv rfl (by simp_all [eqv_self])) rfl) <| ROs.nil) (by decide) OutsOK.nil
end Go.Proofs.Ytdjbdaidnlbhhaa.VL
