/- Proved here: what some functions of the program take and give: walks with the words of VA..VQ. Printed by program. -/
import Derived.Test.YtdjbdaidnlbhhaaWT
import Derived.Test.YtdjbdaidnlbhhaaWA
set_option linter.unusedVariables false
set_option linter.unusedSimpArgs false
set_option maxRecDepth 4000
namespace Go.Proofs.Ytdjbdaidnlbhhaa.VL
open Go
/-- spec.l06Gcd -/
theorem c_spec_l06Gcd (a b : Int) (h : 0 ≤ a ∧ 0 ≤ b) : AC Try.prog 91 [.cel (Kd.int .i64) a, .cel (Kd.int .i64) b] [.cel (Kd.int .i64) ((Int.gcd a b : Nat) : Int)] [] := by
  refine ⟨ACall.intro (N := 14) Try.func91 (c := _) (rfl : Func.body _ = some _) rfl (Nat.le_of_ble_eq_true rfl) (Nat.le_of_ble_eq_true rfl) rfl (Nat.le_of_ble_eq_true rfl) fun w0 hd s0 ar har => ?_, _, Try.func91, rfl, by decide⟩
  refine AW.to (Kc 0 (.cel _ _) rfl <| Kc 1 (.cel _ _) rfl <| Kn) ?_
  refine AW.seq ?_
  refine AW.region ?_
  refine AWl.st rfl (OpT.move (A := .cel _ _) (.inr rfl) rfl (okd rfl rfl) (I rfl) rfl) rfl ?_
  refine AWl.nil ?_
  refine AX.go ?_
  refine AW.seq ?_
  refine AW.block ?_
  refine AW.loop (fun p : Int × Int => 0 ≤ p.1 ∧ 0 ≤ p.2 ∧ Int.gcd p.1 p.2 = Int.gcd a b) (fun p : Int × Int => keep [(0, .cel (Kd.int .i64) p.1), (1, .cel (Kd.int .i64) p.2)]) (fun p : Int × Int => p.2.toNat) ((a, b)) ⟨h.1, h.2, rfl⟩ (Kc 0 _ (Kv rfl rfl) <| Kc 1 _ (Kv rfl rfl) <| Kn) ?_
  intro p hI
  refine AW.seq ?_
  refine AW.seq ?_
  refine AW.region ?_
  refine AWl.st rfl (OpT.move (A := .cel _ _) (.inl rfl) rfl (okd rfl rfl) (Tm rfl rfl rfl) rfl) rfl ?_
  refine AWl.st rfl (OpT.neq rfl rfl (okd rfl rfl) (Tm rfl rfl rfl) (I rfl)) rfl ?_
  refine AWl.nil ?_
  refine AX.go ?_
  refine AW.cond (t := 7) rfl (by decide) (fun hc1 => ?_) (fun hc1 => ?_)
  ·
    try simp only [decide_eq_true_eq, decide_eq_false_iff_not, Bool.not_eq_true', Bool.not_eq_false'] at hc1
    refine AW.skip ?_
    refine AX.go ?_
    refine AW.block ?_
    refine AW.seq ?_
    refine AW.region ?_
    refine AWl.st rfl (OpT.move (A := .cel _ _) (.inl rfl) rfl (okd rfl rfl) (Tm rfl rfl rfl) rfl) rfl ?_
    refine AWl.st rfl (OpT.move (A := .cel _ _) (.inl rfl) rfl (okd rfl rfl) (Tm rfl rfl rfl) rfl) rfl ?_
    refine AWl.st rfl (OpT.rem rfl rfl (okd rfl rfl) (Tm rfl rfl rfl) (Tm rfl rfl rfl) (by have := hI.2.1; (try simp at hc1); omega)) rfl ?_
    refine AWl.st rfl (OpT.move (A := .cel _ _) (.inr rfl) rfl (okd rfl rfl) (Tm rfl rfl rfl) rfl) rfl ?_
    refine AWl.nil ?_
    refine AX.go ?_
    refine AW.seq ?_
    refine AW.region ?_
    refine AWl.st rfl (OpT.move (A := .cel _ _) (.inl rfl) rfl (okd rfl rfl) (Tm rfl rfl rfl) rfl) rfl ?_
    refine AWl.sg rfl (OpT.move (A := .cel _ _) (.inr rfl) rfl (okd rfl rfl) (Tm rfl rfl rfl) rfl) (Kc 0 (.cel _ _) rfl <| Kc 11 (.cel _ _) rfl <| Kc 5 (.cel _ _) rfl <| Kc 10 (.cel _ _) rfl <| Kc 9 (.cel _ _) rfl <| Kc 8 (.cel _ _) rfl <| Kc 7 (.cel _ _) rfl <| Kc 6 (.cel _ _) rfl <| Kc 1 (.cel _ _) rfl <| Kn) ?_
    refine AWl.nil ?_
    refine AX.go ?_
    refine AW.region ?_
    refine AWl.st rfl (OpT.move (A := .cel _ _) (.inl rfl) rfl (okd rfl rfl) (Tm rfl rfl rfl) rfl) rfl ?_
    refine AWl.sg rfl (OpT.move (A := .cel _ _) (.inr rfl) rfl (okd rfl rfl) (Tm rfl rfl rfl) rfl) (Kc 1 (.cel _ _) rfl <| Kc 12 (.cel _ _) rfl <| Kc 0 (.cel _ _) rfl <| Kc 11 (.cel _ _) rfl <| Kc 5 (.cel _ _) rfl <| Kc 10 (.cel _ _) rfl <| Kc 9 (.cel _ _) rfl <| Kc 8 (.cel _ _) rfl <| Kc 7 (.cel _ _) rfl <| Kc 6 (.cel _ _) rfl <| Kn) ?_
    refine AWl.nil ?_
    refine AX.normal_block ?_
    exact AX.again ((p.2, p.1.tmod p.2)) (gcd_inv hI (by have := hI.2.1; (try simp at hc1); omega)) (gcd_dec hI (by have := hI.2.1; (try simp at hc1); omega)) (Kc 0 _ (Kv rfl rfl) <| Kc 1 _ (Kv rfl rfl) <| Kn)
  ·
    try simp only [decide_eq_true_eq, decide_eq_false_iff_not, Bool.not_eq_true', Bool.not_eq_false'] at hc1
    refine AW.exit ?_
    refine AX.exit_then ?_
    refine AX.exit_then ?_
    refine AX.exit_hit ?_
    refine AX.pr (Kc 0 (.cel _ _) rfl <| Kn) ?_
    refine AX.go ?_
    refine AW.seq ?_
    refine AW.region ?_
    refine AWl.st rfl (OpT.move (A := .cel _ _) (.inl rfl) rfl (okd rfl rfl) (Tm rfl rfl rfl) rfl) rfl ?_
    refine AWl.st rfl (OpT.move (A := .cel _ _) (.inr rfl) rfl (okd rfl rfl) (Tm rfl rfl rfl) rfl) rfl ?_
    refine AWl.nil ?_
    refine AX.pr (Kc 4 (.cel _ _) rfl <| Kn) ?_
    refine AX.go ?_
    refine AW.ret ?_
    exact AX.rt (rs := [.tmp 4]) (ts := [some 4]) (.inl rfl) rfl (ROs.cons (RO.tmp (At.self (by decide)) (Kv rfl (gcd_end hI (by have := hI.2.1; (try simp at hc1); omega))) rfl) <| ROs.nil) (by decide) OutsOK.nil

/-- impl.gcd -/
theorem c_impl_gcd (a b : Int) (h : 0 ≤ a ∧ 0 ≤ b) : AC Try.prog 92 [.cel (Kd.int .i64) a, .cel (Kd.int .i64) b] [.cel (Kd.int .i64) ((Int.gcd a b : Nat) : Int)] [] := by
  refine ⟨ACall.intro (N := 12) Try.func92 (c := _) (rfl : Func.body _ = some _) rfl (Nat.le_of_ble_eq_true rfl) (Nat.le_of_ble_eq_true rfl) rfl (Nat.le_of_ble_eq_true rfl) fun w0 hd s0 ar har => ?_, _, Try.func92, rfl, by decide⟩
  refine AW.to (Kc 0 (.cel _ _) rfl <| Kc 1 (.cel _ _) rfl <| Kn) ?_
  refine AW.seq ?_
  refine AW.region ?_
  refine AWl.st rfl (OpT.move (A := .cel _ _) (.inr rfl) rfl (okd rfl rfl) (I rfl) rfl) rfl ?_
  refine AWl.nil ?_
  refine AX.go ?_
  refine AW.seq ?_
  refine AW.block ?_
  refine AW.loop (fun p : Int × Int => 0 ≤ p.1 ∧ 0 ≤ p.2 ∧ Int.gcd p.1 p.2 = Int.gcd a b) (fun p : Int × Int => keep [(0, .cel (Kd.int .i64) p.1), (1, .cel (Kd.int .i64) p.2)]) (fun p : Int × Int => p.2.toNat) ((a, b)) ⟨h.1, h.2, rfl⟩ (Kc 0 _ (Kv rfl rfl) <| Kc 1 _ (Kv rfl rfl) <| Kn) ?_
  intro p hI
  refine AW.seq ?_
  refine AW.seq ?_
  refine AW.region ?_
  refine AWl.st rfl (OpT.move (A := .cel _ _) (.inl rfl) rfl (okd rfl rfl) (Tm rfl rfl rfl) rfl) rfl ?_
  refine AWl.st rfl (OpT.gtr rfl rfl (okd rfl rfl) (Tm rfl rfl rfl) (I rfl)) rfl ?_
  refine AWl.nil ?_
  refine AX.go ?_
  refine AW.cond (t := 6) rfl (by decide) (fun hc1 => ?_) (fun hc1 => ?_)
  ·
    try simp only [decide_eq_true_eq, decide_eq_false_iff_not, Bool.not_eq_true', Bool.not_eq_false'] at hc1
    refine AW.skip ?_
    refine AX.go ?_
    refine AW.block ?_
    refine AW.dg fomo ?_
    refine DG.fr (d := 7) [1] (DS rfl fun v h => OpT.move (A := .cel _ _) (.inl rfl) rfl (okd rfl rfl) (D h rfl rfl rfl rfl) rfl) rfl rfl ?_
    refine DG.fr (d := 8) [0] (DS rfl fun v h => OpT.move (A := .cel _ _) (.inl rfl) rfl (okd rfl rfl) (D h rfl rfl rfl rfl) rfl) rfl rfl ?_
    refine DG.fr (d := 9) [1] (DS rfl fun v h => OpT.move (A := .cel _ _) (.inl rfl) rfl (okd rfl rfl) (D h rfl rfl rfl rfl) rfl) rfl rfl ?_
    refine DG.fr (d := 10) [8, 9] (DS rfl fun v h => OpT.rem rfl rfl (okd rfl rfl) (D h rfl rfl rfl rfl) (D h rfl rfl rfl rfl) (by have := hI.2.1; (try simp at hc1); omega)) rfl rfl ?_
    refine DG.one (d := 0) (e2 := drp _ _) [7] (DS rfl fun v h => OpT.move (A := .cel _ _) (.inr rfl) rfl (okd rfl rfl) (D h rfl rfl rfl rfl) rfl) rfl rfl ?_
    refine DG.one (d := 1) (e2 := drp _ _) [10] (DS rfl fun v h => OpT.move (A := .cel _ _) (.inr rfl) rfl (okd rfl rfl) (D h rfl rfl rfl rfl) rfl) rfl rfl ?_
    refine DG.nil ⟨by kernel_rfl, by kernel_rfl, ?_⟩
    refine AX.normal_block ?_
    exact AX.again ((p.2, p.1.tmod p.2)) (gcd_inv hI (by have := hI.2.1; (try simp at hc1); omega)) (gcd_dec hI (by have := hI.2.1; (try simp at hc1); omega)) (Kc 0 _ (Kv rfl rfl) <| Kc 1 _ (Kv rfl rfl) <| Kn)
  ·
    try simp only [decide_eq_true_eq, decide_eq_false_iff_not, Bool.not_eq_true', Bool.not_eq_false'] at hc1
    refine AW.exit ?_
    refine AX.exit_then ?_
    refine AX.exit_then ?_
    refine AX.exit_hit ?_
    refine AX.pr (Kc 0 (.cel _ _) rfl <| Kn) ?_
    refine AX.go ?_
    refine AW.seq ?_
    refine AW.region ?_
    refine AWl.st rfl (OpT.move (A := .cel _ _) (.inl rfl) rfl (okd rfl rfl) (Tm rfl rfl rfl) rfl) rfl ?_
    refine AWl.st rfl (OpT.move (A := .cel _ _) (.inr rfl) rfl (okd rfl rfl) (Tm rfl rfl rfl) rfl) rfl ?_
    refine AWl.nil ?_
    refine AX.pr (Kc 4 (.cel _ _) rfl <| Kn) ?_
    refine AX.go ?_
    refine AW.ret ?_
    exact AX.rt (rs := [.tmp 4]) (ts := [some 4]) (.inl rfl) rfl (ROs.cons (RO.tmp (At.self (by decide)) (Kv rfl (gcd_end hI (by have := hI.2.1; (try simp at hc1); omega))) rfl) <| ROs.nil) (by decide) OutsOK.nil

/-- laws.toShare -/
theorem c_laws_toShare (x : Int × Int) : AC Try.prog 26 [.agg kShare x] [.agg kShare x] [] := by
  refine ⟨ACall.intro (N := 11) Try.func26 (c := _) (rfl : Func.body _ = some _) rfl (Nat.le_of_ble_eq_true rfl) (Nat.le_of_ble_eq_true rfl) rfl (Nat.le_of_ble_eq_true rfl) fun w0 hd s0 ar har => ?_, _, Try.func26, rfl, by decide⟩
  refine AW.to (Kc 0 (.agg _ _) rfl <| Kn) ?_
  refine AW.seq ?_
  refine AW.region ?_
  refine AWl.st rfl (OpT.frz (OpT.boxA (E := 44) rfl rfl (okd rfl rfl) (Tm rfl rfl rfl))) rfl ?_
  refine AWl.st rfl (OpT.alloc rfl rfl (okd rfl rfl) zr23 zk23) rfl ?_
  refine AWl.nil ?_
  refine AX.pr (Kc 2 (.box _ _ _) rfl <| Kc 1 (.cel _ _) rfl <| Kn) ?_
  refine AX.go ?_
  refine AW.seq ?_
  refine AW.region ?_
  refine AWl.st rfl (OpT.alloc rfl rfl (okd rfl rfl) zr23 zk23) rfl ?_
  refine AWl.nil ?_
  refine AX.go ?_
  refine AW.seq ?_
  refine AW.region ?_
  refine AWl.st rfl (OpT.fieldAddr rfl rfl (okd rfl rfl) (Tm rfl rfl rfl) fd44_0 sz2 (by decide) sb44_0) rfl ?_
  refine AWl.st rfl (OpT.load rfl rfl (okd rfl rfl) (Tm rfl rfl rfl) ag2 rfl) rfl ?_
  refine AWl.st rfl (OpT.fieldAddrB rfl rfl (okd rfl rfl) (Root.self (by decide)) rfl (by decide) fd23_0 sz2 (by decide) sb23_0) rfl ?_
  refine AWl.sg rfl (OpT.storeB rfl rfl (Tm rfl rfl rfl) rfl sz2 rfl (Tm rfl rfl rfl)) (Kc 6 (.pel _ _ _ _ _ _ _) rfl <| Kc 5 (.cel _ _) rfl <| Kc 4 (.cel _ _) rfl <| Kc 3 (.box _ _ _) rfl <| Kc 2 (.box _ _ _) rfl <| Kc 1 (.cel _ _) rfl <| Kn) ?_
  refine AWl.nil ?_
  refine AX.pr (Kc 3 (.box _ _ _) rfl <| Kc 2 (.box _ _ _) rfl <| Kc 1 (.cel _ _) rfl <| Kn) ?_
  refine AX.go ?_
  refine AW.seq ?_
  refine AW.region ?_
  refine AWl.st rfl (OpT.fieldAddr rfl rfl (okd rfl rfl) (Tm rfl rfl rfl) fd44_1 sz2 (by decide) sb44_1) rfl ?_
  refine AWl.st rfl (OpT.load rfl rfl (okd rfl rfl) (Tm rfl rfl rfl) ag2 rfl) rfl ?_
  refine AWl.st rfl (OpT.fieldAddrB rfl rfl (okd rfl rfl) (Root.self (by decide)) rfl (by decide) fd23_1 sz2 (by decide) sb23_1) rfl ?_
  refine AWl.sg rfl (OpT.storeB rfl rfl (Tm rfl rfl rfl) rfl sz2 rfl (Tm rfl rfl rfl)) (Kc 9 (.pel _ _ _ _ _ _ _) rfl <| Kc 8 (.cel _ _) rfl <| Kc 7 (.cel _ _) rfl <| Kc 3 (.box _ _ _) rfl <| Kc 2 (.box _ _ _) rfl <| Kc 1 (.cel _ _) rfl <| Kn) ?_
  refine AWl.nil ?_
  refine AX.pr (Kc 3 (.box _ _ _) rfl <| Kc 2 (.box _ _ _) rfl <| Kn) ?_
  refine AX.go ?_
  refine AW.seq ?_
  refine AW.region ?_
  refine AWl.st rfl (OpT.loadB rfl rfl (okd rfl rfl) (Root.self (by decide)) rfl ag23 sz23) rfl ?_
  refine AWl.sg rfl (OpT.storeBA rfl rfl (Opd.whole (Root.self (by decide)) rfl) rfl sz23 (by decide) (Tm rfl rfl rfl)) (Kc 10 (.agg _ _) rfl <| Kc 3 (.box _ _ _) rfl <| Kc 2 (.box _ _ _) rfl <| Kn) ?_
  refine AWl.nil ?_
  refine AX.pr (Kc 2 (.box _ _ _) rfl <| Kn) ?_
  refine AX.go ?_
  refine AW.ret ?_
  exact AX.rt (rs := [.cell 2 23]) (ts := [none]) (.inl rfl) rfl (ROs.cons (RO.cellA (by decide) (Kb rfl rfl) ag23 sz23) <| ROs.nil) (by decide) OutsOK.nil

/-- spec.l06Told -/
theorem c_spec_l06Told (x : Int × Int) : AC Try.prog 63 [.agg kShare x] [.cel Kd.bool (toldS x)] [] := by
  refine ⟨ACall.intro (N := 21) Try.func63 (c := _) (rfl : Func.body _ = some _) rfl (Nat.le_of_ble_eq_true rfl) (Nat.le_of_ble_eq_true rfl) rfl (Nat.le_of_ble_eq_true rfl) fun w0 hd s0 ar har => ?_, _, Try.func63, rfl, by decide⟩
  refine AW.to (Kc 0 (.agg _ _) rfl <| Kn) ?_
  refine AW.seq ?_
  refine AW.region ?_
  refine AWl.st rfl (OpT.frz (OpT.boxA (E := 23) rfl rfl (okd rfl rfl) (Tm rfl rfl rfl))) rfl ?_
  refine AWl.st rfl (OpT.move (A := .cel _ _) (.inr rfl) rfl (okd rfl rfl) Opd.bool rfl) rfl ?_
  refine AWl.nil ?_
  refine AX.pr (Kc 2 (.cel _ _) rfl <| Kc 1 (.cel _ _) rfl <| Kn) ?_
  refine AX.go ?_
  refine AW.seq ?_
  refine AW.region ?_
  refine AWl.st rfl (OpT.fieldAddr rfl rfl (okd rfl rfl) (Tm rfl rfl rfl) fd23_1 sz2 (by decide) sb23_1) rfl ?_
  refine AWl.st rfl (OpT.load rfl rfl (okd rfl rfl) (Tm rfl rfl rfl) ag2 rfl) rfl ?_
  refine AWl.st rfl (OpT.c1 (ms := [.flat, .flat, .flat]) (c_spec_l00In _ _ _) rfl rfl (okd rfl rfl) (Af (Tm rfl rfl rfl) rfl rfl <| Af (I rfl) rfl rfl <| Af (I rfl) rfl rfl <| An) rfl rfl) rfl ?_
  refine AWl.st rfl (OpT.move (A := .cel _ _) (.inl rfl) rfl (okd rfl rfl) (Tm rfl rfl rfl) rfl) rfl ?_
  apply AWl.and (d := 12) (t := 6) rfl
  · intro hb1 Q1 k1
    refine AWl.rs rfl rfl rfl rfl hb1 (OpT.fieldAddr rfl rfl (okd rfl rfl) (Tm rfl rfl rfl) fd23_0 sz2 (by decide) sb23_0) rfl ?_
    refine AWl.rs rfl rfl rfl rfl hb1 (OpT.load rfl rfl (okd rfl rfl) (Tm rfl rfl rfl) ag2 rfl) rfl ?_
    refine AWl.rs rfl rfl rfl rfl hb1 (OpT.fieldAddr rfl rfl (okd rfl rfl) (Tm rfl rfl rfl) fd23_1 sz2 (by decide) sb23_1) rfl ?_
    refine AWl.rs rfl rfl rfl rfl hb1 (OpT.load rfl rfl (okd rfl rfl) (Tm rfl rfl rfl) ag2 rfl) rfl ?_
    refine AWl.rs rfl rfl rfl rfl hb1 (OpT.c1 (ms := [.flat, .flat, .flat]) (c_spec_l00In _ _ _) rfl rfl (okd rfl rfl) (Af (Tm rfl rfl rfl) rfl rfl <| Af (I rfl) rfl rfl <| Af (Tm rfl rfl rfl) rfl rfl <| An) rfl rfl) rfl ?_
    refine AWl.st rfl (OpT.pickT (A := .cel _ _) rfl rfl (okd rfl rfl) (Tm rfl rfl rfl) hb1 (Tm rfl rfl rfl) rfl) rfl ?_
    exact AWl.to (junk 5 rfl) k1
  · intro hb1 Q1 k1
    refine AWl.pas rfl rfl rfl rfl hb1 rfl (okd rfl rfl) rfl ?_
    refine AWl.pas rfl rfl rfl rfl hb1 rfl (okd rfl rfl) rfl ?_
    refine AWl.pas rfl rfl rfl rfl hb1 rfl (okd rfl rfl) rfl ?_
    refine AWl.pas rfl rfl rfl rfl hb1 rfl (okd rfl rfl) rfl ?_
    refine AWl.pas rfl rfl rfl rfl hb1 rfl (okd rfl rfl) rfl ?_
    refine AWl.st rfl (OpT.pickF (A := .cel _ _) rfl rfl (okd rfl rfl) (Tm rfl rfl rfl) hb1 Opd.bool rfl) rfl ?_
    exact k1
  refine AWl.st rfl (OpT.move (A := .cel _ _) (.inl rfl) rfl (okd rfl rfl) (Tm rfl rfl rfl) rfl) rfl ?_
  apply AWl.and (d := 20) (t := 13) rfl
  · intro hb2 Q1 k1
    refine AWl.rs rfl rfl rfl rfl hb2 (OpT.fieldAddr rfl rfl (okd rfl rfl) (Tm rfl rfl rfl) fd23_0 sz2 (by decide) sb23_0) rfl ?_
    refine AWl.rs rfl rfl rfl rfl hb2 (OpT.load rfl rfl (okd rfl rfl) (Tm rfl rfl rfl) ag2 rfl) rfl ?_
    refine AWl.rs rfl rfl rfl rfl hb2 (OpT.fieldAddr rfl rfl (okd rfl rfl) (Tm rfl rfl rfl) fd23_1 sz2 (by decide) sb23_1) rfl ?_
    refine AWl.rs rfl rfl rfl rfl hb2 (OpT.load rfl rfl (okd rfl rfl) (Tm rfl rfl rfl) ag2 rfl) rfl ?_
    refine AWl.rs rfl rfl rfl rfl hb2 (OpT.c1 (ms := [.flat, .flat]) (c_spec_l06Gcd _ _ (by simp [inb] at hb2; omega)) rfl rfl (okd rfl rfl) (Af (Tm rfl rfl rfl) rfl rfl <| Af (Tm rfl rfl rfl) rfl rfl <| An) rfl rfl) rfl ?_
    refine AWl.rs rfl rfl rfl rfl hb2 (OpT.eql rfl rfl (okd rfl rfl) (Tm rfl rfl rfl) (I rfl)) rfl ?_
    refine AWl.st rfl (OpT.pickT (A := .cel _ _) rfl rfl (okd rfl rfl) (Tm rfl rfl rfl) hb2 (Tm rfl rfl rfl) rfl) rfl ?_
    exact AWl.to (junk 6 rfl) k1
  · intro hb2 Q1 k1
    refine AWl.pas rfl rfl rfl rfl hb2 rfl (okd rfl rfl) rfl ?_
    refine AWl.pas rfl rfl rfl rfl hb2 rfl (okd rfl rfl) rfl ?_
    refine AWl.pas rfl rfl rfl rfl hb2 rfl (okd rfl rfl) rfl ?_
    refine AWl.pas rfl rfl rfl rfl hb2 rfl (okd rfl rfl) rfl ?_
    refine AWl.pas rfl rfl rfl rfl hb2 rfl (okd rfl rfl) rfl ?_
    refine AWl.pas rfl rfl rfl rfl hb2 rfl (okd rfl rfl) rfl ?_
    refine AWl.st rfl (OpT.pickF (A := .cel _ _) rfl rfl (okd rfl rfl) (Tm rfl rfl rfl) hb2 Opd.bool rfl) rfl ?_
    exact k1
  refine AWl.sg rfl (OpT.move (A := .cel _ _) (.inr rfl) rfl (okd rfl rfl) (Tm rfl rfl rfl) rfl) (Kc 2 (.cel _ _) rfl <| Kc 20 (.cel _ _) rfl <| Kc 13 (.cel _ _) rfl <| Kc 12 (.cel _ _) rfl <| Kc 6 (.cel _ _) rfl <| Kc 5 (.cel _ _) rfl <| Kc 4 (.cel _ _) rfl <| Kc 3 (.cel _ _) rfl <| Kc 1 (.cel _ _) rfl <| Kn) ?_
  refine AWl.nil ?_
  refine AX.pr (Kc 2 (.cel _ _) rfl <| Kn) ?_
  refine AX.go ?_
  refine AW.ret ?_
  exact AX.rt (rs := [.tmp 2]) (ts := [some 2]) (.inl rfl) rfl (ROs.cons (RO.tmp (At.self (by decide)) (Kv rfl rfl) rfl) <| ROs.nil) (by decide) OutsOK.nil

/-- impl.isShare -/
theorem c_impl_isShare (x : Int × Int) : AC Try.prog 64 [.agg kShare x] [.cel Kd.bool (toldS x)] [] := by
  refine ⟨ACall.intro (N := 31) Try.func64 (c := _) (rfl : Func.body _ = some _) rfl (Nat.le_of_ble_eq_true rfl) (Nat.le_of_ble_eq_true rfl) rfl (Nat.le_of_ble_eq_true rfl) fun w0 hd s0 ar har => ?_, _, Try.func64, rfl, by decide⟩
  refine AW.to (Kc 0 (.agg _ _) rfl <| Kn) ?_
  refine AW.seq ?_
  refine AW.region ?_
  refine AWl.st rfl (OpT.frz (OpT.boxA (E := 23) rfl rfl (okd rfl rfl) (Tm rfl rfl rfl))) rfl ?_
  refine AWl.st rfl (OpT.move (A := .cel _ _) (.inr rfl) rfl (okd rfl rfl) Opd.bool rfl) rfl ?_
  refine AWl.nil ?_
  refine AX.pr (Kc 2 (.cel _ _) rfl <| Kc 1 (.cel _ _) rfl <| Kn) ?_
  refine AX.go ?_
  refine AW.seq ?_
  refine AW.region ?_
  refine AWl.st rfl (OpT.fieldAddr rfl rfl (okd rfl rfl) (Tm rfl rfl rfl) fd23_1 sz2 (by decide) sb23_1) rfl ?_
  refine AWl.st rfl (OpT.load rfl rfl (okd rfl rfl) (Tm rfl rfl rfl) ag2 rfl) rfl ?_
  refine AWl.st rfl (OpT.geq rfl rfl (okd rfl rfl) (Tm rfl rfl rfl) (I rfl)) rfl ?_
  refine AWl.st rfl (OpT.move (A := .cel _ _) (.inl rfl) rfl (okd rfl rfl) (Tm rfl rfl rfl) rfl) rfl ?_
  apply AWl.and (d := 10) (t := 6) rfl
  · intro hb1 Q1 k1
    refine AWl.rs rfl rfl rfl rfl hb1 (OpT.fieldAddr rfl rfl (okd rfl rfl) (Tm rfl rfl rfl) fd23_1 sz2 (by decide) sb23_1) rfl ?_
    refine AWl.rs rfl rfl rfl rfl hb1 (OpT.load rfl rfl (okd rfl rfl) (Tm rfl rfl rfl) ag2 rfl) rfl ?_
    refine AWl.rs rfl rfl rfl rfl hb1 (OpT.leq rfl rfl (okd rfl rfl) (Tm rfl rfl rfl) (I rfl)) rfl ?_
    refine AWl.st rfl (OpT.pickT (A := .cel _ _) rfl rfl (okd rfl rfl) (Tm rfl rfl rfl) hb1 (Tm rfl rfl rfl) rfl) rfl ?_
    exact AWl.to (junk 3 rfl) k1
  · intro hb1 Q1 k1
    refine AWl.pas rfl rfl rfl rfl hb1 rfl (okd rfl rfl) rfl ?_
    refine AWl.pas rfl rfl rfl rfl hb1 rfl (okd rfl rfl) rfl ?_
    refine AWl.pas rfl rfl rfl rfl hb1 rfl (okd rfl rfl) rfl ?_
    refine AWl.st rfl (OpT.pickF (A := .cel _ _) rfl rfl (okd rfl rfl) (Tm rfl rfl rfl) hb1 Opd.bool rfl) rfl ?_
    exact k1
  refine AWl.st rfl (OpT.move (A := .cel _ _) (.inl rfl) rfl (okd rfl rfl) (Tm rfl rfl rfl) rfl) rfl ?_
  apply AWl.and (d := 15) (t := 11) rfl
  · intro hb2 Q1 k1
    refine AWl.rs rfl rfl rfl rfl hb2 (OpT.fieldAddr rfl rfl (okd rfl rfl) (Tm rfl rfl rfl) fd23_0 sz2 (by decide) sb23_0) rfl ?_
    refine AWl.rs rfl rfl rfl rfl hb2 (OpT.load rfl rfl (okd rfl rfl) (Tm rfl rfl rfl) ag2 rfl) rfl ?_
    refine AWl.rs rfl rfl rfl rfl hb2 (OpT.geq rfl rfl (okd rfl rfl) (Tm rfl rfl rfl) (I rfl)) rfl ?_
    refine AWl.st rfl (OpT.pickT (A := .cel _ _) rfl rfl (okd rfl rfl) (Tm rfl rfl rfl) hb2 (Tm rfl rfl rfl) rfl) rfl ?_
    exact AWl.to (junk 3 rfl) k1
  · intro hb2 Q1 k1
    refine AWl.pas rfl rfl rfl rfl hb2 rfl (okd rfl rfl) rfl ?_
    refine AWl.pas rfl rfl rfl rfl hb2 rfl (okd rfl rfl) rfl ?_
    refine AWl.pas rfl rfl rfl rfl hb2 rfl (okd rfl rfl) rfl ?_
    refine AWl.st rfl (OpT.pickF (A := .cel _ _) rfl rfl (okd rfl rfl) (Tm rfl rfl rfl) hb2 Opd.bool rfl) rfl ?_
    exact k1
  refine AWl.st rfl (OpT.move (A := .cel _ _) (.inl rfl) rfl (okd rfl rfl) (Tm rfl rfl rfl) rfl) rfl ?_
  apply AWl.and (d := 22) (t := 16) rfl
  · intro hb3 Q1 k1
    refine AWl.rs rfl rfl rfl rfl hb3 (OpT.fieldAddr rfl rfl (okd rfl rfl) (Tm rfl rfl rfl) fd23_0 sz2 (by decide) sb23_0) rfl ?_
    refine AWl.rs rfl rfl rfl rfl hb3 (OpT.load rfl rfl (okd rfl rfl) (Tm rfl rfl rfl) ag2 rfl) rfl ?_
    refine AWl.rs rfl rfl rfl rfl hb3 (OpT.fieldAddr rfl rfl (okd rfl rfl) (Tm rfl rfl rfl) fd23_1 sz2 (by decide) sb23_1) rfl ?_
    refine AWl.rs rfl rfl rfl rfl hb3 (OpT.load rfl rfl (okd rfl rfl) (Tm rfl rfl rfl) ag2 rfl) rfl ?_
    refine AWl.rs rfl rfl rfl rfl hb3 (OpT.leq rfl rfl (okd rfl rfl) (Tm rfl rfl rfl) (Tm rfl rfl rfl)) rfl ?_
    refine AWl.st rfl (OpT.pickT (A := .cel _ _) rfl rfl (okd rfl rfl) (Tm rfl rfl rfl) hb3 (Tm rfl rfl rfl) rfl) rfl ?_
    exact AWl.to (junk 5 rfl) k1
  · intro hb3 Q1 k1
    refine AWl.pas rfl rfl rfl rfl hb3 rfl (okd rfl rfl) rfl ?_
    refine AWl.pas rfl rfl rfl rfl hb3 rfl (okd rfl rfl) rfl ?_
    refine AWl.pas rfl rfl rfl rfl hb3 rfl (okd rfl rfl) rfl ?_
    refine AWl.pas rfl rfl rfl rfl hb3 rfl (okd rfl rfl) rfl ?_
    refine AWl.pas rfl rfl rfl rfl hb3 rfl (okd rfl rfl) rfl ?_
    refine AWl.st rfl (OpT.pickF (A := .cel _ _) rfl rfl (okd rfl rfl) (Tm rfl rfl rfl) hb3 Opd.bool rfl) rfl ?_
    exact k1
  refine AWl.st rfl (OpT.move (A := .cel _ _) (.inl rfl) rfl (okd rfl rfl) (Tm rfl rfl rfl) rfl) rfl ?_
  apply AWl.and (d := 30) (t := 23) rfl
  · intro hb4 Q1 k1
    refine AWl.rs rfl rfl rfl rfl hb4 (OpT.fieldAddr rfl rfl (okd rfl rfl) (Tm rfl rfl rfl) fd23_0 sz2 (by decide) sb23_0) rfl ?_
    refine AWl.rs rfl rfl rfl rfl hb4 (OpT.load rfl rfl (okd rfl rfl) (Tm rfl rfl rfl) ag2 rfl) rfl ?_
    refine AWl.rs rfl rfl rfl rfl hb4 (OpT.fieldAddr rfl rfl (okd rfl rfl) (Tm rfl rfl rfl) fd23_1 sz2 (by decide) sb23_1) rfl ?_
    refine AWl.rs rfl rfl rfl rfl hb4 (OpT.load rfl rfl (okd rfl rfl) (Tm rfl rfl rfl) ag2 rfl) rfl ?_
    refine AWl.rs rfl rfl rfl rfl hb4 (OpT.c1 (ms := [.flat, .flat]) (c_impl_gcd _ _ (by simp at hb4; omega)) rfl rfl (okd rfl rfl) (Af (Tm rfl rfl rfl) rfl rfl <| Af (Tm rfl rfl rfl) rfl rfl <| An) rfl rfl) rfl ?_
    refine AWl.rs rfl rfl rfl rfl hb4 (OpT.eql rfl rfl (okd rfl rfl) (Tm rfl rfl rfl) (I rfl)) rfl ?_
    refine AWl.st rfl (OpT.pickT (A := .cel _ _) rfl rfl (okd rfl rfl) (Tm rfl rfl rfl) hb4 (Tm rfl rfl rfl) rfl) rfl ?_
    exact AWl.to (junk 6 rfl) k1
  · intro hb4 Q1 k1
    refine AWl.pas rfl rfl rfl rfl hb4 rfl (okd rfl rfl) rfl ?_
    refine AWl.pas rfl rfl rfl rfl hb4 rfl (okd rfl rfl) rfl ?_
    refine AWl.pas rfl rfl rfl rfl hb4 rfl (okd rfl rfl) rfl ?_
    refine AWl.pas rfl rfl rfl rfl hb4 rfl (okd rfl rfl) rfl ?_
    refine AWl.pas rfl rfl rfl rfl hb4 rfl (okd rfl rfl) rfl ?_
    refine AWl.pas rfl rfl rfl rfl hb4 rfl (okd rfl rfl) rfl ?_
    refine AWl.st rfl (OpT.pickF (A := .cel _ _) rfl rfl (okd rfl rfl) (Tm rfl rfl rfl) hb4 Opd.bool rfl) rfl ?_
    exact k1
  refine AWl.sg rfl (OpT.move (A := .cel _ _) (.inr rfl) rfl (okd rfl rfl) (Tm rfl rfl rfl) rfl) (Kc 2 (.cel _ _) rfl <| Kc 30 (.cel _ _) rfl <| Kc 23 (.cel _ _) rfl <| Kc 22 (.cel _ _) rfl <| Kc 16 (.cel _ _) rfl <| Kc 15 (.cel _ _) rfl <| Kc 11 (.cel _ _) rfl <| Kc 10 (.cel _ _) rfl <| Kc 6 (.cel _ _) rfl <| Kc 5 (.cel _ _) rfl <| Kc 4 (.cel _ _) rfl <| Kc 3 (.cel _ _) rfl <| Kc 1 (.cel _ _) rfl <| Kn) ?_
  refine AWl.nil ?_
  refine AX.pr (Kc 2 (.cel _ _) rfl <| Kn) ?_
  refine AX.go ?_
  refine AW.ret ?_
  exact AX.rt (rs := [.tmp 2]) (ts := [some 2]) (.inl rfl) rfl (ROs.cons (RO.tmp (At.self (by decide)) (Kv rfl (by simp [toldS, inb, Bool.and_assoc])) rfl) <| ROs.nil) (by decide) OutsOK.nil

/-- cmp.isNaN[int64] -/
theorem c_cmp_isNaN_int64 (x : Int) : AC Try.prog 97 [.cel (Kd.int .i64) x] [.cel Kd.bool false] [] := by
  refine ⟨ACall.intro (N := 6) Try.func97 (c := _) (rfl : Func.body _ = some _) rfl (Nat.le_of_ble_eq_true rfl) (Nat.le_of_ble_eq_true rfl) rfl (Nat.le_of_ble_eq_true rfl) fun w0 hd s0 ar har => ?_, _, Try.func97, rfl, by decide⟩
  refine AW.to (Kc 0 (.cel _ _) rfl <| Kn) ?_
  refine AW.seq ?_
  refine AW.region ?_
  refine AWl.st rfl (OpT.move (A := .cel _ _) (.inr rfl) rfl (okd rfl rfl) Opd.bool rfl) rfl ?_
  refine AWl.nil ?_
  refine AX.go ?_
  refine AW.seq ?_
  refine AW.region ?_
  refine AWl.st rfl (OpT.move (A := .cel _ _) (.inl rfl) rfl (okd rfl rfl) (Tm rfl rfl rfl) rfl) rfl ?_
  refine AWl.st rfl (OpT.move (A := .cel _ _) (.inl rfl) rfl (okd rfl rfl) (Tm rfl rfl rfl) rfl) rfl ?_
  refine AWl.st rfl (OpT.neq rfl rfl (okd rfl rfl) (Tm rfl rfl rfl) (Tm rfl rfl rfl)) rfl ?_
  refine AWl.sg rfl (OpT.move (A := .cel _ _) (.inr rfl) rfl (okd rfl rfl) (Tm rfl rfl rfl) rfl) (Kc 2 (.cel _ _) rfl <| Kc 5 (.cel _ _) rfl <| Kc 4 (.cel _ _) rfl <| Kc 3 (.cel _ _) rfl <| Kc 0 (.cel _ _) rfl <| Kn) ?_
  refine AWl.nil ?_
  refine AX.pr (Kc 2 (.cel _ _) rfl <| Kn) ?_
  refine AX.go ?_
  refine AW.ret ?_
  exact AX.rt (rs := [.tmp 2]) (ts := [some 2]) (.inl rfl) rfl (ROs.cons (RO.tmp (At.self (by decide)) (Kv rfl (by simp)) rfl) <| ROs.nil) (by decide) OutsOK.nil

/-- cmp.Compare[int64] -/
theorem c_cmp_Compare_int64 (x y : Int) : AC Try.prog 65 [.cel (Kd.int .i64) x, .cel (Kd.int .i64) y] [.cel (Kd.int .i64) (cmpI x y)] [] := by
  refine ⟨ACall.intro (N := 20) Try.func65 (c := _) (rfl : Func.body _ = some _) rfl (Nat.le_of_ble_eq_true rfl) (Nat.le_of_ble_eq_true rfl) rfl (Nat.le_of_ble_eq_true rfl) fun w0 hd s0 ar har => ?_, _, Try.func65, rfl, by decide⟩
  refine AW.to (Kc 0 (.cel _ _) rfl <| Kc 1 (.cel _ _) rfl <| Kn) ?_
  refine AW.seq ?_
  refine AW.region ?_
  refine AWl.st rfl (OpT.move (A := .cel _ _) (.inr rfl) rfl (okd rfl rfl) (I rfl) rfl) rfl ?_
  refine AWl.nil ?_
  refine AX.go ?_
  refine AW.seq ?_
  refine AW.region ?_
  refine AWl.st rfl (OpT.move (A := .cel _ _) (.inl rfl) rfl (okd rfl rfl) (Tm rfl rfl rfl) rfl) rfl ?_
  refine AWl.st rfl (OpT.c1 (ms := [.flat]) (c_cmp_isNaN_int64 _) rfl rfl (okd rfl rfl) (Af (Tm rfl rfl rfl) rfl rfl <| An) rfl rfl) rfl ?_
  refine AWl.st rfl (OpT.move (A := .cel _ _) (.inr rfl) rfl (okd rfl rfl) (Tm rfl rfl rfl) rfl) rfl ?_
  refine AWl.nil ?_
  refine AX.pr (Kc 5 (.cel _ _) rfl <| Kc 4 (.cel _ _) rfl <| Kc 0 (.cel _ _) rfl <| Kc 1 (.cel _ _) rfl <| Kn) ?_
  refine AX.go ?_
  refine AW.seq ?_
  refine AW.region ?_
  refine AWl.st rfl (OpT.move (A := .cel _ _) (.inl rfl) rfl (okd rfl rfl) (Tm rfl rfl rfl) rfl) rfl ?_
  refine AWl.st rfl (OpT.c1 (ms := [.flat]) (c_cmp_isNaN_int64 _) rfl rfl (okd rfl rfl) (Af (Tm rfl rfl rfl) rfl rfl <| An) rfl rfl) rfl ?_
  refine AWl.st rfl (OpT.move (A := .cel _ _) (.inr rfl) rfl (okd rfl rfl) (Tm rfl rfl rfl) rfl) rfl ?_
  refine AWl.nil ?_
  refine AX.pr (Kc 6 (.cel _ _) rfl <| Kc 5 (.cel _ _) rfl <| Kc 4 (.cel _ _) rfl <| Kc 0 (.cel _ _) rfl <| Kc 1 (.cel _ _) rfl <| Kn) ?_
  refine AX.go ?_
  refine AW.seq ?_
  refine AW.seq ?_
  refine AW.region ?_
  refine AWl.st rfl (OpT.move (A := .cel _ _) (.inl rfl) rfl (okd rfl rfl) (Tm rfl rfl rfl) rfl) rfl ?_
  refine AWl.nil ?_
  refine AX.pr (Kc 11 (.cel _ _) rfl <| Kc 6 (.cel _ _) rfl <| Kc 4 (.cel _ _) rfl <| Kc 0 (.cel _ _) rfl <| Kc 1 (.cel _ _) rfl <| Kn) ?_
  refine AX.go ?_
  refine AW.cond (t := 11) rfl (by decide) (fun hc1 => ?_) (fun hc1 => ?_)
  ·
    try simp only [decide_eq_true_eq, decide_eq_false_iff_not, Bool.not_eq_true', Bool.not_eq_false'] at hc1
    refine AW.seq ?_
    refine AW.seq ?_
    refine AW.region ?_
    refine AWl.st rfl (OpT.move (A := .cel _ _) (.inl rfl) rfl (okd rfl rfl) (Tm rfl rfl rfl) rfl) rfl ?_
    refine AWl.nil ?_
    refine AX.pr (Kc 12 (.cel _ _) rfl <| Kc 6 (.cel _ _) rfl <| Kc 4 (.cel _ _) rfl <| Kc 0 (.cel _ _) rfl <| Kc 1 (.cel _ _) rfl <| Kn) ?_
    refine AX.go ?_
    refine AW.cond (t := 12) rfl (by decide) (fun hc2 => ?_) (fun hc2 => ?_)
    ·
      try simp only [decide_eq_true_eq, decide_eq_false_iff_not, Bool.not_eq_true', Bool.not_eq_false'] at hc2
      refine AW.seq ?_
      refine AW.region ?_
      refine AWl.sg rfl (OpT.move (A := .cel _ _) (.inr rfl) rfl (okd rfl rfl) (I rfl) rfl) (Kc 4 (.cel _ _) rfl <| Kc 12 (.cel _ _) rfl <| Kc 6 (.cel _ _) rfl <| Kc 0 (.cel _ _) rfl <| Kc 1 (.cel _ _) rfl <| Kn) ?_
      refine AWl.nil ?_
      refine AX.pr (Kc 4 (.cel _ _) rfl <| Kc 6 (.cel _ _) rfl <| Kc 0 (.cel _ _) rfl <| Kc 1 (.cel _ _) rfl <| Kn) ?_
      refine AX.go ?_
      refine AW.ret ?_
      refine AX.ret_then ?_
      refine AX.ret_then ?_
      exact AX.rt (rs := [.tmp 4]) (ts := [some 4]) (.inl rfl) rfl (ROs.cons (RO.tmp (At.self (by decide)) (Kv rfl (by unfold cmpI; split <;> (try split) <;> first | rfl | omega | simp_all)) rfl) <| ROs.nil) (by decide) OutsOK.nil
    ·
      try simp only [decide_eq_true_eq, decide_eq_false_iff_not, Bool.not_eq_true', Bool.not_eq_false'] at hc2
      refine AW.skip ?_
      refine AX.pr (Kc 6 (.cel _ _) rfl <| Kc 4 (.cel _ _) rfl <| Kc 0 (.cel _ _) rfl <| Kc 1 (.cel _ _) rfl <| Kn) ?_
      refine AX.go ?_
      refine AW.seq ?_
      refine AW.region ?_
      refine AWl.sg rfl (OpT.move (A := .cel _ _) (.inr rfl) rfl (okd rfl rfl) (I rfl) rfl) (Kc 4 (.cel _ _) rfl <| Kc 6 (.cel _ _) rfl <| Kc 0 (.cel _ _) rfl <| Kc 1 (.cel _ _) rfl <| Kn) ?_
      refine AWl.nil ?_
      refine AX.go ?_
      refine AW.ret ?_
      refine AX.ret_then ?_
      exact AX.rt (rs := [.tmp 4]) (ts := [some 4]) (.inl rfl) rfl (ROs.cons (RO.tmp (At.self (by decide)) (Kv rfl (by unfold cmpI; split <;> (try split) <;> first | rfl | omega | simp_all)) rfl) <| ROs.nil) (by decide) OutsOK.nil
  ·
    try simp only [decide_eq_true_eq, decide_eq_false_iff_not, Bool.not_eq_true', Bool.not_eq_false'] at hc1
    refine AW.skip ?_
    refine AX.pr (Kc 6 (.cel _ _) rfl <| Kc 4 (.cel _ _) rfl <| Kc 0 (.cel _ _) rfl <| Kc 1 (.cel _ _) rfl <| Kn) ?_
    refine AX.go ?_
    refine AW.seq ?_
    refine AW.seq ?_
    refine AW.region ?_
    refine AWl.st rfl (OpT.move (A := .cel _ _) (.inl rfl) rfl (okd rfl rfl) (Tm rfl rfl rfl) rfl) rfl ?_
    refine AWl.nil ?_
    refine AX.pr (Kc 13 (.cel _ _) rfl <| Kc 4 (.cel _ _) rfl <| Kc 0 (.cel _ _) rfl <| Kc 1 (.cel _ _) rfl <| Kn) ?_
    refine AX.go ?_
    refine AW.cond (t := 13) rfl (by decide) (fun hc3 => ?_) (fun hc3 => ?_)
    ·
      try simp only [decide_eq_true_eq, decide_eq_false_iff_not, Bool.not_eq_true', Bool.not_eq_false'] at hc3
      refine AW.seq ?_
      refine AW.region ?_
      refine AWl.sg rfl (OpT.move (A := .cel _ _) (.inr rfl) rfl (okd rfl rfl) (I rfl) rfl) (Kc 4 (.cel _ _) rfl <| Kc 13 (.cel _ _) rfl <| Kc 0 (.cel _ _) rfl <| Kc 1 (.cel _ _) rfl <| Kn) ?_
      refine AWl.nil ?_
      refine AX.pr (Kc 4 (.cel _ _) rfl <| Kc 0 (.cel _ _) rfl <| Kc 1 (.cel _ _) rfl <| Kn) ?_
      refine AX.go ?_
      refine AW.ret ?_
      refine AX.ret_then ?_
      exact AX.rt (rs := [.tmp 4]) (ts := [some 4]) (.inl rfl) rfl (ROs.cons (RO.tmp (At.self (by decide)) (Kv rfl (by unfold cmpI; split <;> (try split) <;> first | rfl | omega | simp_all)) rfl) <| ROs.nil) (by decide) OutsOK.nil
    ·
      try simp only [decide_eq_true_eq, decide_eq_false_iff_not, Bool.not_eq_true', Bool.not_eq_false'] at hc3
      refine AW.skip ?_
      refine AX.pr (Kc 4 (.cel _ _) rfl <| Kc 0 (.cel _ _) rfl <| Kc 1 (.cel _ _) rfl <| Kn) ?_
      refine AX.go ?_
      refine AW.seq ?_
      refine AW.seq ?_
      refine AW.region ?_
      refine AWl.st rfl (OpT.move (A := .cel _ _) (.inl rfl) rfl (okd rfl rfl) (Tm rfl rfl rfl) rfl) rfl ?_
      refine AWl.st rfl (OpT.move (A := .cel _ _) (.inl rfl) rfl (okd rfl rfl) (Tm rfl rfl rfl) rfl) rfl ?_
      refine AWl.st rfl (OpT.lss rfl rfl (okd rfl rfl) (Tm rfl rfl rfl) (Tm rfl rfl rfl)) rfl ?_
      refine AWl.nil ?_
      refine AX.pr (Kc 16 (.cel _ _) rfl <| Kc 4 (.cel _ _) rfl <| Kc 0 (.cel _ _) rfl <| Kc 1 (.cel _ _) rfl <| Kn) ?_
      refine AX.go ?_
      refine AW.cond (t := 16) rfl (by decide) (fun hc4 => ?_) (fun hc4 => ?_)
      ·
        try simp only [decide_eq_true_eq, decide_eq_false_iff_not, Bool.not_eq_true', Bool.not_eq_false'] at hc4
        refine AW.seq ?_
        refine AW.region ?_
        refine AWl.sg rfl (OpT.move (A := .cel _ _) (.inr rfl) rfl (okd rfl rfl) (I rfl) rfl) (Kc 4 (.cel _ _) rfl <| Kc 16 (.cel _ _) rfl <| Kc 0 (.cel _ _) rfl <| Kc 1 (.cel _ _) rfl <| Kn) ?_
        refine AWl.nil ?_
        refine AX.pr (Kc 4 (.cel _ _) rfl <| Kc 0 (.cel _ _) rfl <| Kc 1 (.cel _ _) rfl <| Kn) ?_
        refine AX.go ?_
        refine AW.ret ?_
        refine AX.ret_then ?_
        exact AX.rt (rs := [.tmp 4]) (ts := [some 4]) (.inl rfl) rfl (ROs.cons (RO.tmp (At.self (by decide)) (Kv rfl (by unfold cmpI; split <;> (try split) <;> first | rfl | omega | simp_all)) rfl) <| ROs.nil) (by decide) OutsOK.nil
      ·
        try simp only [decide_eq_true_eq, decide_eq_false_iff_not, Bool.not_eq_true', Bool.not_eq_false'] at hc4
        refine AW.skip ?_
        refine AX.pr (Kc 4 (.cel _ _) rfl <| Kc 0 (.cel _ _) rfl <| Kc 1 (.cel _ _) rfl <| Kn) ?_
        refine AX.go ?_
        refine AW.seq ?_
        refine AW.seq ?_
        refine AW.region ?_
        refine AWl.st rfl (OpT.move (A := .cel _ _) (.inl rfl) rfl (okd rfl rfl) (Tm rfl rfl rfl) rfl) rfl ?_
        refine AWl.st rfl (OpT.move (A := .cel _ _) (.inl rfl) rfl (okd rfl rfl) (Tm rfl rfl rfl) rfl) rfl ?_
        refine AWl.st rfl (OpT.gtr rfl rfl (okd rfl rfl) (Tm rfl rfl rfl) (Tm rfl rfl rfl)) rfl ?_
        refine AWl.nil ?_
        refine AX.pr (Kc 19 (.cel _ _) rfl <| Kc 4 (.cel _ _) rfl <| Kn) ?_
        refine AX.go ?_
        refine AW.cond (t := 19) rfl (by decide) (fun hc5 => ?_) (fun hc5 => ?_)
        ·
          try simp only [decide_eq_true_eq, decide_eq_false_iff_not, Bool.not_eq_true', Bool.not_eq_false'] at hc5
          refine AW.seq ?_
          refine AW.region ?_
          refine AWl.sg rfl (OpT.move (A := .cel _ _) (.inr rfl) rfl (okd rfl rfl) (I rfl) rfl) (Kc 4 (.cel _ _) rfl <| Kc 19 (.cel _ _) rfl <| Kn) ?_
          refine AWl.nil ?_
          refine AX.pr (Kc 4 (.cel _ _) rfl <| Kn) ?_
          refine AX.go ?_
          refine AW.ret ?_
          refine AX.ret_then ?_
          exact AX.rt (rs := [.tmp 4]) (ts := [some 4]) (.inl rfl) rfl (ROs.cons (RO.tmp (At.self (by decide)) (Kv rfl (by unfold cmpI; split <;> (try split) <;> first | rfl | omega | simp_all)) rfl) <| ROs.nil) (by decide) OutsOK.nil
        ·
          try simp only [decide_eq_true_eq, decide_eq_false_iff_not, Bool.not_eq_true', Bool.not_eq_false'] at hc5
          refine AW.skip ?_
          refine AX.pr (Kc 4 (.cel _ _) rfl <| Kn) ?_
          refine AX.go ?_
          refine AW.seq ?_
          refine AW.region ?_
          refine AWl.sg rfl (OpT.move (A := .cel _ _) (.inr rfl) rfl (okd rfl rfl) (I rfl) rfl) (Kc 4 (.cel _ _) rfl <| Kn) ?_
          refine AWl.nil ?_
          refine AX.go ?_
          refine AW.ret ?_
          exact AX.rt (rs := [.tmp 4]) (ts := [some 4]) (.inl rfl) rfl (ROs.cons (RO.tmp (At.self (by decide)) (Kv rfl (by unfold cmpI; split <;> (try split) <;> first | rfl | omega | simp_all)) rfl) <| ROs.nil) (by decide) OutsOK.nil

/-- spec.CompareShares -/
theorem c_spec_CompareShares (x y : Int × Int) : AC Try.prog 25 [.agg kShare x, .agg kShare y] [.cel (Kd.int .i64) (cmpS x y).1, .cel (Kd.int .i64) (cmpS x y).2] [] := by
  refine ⟨ACall.intro (N := 34) Try.func25 (c := _) (rfl : Func.body _ = some _) rfl (Nat.le_of_ble_eq_true rfl) (Nat.le_of_ble_eq_true rfl) rfl (Nat.le_of_ble_eq_true rfl) fun w0 hd s0 ar har => ?_, _, Try.func25, rfl, by decide⟩
  refine AW.to (Kc 0 (.agg _ _) rfl <| Kc 1 (.agg _ _) rfl <| Kn) ?_
  refine AW.seq ?_
  refine AW.region ?_
  refine AWl.st rfl (OpT.frz (OpT.boxA (E := 23) rfl rfl (okd rfl rfl) (Tm rfl rfl rfl))) rfl ?_
  refine AWl.st rfl (OpT.frz (OpT.boxA (E := 23) rfl rfl (okd rfl rfl) (Tm rfl rfl rfl))) rfl ?_
  refine AWl.st rfl (OpT.move (A := .cel _ _) (.inr rfl) rfl (okd rfl rfl) (I rfl) rfl) rfl ?_
  refine AWl.st rfl (OpT.move (A := .cel _ _) (.inr rfl) rfl (okd rfl rfl) (I rfl) rfl) rfl ?_
  refine AWl.nil ?_
  refine AX.pr (Kc 5 (.cel _ _) rfl <| Kc 4 (.cel _ _) rfl <| Kc 3 (.cel _ _) rfl <| Kc 2 (.cel _ _) rfl <| Kn) ?_
  refine AX.go ?_
  refine AW.seq ?_
  refine AW.seq ?_
  refine AW.region ?_
  refine AWl.st rfl (OpT.loadA rfl rfl (okd rfl rfl) (Tm rfl rfl rfl) ag23 sz23) rfl ?_
  refine AWl.st rfl (OpT.c1 (ms := [.flat]) (c_spec_l06Told _) rfl rfl (okd rfl rfl) (Af (Tm rfl rfl rfl) rfl rfl <| An) rfl rfl) rfl ?_
  refine AWl.st rfl (OpT.not rfl rfl (okd rfl rfl) (Tm rfl rfl rfl)) rfl ?_
  refine AWl.st rfl (OpT.move (A := .cel _ _) (.inl rfl) rfl (okd rfl rfl) (Tm rfl rfl rfl) rfl) rfl ?_
  apply AWl.or (d := 15) (t := 11) rfl
  · intro hb1 Q1 k1
    refine AWl.rs rfl rfl rfl rfl hb1 (OpT.loadA rfl rfl (okd rfl rfl) (Tm rfl rfl rfl) ag23 sz23) rfl ?_
    refine AWl.rs rfl rfl rfl rfl hb1 (OpT.c1 (ms := [.flat]) (c_spec_l06Told _) rfl rfl (okd rfl rfl) (Af (Tm rfl rfl rfl) rfl rfl <| An) rfl rfl) rfl ?_
    refine AWl.rs rfl rfl rfl rfl hb1 (OpT.not rfl rfl (okd rfl rfl) (Tm rfl rfl rfl)) rfl ?_
    refine AWl.st rfl (OpT.pickF (A := .cel _ _) rfl rfl (okd rfl rfl) (Tm rfl rfl rfl) hb1 (Tm rfl rfl rfl) rfl) rfl ?_
    exact AWl.to (junk 3 rfl) k1
  · intro hb1 Q1 k1
    refine AWl.pas rfl rfl rfl rfl hb1 rfl (okd rfl rfl) rfl ?_
    refine AWl.pas rfl rfl rfl rfl hb1 rfl (okd rfl rfl) rfl ?_
    refine AWl.pas rfl rfl rfl rfl hb1 rfl (okd rfl rfl) rfl ?_
    refine AWl.st rfl (OpT.pickT (A := .cel _ _) rfl rfl (okd rfl rfl) (Tm rfl rfl rfl) hb1 Opd.bool rfl) rfl ?_
    exact k1
  refine AWl.nil ?_
  refine AX.pr (Kc 15 (.cel _ _) rfl <| Kc 5 (.cel _ _) rfl <| Kc 4 (.cel _ _) rfl <| Kc 3 (.cel _ _) rfl <| Kc 2 (.cel _ _) rfl <| Kn) ?_
  refine AX.go ?_
  refine AW.cond (t := 15) rfl (by decide) (fun hc1 => ?_) (fun hc1 => ?_)
  ·
    try simp only [decide_eq_true_eq, decide_eq_false_iff_not, Bool.not_eq_true', Bool.not_eq_false'] at hc1
    refine AW.seq ?_
    refine AW.region ?_
    refine AWl.sg rfl (OpT.move (A := .cel _ _) (.inr rfl) rfl (okd rfl rfl) (I rfl) rfl) (Kc 4 (.cel _ _) rfl <| Kc 15 (.cel _ _) rfl <| Kc 5 (.cel _ _) rfl <| Kc 3 (.cel _ _) rfl <| Kc 2 (.cel _ _) rfl <| Kn) ?_
    refine AWl.sg rfl (OpT.move (A := .cel _ _) (.inr rfl) rfl (okd rfl rfl) (I rfl) rfl) (Kc 5 (.cel _ _) rfl <| Kc 4 (.cel _ _) rfl <| Kc 15 (.cel _ _) rfl <| Kc 3 (.cel _ _) rfl <| Kc 2 (.cel _ _) rfl <| Kn) ?_
    refine AWl.nil ?_
    refine AX.pr (Kc 5 (.cel _ _) rfl <| Kc 4 (.cel _ _) rfl <| Kc 3 (.cel _ _) rfl <| Kc 2 (.cel _ _) rfl <| Kn) ?_
    refine AX.go ?_
    refine AW.ret ?_
    refine AX.ret_then ?_
    exact AX.rt (rs := [.tmp 4, .tmp 5]) (ts := [some 4, some 5]) (.inl rfl) rfl (ROs.cons (RO.tmp (At.self (by decide)) (Kv rfl (by simp only [cmpS, cmpI] <;> split <;> (try split) <;> (try split) <;> first | rfl | omega | simp_all)) rfl) <| ROs.cons (RO.tmp (At.self (by decide)) (Kv rfl (by simp only [cmpS, cmpI] <;> split <;> (try split) <;> (try split) <;> first | rfl | omega | simp_all)) rfl) <| ROs.nil) (by decide) OutsOK.nil
  ·
    try simp only [decide_eq_true_eq, decide_eq_false_iff_not, Bool.not_eq_true', Bool.not_eq_false'] at hc1
    simp only [Bool.or_eq_false_iff, Bool.not_eq_false'] at hc1; have m1 := told_mul hc1.1 hc1.2; have m2 := told_mul hc1.2 hc1.1
    refine AW.skip ?_
    refine AX.pr (Kc 5 (.cel _ _) rfl <| Kc 4 (.cel _ _) rfl <| Kc 3 (.cel _ _) rfl <| Kc 2 (.cel _ _) rfl <| Kn) ?_
    refine AX.go ?_
    refine AW.seq ?_
    refine AW.region ?_
    refine AWl.st rfl (OpT.fieldAddr rfl rfl (okd rfl rfl) (Tm rfl rfl rfl) fd23_0 sz2 (by decide) sb23_0) rfl ?_
    refine AWl.st rfl (OpT.load rfl rfl (okd rfl rfl) (Tm rfl rfl rfl) ag2 rfl) rfl ?_
    refine AWl.st rfl (OpT.fieldAddr rfl rfl (okd rfl rfl) (Tm rfl rfl rfl) fd23_1 sz2 (by decide) sb23_1) rfl ?_
    refine AWl.st rfl (OpT.load rfl rfl (okd rfl rfl) (Tm rfl rfl rfl) ag2 rfl) rfl ?_
    refine AWl.st rfl (OpT.mul rfl rfl (okd rfl rfl) (Tm rfl rfl rfl) (Tm rfl rfl rfl) (nw (by omega))) rfl ?_
    refine AWl.st rfl (OpT.move (A := .cel _ _) (.inr rfl) rfl (okd rfl rfl) (Tm rfl rfl rfl) rfl) rfl ?_
    refine AWl.nil ?_
    refine AX.pr (Kc 6 (.cel _ _) rfl <| Kc 5 (.cel _ _) rfl <| Kc 4 (.cel _ _) rfl <| Kc 3 (.cel _ _) rfl <| Kc 2 (.cel _ _) rfl <| Kn) ?_
    refine AX.go ?_
    refine AW.seq ?_
    refine AW.region ?_
    refine AWl.st rfl (OpT.fieldAddr rfl rfl (okd rfl rfl) (Tm rfl rfl rfl) fd23_0 sz2 (by decide) sb23_0) rfl ?_
    refine AWl.st rfl (OpT.load rfl rfl (okd rfl rfl) (Tm rfl rfl rfl) ag2 rfl) rfl ?_
    refine AWl.st rfl (OpT.fieldAddr rfl rfl (okd rfl rfl) (Tm rfl rfl rfl) fd23_1 sz2 (by decide) sb23_1) rfl ?_
    refine AWl.st rfl (OpT.load rfl rfl (okd rfl rfl) (Tm rfl rfl rfl) ag2 rfl) rfl ?_
    refine AWl.st rfl (OpT.mul rfl rfl (okd rfl rfl) (Tm rfl rfl rfl) (Tm rfl rfl rfl) (nw (by omega))) rfl ?_
    refine AWl.st rfl (OpT.move (A := .cel _ _) (.inr rfl) rfl (okd rfl rfl) (Tm rfl rfl rfl) rfl) rfl ?_
    refine AWl.nil ?_
    refine AX.pr (Kc 7 (.cel _ _) rfl <| Kc 6 (.cel _ _) rfl <| Kc 5 (.cel _ _) rfl <| Kc 4 (.cel _ _) rfl <| Kn) ?_
    refine AX.go ?_
    refine AW.seq ?_
    refine AW.block ?_
    refine AW.seq ?_
    refine AW.region ?_
    refine AWl.st rfl (OpT.move (A := .cel _ _) (.inl rfl) rfl (okd rfl rfl) (Tm rfl rfl rfl) rfl) rfl ?_
    refine AWl.st rfl (OpT.move (A := .cel _ _) (.inl rfl) rfl (okd rfl rfl) (Tm rfl rfl rfl) rfl) rfl ?_
    refine AWl.st rfl (OpT.lss rfl rfl (okd rfl rfl) (Tm rfl rfl rfl) (Tm rfl rfl rfl)) rfl ?_
    refine AWl.st rfl (OpT.move (A := .cel _ _) (.inr rfl) rfl (okd rfl rfl) (Tm rfl rfl rfl) rfl) rfl ?_
    refine AWl.nil ?_
    refine AX.pr (Kc 26 (.cel _ _) rfl <| Kc 7 (.cel _ _) rfl <| Kc 6 (.cel _ _) rfl <| Kc 5 (.cel _ _) rfl <| Kc 4 (.cel _ _) rfl <| Kn) ?_
    refine AX.go ?_
    refine AW.cond (t := 26) rfl (by decide) (fun hc2 => ?_) (fun hc2 => ?_)
    ·
      try simp only [decide_eq_true_eq, decide_eq_false_iff_not, Bool.not_eq_true', Bool.not_eq_false'] at hc2
      refine AW.seq ?_
      refine AW.region ?_
      refine AWl.sg rfl (OpT.move (A := .cel _ _) (.inr rfl) rfl (okd rfl rfl) (I rfl) rfl) (Kc 4 (.cel _ _) rfl <| Kc 26 (.cel _ _) rfl <| Kc 7 (.cel _ _) rfl <| Kc 6 (.cel _ _) rfl <| Kc 5 (.cel _ _) rfl <| Kn) ?_
      refine AWl.sg rfl (OpT.move (A := .cel _ _) (.inr rfl) rfl (okd rfl rfl) (I rfl) rfl) (Kc 5 (.cel _ _) rfl <| Kc 4 (.cel _ _) rfl <| Kc 26 (.cel _ _) rfl <| Kc 7 (.cel _ _) rfl <| Kc 6 (.cel _ _) rfl <| Kn) ?_
      refine AWl.nil ?_
      refine AX.pr (Kc 5 (.cel _ _) rfl <| Kc 4 (.cel _ _) rfl <| Kn) ?_
      refine AX.go ?_
      refine AW.ret ?_
      refine AX.ret_block ?_
      refine AX.ret_then ?_
      exact AX.rt (rs := [.tmp 4, .tmp 5]) (ts := [some 4, some 5]) (.inl rfl) rfl (ROs.cons (RO.tmp (At.self (by decide)) (Kv rfl (by simp only [cmpS, cmpI] <;> split <;> (try split) <;> (try split) <;> first | rfl | omega | simp_all)) rfl) <| ROs.cons (RO.tmp (At.self (by decide)) (Kv rfl (by simp only [cmpS, cmpI] <;> split <;> (try split) <;> (try split) <;> first | rfl | omega | simp_all)) rfl) <| ROs.nil) (by decide) OutsOK.nil
    ·
      try simp only [decide_eq_true_eq, decide_eq_false_iff_not, Bool.not_eq_true', Bool.not_eq_false'] at hc2
      refine AW.seq ?_
      refine AW.region ?_
      refine AWl.st rfl (OpT.move (A := .cel _ _) (.inl rfl) rfl (okd rfl rfl) (Tm rfl rfl rfl) rfl) rfl ?_
      refine AWl.st rfl (OpT.move (A := .cel _ _) (.inl rfl) rfl (okd rfl rfl) (Tm rfl rfl rfl) rfl) rfl ?_
      refine AWl.st rfl (OpT.gtr rfl rfl (okd rfl rfl) (Tm rfl rfl rfl) (Tm rfl rfl rfl)) rfl ?_
      refine AWl.st rfl (OpT.move (A := .cel _ _) (.inr rfl) rfl (okd rfl rfl) (Tm rfl rfl rfl) rfl) rfl ?_
      refine AWl.nil ?_
      refine AX.pr (Kc 30 (.cel _ _) rfl <| Kc 5 (.cel _ _) rfl <| Kc 4 (.cel _ _) rfl <| Kn) ?_
      refine AX.go ?_
      refine AW.cond (t := 30) rfl (by decide) (fun hc3 => ?_) (fun hc3 => ?_)
      ·
        try simp only [decide_eq_true_eq, decide_eq_false_iff_not, Bool.not_eq_true', Bool.not_eq_false'] at hc3
        refine AW.seq ?_
        refine AW.region ?_
        refine AWl.sg rfl (OpT.move (A := .cel _ _) (.inr rfl) rfl (okd rfl rfl) (I rfl) rfl) (Kc 4 (.cel _ _) rfl <| Kc 30 (.cel _ _) rfl <| Kc 5 (.cel _ _) rfl <| Kn) ?_
        refine AWl.sg rfl (OpT.move (A := .cel _ _) (.inr rfl) rfl (okd rfl rfl) (I rfl) rfl) (Kc 5 (.cel _ _) rfl <| Kc 4 (.cel _ _) rfl <| Kc 30 (.cel _ _) rfl <| Kn) ?_
        refine AWl.nil ?_
        refine AX.pr (Kc 5 (.cel _ _) rfl <| Kc 4 (.cel _ _) rfl <| Kn) ?_
        refine AX.go ?_
        refine AW.ret ?_
        refine AX.ret_block ?_
        refine AX.ret_then ?_
        exact AX.rt (rs := [.tmp 4, .tmp 5]) (ts := [some 4, some 5]) (.inl rfl) rfl (ROs.cons (RO.tmp (At.self (by decide)) (Kv rfl (by simp only [cmpS, cmpI] <;> split <;> (try split) <;> (try split) <;> first | rfl | omega | simp_all)) rfl) <| ROs.cons (RO.tmp (At.self (by decide)) (Kv rfl (by simp only [cmpS, cmpI] <;> split <;> (try split) <;> (try split) <;> first | rfl | omega | simp_all)) rfl) <| ROs.nil) (by decide) OutsOK.nil
      ·
        try simp only [decide_eq_true_eq, decide_eq_false_iff_not, Bool.not_eq_true', Bool.not_eq_false'] at hc3
        refine AW.skip ?_
        refine AX.normal_block ?_
        refine AX.pr (Kc 5 (.cel _ _) rfl <| Kc 4 (.cel _ _) rfl <| Kn) ?_
        refine AX.go ?_
        refine AW.seq ?_
        refine AW.region ?_
        refine AWl.sg rfl (OpT.move (A := .cel _ _) (.inr rfl) rfl (okd rfl rfl) (I rfl) rfl) (Kc 4 (.cel _ _) rfl <| Kc 5 (.cel _ _) rfl <| Kn) ?_
        refine AWl.sg rfl (OpT.move (A := .cel _ _) (.inr rfl) rfl (okd rfl rfl) (I rfl) rfl) (Kc 5 (.cel _ _) rfl <| Kc 4 (.cel _ _) rfl <| Kn) ?_
        refine AWl.nil ?_
        refine AX.go ?_
        refine AW.ret ?_
        exact AX.rt (rs := [.tmp 4, .tmp 5]) (ts := [some 4, some 5]) (.inl rfl) rfl (ROs.cons (RO.tmp (At.self (by decide)) (Kv rfl (by simp only [cmpS, cmpI] <;> split <;> (try split) <;> (try split) <;> first | rfl | omega | simp_all)) rfl) <| ROs.cons (RO.tmp (At.self (by decide)) (Kv rfl (by simp only [cmpS, cmpI] <;> split <;> (try split) <;> (try split) <;> first | rfl | omega | simp_all)) rfl) <| ROs.nil) (by decide) OutsOK.nil

/-- impl.CompareShares -/
theorem c_impl_CompareShares (x y : Int × Int) : AC Try.prog 27 [.agg kShare x, .agg kShare y] [.cel (Kd.int .i64) (cmpS x y).1, .cel (Kd.int .i64) (cmpS x y).2] [] := by
  refine ⟨ACall.intro (N := 25) Try.func27 (c := _) (rfl : Func.body _ = some _) rfl (Nat.le_of_ble_eq_true rfl) (Nat.le_of_ble_eq_true rfl) rfl (Nat.le_of_ble_eq_true rfl) fun w0 hd s0 ar har => ?_, _, Try.func27, rfl, by decide⟩
  refine AW.to (Kc 0 (.agg _ _) rfl <| Kc 1 (.agg _ _) rfl <| Kn) ?_
  refine AW.seq ?_
  refine AW.region ?_
  refine AWl.st rfl (OpT.frz (OpT.boxA (E := 23) rfl rfl (okd rfl rfl) (Tm rfl rfl rfl))) rfl ?_
  refine AWl.st rfl (OpT.frz (OpT.boxA (E := 23) rfl rfl (okd rfl rfl) (Tm rfl rfl rfl))) rfl ?_
  refine AWl.st rfl (OpT.move (A := .cel _ _) (.inr rfl) rfl (okd rfl rfl) (I rfl) rfl) rfl ?_
  refine AWl.st rfl (OpT.move (A := .cel _ _) (.inr rfl) rfl (okd rfl rfl) (I rfl) rfl) rfl ?_
  refine AWl.nil ?_
  refine AX.pr (Kc 5 (.cel _ _) rfl <| Kc 4 (.cel _ _) rfl <| Kc 3 (.cel _ _) rfl <| Kc 2 (.cel _ _) rfl <| Kn) ?_
  refine AX.go ?_
  refine AW.seq ?_
  refine AW.seq ?_
  refine AW.region ?_
  refine AWl.st rfl (OpT.loadA rfl rfl (okd rfl rfl) (Tm rfl rfl rfl) ag23 sz23) rfl ?_
  refine AWl.st rfl (OpT.c1 (ms := [.flat]) (c_impl_isShare _) rfl rfl (okd rfl rfl) (Af (Tm rfl rfl rfl) rfl rfl <| An) rfl rfl) rfl ?_
  refine AWl.st rfl (OpT.not rfl rfl (okd rfl rfl) (Tm rfl rfl rfl)) rfl ?_
  refine AWl.st rfl (OpT.move (A := .cel _ _) (.inl rfl) rfl (okd rfl rfl) (Tm rfl rfl rfl) rfl) rfl ?_
  apply AWl.or (d := 13) (t := 9) rfl
  · intro hb1 Q1 k1
    refine AWl.rs rfl rfl rfl rfl hb1 (OpT.loadA rfl rfl (okd rfl rfl) (Tm rfl rfl rfl) ag23 sz23) rfl ?_
    refine AWl.rs rfl rfl rfl rfl hb1 (OpT.c1 (ms := [.flat]) (c_impl_isShare _) rfl rfl (okd rfl rfl) (Af (Tm rfl rfl rfl) rfl rfl <| An) rfl rfl) rfl ?_
    refine AWl.rs rfl rfl rfl rfl hb1 (OpT.not rfl rfl (okd rfl rfl) (Tm rfl rfl rfl)) rfl ?_
    refine AWl.st rfl (OpT.pickF (A := .cel _ _) rfl rfl (okd rfl rfl) (Tm rfl rfl rfl) hb1 (Tm rfl rfl rfl) rfl) rfl ?_
    exact AWl.to (junk 3 rfl) k1
  · intro hb1 Q1 k1
    refine AWl.pas rfl rfl rfl rfl hb1 rfl (okd rfl rfl) rfl ?_
    refine AWl.pas rfl rfl rfl rfl hb1 rfl (okd rfl rfl) rfl ?_
    refine AWl.pas rfl rfl rfl rfl hb1 rfl (okd rfl rfl) rfl ?_
    refine AWl.st rfl (OpT.pickT (A := .cel _ _) rfl rfl (okd rfl rfl) (Tm rfl rfl rfl) hb1 Opd.bool rfl) rfl ?_
    exact k1
  refine AWl.nil ?_
  refine AX.pr (Kc 13 (.cel _ _) rfl <| Kc 5 (.cel _ _) rfl <| Kc 4 (.cel _ _) rfl <| Kc 3 (.cel _ _) rfl <| Kc 2 (.cel _ _) rfl <| Kn) ?_
  refine AX.go ?_
  refine AW.cond (t := 13) rfl (by decide) (fun hc1 => ?_) (fun hc1 => ?_)
  ·
    try simp only [decide_eq_true_eq, decide_eq_false_iff_not, Bool.not_eq_true', Bool.not_eq_false'] at hc1
    refine AW.seq ?_
    refine AW.region ?_
    refine AWl.sg rfl (OpT.move (A := .cel _ _) (.inr rfl) rfl (okd rfl rfl) (I rfl) rfl) (Kc 4 (.cel _ _) rfl <| Kc 13 (.cel _ _) rfl <| Kc 5 (.cel _ _) rfl <| Kc 3 (.cel _ _) rfl <| Kc 2 (.cel _ _) rfl <| Kn) ?_
    refine AWl.sg rfl (OpT.move (A := .cel _ _) (.inr rfl) rfl (okd rfl rfl) (I rfl) rfl) (Kc 5 (.cel _ _) rfl <| Kc 4 (.cel _ _) rfl <| Kc 13 (.cel _ _) rfl <| Kc 3 (.cel _ _) rfl <| Kc 2 (.cel _ _) rfl <| Kn) ?_
    refine AWl.nil ?_
    refine AX.pr (Kc 5 (.cel _ _) rfl <| Kc 4 (.cel _ _) rfl <| Kc 3 (.cel _ _) rfl <| Kc 2 (.cel _ _) rfl <| Kn) ?_
    refine AX.go ?_
    refine AW.ret ?_
    refine AX.ret_then ?_
    exact AX.rt (rs := [.tmp 4, .tmp 5]) (ts := [some 4, some 5]) (.inl rfl) rfl (ROs.cons (RO.tmp (At.self (by decide)) (Kv rfl (by simp_all [cmpS])) rfl) <| ROs.cons (RO.tmp (At.self (by decide)) (Kv rfl (by simp_all [cmpS])) rfl) <| ROs.nil) (by decide) OutsOK.nil
  ·
    try simp only [decide_eq_true_eq, decide_eq_false_iff_not, Bool.not_eq_true', Bool.not_eq_false'] at hc1
    simp only [Bool.or_eq_false_iff, Bool.not_eq_false'] at hc1; have m1 := told_mul hc1.1 hc1.2; have m2 := told_mul hc1.2 hc1.1
    refine AW.skip ?_
    refine AX.pr (Kc 5 (.cel _ _) rfl <| Kc 4 (.cel _ _) rfl <| Kc 3 (.cel _ _) rfl <| Kc 2 (.cel _ _) rfl <| Kn) ?_
    refine AX.go ?_
    refine AW.seq ?_
    refine AW.region ?_
    refine AWl.st rfl (OpT.fieldAddr rfl rfl (okd rfl rfl) (Tm rfl rfl rfl) fd23_0 sz2 (by decide) sb23_0) rfl ?_
    refine AWl.st rfl (OpT.load rfl rfl (okd rfl rfl) (Tm rfl rfl rfl) ag2 rfl) rfl ?_
    refine AWl.st rfl (OpT.fieldAddr rfl rfl (okd rfl rfl) (Tm rfl rfl rfl) fd23_1 sz2 (by decide) sb23_1) rfl ?_
    refine AWl.st rfl (OpT.load rfl rfl (okd rfl rfl) (Tm rfl rfl rfl) ag2 rfl) rfl ?_
    refine AWl.st rfl (OpT.mul rfl rfl (okd rfl rfl) (Tm rfl rfl rfl) (Tm rfl rfl rfl) (nw (by omega))) rfl ?_
    refine AWl.st rfl (OpT.fieldAddr rfl rfl (okd rfl rfl) (Tm rfl rfl rfl) fd23_0 sz2 (by decide) sb23_0) rfl ?_
    refine AWl.st rfl (OpT.load rfl rfl (okd rfl rfl) (Tm rfl rfl rfl) ag2 rfl) rfl ?_
    refine AWl.st rfl (OpT.fieldAddr rfl rfl (okd rfl rfl) (Tm rfl rfl rfl) fd23_1 sz2 (by decide) sb23_1) rfl ?_
    refine AWl.st rfl (OpT.load rfl rfl (okd rfl rfl) (Tm rfl rfl rfl) ag2 rfl) rfl ?_
    refine AWl.st rfl (OpT.mul rfl rfl (okd rfl rfl) (Tm rfl rfl rfl) (Tm rfl rfl rfl) (nw (by omega))) rfl ?_
    refine AWl.st rfl (OpT.c1 (ms := [.flat, .flat]) (c_cmp_Compare_int64 _ _) rfl rfl (okd rfl rfl) (Af (Tm rfl rfl rfl) rfl rfl <| Af (Tm rfl rfl rfl) rfl rfl <| An) rfl rfl) rfl ?_
    refine AWl.sg rfl (OpT.move (A := .cel _ _) (.inr rfl) rfl (okd rfl rfl) (Tm rfl rfl rfl) rfl) (Kc 4 (.cel _ _) rfl <| Kc 24 (.cel _ _) rfl <| Kc 23 (.cel _ _) rfl <| Kc 22 (.cel _ _) rfl <| Kc 21 (.cel _ _) rfl <| Kc 20 (.cel _ _) rfl <| Kc 19 (.cel _ _) rfl <| Kc 18 (.cel _ _) rfl <| Kc 17 (.cel _ _) rfl <| Kc 16 (.cel _ _) rfl <| Kc 15 (.cel _ _) rfl <| Kc 14 (.cel _ _) rfl <| Kc 5 (.cel _ _) rfl <| Kc 3 (.cel _ _) rfl <| Kc 2 (.cel _ _) rfl <| Kn) ?_
    refine AWl.sg rfl (OpT.move (A := .cel _ _) (.inr rfl) rfl (okd rfl rfl) (I rfl) rfl) (Kc 5 (.cel _ _) rfl <| Kc 4 (.cel _ _) rfl <| Kc 24 (.cel _ _) rfl <| Kc 23 (.cel _ _) rfl <| Kc 22 (.cel _ _) rfl <| Kc 21 (.cel _ _) rfl <| Kc 20 (.cel _ _) rfl <| Kc 19 (.cel _ _) rfl <| Kc 18 (.cel _ _) rfl <| Kc 17 (.cel _ _) rfl <| Kc 16 (.cel _ _) rfl <| Kc 15 (.cel _ _) rfl <| Kc 14 (.cel _ _) rfl <| Kc 3 (.cel _ _) rfl <| Kc 2 (.cel _ _) rfl <| Kn) ?_
    refine AWl.nil ?_
    refine AX.pr (Kc 5 (.cel _ _) rfl <| Kc 4 (.cel _ _) rfl <| Kn) ?_
    refine AX.go ?_
    refine AW.ret ?_
    exact AX.rt (rs := [.tmp 4, .tmp 5]) (ts := [some 4, some 5]) (.inl rfl) rfl (ROs.cons (RO.tmp (At.self (by decide)) (Kv rfl (by simp_all [cmpS])) rfl) <| ROs.cons (RO.tmp (At.self (by decide)) (Kv rfl (by simp_all [cmpS])) rfl) <| ROs.nil) (by decide) OutsOK.nil

/-- laws.FnExactCompareShares -/
theorem c_laws_FnExactCompareShares (x y : Int × Int) : AC Try.prog 7 [.agg kShare x, .agg kShare y] [.cel Kd.bool true] [] := by
  refine ⟨ACall.intro (N := 33) Try.func7 (c := _) (rfl : Func.body _ = some _) rfl (Nat.le_of_ble_eq_true rfl) (Nat.le_of_ble_eq_true rfl) rfl (Nat.le_of_ble_eq_true rfl) fun w0 hd s0 ar har => ?_, _, Try.func7, rfl, by decide⟩
  refine AW.to (Kc 0 (.agg _ _) rfl <| Kc 1 (.agg _ _) rfl <| Kn) ?_
  refine AW.seq ?_
  refine AW.region ?_
  refine AWl.st rfl (OpT.frz (OpT.boxA (E := 44) rfl rfl (okd rfl rfl) (Tm rfl rfl rfl))) rfl ?_
  refine AWl.st rfl (OpT.frz (OpT.boxA (E := 44) rfl rfl (okd rfl rfl) (Tm rfl rfl rfl))) rfl ?_
  refine AWl.st rfl (OpT.move (A := .cel _ _) (.inr rfl) rfl (okd rfl rfl) Opd.bool rfl) rfl ?_
  refine AWl.nil ?_
  refine AX.pr (Kc 4 (.cel _ _) rfl <| Kc 3 (.cel _ _) rfl <| Kc 2 (.cel _ _) rfl <| Kn) ?_
  refine AX.go ?_
  refine AW.seq ?_
  refine AW.dg fomo ?_
  refine DG.fr (d := 10) [2] (DS rfl fun v h => OpT.loadA rfl rfl (okd rfl rfl) (D h rfl rfl rfl rfl) ag44 sz44) rfl rfl ?_
  refine DG.fr (d := 11) [10] (DS rfl fun v h => OpT.c1 (ms := [.flat]) (c_laws_toShare _) rfl rfl (okd rfl rfl) (Af (D h rfl rfl rfl rfl) rfl rfl <| An) rfl rfl) rfl rfl ?_
  refine DG.fr (d := 12) [3] (DS rfl fun v h => OpT.loadA rfl rfl (okd rfl rfl) (D h rfl rfl rfl rfl) ag44 sz44) rfl rfl ?_
  refine DG.fr (d := 13) [12] (DS rfl fun v h => OpT.c1 (ms := [.flat]) (c_laws_toShare _) rfl rfl (okd rfl rfl) (Af (D h rfl rfl rfl rfl) rfl rfl <| An) rfl rfl) rfl rfl ?_
  refine DG.two (d := 14) [11, 13] (DS2 rfl fun v h => OpT.c2 (ms := [.flat, .flat]) (c_spec_CompareShares _ _) rfl rfl (okd rfl rfl) (Af (D h rfl rfl rfl rfl) rfl rfl <| Af (D h rfl rfl rfl rfl) rfl rfl <| An) rfl rfl rfl) rfl rfl ?_
  refine DG.fr (d := 9) [] (DS rfl fun v h => OpT.alias rfl rfl (okd rfl rfl) (by decide) (by decide)) rfl rfl ?_
  refine DG.fr (d := 15) [9, 10014] (DS rfl fun v h => OpT.extractV (m := 10014) rfl rfl (okd rfl rfl) ((h _ (List.elem_iff.1 rfl)).trans rfl) rfl rfl rfl ((h _ (List.elem_iff.1 rfl)).trans rfl) rfl rfl) rfl rfl ?_
  refine DG.fr (d := 16) [9, 20014] (DS rfl fun v h => OpT.extractV (m := 20014) rfl rfl (okd rfl rfl) ((h _ (List.elem_iff.1 rfl)).trans rfl) rfl rfl rfl ((h _ (List.elem_iff.1 rfl)).trans rfl) rfl rfl) rfl rfl ?_
  refine DG.fr (d := 5) [15] (DS rfl fun v h => OpT.move (A := .cel _ _) (.inr rfl) rfl (okd rfl rfl) (D h rfl rfl rfl rfl) rfl) rfl rfl ?_
  refine DG.fr (d := 6) [16] (DS rfl fun v h => OpT.move (A := .cel _ _) (.inr rfl) rfl (okd rfl rfl) (D h rfl rfl rfl rfl) rfl) rfl rfl ?_
  refine DG.nil ⟨by kernel_rfl, by kernel_rfl, ?_⟩
  refine AX.pr (Kc 6 (.cel _ _) rfl <| Kc 5 (.cel _ _) rfl <| Kc 4 (.cel _ _) rfl <| Kc 3 (.cel _ _) rfl <| Kc 2 (.cel _ _) rfl <| Kn) ?_
  refine AX.go ?_
  refine AW.seq ?_
  refine AW.dg fomo ?_
  refine DG.fr (d := 18) [2] (DS rfl fun v h => OpT.loadA rfl rfl (okd rfl rfl) (D h rfl rfl rfl rfl) ag44 sz44) rfl rfl ?_
  refine DG.fr (d := 19) [18] (DS rfl fun v h => OpT.c1 (ms := [.flat]) (c_laws_toShare _) rfl rfl (okd rfl rfl) (Af (D h rfl rfl rfl rfl) rfl rfl <| An) rfl rfl) rfl rfl ?_
  refine DG.fr (d := 20) [3] (DS rfl fun v h => OpT.loadA rfl rfl (okd rfl rfl) (D h rfl rfl rfl rfl) ag44 sz44) rfl rfl ?_
  refine DG.fr (d := 21) [20] (DS rfl fun v h => OpT.c1 (ms := [.flat]) (c_laws_toShare _) rfl rfl (okd rfl rfl) (Af (D h rfl rfl rfl rfl) rfl rfl <| An) rfl rfl) rfl rfl ?_
  refine DG.two (d := 22) [19, 21] (DS2 rfl fun v h => OpT.c2 (ms := [.flat, .flat]) (c_impl_CompareShares _ _) rfl rfl (okd rfl rfl) (Af (D h rfl rfl rfl rfl) rfl rfl <| Af (D h rfl rfl rfl rfl) rfl rfl <| An) rfl rfl rfl) rfl rfl ?_
  refine DG.fr (d := 17) [] (DS rfl fun v h => OpT.alias rfl rfl (okd rfl rfl) (by decide) (by decide)) rfl rfl ?_
  refine DG.fr (d := 23) [17, 10022] (DS rfl fun v h => OpT.extractV (m := 10022) rfl rfl (okd rfl rfl) ((h _ (List.elem_iff.1 rfl)).trans rfl) rfl rfl rfl ((h _ (List.elem_iff.1 rfl)).trans rfl) rfl rfl) rfl rfl ?_
  refine DG.fr (d := 24) [17, 20022] (DS rfl fun v h => OpT.extractV (m := 20022) rfl rfl (okd rfl rfl) ((h _ (List.elem_iff.1 rfl)).trans rfl) rfl rfl rfl ((h _ (List.elem_iff.1 rfl)).trans rfl) rfl rfl) rfl rfl ?_
  refine DG.fr (d := 7) [23] (DS rfl fun v h => OpT.move (A := .cel _ _) (.inr rfl) rfl (okd rfl rfl) (D h rfl rfl rfl rfl) rfl) rfl rfl ?_
  refine DG.fr (d := 8) [24] (DS rfl fun v h => OpT.move (A := .cel _ _) (.inr rfl) rfl (okd rfl rfl) (D h rfl rfl rfl rfl) rfl) rfl rfl ?_
  refine DG.nil ⟨by kernel_rfl, by kernel_rfl, ?_⟩
  refine AX.pr (Kc 8 (.cel _ _) rfl <| Kc 7 (.cel _ _) rfl <| Kc 6 (.cel _ _) rfl <| Kc 5 (.cel _ _) rfl <| Kc 4 (.cel _ _) rfl <| Kn) ?_
  refine AX.go ?_
  refine AW.seq ?_
  refine AW.seq ?_
  refine AW.region ?_
  refine AWl.st rfl (OpT.move (A := .cel _ _) (.inl rfl) rfl (okd rfl rfl) (Tm rfl rfl rfl) rfl) rfl ?_
  refine AWl.st rfl (OpT.move (A := .cel _ _) (.inl rfl) rfl (okd rfl rfl) (Tm rfl rfl rfl) rfl) rfl ?_
  refine AWl.st rfl (OpT.neq rfl rfl (okd rfl rfl) (Tm rfl rfl rfl) (Tm rfl rfl rfl)) rfl ?_
  refine AWl.st rfl (OpT.move (A := .cel _ _) (.inl rfl) rfl (okd rfl rfl) (Tm rfl rfl rfl) rfl) rfl ?_
  apply AWl.or (d := 32) (t := 28) rfl
  · intro hb1 Q1 k1
    refine AWl.rs rfl rfl rfl rfl hb1 (OpT.move (A := .cel _ _) (.inl rfl) rfl (okd rfl rfl) (Tm rfl rfl rfl) rfl) rfl ?_
    refine AWl.rs rfl rfl rfl rfl hb1 (OpT.move (A := .cel _ _) (.inl rfl) rfl (okd rfl rfl) (Tm rfl rfl rfl) rfl) rfl ?_
    refine AWl.rs rfl rfl rfl rfl hb1 (OpT.neq rfl rfl (okd rfl rfl) (Tm rfl rfl rfl) (Tm rfl rfl rfl)) rfl ?_
    refine AWl.st rfl (OpT.pickF (A := .cel _ _) rfl rfl (okd rfl rfl) (Tm rfl rfl rfl) hb1 (Tm rfl rfl rfl) rfl) rfl ?_
    exact AWl.to (junk 3 rfl) k1
  · intro hb1 Q1 k1
    refine AWl.pas rfl rfl rfl rfl hb1 rfl (okd rfl rfl) rfl ?_
    refine AWl.pas rfl rfl rfl rfl hb1 rfl (okd rfl rfl) rfl ?_
    refine AWl.pas rfl rfl rfl rfl hb1 rfl (okd rfl rfl) rfl ?_
    refine AWl.st rfl (OpT.pickT (A := .cel _ _) rfl rfl (okd rfl rfl) (Tm rfl rfl rfl) hb1 Opd.bool rfl) rfl ?_
    exact k1
  refine AWl.nil ?_
  refine AX.pr (Kc 32 (.cel _ _) rfl <| Kc 4 (.cel _ _) rfl <| Kn) ?_
  refine AX.go ?_
  refine AW.cond (t := 32) rfl (by decide) (fun hc1 => ?_) (fun hc1 => ?_)
  ·
    try simp only [decide_eq_true_eq, decide_eq_false_iff_not, Bool.not_eq_true', Bool.not_eq_false'] at hc1
    refine AW.seq ?_
    refine AW.region ?_
    refine AWl.sg rfl (OpT.move (A := .cel _ _) (.inr rfl) rfl (okd rfl rfl) Opd.bool rfl) (Kc 4 (.cel _ _) rfl <| Kc 32 (.cel _ _) rfl <| Kn) ?_
    refine AWl.nil ?_
    refine AX.pr (Kc 4 (.cel _ _) rfl <| Kn) ?_
    refine AX.go ?_
    refine AW.ret ?_
    refine AX.ret_then ?_
    exact AX.rt (rs := [.tmp 4]) (ts := [some 4]) (.inl rfl) rfl (ROs.cons (RO.tmp (At.self (by decide)) (Kv rfl (by simp_all)) rfl) <| ROs.nil) (by decide) OutsOK.nil
  ·
    try simp only [decide_eq_true_eq, decide_eq_false_iff_not, Bool.not_eq_true', Bool.not_eq_false'] at hc1
    refine AW.skip ?_
    refine AX.pr (Kc 4 (.cel _ _) rfl <| Kn) ?_
    refine AX.go ?_
    refine AW.seq ?_
    refine AW.region ?_
    refine AWl.sg rfl (OpT.move (A := .cel _ _) (.inr rfl) rfl (okd rfl rfl) Opd.bool rfl) (Kc 4 (.cel _ _) rfl <| Kn) ?_
    refine AWl.nil ?_
    refine AX.go ?_
    refine AW.ret ?_
    exact AX.rt (rs := [.tmp 4]) (ts := [some 4]) (.inl rfl) rfl (ROs.cons (RO.tmp (At.self (by decide)) (Kv rfl (by simp_all)) rfl) <| ROs.nil) (by decide) OutsOK.nil
end Go.Proofs.Ytdjbdaidnlbhhaa.VL
