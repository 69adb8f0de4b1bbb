/- Proved here: what some functions of the program take and give: walks with the words of VA..VQ. Printed by program. -/
import Derived.Test.YtcaeabgfgofefaaDoorWT
set_option linter.unusedVariables false
set_option linter.unusedSimpArgs false
set_option maxRecDepth 4000
namespace Go.Proofs.YtcaeabgfgofefaaDoor.VL
open Go
/-- spec.l00In -/
theorem c_spec_l00In (x lo hi : Int) : AC Tryd.prog 101 [.cel (Kd.int .i64) x, .cel (Kd.int .i64) lo, .cel (Kd.int .i64) hi] [.cel Kd.bool (inb x lo hi)] [] := by
  refine ⟨ACall.intro (N := 15) Tryd.func101 (c := _) (rfl : Func.body _ = some _) rfl (Nat.le_of_ble_eq_true rfl) (Nat.le_of_ble_eq_true rfl) rfl (Nat.le_of_ble_eq_true rfl) fun w0 hd s0 ar har => ?_, _, Tryd.func101, rfl, by decide⟩
  refine AW.to (Kc 0 (.cel _ _) rfl <| Kc 1 (.cel _ _) rfl <| Kc 2 (.cel _ _) rfl <| Kn) ?_
  refine AW.seq ?_
  refine AW.region ?_
  refine AWl.st rfl (OpT.move (A := .cel _ _) (.inr rfl) rfl (okd rfl rfl) Opd.bool rfl) rfl ?_
  refine AWl.nil ?_
  refine AX.go ?_
  refine AW.seq ?_
  refine AW.region ?_
  refine AWl.st rfl (OpT.move (A := .cel _ _) (.inl rfl) rfl (okd rfl rfl) (Tm rfl rfl rfl) rfl) rfl ?_
  refine AWl.st rfl (OpT.move (A := .cel _ _) (.inl rfl) rfl (okd rfl rfl) (Tm rfl rfl rfl) rfl) rfl ?_
  refine AWl.st rfl (OpT.geq rfl rfl (okd rfl rfl) (Tm rfl rfl rfl) (Tm rfl rfl rfl)) rfl ?_
  refine AWl.st rfl (OpT.move (A := .cel _ _) (.inl rfl) rfl (okd rfl rfl) (Tm rfl rfl rfl) rfl) rfl ?_
  apply AWl.and (d := 14) (t := 10) rfl
  · intro hb1 Q1 k1
    refine AWl.rs rfl rfl rfl rfl hb1 (OpT.move (A := .cel _ _) (.inl rfl) rfl (okd rfl rfl) (Tm rfl rfl rfl) rfl) rfl ?_
    refine AWl.rs rfl rfl rfl rfl hb1 (OpT.move (A := .cel _ _) (.inl rfl) rfl (okd rfl rfl) (Tm rfl rfl rfl) rfl) rfl ?_
    refine AWl.rs rfl rfl rfl rfl hb1 (OpT.leq rfl rfl (okd rfl rfl) (Tm rfl rfl rfl) (Tm rfl rfl rfl)) rfl ?_
    refine AWl.st rfl (OpT.pickT (A := .cel _ _) rfl rfl (okd rfl rfl) (Tm rfl rfl rfl) hb1 (Tm rfl rfl rfl) rfl) rfl ?_
    exact AWl.to (junk 3 rfl) k1
  · intro hb1 Q1 k1
    refine AWl.pas rfl rfl rfl rfl hb1 rfl (okd rfl rfl) rfl ?_
    refine AWl.pas rfl rfl rfl rfl hb1 rfl (okd rfl rfl) rfl ?_
    refine AWl.pas rfl rfl rfl rfl hb1 rfl (okd rfl rfl) rfl ?_
    refine AWl.st rfl (OpT.pickF (A := .cel _ _) rfl rfl (okd rfl rfl) (Tm rfl rfl rfl) hb1 Opd.bool rfl) rfl ?_
    exact k1
  refine AWl.sg rfl (OpT.move (A := .cel _ _) (.inr rfl) rfl (okd rfl rfl) (Tm rfl rfl rfl) rfl) (Kc 6 (.cel _ _) rfl <| Kc 14 (.cel _ _) rfl <| Kc 10 (.cel _ _) rfl <| Kc 9 (.cel _ _) rfl <| Kc 8 (.cel _ _) rfl <| Kc 7 (.cel _ _) rfl <| Kc 0 (.cel _ _) rfl <| Kc 1 (.cel _ _) rfl <| Kc 2 (.cel _ _) rfl <| Kn) ?_
  refine AWl.nil ?_
  refine AX.pr (Kc 6 (.cel _ _) rfl <| Kn) ?_
  refine AX.go ?_
  refine AW.ret ?_
  exact AX.rt (rs := [.tmp 6]) (ts := [some 6]) (.inl rfl) rfl (ROs.cons (RO.tmp (At.self (by decide)) (Kv rfl rfl) rfl) <| ROs.nil) (by decide) OutsOK.nil

set_option maxHeartbeats 4000000 in
/-- spec.l03Ok -/
theorem c_spec_l03Ok (x : Int × Int × Int) : AC Tryd.prog 99 [.cel (Kd.ptr kMix) x] [.cel Kd.bool (mixS x)] [] := by
  refine ⟨ACall.intro (N := 43) Tryd.func99 (c := _) (rfl : Func.body _ = some _) rfl (Nat.le_of_ble_eq_true rfl) (Nat.le_of_ble_eq_true rfl) rfl (Nat.le_of_ble_eq_true rfl) fun w0 hd s0 ar har => ?_, _, Tryd.func99, rfl, by decide⟩
  refine AW.to (Kc 0 (.cel _ _) rfl <| Kn) ?_
  refine AW.fact (fun a w hr => okMix (ok_ptr (R_ok (t := 0) rfl hr))) (fun hx => ?_)
  refine AW.seq ?_
  refine AW.region ?_
  refine AWl.st rfl (OpT.move (A := .cel _ _) (.inr rfl) rfl (okd rfl rfl) Opd.bool rfl) rfl ?_
  refine AWl.nil ?_
  refine AX.go ?_
  refine AW.seq ?_
  rcases Bool.eq_false_or_eq_true (inb x.2.1 (4 : Int) (96 : Int)) with hd1 | hd1
  ·
    rcases Bool.eq_false_or_eq_true (inb x.2.2 (1 : Int) (8 : Int)) with hd2 | hd2
    ·
      rcases Bool.eq_false_or_eq_true (decide ((IntKind.i16.wrap ((2 : Int) * x.2.2)) ≤ x.2.1)) with hd3 | hd3
      ·
        refine AW.dg fomo ?_
        refine DG.fr (d := 3) [0] (DS rfl fun v h => OpT.move (A := .cel _ _) (.inl rfl) rfl (okd rfl rfl) (D h rfl rfl rfl rfl) rfl) rfl rfl ?_
        refine DG.fr (d := 4) [3] (DS rfl fun v h => OpT.nilCheck rfl rfl (okd rfl rfl) (D h rfl rfl rfl rfl)) rfl rfl ?_
        refine DG.fr (d := 5) [4] (DS rfl fun v h => OpT.fieldAddr rfl rfl (okd rfl rfl) (D h rfl rfl rfl rfl) fd81_1 sz51 (by decide) sb81_1) rfl rfl ?_
        refine DG.fr (d := 6) [5] (DS rfl fun v h => OpT.load rfl rfl (okd rfl rfl) (D h rfl rfl rfl rfl) ag51 rfl) rfl rfl ?_
        refine DG.fr (d := 7) [6] (DS rfl fun v h => OpT.conv rfl rfl (okd rfl rfl) us51 Tryd.underlying2 (D h rfl rfl rfl rfl) (nw (by omega))) rfl rfl ?_
        refine DG.fr (d := 8) [7] (DS rfl fun v h => OpT.c1 (ms := [.flat, .flat, .flat]) (c_spec_l00In _ _ _) rfl rfl (okd rfl rfl) (Af (D h rfl rfl rfl rfl) rfl rfl <| Af (I rfl) rfl rfl <| Af (I rfl) rfl rfl <| An) rfl rfl) rfl rfl ?_
        refine DG.fr (d := 9) [8] (DS rfl fun v h => OpT.move (A := .cel _ _) (.inl rfl) rfl (okd rfl rfl) (D h rfl rfl rfl rfl) rfl) rfl rfl ?_
        refine DG.fr (d := 10) [0, 9] (DSr rfl rfl rfl rfl rfl hd1 fun v h => OpT.move (A := .cel _ _) (.inl rfl) rfl (okd rfl rfl) (D h rfl rfl rfl rfl) rfl) rfl rfl ?_
        refine DG.fr (d := 11) [9, 10] (DSr rfl rfl rfl rfl rfl hd1 fun v h => OpT.nilCheck rfl rfl (okd rfl rfl) (D h rfl rfl rfl rfl)) rfl rfl ?_
        refine DG.fr (d := 12) [9, 11] (DSr rfl rfl rfl rfl rfl hd1 fun v h => OpT.fieldAddr rfl rfl (okd rfl rfl) (D h rfl rfl rfl rfl) fd81_2 sz51 (by decide) sb81_2) rfl rfl ?_
        refine DG.fr (d := 13) [9, 12] (DSr rfl rfl rfl rfl rfl hd1 fun v h => OpT.load rfl rfl (okd rfl rfl) (D h rfl rfl rfl rfl) ag51 rfl) rfl rfl ?_
        refine DG.fr (d := 14) [9, 13] (DSr rfl rfl rfl rfl rfl hd1 fun v h => OpT.conv rfl rfl (okd rfl rfl) us51 Tryd.underlying2 (D h rfl rfl rfl rfl) (nw (by omega))) rfl rfl ?_
        refine DG.fr (d := 15) [9, 14] (DSr rfl rfl rfl rfl rfl hd1 fun v h => OpT.c1 (ms := [.flat, .flat, .flat]) (c_spec_l00In _ _ _) rfl rfl (okd rfl rfl) (Af (D h rfl rfl rfl rfl) rfl rfl <| Af (I rfl) rfl rfl <| Af (I rfl) rfl rfl <| An) rfl rfl) rfl rfl ?_
        refine DG.fr (d := 16) [9, 15] (DS rfl fun v h => OpT.pickT (A := .cel _ _) rfl rfl (okd rfl rfl) (D h rfl rfl rfl rfl) hd1 (D h rfl rfl rfl rfl) rfl) rfl rfl ?_
        refine DG.fr (d := 17) [16] (DS rfl fun v h => OpT.move (A := .cel _ _) (.inl rfl) rfl (okd rfl rfl) (D h rfl rfl rfl rfl) rfl) rfl rfl ?_
        refine DG.fr (d := 18) [0, 17] (DSr rfl rfl rfl rfl rfl hd2 fun v h => OpT.move (A := .cel _ _) (.inl rfl) rfl (okd rfl rfl) (D h rfl rfl rfl rfl) rfl) rfl rfl ?_
        refine DG.fr (d := 19) [17, 18] (DSr rfl rfl rfl rfl rfl hd2 fun v h => OpT.nilCheck rfl rfl (okd rfl rfl) (D h rfl rfl rfl rfl)) rfl rfl ?_
        refine DG.fr (d := 20) [17, 19] (DSr rfl rfl rfl rfl rfl hd2 fun v h => OpT.fieldAddr rfl rfl (okd rfl rfl) (D h rfl rfl rfl rfl) fd81_2 sz51 (by decide) sb81_2) rfl rfl ?_
        refine DG.fr (d := 21) [17, 20] (DSr rfl rfl rfl rfl rfl hd2 fun v h => OpT.load rfl rfl (okd rfl rfl) (D h rfl rfl rfl rfl) ag51 rfl) rfl rfl ?_
        refine DG.fr (d := 22) [17, 21] (DSr rfl rfl rfl rfl rfl hd2 fun v h => OpT.mul rfl rfl (okd rfl rfl) (I rfl) (D h rfl rfl rfl rfl) rfl) rfl rfl ?_
        refine DG.fr (d := 23) [0, 17] (DSr rfl rfl rfl rfl rfl hd2 fun v h => OpT.move (A := .cel _ _) (.inl rfl) rfl (okd rfl rfl) (D h rfl rfl rfl rfl) rfl) rfl rfl ?_
        refine DG.fr (d := 24) [17, 23] (DSr rfl rfl rfl rfl rfl hd2 fun v h => OpT.nilCheck rfl rfl (okd rfl rfl) (D h rfl rfl rfl rfl)) rfl rfl ?_
        refine DG.fr (d := 25) [17, 24] (DSr rfl rfl rfl rfl rfl hd2 fun v h => OpT.fieldAddr rfl rfl (okd rfl rfl) (D h rfl rfl rfl rfl) fd81_1 sz51 (by decide) sb81_1) rfl rfl ?_
        refine DG.fr (d := 26) [17, 25] (DSr rfl rfl rfl rfl rfl hd2 fun v h => OpT.load rfl rfl (okd rfl rfl) (D h rfl rfl rfl rfl) ag51 rfl) rfl rfl ?_
        refine DG.fr (d := 27) [17, 22, 26] (DSr rfl rfl rfl rfl rfl hd2 fun v h => OpT.leq rfl rfl (okd rfl rfl) (D h rfl rfl rfl rfl) (D h rfl rfl rfl rfl)) rfl rfl ?_
        refine DG.fr (d := 28) [17, 27] (DS rfl fun v h => OpT.pickT (A := .cel _ _) rfl rfl (okd rfl rfl) (D h rfl rfl rfl rfl) hd2 (D h rfl rfl rfl rfl) rfl) rfl rfl ?_
        refine DG.fr (d := 29) [28] (DS rfl fun v h => OpT.move (A := .cel _ _) (.inl rfl) rfl (okd rfl rfl) (D h rfl rfl rfl rfl) rfl) rfl rfl ?_
        refine DG.fr (d := 30) [0, 29] (DSr rfl rfl rfl rfl rfl hd3 fun v h => OpT.move (A := .cel _ _) (.inl rfl) rfl (okd rfl rfl) (D h rfl rfl rfl rfl) rfl) rfl rfl ?_
        refine DG.fr (d := 31) [29, 30] (DSr rfl rfl rfl rfl rfl hd3 fun v h => OpT.nilCheck rfl rfl (okd rfl rfl) (D h rfl rfl rfl rfl)) rfl rfl ?_
        refine DG.fr (d := 32) [29, 31] (DSr rfl rfl rfl rfl rfl hd3 fun v h => OpT.fieldAddr rfl rfl (okd rfl rfl) (D h rfl rfl rfl rfl) fd81_0 sz51 (by decide) sb81_0) rfl rfl ?_
        refine DG.fr (d := 33) [29, 32] (DSr rfl rfl rfl rfl rfl hd3 fun v h => OpT.load rfl rfl (okd rfl rfl) (D h rfl rfl rfl rfl) ag51 rfl) rfl rfl ?_
        refine DG.fr (d := 34) [29, 33] (DSr rfl rfl rfl rfl rfl hd3 fun v h => OpT.conv rfl rfl (okd rfl rfl) us51 Tryd.underlying2 (D h rfl rfl rfl rfl) (nw (by omega))) rfl rfl ?_
        refine DG.fr (d := 35) [0, 29] (DSr rfl rfl rfl rfl rfl hd3 fun v h => OpT.move (A := .cel _ _) (.inl rfl) rfl (okd rfl rfl) (D h rfl rfl rfl rfl) rfl) rfl rfl ?_
        refine DG.fr (d := 36) [29, 35] (DSr rfl rfl rfl rfl rfl hd3 fun v h => OpT.nilCheck rfl rfl (okd rfl rfl) (D h rfl rfl rfl rfl)) rfl rfl ?_
        refine DG.fr (d := 37) [29, 36] (DSr rfl rfl rfl rfl rfl hd3 fun v h => OpT.fieldAddr rfl rfl (okd rfl rfl) (D h rfl rfl rfl rfl) fd81_1 sz51 (by decide) sb81_1) rfl rfl ?_
        refine DG.fr (d := 38) [29, 37] (DSr rfl rfl rfl rfl rfl hd3 fun v h => OpT.load rfl rfl (okd rfl rfl) (D h rfl rfl rfl rfl) ag51 rfl) rfl rfl ?_
        refine DG.fr (d := 39) [29, 38] (DSr rfl rfl rfl rfl rfl hd3 fun v h => OpT.conv rfl rfl (okd rfl rfl) us51 Tryd.underlying2 (D h rfl rfl rfl rfl) (nw (by omega))) rfl rfl ?_
        refine DG.fr (d := 40) [29, 39] (DSr rfl rfl rfl rfl rfl hd3 fun v h => OpT.sub rfl rfl (okd rfl rfl) (I rfl) (D h rfl rfl rfl rfl) (nw (by omega))) rfl rfl ?_
        refine DG.fr (d := 41) [29, 34, 40] (DSr rfl rfl rfl rfl rfl hd3 fun v h => OpT.c1 (ms := [.flat, .flat, .flat]) (c_spec_l00In _ _ _) rfl rfl (okd rfl rfl) (Af (D h rfl rfl rfl rfl) rfl rfl <| Af (I rfl) rfl rfl <| Af (D h rfl rfl rfl rfl) rfl rfl <| An) rfl rfl) rfl rfl ?_
        refine DG.fr (d := 42) [29, 41] (DS rfl fun v h => OpT.pickT (A := .cel _ _) rfl rfl (okd rfl rfl) (D h rfl rfl rfl rfl) hd3 (D h rfl rfl rfl rfl) rfl) rfl rfl ?_
        refine DG.one (d := 2) (e2 := drp _ _) [42] (DS rfl fun v h => OpT.move (A := .cel _ _) (.inr rfl) rfl (okd rfl rfl) (D h rfl rfl rfl rfl) rfl) rfl rfl ?_
        refine DG.nil ⟨by kernel_rfl, by kernel_rfl, ?_⟩
        refine AX.pr (Kc 2 (.cel _ _) rfl <| Kn) ?_
        refine AX.go ?_
        refine AW.ret ?_
        exact AX.rt (rs := [.tmp 2]) (ts := [some 2]) (.inl rfl) rfl (ROs.cons (RO.tmp (At.self (by decide)) (Kv rfl (by simp only [mixS, *, Bool.false_and, Bool.true_and, Bool.and_false])) rfl) <| ROs.nil) (by decide) OutsOK.nil
      ·
        refine AW.dg fomo ?_
        refine DG.fr (d := 3) [0] (DS rfl fun v h => OpT.move (A := .cel _ _) (.inl rfl) rfl (okd rfl rfl) (D h rfl rfl rfl rfl) rfl) rfl rfl ?_
        refine DG.fr (d := 4) [3] (DS rfl fun v h => OpT.nilCheck rfl rfl (okd rfl rfl) (D h rfl rfl rfl rfl)) rfl rfl ?_
        refine DG.fr (d := 5) [4] (DS rfl fun v h => OpT.fieldAddr rfl rfl (okd rfl rfl) (D h rfl rfl rfl rfl) fd81_1 sz51 (by decide) sb81_1) rfl rfl ?_
        refine DG.fr (d := 6) [5] (DS rfl fun v h => OpT.load rfl rfl (okd rfl rfl) (D h rfl rfl rfl rfl) ag51 rfl) rfl rfl ?_
        refine DG.fr (d := 7) [6] (DS rfl fun v h => OpT.conv rfl rfl (okd rfl rfl) us51 Tryd.underlying2 (D h rfl rfl rfl rfl) (nw (by omega))) rfl rfl ?_
        refine DG.fr (d := 8) [7] (DS rfl fun v h => OpT.c1 (ms := [.flat, .flat, .flat]) (c_spec_l00In _ _ _) rfl rfl (okd rfl rfl) (Af (D h rfl rfl rfl rfl) rfl rfl <| Af (I rfl) rfl rfl <| Af (I rfl) rfl rfl <| An) rfl rfl) rfl rfl ?_
        refine DG.fr (d := 9) [8] (DS rfl fun v h => OpT.move (A := .cel _ _) (.inl rfl) rfl (okd rfl rfl) (D h rfl rfl rfl rfl) rfl) rfl rfl ?_
        refine DG.fr (d := 10) [0, 9] (DSr rfl rfl rfl rfl rfl hd1 fun v h => OpT.move (A := .cel _ _) (.inl rfl) rfl (okd rfl rfl) (D h rfl rfl rfl rfl) rfl) rfl rfl ?_
        refine DG.fr (d := 11) [9, 10] (DSr rfl rfl rfl rfl rfl hd1 fun v h => OpT.nilCheck rfl rfl (okd rfl rfl) (D h rfl rfl rfl rfl)) rfl rfl ?_
        refine DG.fr (d := 12) [9, 11] (DSr rfl rfl rfl rfl rfl hd1 fun v h => OpT.fieldAddr rfl rfl (okd rfl rfl) (D h rfl rfl rfl rfl) fd81_2 sz51 (by decide) sb81_2) rfl rfl ?_
        refine DG.fr (d := 13) [9, 12] (DSr rfl rfl rfl rfl rfl hd1 fun v h => OpT.load rfl rfl (okd rfl rfl) (D h rfl rfl rfl rfl) ag51 rfl) rfl rfl ?_
        refine DG.fr (d := 14) [9, 13] (DSr rfl rfl rfl rfl rfl hd1 fun v h => OpT.conv rfl rfl (okd rfl rfl) us51 Tryd.underlying2 (D h rfl rfl rfl rfl) (nw (by omega))) rfl rfl ?_
        refine DG.fr (d := 15) [9, 14] (DSr rfl rfl rfl rfl rfl hd1 fun v h => OpT.c1 (ms := [.flat, .flat, .flat]) (c_spec_l00In _ _ _) rfl rfl (okd rfl rfl) (Af (D h rfl rfl rfl rfl) rfl rfl <| Af (I rfl) rfl rfl <| Af (I rfl) rfl rfl <| An) rfl rfl) rfl rfl ?_
        refine DG.fr (d := 16) [9, 15] (DS rfl fun v h => OpT.pickT (A := .cel _ _) rfl rfl (okd rfl rfl) (D h rfl rfl rfl rfl) hd1 (D h rfl rfl rfl rfl) rfl) rfl rfl ?_
        refine DG.fr (d := 17) [16] (DS rfl fun v h => OpT.move (A := .cel _ _) (.inl rfl) rfl (okd rfl rfl) (D h rfl rfl rfl rfl) rfl) rfl rfl ?_
        refine DG.fr (d := 18) [0, 17] (DSr rfl rfl rfl rfl rfl hd2 fun v h => OpT.move (A := .cel _ _) (.inl rfl) rfl (okd rfl rfl) (D h rfl rfl rfl rfl) rfl) rfl rfl ?_
        refine DG.fr (d := 19) [17, 18] (DSr rfl rfl rfl rfl rfl hd2 fun v h => OpT.nilCheck rfl rfl (okd rfl rfl) (D h rfl rfl rfl rfl)) rfl rfl ?_
        refine DG.fr (d := 20) [17, 19] (DSr rfl rfl rfl rfl rfl hd2 fun v h => OpT.fieldAddr rfl rfl (okd rfl rfl) (D h rfl rfl rfl rfl) fd81_2 sz51 (by decide) sb81_2) rfl rfl ?_
        refine DG.fr (d := 21) [17, 20] (DSr rfl rfl rfl rfl rfl hd2 fun v h => OpT.load rfl rfl (okd rfl rfl) (D h rfl rfl rfl rfl) ag51 rfl) rfl rfl ?_
        refine DG.fr (d := 22) [17, 21] (DSr rfl rfl rfl rfl rfl hd2 fun v h => OpT.mul rfl rfl (okd rfl rfl) (I rfl) (D h rfl rfl rfl rfl) rfl) rfl rfl ?_
        refine DG.fr (d := 23) [0, 17] (DSr rfl rfl rfl rfl rfl hd2 fun v h => OpT.move (A := .cel _ _) (.inl rfl) rfl (okd rfl rfl) (D h rfl rfl rfl rfl) rfl) rfl rfl ?_
        refine DG.fr (d := 24) [17, 23] (DSr rfl rfl rfl rfl rfl hd2 fun v h => OpT.nilCheck rfl rfl (okd rfl rfl) (D h rfl rfl rfl rfl)) rfl rfl ?_
        refine DG.fr (d := 25) [17, 24] (DSr rfl rfl rfl rfl rfl hd2 fun v h => OpT.fieldAddr rfl rfl (okd rfl rfl) (D h rfl rfl rfl rfl) fd81_1 sz51 (by decide) sb81_1) rfl rfl ?_
        refine DG.fr (d := 26) [17, 25] (DSr rfl rfl rfl rfl rfl hd2 fun v h => OpT.load rfl rfl (okd rfl rfl) (D h rfl rfl rfl rfl) ag51 rfl) rfl rfl ?_
        refine DG.fr (d := 27) [17, 22, 26] (DSr rfl rfl rfl rfl rfl hd2 fun v h => OpT.leq rfl rfl (okd rfl rfl) (D h rfl rfl rfl rfl) (D h rfl rfl rfl rfl)) rfl rfl ?_
        refine DG.fr (d := 28) [17, 27] (DS rfl fun v h => OpT.pickT (A := .cel _ _) rfl rfl (okd rfl rfl) (D h rfl rfl rfl rfl) hd2 (D h rfl rfl rfl rfl) rfl) rfl rfl ?_
        refine DG.fr (d := 29) [28] (DS rfl fun v h => OpT.move (A := .cel _ _) (.inl rfl) rfl (okd rfl rfl) (D h rfl rfl rfl rfl) rfl) rfl rfl ?_
        refine DG.pas (d := 30) [29] (DSp rfl rfl rfl rfl rfl hd3 rfl (okd rfl rfl)) rfl rfl ?_
        refine DG.pas (d := 31) [29] (DSp rfl rfl rfl rfl rfl hd3 rfl (okd rfl rfl)) rfl rfl ?_
        refine DG.pas (d := 32) [29] (DSp rfl rfl rfl rfl rfl hd3 rfl (okd rfl rfl)) rfl rfl ?_
        refine DG.pas (d := 33) [29] (DSp rfl rfl rfl rfl rfl hd3 rfl (okd rfl rfl)) rfl rfl ?_
        refine DG.pas (d := 34) [29] (DSp rfl rfl rfl rfl rfl hd3 rfl (okd rfl rfl)) rfl rfl ?_
        refine DG.pas (d := 35) [29] (DSp rfl rfl rfl rfl rfl hd3 rfl (okd rfl rfl)) rfl rfl ?_
        refine DG.pas (d := 36) [29] (DSp rfl rfl rfl rfl rfl hd3 rfl (okd rfl rfl)) rfl rfl ?_
        refine DG.pas (d := 37) [29] (DSp rfl rfl rfl rfl rfl hd3 rfl (okd rfl rfl)) rfl rfl ?_
        refine DG.pas (d := 38) [29] (DSp rfl rfl rfl rfl rfl hd3 rfl (okd rfl rfl)) rfl rfl ?_
        refine DG.pas (d := 39) [29] (DSp rfl rfl rfl rfl rfl hd3 rfl (okd rfl rfl)) rfl rfl ?_
        refine DG.pas (d := 40) [29] (DSp rfl rfl rfl rfl rfl hd3 rfl (okd rfl rfl)) rfl rfl ?_
        refine DG.pas (d := 41) [29] (DSp rfl rfl rfl rfl rfl hd3 rfl (okd rfl rfl)) rfl rfl ?_
        refine DG.fr (d := 42) [29] (DS rfl fun v h => OpT.pickF (A := .cel _ _) rfl rfl (okd rfl rfl) (D h rfl rfl rfl rfl) hd3 Opd.bool rfl) rfl rfl ?_
        refine DG.one (d := 2) (e2 := drp _ _) [42] (DS rfl fun v h => OpT.move (A := .cel _ _) (.inr rfl) rfl (okd rfl rfl) (D h rfl rfl rfl rfl) rfl) rfl rfl ?_
        refine DG.nil ⟨by kernel_rfl, by kernel_rfl, ?_⟩
        refine AX.pr (Kc 2 (.cel _ _) rfl <| Kn) ?_
        refine AX.go ?_
        refine AW.ret ?_
        exact AX.rt (rs := [.tmp 2]) (ts := [some 2]) (.inl rfl) rfl (ROs.cons (RO.tmp (At.self (by decide)) (Kv rfl (by simp only [mixS, *, Bool.false_and, Bool.true_and, Bool.and_false])) rfl) <| ROs.nil) (by decide) OutsOK.nil
    ·
      refine AW.dg fomo ?_
      refine DG.fr (d := 3) [0] (DS rfl fun v h => OpT.move (A := .cel _ _) (.inl rfl) rfl (okd rfl rfl) (D h rfl rfl rfl rfl) rfl) rfl rfl ?_
      refine DG.fr (d := 4) [3] (DS rfl fun v h => OpT.nilCheck rfl rfl (okd rfl rfl) (D h rfl rfl rfl rfl)) rfl rfl ?_
      refine DG.fr (d := 5) [4] (DS rfl fun v h => OpT.fieldAddr rfl rfl (okd rfl rfl) (D h rfl rfl rfl rfl) fd81_1 sz51 (by decide) sb81_1) rfl rfl ?_
      refine DG.fr (d := 6) [5] (DS rfl fun v h => OpT.load rfl rfl (okd rfl rfl) (D h rfl rfl rfl rfl) ag51 rfl) rfl rfl ?_
      refine DG.fr (d := 7) [6] (DS rfl fun v h => OpT.conv rfl rfl (okd rfl rfl) us51 Tryd.underlying2 (D h rfl rfl rfl rfl) (nw (by omega))) rfl rfl ?_
      refine DG.fr (d := 8) [7] (DS rfl fun v h => OpT.c1 (ms := [.flat, .flat, .flat]) (c_spec_l00In _ _ _) rfl rfl (okd rfl rfl) (Af (D h rfl rfl rfl rfl) rfl rfl <| Af (I rfl) rfl rfl <| Af (I rfl) rfl rfl <| An) rfl rfl) rfl rfl ?_
      refine DG.fr (d := 9) [8] (DS rfl fun v h => OpT.move (A := .cel _ _) (.inl rfl) rfl (okd rfl rfl) (D h rfl rfl rfl rfl) rfl) rfl rfl ?_
      refine DG.fr (d := 10) [0, 9] (DSr rfl rfl rfl rfl rfl hd1 fun v h => OpT.move (A := .cel _ _) (.inl rfl) rfl (okd rfl rfl) (D h rfl rfl rfl rfl) rfl) rfl rfl ?_
      refine DG.fr (d := 11) [9, 10] (DSr rfl rfl rfl rfl rfl hd1 fun v h => OpT.nilCheck rfl rfl (okd rfl rfl) (D h rfl rfl rfl rfl)) rfl rfl ?_
      refine DG.fr (d := 12) [9, 11] (DSr rfl rfl rfl rfl rfl hd1 fun v h => OpT.fieldAddr rfl rfl (okd rfl rfl) (D h rfl rfl rfl rfl) fd81_2 sz51 (by decide) sb81_2) rfl rfl ?_
      refine DG.fr (d := 13) [9, 12] (DSr rfl rfl rfl rfl rfl hd1 fun v h => OpT.load rfl rfl (okd rfl rfl) (D h rfl rfl rfl rfl) ag51 rfl) rfl rfl ?_
      refine DG.fr (d := 14) [9, 13] (DSr rfl rfl rfl rfl rfl hd1 fun v h => OpT.conv rfl rfl (okd rfl rfl) us51 Tryd.underlying2 (D h rfl rfl rfl rfl) (nw (by omega))) rfl rfl ?_
      refine DG.fr (d := 15) [9, 14] (DSr rfl rfl rfl rfl rfl hd1 fun v h => OpT.c1 (ms := [.flat, .flat, .flat]) (c_spec_l00In _ _ _) rfl rfl (okd rfl rfl) (Af (D h rfl rfl rfl rfl) rfl rfl <| Af (I rfl) rfl rfl <| Af (I rfl) rfl rfl <| An) rfl rfl) rfl rfl ?_
      refine DG.fr (d := 16) [9, 15] (DS rfl fun v h => OpT.pickT (A := .cel _ _) rfl rfl (okd rfl rfl) (D h rfl rfl rfl rfl) hd1 (D h rfl rfl rfl rfl) rfl) rfl rfl ?_
      refine DG.fr (d := 17) [16] (DS rfl fun v h => OpT.move (A := .cel _ _) (.inl rfl) rfl (okd rfl rfl) (D h rfl rfl rfl rfl) rfl) rfl rfl ?_
      refine DG.pas (d := 18) [17] (DSp rfl rfl rfl rfl rfl hd2 rfl (okd rfl rfl)) rfl rfl ?_
      refine DG.pas (d := 19) [17] (DSp rfl rfl rfl rfl rfl hd2 rfl (okd rfl rfl)) rfl rfl ?_
      refine DG.pas (d := 20) [17] (DSp rfl rfl rfl rfl rfl hd2 rfl (okd rfl rfl)) rfl rfl ?_
      refine DG.pas (d := 21) [17] (DSp rfl rfl rfl rfl rfl hd2 rfl (okd rfl rfl)) rfl rfl ?_
      refine DG.pas (d := 22) [17] (DSp rfl rfl rfl rfl rfl hd2 rfl (okd rfl rfl)) rfl rfl ?_
      refine DG.pas (d := 23) [17] (DSp rfl rfl rfl rfl rfl hd2 rfl (okd rfl rfl)) rfl rfl ?_
      refine DG.pas (d := 24) [17] (DSp rfl rfl rfl rfl rfl hd2 rfl (okd rfl rfl)) rfl rfl ?_
      refine DG.pas (d := 25) [17] (DSp rfl rfl rfl rfl rfl hd2 rfl (okd rfl rfl)) rfl rfl ?_
      refine DG.pas (d := 26) [17] (DSp rfl rfl rfl rfl rfl hd2 rfl (okd rfl rfl)) rfl rfl ?_
      refine DG.pas (d := 27) [17] (DSp rfl rfl rfl rfl rfl hd2 rfl (okd rfl rfl)) rfl rfl ?_
      refine DG.fr (d := 28) [17] (DS rfl fun v h => OpT.pickF (A := .cel _ _) rfl rfl (okd rfl rfl) (D h rfl rfl rfl rfl) hd2 Opd.bool rfl) rfl rfl ?_
      refine DG.fr (d := 29) [28] (DS rfl fun v h => OpT.move (A := .cel _ _) (.inl rfl) rfl (okd rfl rfl) (D h rfl rfl rfl rfl) rfl) rfl rfl ?_
      refine DG.pas (d := 30) [29] (DSp rfl rfl rfl rfl rfl rfl rfl (okd rfl rfl)) rfl rfl ?_
      refine DG.pas (d := 31) [29] (DSp rfl rfl rfl rfl rfl rfl rfl (okd rfl rfl)) rfl rfl ?_
      refine DG.pas (d := 32) [29] (DSp rfl rfl rfl rfl rfl rfl rfl (okd rfl rfl)) rfl rfl ?_
      refine DG.pas (d := 33) [29] (DSp rfl rfl rfl rfl rfl rfl rfl (okd rfl rfl)) rfl rfl ?_
      refine DG.pas (d := 34) [29] (DSp rfl rfl rfl rfl rfl rfl rfl (okd rfl rfl)) rfl rfl ?_
      refine DG.pas (d := 35) [29] (DSp rfl rfl rfl rfl rfl rfl rfl (okd rfl rfl)) rfl rfl ?_
      refine DG.pas (d := 36) [29] (DSp rfl rfl rfl rfl rfl rfl rfl (okd rfl rfl)) rfl rfl ?_
      refine DG.pas (d := 37) [29] (DSp rfl rfl rfl rfl rfl rfl rfl (okd rfl rfl)) rfl rfl ?_
      refine DG.pas (d := 38) [29] (DSp rfl rfl rfl rfl rfl rfl rfl (okd rfl rfl)) rfl rfl ?_
      refine DG.pas (d := 39) [29] (DSp rfl rfl rfl rfl rfl rfl rfl (okd rfl rfl)) rfl rfl ?_
      refine DG.pas (d := 40) [29] (DSp rfl rfl rfl rfl rfl rfl rfl (okd rfl rfl)) rfl rfl ?_
      refine DG.pas (d := 41) [29] (DSp rfl rfl rfl rfl rfl rfl rfl (okd rfl rfl)) rfl rfl ?_
      refine DG.fr (d := 42) [29] (DS rfl fun v h => OpT.pickF (A := .cel _ _) rfl rfl (okd rfl rfl) (D h rfl rfl rfl rfl) rfl Opd.bool rfl) rfl rfl ?_
      refine DG.one (d := 2) (e2 := drp _ _) [42] (DS rfl fun v h => OpT.move (A := .cel _ _) (.inr rfl) rfl (okd rfl rfl) (D h rfl rfl rfl rfl) rfl) rfl rfl ?_
      refine DG.nil ⟨by kernel_rfl, by kernel_rfl, ?_⟩
      refine AX.pr (Kc 2 (.cel _ _) rfl <| Kn) ?_
      refine AX.go ?_
      refine AW.ret ?_
      exact AX.rt (rs := [.tmp 2]) (ts := [some 2]) (.inl rfl) rfl (ROs.cons (RO.tmp (At.self (by decide)) (Kv rfl (by simp only [mixS, *, Bool.false_and, Bool.true_and, Bool.and_false])) rfl) <| ROs.nil) (by decide) OutsOK.nil
  ·
    refine AW.dg fomo ?_
    refine DG.fr (d := 3) [0] (DS rfl fun v h => OpT.move (A := .cel _ _) (.inl rfl) rfl (okd rfl rfl) (D h rfl rfl rfl rfl) rfl) rfl rfl ?_
    refine DG.fr (d := 4) [3] (DS rfl fun v h => OpT.nilCheck rfl rfl (okd rfl rfl) (D h rfl rfl rfl rfl)) rfl rfl ?_
    refine DG.fr (d := 5) [4] (DS rfl fun v h => OpT.fieldAddr rfl rfl (okd rfl rfl) (D h rfl rfl rfl rfl) fd81_1 sz51 (by decide) sb81_1) rfl rfl ?_
    refine DG.fr (d := 6) [5] (DS rfl fun v h => OpT.load rfl rfl (okd rfl rfl) (D h rfl rfl rfl rfl) ag51 rfl) rfl rfl ?_
    refine DG.fr (d := 7) [6] (DS rfl fun v h => OpT.conv rfl rfl (okd rfl rfl) us51 Tryd.underlying2 (D h rfl rfl rfl rfl) (nw (by omega))) rfl rfl ?_
    refine DG.fr (d := 8) [7] (DS rfl fun v h => OpT.c1 (ms := [.flat, .flat, .flat]) (c_spec_l00In _ _ _) rfl rfl (okd rfl rfl) (Af (D h rfl rfl rfl rfl) rfl rfl <| Af (I rfl) rfl rfl <| Af (I rfl) rfl rfl <| An) rfl rfl) rfl rfl ?_
    refine DG.fr (d := 9) [8] (DS rfl fun v h => OpT.move (A := .cel _ _) (.inl rfl) rfl (okd rfl rfl) (D h rfl rfl rfl rfl) rfl) rfl rfl ?_
    refine DG.pas (d := 10) [9] (DSp rfl rfl rfl rfl rfl hd1 rfl (okd rfl rfl)) rfl rfl ?_
    refine DG.pas (d := 11) [9] (DSp rfl rfl rfl rfl rfl hd1 rfl (okd rfl rfl)) rfl rfl ?_
    refine DG.pas (d := 12) [9] (DSp rfl rfl rfl rfl rfl hd1 rfl (okd rfl rfl)) rfl rfl ?_
    refine DG.pas (d := 13) [9] (DSp rfl rfl rfl rfl rfl hd1 rfl (okd rfl rfl)) rfl rfl ?_
    refine DG.pas (d := 14) [9] (DSp rfl rfl rfl rfl rfl hd1 rfl (okd rfl rfl)) rfl rfl ?_
    refine DG.pas (d := 15) [9] (DSp rfl rfl rfl rfl rfl hd1 rfl (okd rfl rfl)) rfl rfl ?_
    refine DG.fr (d := 16) [9] (DS rfl fun v h => OpT.pickF (A := .cel _ _) rfl rfl (okd rfl rfl) (D h rfl rfl rfl rfl) hd1 Opd.bool rfl) rfl rfl ?_
    refine DG.fr (d := 17) [16] (DS rfl fun v h => OpT.move (A := .cel _ _) (.inl rfl) rfl (okd rfl rfl) (D h rfl rfl rfl rfl) rfl) rfl rfl ?_
    refine DG.pas (d := 18) [17] (DSp rfl rfl rfl rfl rfl rfl rfl (okd rfl rfl)) rfl rfl ?_
    refine DG.pas (d := 19) [17] (DSp rfl rfl rfl rfl rfl rfl rfl (okd rfl rfl)) rfl rfl ?_
    refine DG.pas (d := 20) [17] (DSp rfl rfl rfl rfl rfl rfl rfl (okd rfl rfl)) rfl rfl ?_
    refine DG.pas (d := 21) [17] (DSp rfl rfl rfl rfl rfl rfl rfl (okd rfl rfl)) rfl rfl ?_
    refine DG.pas (d := 22) [17] (DSp rfl rfl rfl rfl rfl rfl rfl (okd rfl rfl)) rfl rfl ?_
    refine DG.pas (d := 23) [17] (DSp rfl rfl rfl rfl rfl rfl rfl (okd rfl rfl)) rfl rfl ?_
    refine DG.pas (d := 24) [17] (DSp rfl rfl rfl rfl rfl rfl rfl (okd rfl rfl)) rfl rfl ?_
    refine DG.pas (d := 25) [17] (DSp rfl rfl rfl rfl rfl rfl rfl (okd rfl rfl)) rfl rfl ?_
    refine DG.pas (d := 26) [17] (DSp rfl rfl rfl rfl rfl rfl rfl (okd rfl rfl)) rfl rfl ?_
    refine DG.pas (d := 27) [17] (DSp rfl rfl rfl rfl rfl rfl rfl (okd rfl rfl)) rfl rfl ?_
    refine DG.fr (d := 28) [17] (DS rfl fun v h => OpT.pickF (A := .cel _ _) rfl rfl (okd rfl rfl) (D h rfl rfl rfl rfl) rfl Opd.bool rfl) rfl rfl ?_
    refine DG.fr (d := 29) [28] (DS rfl fun v h => OpT.move (A := .cel _ _) (.inl rfl) rfl (okd rfl rfl) (D h rfl rfl rfl rfl) rfl) rfl rfl ?_
    refine DG.pas (d := 30) [29] (DSp rfl rfl rfl rfl rfl rfl rfl (okd rfl rfl)) rfl rfl ?_
    refine DG.pas (d := 31) [29] (DSp rfl rfl rfl rfl rfl rfl rfl (okd rfl rfl)) rfl rfl ?_
    refine DG.pas (d := 32) [29] (DSp rfl rfl rfl rfl rfl rfl rfl (okd rfl rfl)) rfl rfl ?_
    refine DG.pas (d := 33) [29] (DSp rfl rfl rfl rfl rfl rfl rfl (okd rfl rfl)) rfl rfl ?_
    refine DG.pas (d := 34) [29] (DSp rfl rfl rfl rfl rfl rfl rfl (okd rfl rfl)) rfl rfl ?_
    refine DG.pas (d := 35) [29] (DSp rfl rfl rfl rfl rfl rfl rfl (okd rfl rfl)) rfl rfl ?_
    refine DG.pas (d := 36) [29] (DSp rfl rfl rfl rfl rfl rfl rfl (okd rfl rfl)) rfl rfl ?_
    refine DG.pas (d := 37) [29] (DSp rfl rfl rfl rfl rfl rfl rfl (okd rfl rfl)) rfl rfl ?_
    refine DG.pas (d := 38) [29] (DSp rfl rfl rfl rfl rfl rfl rfl (okd rfl rfl)) rfl rfl ?_
    refine DG.pas (d := 39) [29] (DSp rfl rfl rfl rfl rfl rfl rfl (okd rfl rfl)) rfl rfl ?_
    refine DG.pas (d := 40) [29] (DSp rfl rfl rfl rfl rfl rfl rfl (okd rfl rfl)) rfl rfl ?_
    refine DG.pas (d := 41) [29] (DSp rfl rfl rfl rfl rfl rfl rfl (okd rfl rfl)) rfl rfl ?_
    refine DG.fr (d := 42) [29] (DS rfl fun v h => OpT.pickF (A := .cel _ _) rfl rfl (okd rfl rfl) (D h rfl rfl rfl rfl) rfl Opd.bool rfl) rfl rfl ?_
    refine DG.one (d := 2) (e2 := drp _ _) [42] (DS rfl fun v h => OpT.move (A := .cel _ _) (.inr rfl) rfl (okd rfl rfl) (D h rfl rfl rfl rfl) rfl) rfl rfl ?_
    refine DG.nil ⟨by kernel_rfl, by kernel_rfl, ?_⟩
    refine AX.pr (Kc 2 (.cel _ _) rfl <| Kn) ?_
    refine AX.go ?_
    refine AW.ret ?_
    exact AX.rt (rs := [.tmp 2]) (ts := [some 2]) (.inl rfl) rfl (ROs.cons (RO.tmp (At.self (by decide)) (Kv rfl (by simp only [mixS, *, Bool.false_and, Bool.true_and, Bool.and_false])) rfl) <| ROs.nil) (by decide) OutsOK.nil

/-- impl.isMix -/
theorem c_impl_isMix (x : Int × Int × Int) : AC Tryd.prog 104 [.agg kMix x] [.cel Kd.bool (mixI x)] [] := by
  refine ⟨ACall.intro (N := 42) Tryd.func104 (c := _) (rfl : Func.body _ = some _) rfl (Nat.le_of_ble_eq_true rfl) (Nat.le_of_ble_eq_true rfl) rfl (Nat.le_of_ble_eq_true rfl) fun w0 hd s0 ar har => ?_, _, Tryd.func104, rfl, by decide⟩
  refine AW.to (Kc 0 (.agg _ _) rfl <| Kn) ?_
  refine AW.fact (fun a w hr => okMix (R_okA (t := 0) rfl hr)) (fun hx => ?_)
  refine AW.seq ?_
  refine AW.region ?_
  refine AWl.st rfl (OpT.frz (OpT.boxA (E := 81) rfl rfl (okd rfl rfl) (Tm rfl rfl rfl))) rfl ?_
  refine AWl.st rfl (OpT.move (A := .cel _ _) (.inr rfl) rfl (okd rfl rfl) Opd.bool rfl) rfl ?_
  refine AWl.nil ?_
  refine AX.pr (Kc 2 (.cel _ _) rfl <| Kc 1 (.cel _ _) rfl <| Kn) ?_
  refine AX.go ?_
  refine AW.seq ?_
  refine AW.region ?_
  refine AWl.st rfl (OpT.fieldAddr rfl rfl (okd rfl rfl) (Tm rfl rfl rfl) fd81_1 sz51 (by decide) sb81_1) rfl ?_
  refine AWl.st rfl (OpT.load rfl rfl (okd rfl rfl) (Tm rfl rfl rfl) ag51 rfl) rfl ?_
  refine AWl.st rfl (OpT.geq rfl rfl (okd rfl rfl) (Tm rfl rfl rfl) (I rfl)) rfl ?_
  refine AWl.st rfl (OpT.move (A := .cel _ _) (.inl rfl) rfl (okd rfl rfl) (Tm rfl rfl rfl) rfl) rfl ?_
  apply AWl.and (d := 10) (t := 6) rfl
  · intro hb1 Q1 k1
    refine AWl.rs rfl rfl rfl rfl hb1 (OpT.fieldAddr rfl rfl (okd rfl rfl) (Tm rfl rfl rfl) fd81_1 sz51 (by decide) sb81_1) rfl ?_
    refine AWl.rs rfl rfl rfl rfl hb1 (OpT.load rfl rfl (okd rfl rfl) (Tm rfl rfl rfl) ag51 rfl) rfl ?_
    refine AWl.rs rfl rfl rfl rfl hb1 (OpT.leq rfl rfl (okd rfl rfl) (Tm rfl rfl rfl) (I rfl)) rfl ?_
    refine AWl.st rfl (OpT.pickT (A := .cel _ _) rfl rfl (okd rfl rfl) (Tm rfl rfl rfl) hb1 (Tm rfl rfl rfl) rfl) rfl ?_
    exact AWl.to (junk 3 rfl) k1
  · intro hb1 Q1 k1
    refine AWl.pas rfl rfl rfl rfl hb1 rfl (okd rfl rfl) rfl ?_
    refine AWl.pas rfl rfl rfl rfl hb1 rfl (okd rfl rfl) rfl ?_
    refine AWl.pas rfl rfl rfl rfl hb1 rfl (okd rfl rfl) rfl ?_
    refine AWl.st rfl (OpT.pickF (A := .cel _ _) rfl rfl (okd rfl rfl) (Tm rfl rfl rfl) hb1 Opd.bool rfl) rfl ?_
    exact k1
  refine AWl.st rfl (OpT.move (A := .cel _ _) (.inl rfl) rfl (okd rfl rfl) (Tm rfl rfl rfl) rfl) rfl ?_
  apply AWl.and (d := 15) (t := 11) rfl
  · intro hb2 Q1 k1
    refine AWl.rs rfl rfl rfl rfl hb2 (OpT.fieldAddr rfl rfl (okd rfl rfl) (Tm rfl rfl rfl) fd81_2 sz51 (by decide) sb81_2) rfl ?_
    refine AWl.rs rfl rfl rfl rfl hb2 (OpT.load rfl rfl (okd rfl rfl) (Tm rfl rfl rfl) ag51 rfl) rfl ?_
    refine AWl.rs rfl rfl rfl rfl hb2 (OpT.geq rfl rfl (okd rfl rfl) (Tm rfl rfl rfl) (I rfl)) rfl ?_
    refine AWl.st rfl (OpT.pickT (A := .cel _ _) rfl rfl (okd rfl rfl) (Tm rfl rfl rfl) hb2 (Tm rfl rfl rfl) rfl) rfl ?_
    exact AWl.to (junk 3 rfl) k1
  · intro hb2 Q1 k1
    refine AWl.pas rfl rfl rfl rfl hb2 rfl (okd rfl rfl) rfl ?_
    refine AWl.pas rfl rfl rfl rfl hb2 rfl (okd rfl rfl) rfl ?_
    refine AWl.pas rfl rfl rfl rfl hb2 rfl (okd rfl rfl) rfl ?_
    refine AWl.st rfl (OpT.pickF (A := .cel _ _) rfl rfl (okd rfl rfl) (Tm rfl rfl rfl) hb2 Opd.bool rfl) rfl ?_
    exact k1
  refine AWl.st rfl (OpT.move (A := .cel _ _) (.inl rfl) rfl (okd rfl rfl) (Tm rfl rfl rfl) rfl) rfl ?_
  apply AWl.and (d := 20) (t := 16) rfl
  · intro hb3 Q1 k1
    refine AWl.rs rfl rfl rfl rfl hb3 (OpT.fieldAddr rfl rfl (okd rfl rfl) (Tm rfl rfl rfl) fd81_2 sz51 (by decide) sb81_2) rfl ?_
    refine AWl.rs rfl rfl rfl rfl hb3 (OpT.load rfl rfl (okd rfl rfl) (Tm rfl rfl rfl) ag51 rfl) rfl ?_
    refine AWl.rs rfl rfl rfl rfl hb3 (OpT.leq rfl rfl (okd rfl rfl) (Tm rfl rfl rfl) (I rfl)) rfl ?_
    refine AWl.st rfl (OpT.pickT (A := .cel _ _) rfl rfl (okd rfl rfl) (Tm rfl rfl rfl) hb3 (Tm rfl rfl rfl) rfl) rfl ?_
    exact AWl.to (junk 3 rfl) k1
  · intro hb3 Q1 k1
    refine AWl.pas rfl rfl rfl rfl hb3 rfl (okd rfl rfl) rfl ?_
    refine AWl.pas rfl rfl rfl rfl hb3 rfl (okd rfl rfl) rfl ?_
    refine AWl.pas rfl rfl rfl rfl hb3 rfl (okd rfl rfl) rfl ?_
    refine AWl.st rfl (OpT.pickF (A := .cel _ _) rfl rfl (okd rfl rfl) (Tm rfl rfl rfl) hb3 Opd.bool rfl) rfl ?_
    exact k1
  refine AWl.st rfl (OpT.move (A := .cel _ _) (.inl rfl) rfl (okd rfl rfl) (Tm rfl rfl rfl) rfl) rfl ?_
  apply AWl.and (d := 28) (t := 21) rfl
  · intro hb4 Q1 k1
    refine AWl.rs rfl rfl rfl rfl hb4 (OpT.fieldAddr rfl rfl (okd rfl rfl) (Tm rfl rfl rfl) fd81_2 sz51 (by decide) sb81_2) rfl ?_
    refine AWl.rs rfl rfl rfl rfl hb4 (OpT.load rfl rfl (okd rfl rfl) (Tm rfl rfl rfl) ag51 rfl) rfl ?_
    refine AWl.rs rfl rfl rfl rfl hb4 (OpT.fieldAddr rfl rfl (okd rfl rfl) (Tm rfl rfl rfl) fd81_1 sz51 (by decide) sb81_1) rfl ?_
    refine AWl.rs rfl rfl rfl rfl hb4 (OpT.load rfl rfl (okd rfl rfl) (Tm rfl rfl rfl) ag51 rfl) rfl ?_
    refine AWl.rs rfl rfl rfl rfl hb4 (OpT.quo rfl rfl (okd rfl rfl) (Tm rfl rfl rfl) (I rfl) (by omega) rfl) rfl ?_
    refine AWl.rs rfl rfl rfl rfl hb4 (OpT.leq rfl rfl (okd rfl rfl) (Tm rfl rfl rfl) (Tm rfl rfl rfl)) rfl ?_
    refine AWl.st rfl (OpT.pickT (A := .cel _ _) rfl rfl (okd rfl rfl) (Tm rfl rfl rfl) hb4 (Tm rfl rfl rfl) rfl) rfl ?_
    exact AWl.to (junk 6 rfl) k1
  · intro hb4 Q1 k1
    refine AWl.pas rfl rfl rfl rfl hb4 rfl (okd rfl rfl) rfl ?_
    refine AWl.pas rfl rfl rfl rfl hb4 rfl (okd rfl rfl) rfl ?_
    refine AWl.pas rfl rfl rfl rfl hb4 rfl (okd rfl rfl) rfl ?_
    refine AWl.pas rfl rfl rfl rfl hb4 rfl (okd rfl rfl) rfl ?_
    refine AWl.pas rfl rfl rfl rfl hb4 rfl (okd rfl rfl) rfl ?_
    refine AWl.pas rfl rfl rfl rfl hb4 rfl (okd rfl rfl) rfl ?_
    refine AWl.st rfl (OpT.pickF (A := .cel _ _) rfl rfl (okd rfl rfl) (Tm rfl rfl rfl) hb4 Opd.bool rfl) rfl ?_
    exact k1
  refine AWl.st rfl (OpT.move (A := .cel _ _) (.inl rfl) rfl (okd rfl rfl) (Tm rfl rfl rfl) rfl) rfl ?_
  apply AWl.and (d := 33) (t := 29) rfl
  · intro hb5 Q1 k1
    refine AWl.rs rfl rfl rfl rfl hb5 (OpT.fieldAddr rfl rfl (okd rfl rfl) (Tm rfl rfl rfl) fd81_0 sz51 (by decide) sb81_0) rfl ?_
    refine AWl.rs rfl rfl rfl rfl hb5 (OpT.load rfl rfl (okd rfl rfl) (Tm rfl rfl rfl) ag51 rfl) rfl ?_
    refine AWl.rs rfl rfl rfl rfl hb5 (OpT.geq rfl rfl (okd rfl rfl) (Tm rfl rfl rfl) (I rfl)) rfl ?_
    refine AWl.st rfl (OpT.pickT (A := .cel _ _) rfl rfl (okd rfl rfl) (Tm rfl rfl rfl) hb5 (Tm rfl rfl rfl) rfl) rfl ?_
    exact AWl.to (junk 3 rfl) k1
  · intro hb5 Q1 k1
    refine AWl.pas rfl rfl rfl rfl hb5 rfl (okd rfl rfl) rfl ?_
    refine AWl.pas rfl rfl rfl rfl hb5 rfl (okd rfl rfl) rfl ?_
    refine AWl.pas rfl rfl rfl rfl hb5 rfl (okd rfl rfl) rfl ?_
    refine AWl.st rfl (OpT.pickF (A := .cel _ _) rfl rfl (okd rfl rfl) (Tm rfl rfl rfl) hb5 Opd.bool rfl) rfl ?_
    exact k1
  refine AWl.st rfl (OpT.move (A := .cel _ _) (.inl rfl) rfl (okd rfl rfl) (Tm rfl rfl rfl) rfl) rfl ?_
  apply AWl.and (d := 41) (t := 34) rfl
  · intro hb6 Q1 k1
    refine AWl.rs rfl rfl rfl rfl hb6 (OpT.fieldAddr rfl rfl (okd rfl rfl) (Tm rfl rfl rfl) fd81_0 sz51 (by decide) sb81_0) rfl ?_
    refine AWl.rs rfl rfl rfl rfl hb6 (OpT.load rfl rfl (okd rfl rfl) (Tm rfl rfl rfl) ag51 rfl) rfl ?_
    refine AWl.rs rfl rfl rfl rfl hb6 (OpT.fieldAddr rfl rfl (okd rfl rfl) (Tm rfl rfl rfl) fd81_1 sz51 (by decide) sb81_1) rfl ?_
    refine AWl.rs rfl rfl rfl rfl hb6 (OpT.load rfl rfl (okd rfl rfl) (Tm rfl rfl rfl) ag51 rfl) rfl ?_
    refine AWl.rs rfl rfl rfl rfl hb6 (OpT.sub rfl rfl (okd rfl rfl) (I rfl) (Tm rfl rfl rfl) rfl) rfl ?_
    refine AWl.rs rfl rfl rfl rfl hb6 (OpT.leq rfl rfl (okd rfl rfl) (Tm rfl rfl rfl) (Tm rfl rfl rfl)) rfl ?_
    refine AWl.st rfl (OpT.pickT (A := .cel _ _) rfl rfl (okd rfl rfl) (Tm rfl rfl rfl) hb6 (Tm rfl rfl rfl) rfl) rfl ?_
    exact AWl.to (junk 6 rfl) k1
  · intro hb6 Q1 k1
    refine AWl.pas rfl rfl rfl rfl hb6 rfl (okd rfl rfl) rfl ?_
    refine AWl.pas rfl rfl rfl rfl hb6 rfl (okd rfl rfl) rfl ?_
    refine AWl.pas rfl rfl rfl rfl hb6 rfl (okd rfl rfl) rfl ?_
    refine AWl.pas rfl rfl rfl rfl hb6 rfl (okd rfl rfl) rfl ?_
    refine AWl.pas rfl rfl rfl rfl hb6 rfl (okd rfl rfl) rfl ?_
    refine AWl.pas rfl rfl rfl rfl hb6 rfl (okd rfl rfl) rfl ?_
    refine AWl.st rfl (OpT.pickF (A := .cel _ _) rfl rfl (okd rfl rfl) (Tm rfl rfl rfl) hb6 Opd.bool rfl) rfl ?_
    exact k1
  refine AWl.sg rfl (OpT.move (A := .cel _ _) (.inr rfl) rfl (okd rfl rfl) (Tm rfl rfl rfl) rfl) (Kc 2 (.cel _ _) rfl <| Kc 41 (.cel _ _) rfl <| Kc 34 (.cel _ _) rfl <| Kc 33 (.cel _ _) rfl <| Kc 29 (.cel _ _) rfl <| Kc 28 (.cel _ _) rfl <| Kc 21 (.cel _ _) rfl <| Kc 20 (.cel _ _) rfl <| Kc 16 (.cel _ _) rfl <| Kc 15 (.cel _ _) rfl <| Kc 11 (.cel _ _) rfl <| Kc 10 (.cel _ _) rfl <| Kc 6 (.cel _ _) rfl <| Kc 5 (.cel _ _) rfl <| Kc 4 (.cel _ _) rfl <| Kc 3 (.cel _ _) rfl <| Kc 1 (.cel _ _) rfl <| Kn) ?_
  refine AWl.nil ?_
  refine AX.pr (Kc 2 (.cel _ _) rfl <| Kn) ?_
  refine AX.go ?_
  refine AW.ret ?_
  exact AX.rt (rs := [.tmp 2]) (ts := [some 2]) (.inl rfl) rfl (ROs.cons (RO.tmp (At.self (by decide)) (Kv rfl rfl) rfl) <| ROs.nil) (by decide) OutsOK.nil

/-- laws.toMix -/
theorem c_laws_toMix (x : Int × Int × Int) : AC Tryd.prog 44 [.agg kMix x] [.agg kMix x] [] := by
  refine ⟨ACall.intro (N := 14) Tryd.func44 (c := _) (rfl : Func.body _ = some _) rfl (Nat.le_of_ble_eq_true rfl) (Nat.le_of_ble_eq_true rfl) rfl (Nat.le_of_ble_eq_true rfl) fun w0 hd s0 ar har => ?_, _, Tryd.func44, rfl, by decide⟩
  refine AW.to (Kc 0 (.agg _ _) rfl <| Kn) ?_
  refine AW.seq ?_
  refine AW.region ?_
  refine AWl.st rfl (OpT.frz (OpT.boxA (E := 77) rfl rfl (okd rfl rfl) (Tm rfl rfl rfl))) rfl ?_
  refine AWl.st rfl (OpT.alloc rfl rfl (okd rfl rfl) zr81 zk81) rfl ?_
  refine AWl.nil ?_
  refine AX.pr (Kc 2 (.box _ _ _) rfl <| Kc 1 (.cel _ _) rfl <| Kn) ?_
  refine AX.go ?_
  refine AW.seq ?_
  refine AW.region ?_
  refine AWl.st rfl (OpT.alloc rfl rfl (okd rfl rfl) zr81 zk81) rfl ?_
  refine AWl.nil ?_
  refine AX.go ?_
  refine AW.seq ?_
  refine AW.region ?_
  refine AWl.st rfl (OpT.fieldAddr rfl rfl (okd rfl rfl) (Tm rfl rfl rfl) fd77_0 sz51 (by decide) sb77_0) rfl ?_
  refine AWl.st rfl (OpT.load rfl rfl (okd rfl rfl) (Tm rfl rfl rfl) ag51 rfl) rfl ?_
  refine AWl.st rfl (OpT.fieldAddrB rfl rfl (okd rfl rfl) (Root.self (t := 3) (by decide)) rfl (by decide) fd81_0 sz51 (by decide) sb81_0) rfl ?_
  refine AWl.sg rfl (OpT.storeB rfl rfl (Tm rfl rfl rfl) rfl sz51 rfl (Tm rfl rfl rfl)) (Kc 6 (.pel _ _ _ _ _ _ _) rfl <| Kc 5 (.cel _ _) rfl <| Kc 4 (.cel _ _) rfl <| Kc 3 (.box _ _ _) rfl <| Kc 2 (.box _ _ _) rfl <| Kc 1 (.cel _ _) rfl <| Kn) ?_
  refine AWl.nil ?_
  refine AX.pr (Kc 3 (.box _ _ _) rfl <| Kc 2 (.box _ _ _) rfl <| Kc 1 (.cel _ _) rfl <| Kn) ?_
  refine AX.go ?_
  refine AW.seq ?_
  refine AW.region ?_
  refine AWl.st rfl (OpT.fieldAddr rfl rfl (okd rfl rfl) (Tm rfl rfl rfl) fd77_1 sz51 (by decide) sb77_1) rfl ?_
  refine AWl.st rfl (OpT.load rfl rfl (okd rfl rfl) (Tm rfl rfl rfl) ag51 rfl) rfl ?_
  refine AWl.st rfl (OpT.fieldAddrB rfl rfl (okd rfl rfl) (Root.self (t := 3) (by decide)) rfl (by decide) fd81_1 sz51 (by decide) sb81_1) rfl ?_
  refine AWl.sg rfl (OpT.storeB rfl rfl (Tm rfl rfl rfl) rfl sz51 rfl (Tm rfl rfl rfl)) (Kc 9 (.pel _ _ _ _ _ _ _) rfl <| Kc 8 (.cel _ _) rfl <| Kc 7 (.cel _ _) rfl <| Kc 3 (.box _ _ _) rfl <| Kc 2 (.box _ _ _) rfl <| Kc 1 (.cel _ _) rfl <| Kn) ?_
  refine AWl.nil ?_
  refine AX.pr (Kc 3 (.box _ _ _) rfl <| Kc 2 (.box _ _ _) rfl <| Kc 1 (.cel _ _) rfl <| Kn) ?_
  refine AX.go ?_
  refine AW.seq ?_
  refine AW.region ?_
  refine AWl.st rfl (OpT.fieldAddr rfl rfl (okd rfl rfl) (Tm rfl rfl rfl) fd77_2 sz51 (by decide) sb77_2) rfl ?_
  refine AWl.st rfl (OpT.load rfl rfl (okd rfl rfl) (Tm rfl rfl rfl) ag51 rfl) rfl ?_
  refine AWl.st rfl (OpT.fieldAddrB rfl rfl (okd rfl rfl) (Root.self (t := 3) (by decide)) rfl (by decide) fd81_2 sz51 (by decide) sb81_2) rfl ?_
  refine AWl.sg rfl (OpT.storeB rfl rfl (Tm rfl rfl rfl) rfl sz51 rfl (Tm rfl rfl rfl)) (Kc 12 (.pel _ _ _ _ _ _ _) rfl <| Kc 11 (.cel _ _) rfl <| Kc 10 (.cel _ _) rfl <| Kc 3 (.box _ _ _) rfl <| Kc 2 (.box _ _ _) rfl <| Kc 1 (.cel _ _) rfl <| Kn) ?_
  refine AWl.nil ?_
  refine AX.pr (Kc 3 (.box _ _ _) rfl <| Kc 2 (.box _ _ _) rfl <| Kn) ?_
  refine AX.go ?_
  refine AW.seq ?_
  refine AW.region ?_
  refine AWl.st rfl (OpT.loadB rfl rfl (okd rfl rfl) (Root.self (t := 3) (by decide)) rfl ag81 sz81) rfl ?_
  refine AWl.sg rfl (OpT.storeBA rfl rfl (Opd.whole (Root.self (t := 2) (by decide)) rfl) rfl sz81 (by decide) (Tm rfl rfl rfl)) (Kc 13 (.agg _ _) rfl <| Kc 3 (.box _ _ _) rfl <| Kc 2 (.box _ _ _) rfl <| Kn) ?_
  refine AWl.nil ?_
  refine AX.pr (Kc 2 (.box _ _ _) rfl <| Kn) ?_
  refine AX.go ?_
  refine AW.ret ?_
  exact AX.rt (rs := [.cell 2 81]) (ts := [none]) (.inl rfl) rfl (ROs.cons (RO.cellA (by decide) (Kb rfl rfl) ag81 sz81) <| ROs.nil) (by decide) OutsOK.nil

/-- spec.l06Chance -/
theorem c_spec_l06Chance (a b n m : Int) (h : 0 < a ∧ a ≤ 96 ∧ 0 ≤ b ∧ b ≤ a ∧ 0 ≤ n ∧ n ≤ 100 ∧ 0 ≤ m ∧ m ≤ 12) : AC Tryd.prog 102 [.cel (Kd.int .i64) a, .cel (Kd.int .i64) b, .cel (Kd.int .i64) n, .cel (Kd.int .i64) m] [.cel (Kd.int .i64) (chance a b n m)] [] := by
  refine ⟨ACall.intro (N := 38) Tryd.func102 (c := _) (rfl : Func.body _ = some _) rfl (Nat.le_of_ble_eq_true rfl) (Nat.le_of_ble_eq_true rfl) rfl (Nat.le_of_ble_eq_true rfl) fun w0 hd s0 ar har => ?_, _, Tryd.func102, rfl, by decide⟩
  refine AW.to (Kc 0 (.cel _ _) rfl <| Kc 1 (.cel _ _) rfl <| Kc 2 (.cel _ _) rfl <| Kc 3 (.cel _ _) rfl <| Kn) ?_
  have hbm := bm_in (b := b) (m := m) (by omega)
  refine AW.seq ?_
  refine AW.region ?_
  refine AWl.st rfl (OpT.move (A := .cel _ _) (.inr rfl) rfl (okd rfl rfl) (I rfl) rfl) rfl ?_
  refine AWl.nil ?_
  refine AX.go ?_
  refine AW.seq ?_
  refine AW.region ?_
  refine AWl.st rfl (OpT.move (A := .cel _ _) (.inr rfl) rfl (okd rfl rfl) (I rfl) rfl) rfl ?_
  refine AWl.nil ?_
  refine AX.go ?_
  refine AW.seq ?_
  refine AW.seq ?_
  refine AW.region ?_
  refine AWl.st rfl (OpT.move (A := .cel _ _) (.inr rfl) rfl (okd rfl rfl) (I rfl) rfl) rfl ?_
  refine AWl.nil ?_
  refine AX.go ?_
  refine AW.block ?_
  refine AW.loop (fun z : Nat => (z : Int) ≤ n) (fun z : Nat => keep [(0, .cel (Kd.int .i64) a), (1, .cel (Kd.int .i64) b), (2, .cel (Kd.int .i64) n), (3, .cel (Kd.int .i64) m), (9, .cel (Kd.int .i64) (miss a b z)), (10, .cel (Kd.int .i64) (z : Int))]) (fun z : Nat => n.toNat - z) (0) (by omega) (Kc 0 _ (Kv rfl rfl) <| Kc 1 _ (Kv rfl rfl) <| Kc 2 _ (Kv rfl rfl) <| Kc 3 _ (Kv rfl rfl) <| Kc 9 _ (Kv rfl rfl) <| Kc 10 _ (Kv rfl rfl) <| Kn) ?_
  intro z hI
  have hm := miss_in (a := a) (b := b) (by omega) z
  have hbd := miss_mul (a := a) (b := b) (by omega) z
  have hq : 0 ≤ (miss a b z * (a - b)).tdiv a ∧ (miss a b z * (a - b)).tdiv a ≤ 1000000000 := miss_in (by omega) (z + 1)
  refine AW.seq ?_
  refine AW.seq ?_
  refine AW.region ?_
  refine AWl.st rfl (OpT.move (A := .cel _ _) (.inl rfl) rfl (okd rfl rfl) (Tm rfl rfl rfl) rfl) rfl ?_
  refine AWl.st rfl (OpT.move (A := .cel _ _) (.inl rfl) rfl (okd rfl rfl) (Tm rfl rfl rfl) rfl) rfl ?_
  refine AWl.st rfl (OpT.lss rfl rfl (okd rfl rfl) (Tm rfl rfl rfl) (Tm rfl rfl rfl)) rfl ?_
  refine AWl.nil ?_
  refine AX.go ?_
  refine AW.cond (t := 15) rfl (by decide) (fun hc1 => ?_) (fun hc1 => ?_)
  ·
    try simp only [decide_eq_true_eq, decide_eq_false_iff_not, Bool.not_eq_true', Bool.not_eq_false'] at hc1
    refine AW.skip ?_
    refine AX.go ?_
    refine AW.seq ?_
    refine AW.block ?_
    refine AW.region ?_
    refine AWl.st rfl (OpT.move (A := .cel _ _) (.inl rfl) rfl (okd rfl rfl) (Tm rfl rfl rfl) rfl) rfl ?_
    refine AWl.st rfl (OpT.move (A := .cel _ _) (.inl rfl) rfl (okd rfl rfl) (Tm rfl rfl rfl) rfl) rfl ?_
    refine AWl.st rfl (OpT.move (A := .cel _ _) (.inl rfl) rfl (okd rfl rfl) (Tm rfl rfl rfl) rfl) rfl ?_
    refine AWl.st rfl (OpT.sub rfl rfl (okd rfl rfl) (Tm rfl rfl rfl) (Tm rfl rfl rfl) (nw (by omega))) rfl ?_
    refine AWl.st rfl (OpT.mul rfl rfl (okd rfl rfl) (Tm rfl rfl rfl) (Tm rfl rfl rfl) (nw (by omega))) rfl ?_
    refine AWl.st rfl (OpT.move (A := .cel _ _) (.inl rfl) rfl (okd rfl rfl) (Tm rfl rfl rfl) rfl) rfl ?_
    refine AWl.st rfl (OpT.quo rfl rfl (okd rfl rfl) (Tm rfl rfl rfl) (Tm rfl rfl rfl) (by omega) (nw (by omega))) rfl ?_
    refine AWl.sg rfl (OpT.move (A := .cel _ _) (.inr rfl) rfl (okd rfl rfl) (Tm rfl rfl rfl) rfl) (Kc 9 (.cel _ _) rfl <| Kc 24 (.cel _ _) rfl <| Kc 23 (.cel _ _) rfl <| Kc 22 (.cel _ _) rfl <| Kc 21 (.cel _ _) rfl <| Kc 20 (.cel _ _) rfl <| Kc 19 (.cel _ _) rfl <| Kc 18 (.cel _ _) rfl <| Kc 15 (.cel _ _) rfl <| Kc 14 (.cel _ _) rfl <| Kc 13 (.cel _ _) rfl <| Kc 0 (.cel _ _) rfl <| Kc 1 (.cel _ _) rfl <| Kc 2 (.cel _ _) rfl <| Kc 3 (.cel _ _) rfl <| Kc 10 (.cel _ _) rfl <| Kn) ?_
    refine AWl.nil ?_
    refine AX.normal_block ?_
    refine AX.go ?_
    refine AW.region ?_
    refine AWl.st rfl (OpT.move (A := .cel _ _) (.inl rfl) rfl (okd rfl rfl) (Tm rfl rfl rfl) rfl) rfl ?_
    refine AWl.st rfl (OpT.add rfl rfl (okd rfl rfl) (Tm rfl rfl rfl) (I rfl) (nw (by omega))) rfl ?_
    refine AWl.sg rfl (OpT.move (A := .cel _ _) (.inr rfl) rfl (okd rfl rfl) (Tm rfl rfl rfl) rfl) (Kc 10 (.cel _ _) rfl <| Kc 17 (.cel _ _) rfl <| Kc 16 (.cel _ _) rfl <| Kc 9 (.cel _ _) rfl <| Kc 24 (.cel _ _) rfl <| Kc 23 (.cel _ _) rfl <| Kc 22 (.cel _ _) rfl <| Kc 21 (.cel _ _) rfl <| Kc 20 (.cel _ _) rfl <| Kc 19 (.cel _ _) rfl <| Kc 18 (.cel _ _) rfl <| Kc 15 (.cel _ _) rfl <| Kc 14 (.cel _ _) rfl <| Kc 13 (.cel _ _) rfl <| Kc 0 (.cel _ _) rfl <| Kc 1 (.cel _ _) rfl <| Kc 2 (.cel _ _) rfl <| Kc 3 (.cel _ _) rfl <| Kn) ?_
    refine AWl.nil ?_
    exact AX.again (z + 1) (by omega) (by omega) (Kc 0 _ (Kv rfl rfl) <| Kc 1 _ (Kv rfl rfl) <| Kc 2 _ (Kv rfl rfl) <| Kc 3 _ (Kv rfl rfl) <| Kc 9 _ (Kv rfl rfl) <| Kc 10 _ (Kv rfl (by omega)) <| Kn)
  ·
    try simp only [decide_eq_true_eq, decide_eq_false_iff_not, Bool.not_eq_true', Bool.not_eq_false'] at hc1
    refine AW.exit ?_
    refine AX.exit_then ?_
    refine AX.exit_then ?_
    refine AX.exit_hit ?_
    refine AX.pr (Kc 1 (.cel _ _) rfl <| Kc 3 (.cel _ _) rfl <| Kc 9 (.cel _ _) rfl <| Kn) ?_
    refine AX.go ?_
    refine AW.seq ?_
    refine AW.region ?_
    refine AWl.st rfl (OpT.move (A := .cel _ _) (.inr rfl) rfl (okd rfl rfl) (I rfl) rfl) rfl ?_
    refine AWl.nil ?_
    refine AX.go ?_
    refine AW.seq ?_
    refine AW.seq ?_
    refine AW.region ?_
    refine AWl.st rfl (OpT.move (A := .cel _ _) (.inr rfl) rfl (okd rfl rfl) (I rfl) rfl) rfl ?_
    refine AWl.nil ?_
    refine AX.go ?_
    refine AW.block ?_
    obtain rfl : z = n.toNat := by omega
    have hp := miss_in (a := a) (b := b) (by omega) n.toNat
    refine AW.loop (fun z : Nat => (z : Int) ≤ b * m) (fun z : Nat => keep [(1, .cel (Kd.int .i64) b), (3, .cel (Kd.int .i64) m), (9, .cel (Kd.int .i64) (miss a b n.toNat)), (11, .cel (Kd.int .i64) (hitC (miss a b n.toNat) z)), (12, .cel (Kd.int .i64) (z : Int))]) (fun z : Nat => (b * m).toNat - z) (0) (by omega) (Kc 1 _ (Kv rfl rfl) <| Kc 3 _ (Kv rfl rfl) <| Kc 9 _ (Kv rfl rfl) <| Kc 11 _ (Kv rfl rfl) <| Kc 12 _ (Kv rfl rfl) <| Kn) ?_
    intro y hI
    have hm := hit_in hp y
    have hbd := hit_mul hp y
    have hq : 0 ≤ (hitC (miss a b n.toNat) y * (1000000000 - miss a b n.toNat)).tdiv 1000000000 ∧ (hitC (miss a b n.toNat) y * (1000000000 - miss a b n.toNat)).tdiv 1000000000 ≤ 1000000000 := hit_in hp (y + 1)
    refine AW.seq ?_
    refine AW.seq ?_
    refine AW.region ?_
    refine AWl.st rfl (OpT.move (A := .cel _ _) (.inl rfl) rfl (okd rfl rfl) (Tm rfl rfl rfl) rfl) rfl ?_
    refine AWl.st rfl (OpT.move (A := .cel _ _) (.inl rfl) rfl (okd rfl rfl) (Tm rfl rfl rfl) rfl) rfl ?_
    refine AWl.st rfl (OpT.move (A := .cel _ _) (.inl rfl) rfl (okd rfl rfl) (Tm rfl rfl rfl) rfl) rfl ?_
    refine AWl.st rfl (OpT.mul rfl rfl (okd rfl rfl) (Tm rfl rfl rfl) (Tm rfl rfl rfl) (nw (by omega))) rfl ?_
    refine AWl.st rfl (OpT.lss rfl rfl (okd rfl rfl) (Tm rfl rfl rfl) (Tm rfl rfl rfl)) rfl ?_
    refine AWl.nil ?_
    refine AX.go ?_
    refine AW.cond (t := 29) rfl (by decide) (fun hc2 => ?_) (fun hc2 => ?_)
    ·
      try simp only [decide_eq_true_eq, decide_eq_false_iff_not, Bool.not_eq_true', Bool.not_eq_false'] at hc2
      refine AW.skip ?_
      refine AX.go ?_
      refine AW.seq ?_
      refine AW.block ?_
      refine AW.region ?_
      refine AWl.st rfl (OpT.move (A := .cel _ _) (.inl rfl) rfl (okd rfl rfl) (Tm rfl rfl rfl) rfl) rfl ?_
      refine AWl.st rfl (OpT.move (A := .cel _ _) (.inl rfl) rfl (okd rfl rfl) (Tm rfl rfl rfl) rfl) rfl ?_
      refine AWl.st rfl (OpT.sub rfl rfl (okd rfl rfl) (I rfl) (Tm rfl rfl rfl) (nw (by omega))) rfl ?_
      refine AWl.st rfl (OpT.mul rfl rfl (okd rfl rfl) (Tm rfl rfl rfl) (Tm rfl rfl rfl) (nw (by omega))) rfl ?_
      refine AWl.st rfl (OpT.quo rfl rfl (okd rfl rfl) (Tm rfl rfl rfl) (I rfl) (by omega) (nw (by omega))) rfl ?_
      refine AWl.sg rfl (OpT.move (A := .cel _ _) (.inr rfl) rfl (okd rfl rfl) (Tm rfl rfl rfl) rfl) (Kc 11 (.cel _ _) rfl <| Kc 36 (.cel _ _) rfl <| Kc 35 (.cel _ _) rfl <| Kc 34 (.cel _ _) rfl <| Kc 33 (.cel _ _) rfl <| Kc 32 (.cel _ _) rfl <| Kc 29 (.cel _ _) rfl <| Kc 28 (.cel _ _) rfl <| Kc 27 (.cel _ _) rfl <| Kc 26 (.cel _ _) rfl <| Kc 25 (.cel _ _) rfl <| Kc 1 (.cel _ _) rfl <| Kc 3 (.cel _ _) rfl <| Kc 9 (.cel _ _) rfl <| Kc 12 (.cel _ _) rfl <| Kn) ?_
      refine AWl.nil ?_
      refine AX.normal_block ?_
      refine AX.go ?_
      refine AW.region ?_
      refine AWl.st rfl (OpT.move (A := .cel _ _) (.inl rfl) rfl (okd rfl rfl) (Tm rfl rfl rfl) rfl) rfl ?_
      refine AWl.st rfl (OpT.add rfl rfl (okd rfl rfl) (Tm rfl rfl rfl) (I rfl) (nw (by omega))) rfl ?_
      refine AWl.sg rfl (OpT.move (A := .cel _ _) (.inr rfl) rfl (okd rfl rfl) (Tm rfl rfl rfl) rfl) (Kc 12 (.cel _ _) rfl <| Kc 31 (.cel _ _) rfl <| Kc 30 (.cel _ _) rfl <| Kc 11 (.cel _ _) rfl <| Kc 36 (.cel _ _) rfl <| Kc 35 (.cel _ _) rfl <| Kc 34 (.cel _ _) rfl <| Kc 33 (.cel _ _) rfl <| Kc 32 (.cel _ _) rfl <| Kc 29 (.cel _ _) rfl <| Kc 28 (.cel _ _) rfl <| Kc 27 (.cel _ _) rfl <| Kc 26 (.cel _ _) rfl <| Kc 25 (.cel _ _) rfl <| Kc 1 (.cel _ _) rfl <| Kc 3 (.cel _ _) rfl <| Kc 9 (.cel _ _) rfl <| Kn) ?_
      refine AWl.nil ?_
      exact AX.again (y + 1) (by omega) (by omega) (Kc 1 _ (Kv rfl rfl) <| Kc 3 _ (Kv rfl rfl) <| Kc 9 _ (Kv rfl rfl) <| Kc 11 _ (Kv rfl rfl) <| Kc 12 _ (Kv rfl (by omega)) <| Kn)
    ·
      try simp only [decide_eq_true_eq, decide_eq_false_iff_not, Bool.not_eq_true', Bool.not_eq_false'] at hc2
      refine AW.exit ?_
      refine AX.exit_then ?_
      refine AX.exit_then ?_
      refine AX.exit_hit ?_
      refine AX.pr (Kc 11 (.cel _ _) rfl <| Kn) ?_
      refine AX.go ?_
      refine AW.seq ?_
      refine AW.region ?_
      refine AWl.st rfl (OpT.move (A := .cel _ _) (.inl rfl) rfl (okd rfl rfl) (Tm rfl rfl rfl) rfl) rfl ?_
      refine AWl.st rfl (OpT.move (A := .cel _ _) (.inr rfl) rfl (okd rfl rfl) (Tm rfl rfl rfl) rfl) rfl ?_
      refine AWl.nil ?_
      refine AX.pr (Kc 8 (.cel _ _) rfl <| Kn) ?_
      refine AX.go ?_
      refine AW.ret ?_
      obtain rfl : y = (b * m).toNat := by omega
      exact AX.rt (rs := [.tmp 8]) (ts := [some 8]) (.inl rfl) rfl (ROs.cons (RO.tmp (At.self (by decide)) (Kv rfl rfl) rfl) <| ROs.nil) (by decide) OutsOK.nil

/-- impl.falseChance -/
theorem c_impl_falseChance (a b n m : Int) (h : 0 < a ∧ a ≤ 96 ∧ 0 ≤ b ∧ b ≤ a ∧ 0 ≤ n ∧ n ≤ 100 ∧ 0 ≤ m ∧ m ≤ 12) : AC Tryd.prog 106 [.cel (Kd.int .i64) a, .cel (Kd.int .i64) b, .cel (Kd.int .i64) n, .cel (Kd.int .i64) m] [.cel (Kd.int .i64) (chance a b n m)] [] := by
  refine ⟨ACall.intro (N := 34) Tryd.func106 (c := _) (rfl : Func.body _ = some _) rfl (Nat.le_of_ble_eq_true rfl) (Nat.le_of_ble_eq_true rfl) rfl (Nat.le_of_ble_eq_true rfl) fun w0 hd s0 ar har => ?_, _, Tryd.func106, rfl, by decide⟩
  refine AW.to (Kc 0 (.cel _ _) rfl <| Kc 1 (.cel _ _) rfl <| Kc 2 (.cel _ _) rfl <| Kc 3 (.cel _ _) rfl <| Kn) ?_
  have hbm := bm_in (b := b) (m := m) (by omega)
  refine AW.seq ?_
  refine AW.region ?_
  refine AWl.st rfl (OpT.move (A := .cel _ _) (.inr rfl) rfl (okd rfl rfl) (I rfl) rfl) rfl ?_
  refine AWl.nil ?_
  refine AX.go ?_
  refine AW.seq ?_
  refine AW.region ?_
  refine AWl.st rfl (OpT.move (A := .cel _ _) (.inr rfl) rfl (okd rfl rfl) (I rfl) rfl) rfl ?_
  refine AWl.nil ?_
  refine AX.go ?_
  refine AW.seq ?_
  refine AW.seq ?_
  refine AW.region ?_
  refine AWl.st rfl (OpT.move (A := .cel _ _) (.inl rfl) rfl (okd rfl rfl) (Tm rfl rfl rfl) rfl) rfl ?_
  refine AWl.st rfl (OpT.move (A := .cel _ _) (.inl rfl) rfl (okd rfl rfl) (I rfl) rfl) rfl ?_
  refine AWl.nil ?_
  refine AX.pr (Kc 12 (.cel _ _) rfl <| Kc 11 (.cel _ _) rfl <| Kc 9 (.cel _ _) rfl <| Kc 8 (.cel _ _) rfl <| Kc 0 (.cel _ _) rfl <| Kc 1 (.cel _ _) rfl <| Kc 3 (.cel _ _) rfl <| Kn) ?_
  refine AX.go ?_
  refine AW.block ?_
  refine AW.loop (fun z : Nat => (z : Int) ≤ n) (fun z : Nat => keep [(0, .cel (Kd.int .i64) a), (1, .cel (Kd.int .i64) b), (3, .cel (Kd.int .i64) m), (11, .cel (Kd.int .i64) n), (9, .cel (Kd.int .i64) (miss a b z)), (12, .cel (Kd.int .i64) (z : Int))]) (fun z : Nat => n.toNat - z) (0) (by omega) (Kc 0 _ (Kv rfl rfl) <| Kc 1 _ (Kv rfl rfl) <| Kc 3 _ (Kv rfl rfl) <| Kc 11 _ (Kv rfl rfl) <| Kc 9 _ (Kv rfl rfl) <| Kc 12 _ (Kv rfl rfl) <| Kn) ?_
  intro z hI
  have hm := miss_in (a := a) (b := b) (by omega) z
  have hbd := miss_mul (a := a) (b := b) (by omega) z
  have hq : 0 ≤ (miss a b z * (a - b)).tdiv a ∧ (miss a b z * (a - b)).tdiv a ≤ 1000000000 := miss_in (by omega) (z + 1)
  refine AW.seq ?_
  refine AW.region ?_
  refine AWl.st rfl (OpT.lss rfl rfl (okd rfl rfl) (Tm rfl rfl rfl) (Tm rfl rfl rfl)) rfl ?_
  refine AWl.nil ?_
  refine AX.go ?_
  refine AW.seq ?_
  refine AW.cond (t := 13) rfl (by decide) (fun hc1 => ?_) (fun hc1 => ?_)
  ·
    try simp only [decide_eq_true_eq, decide_eq_false_iff_not, Bool.not_eq_true', Bool.not_eq_false'] at hc1
    refine AW.skip ?_
    refine AX.go ?_
    refine AW.seq ?_
    refine AW.block ?_
    refine AW.region ?_
    refine AWl.st rfl (OpT.move (A := .cel _ _) (.inl rfl) rfl (okd rfl rfl) (Tm rfl rfl rfl) rfl) rfl ?_
    refine AWl.st rfl (OpT.move (A := .cel _ _) (.inl rfl) rfl (okd rfl rfl) (Tm rfl rfl rfl) rfl) rfl ?_
    refine AWl.st rfl (OpT.move (A := .cel _ _) (.inl rfl) rfl (okd rfl rfl) (Tm rfl rfl rfl) rfl) rfl ?_
    refine AWl.st rfl (OpT.sub rfl rfl (okd rfl rfl) (Tm rfl rfl rfl) (Tm rfl rfl rfl) (nw (by omega))) rfl ?_
    refine AWl.st rfl (OpT.mul rfl rfl (okd rfl rfl) (Tm rfl rfl rfl) (Tm rfl rfl rfl) (nw (by omega))) rfl ?_
    refine AWl.st rfl (OpT.move (A := .cel _ _) (.inl rfl) rfl (okd rfl rfl) (Tm rfl rfl rfl) rfl) rfl ?_
    refine AWl.st rfl (OpT.quo rfl rfl (okd rfl rfl) (Tm rfl rfl rfl) (Tm rfl rfl rfl) (by omega) (nw (by omega))) rfl ?_
    refine AWl.sg rfl (OpT.move (A := .cel _ _) (.inr rfl) rfl (okd rfl rfl) (Tm rfl rfl rfl) rfl) (Kc 9 (.cel _ _) rfl <| Kc 20 (.cel _ _) rfl <| Kc 19 (.cel _ _) rfl <| Kc 18 (.cel _ _) rfl <| Kc 17 (.cel _ _) rfl <| Kc 16 (.cel _ _) rfl <| Kc 15 (.cel _ _) rfl <| Kc 14 (.cel _ _) rfl <| Kc 13 (.cel _ _) rfl <| Kc 0 (.cel _ _) rfl <| Kc 1 (.cel _ _) rfl <| Kc 3 (.cel _ _) rfl <| Kc 11 (.cel _ _) rfl <| Kc 12 (.cel _ _) rfl <| Kn) ?_
    refine AWl.nil ?_
    refine AX.normal_block ?_
    refine AX.go ?_
    refine AW.region ?_
    refine AWl.st rfl (OpT.add rfl rfl (okd rfl rfl) (Tm rfl rfl rfl) (I rfl) (nw (by omega))) rfl ?_
    refine AWl.sg rfl (OpT.move (A := .cel _ _) (.inl rfl) rfl (okd rfl rfl) (Tm rfl rfl rfl) rfl) (Kc 12 (.cel _ _) rfl <| Kc 21 (.cel _ _) rfl <| Kc 9 (.cel _ _) rfl <| Kc 20 (.cel _ _) rfl <| Kc 19 (.cel _ _) rfl <| Kc 18 (.cel _ _) rfl <| Kc 17 (.cel _ _) rfl <| Kc 16 (.cel _ _) rfl <| Kc 15 (.cel _ _) rfl <| Kc 14 (.cel _ _) rfl <| Kc 13 (.cel _ _) rfl <| Kc 0 (.cel _ _) rfl <| Kc 1 (.cel _ _) rfl <| Kc 3 (.cel _ _) rfl <| Kc 11 (.cel _ _) rfl <| Kn) ?_
    refine AWl.nil ?_
    exact AX.again (z + 1) (by omega) (by omega) (Kc 0 _ (Kv rfl rfl) <| Kc 1 _ (Kv rfl rfl) <| Kc 3 _ (Kv rfl rfl) <| Kc 11 _ (Kv rfl rfl) <| Kc 9 _ (Kv rfl rfl) <| Kc 12 _ (Kv rfl (by omega)) <| Kn)
  ·
    try simp only [decide_eq_true_eq, decide_eq_false_iff_not, Bool.not_eq_true', Bool.not_eq_false'] at hc1
    refine AW.exit ?_
    refine AX.exit_then ?_
    refine AX.exit_then ?_
    refine AX.exit_hit ?_
    refine AX.pr (Kc 1 (.cel _ _) rfl <| Kc 3 (.cel _ _) rfl <| Kc 9 (.cel _ _) rfl <| Kn) ?_
    refine AX.go ?_
    refine AW.seq ?_
    refine AW.region ?_
    refine AWl.st rfl (OpT.move (A := .cel _ _) (.inr rfl) rfl (okd rfl rfl) (I rfl) rfl) rfl ?_
    refine AWl.nil ?_
    refine AX.go ?_
    refine AW.seq ?_
    refine AW.seq ?_
    refine AW.region ?_
    refine AWl.st rfl (OpT.move (A := .cel _ _) (.inl rfl) rfl (okd rfl rfl) (Tm rfl rfl rfl) rfl) rfl ?_
    refine AWl.st rfl (OpT.move (A := .cel _ _) (.inl rfl) rfl (okd rfl rfl) (Tm rfl rfl rfl) rfl) rfl ?_
    refine AWl.st rfl (OpT.mul rfl rfl (okd rfl rfl) (Tm rfl rfl rfl) (Tm rfl rfl rfl) (nw (by omega))) rfl ?_
    refine AWl.st rfl (OpT.move (A := .cel _ _) (.inl rfl) rfl (okd rfl rfl) (I rfl) rfl) rfl ?_
    refine AWl.nil ?_
    refine AX.pr (Kc 25 (.cel _ _) rfl <| Kc 24 (.cel _ _) rfl <| Kc 10 (.cel _ _) rfl <| Kc 9 (.cel _ _) rfl <| Kn) ?_
    refine AX.go ?_
    refine AW.block ?_
    obtain rfl : z = n.toNat := by omega
    have hp := miss_in (a := a) (b := b) (by omega) n.toNat
    refine AW.loop (fun z : Nat => (z : Int) ≤ b * m) (fun z : Nat => keep [(24, .cel (Kd.int .i64) (b * m)), (9, .cel (Kd.int .i64) (miss a b n.toNat)), (10, .cel (Kd.int .i64) (hitC (miss a b n.toNat) z)), (25, .cel (Kd.int .i64) (z : Int))]) (fun z : Nat => (b * m).toNat - z) (0) (by omega) (Kc 24 _ (Kv rfl rfl) <| Kc 9 _ (Kv rfl rfl) <| Kc 10 _ (Kv rfl rfl) <| Kc 25 _ (Kv rfl rfl) <| Kn) ?_
    intro y hI
    have hm := hit_in hp y
    have hbd := hit_mul hp y
    have hq : 0 ≤ (hitC (miss a b n.toNat) y * (1000000000 - miss a b n.toNat)).tdiv 1000000000 ∧ (hitC (miss a b n.toNat) y * (1000000000 - miss a b n.toNat)).tdiv 1000000000 ≤ 1000000000 := hit_in hp (y + 1)
    refine AW.seq ?_
    refine AW.region ?_
    refine AWl.st rfl (OpT.lss rfl rfl (okd rfl rfl) (Tm rfl rfl rfl) (Tm rfl rfl rfl)) rfl ?_
    refine AWl.nil ?_
    refine AX.go ?_
    refine AW.seq ?_
    refine AW.cond (t := 26) rfl (by decide) (fun hc2 => ?_) (fun hc2 => ?_)
    ·
      try simp only [decide_eq_true_eq, decide_eq_false_iff_not, Bool.not_eq_true', Bool.not_eq_false'] at hc2
      refine AW.skip ?_
      refine AX.go ?_
      refine AW.seq ?_
      refine AW.block ?_
      refine AW.region ?_
      refine AWl.st rfl (OpT.move (A := .cel _ _) (.inl rfl) rfl (okd rfl rfl) (Tm rfl rfl rfl) rfl) rfl ?_
      refine AWl.st rfl (OpT.move (A := .cel _ _) (.inl rfl) rfl (okd rfl rfl) (Tm rfl rfl rfl) rfl) rfl ?_
      refine AWl.st rfl (OpT.sub rfl rfl (okd rfl rfl) (I rfl) (Tm rfl rfl rfl) (nw (by omega))) rfl ?_
      refine AWl.st rfl (OpT.mul rfl rfl (okd rfl rfl) (Tm rfl rfl rfl) (Tm rfl rfl rfl) (nw (by omega))) rfl ?_
      refine AWl.st rfl (OpT.quo rfl rfl (okd rfl rfl) (Tm rfl rfl rfl) (I rfl) (by omega) (nw (by omega))) rfl ?_
      refine AWl.sg rfl (OpT.move (A := .cel _ _) (.inr rfl) rfl (okd rfl rfl) (Tm rfl rfl rfl) rfl) (Kc 10 (.cel _ _) rfl <| Kc 31 (.cel _ _) rfl <| Kc 30 (.cel _ _) rfl <| Kc 29 (.cel _ _) rfl <| Kc 28 (.cel _ _) rfl <| Kc 27 (.cel _ _) rfl <| Kc 26 (.cel _ _) rfl <| Kc 24 (.cel _ _) rfl <| Kc 9 (.cel _ _) rfl <| Kc 25 (.cel _ _) rfl <| Kn) ?_
      refine AWl.nil ?_
      refine AX.normal_block ?_
      refine AX.go ?_
      refine AW.region ?_
      refine AWl.st rfl (OpT.add rfl rfl (okd rfl rfl) (Tm rfl rfl rfl) (I rfl) (nw (by omega))) rfl ?_
      refine AWl.sg rfl (OpT.move (A := .cel _ _) (.inl rfl) rfl (okd rfl rfl) (Tm rfl rfl rfl) rfl) (Kc 25 (.cel _ _) rfl <| Kc 32 (.cel _ _) rfl <| Kc 10 (.cel _ _) rfl <| Kc 31 (.cel _ _) rfl <| Kc 30 (.cel _ _) rfl <| Kc 29 (.cel _ _) rfl <| Kc 28 (.cel _ _) rfl <| Kc 27 (.cel _ _) rfl <| Kc 26 (.cel _ _) rfl <| Kc 24 (.cel _ _) rfl <| Kc 9 (.cel _ _) rfl <| Kn) ?_
      refine AWl.nil ?_
      exact AX.again (y + 1) (by omega) (by omega) (Kc 24 _ (Kv rfl rfl) <| Kc 9 _ (Kv rfl rfl) <| Kc 10 _ (Kv rfl rfl) <| Kc 25 _ (Kv rfl (by omega)) <| Kn)
    ·
      try simp only [decide_eq_true_eq, decide_eq_false_iff_not, Bool.not_eq_true', Bool.not_eq_false'] at hc2
      refine AW.exit ?_
      refine AX.exit_then ?_
      refine AX.exit_then ?_
      refine AX.exit_hit ?_
      refine AX.pr (Kc 10 (.cel _ _) rfl <| Kn) ?_
      refine AX.go ?_
      refine AW.seq ?_
      refine AW.region ?_
      refine AWl.st rfl (OpT.move (A := .cel _ _) (.inl rfl) rfl (okd rfl rfl) (Tm rfl rfl rfl) rfl) rfl ?_
      refine AWl.st rfl (OpT.move (A := .cel _ _) (.inr rfl) rfl (okd rfl rfl) (Tm rfl rfl rfl) rfl) rfl ?_
      refine AWl.nil ?_
      refine AX.pr (Kc 8 (.cel _ _) rfl <| Kn) ?_
      refine AX.go ?_
      refine AW.ret ?_
      obtain rfl : y = (b * m).toNat := by omega
      exact AX.rt (rs := [.tmp 8]) (ts := [some 8]) (.inl rfl) rfl (ROs.cons (RO.tmp (At.self (by decide)) (Kv rfl rfl) rfl) <| ROs.nil) (by decide) OutsOK.nil
end Go.Proofs.YtcaeabgfgofefaaDoor.VL
