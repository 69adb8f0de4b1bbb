/- Proved here: what some functions of the program take and give: walks with the words of VA..VQ. Printed by program. -/
import Derived.Test.YtohcpnobmknglaaGreatDoorWT
set_option linter.unusedVariables false
set_option linter.unusedSimpArgs false
set_option maxRecDepth 4000
namespace Go.Proofs.YtohcpnobmknglaaGreatDoor.VL
open Go
/-- spec.l00In -/
theorem c_spec_l00In (x lo hi : Int) : AC Tryz.prog 71 [.cel (Kd.int .i64) x, .cel (Kd.int .i64) lo, .cel (Kd.int .i64) hi] [.cel Kd.bool (inb x lo hi)] [] := by
 refine acI (N := 15) Tryz.func71 (Nat.le_of_ble_eq_true rfl) rfl fun w0 hd s0 ar => ?_
 refine AW.to (kc3 0 1 2 rfl <| Kn) ?_
 refine sr ?_
 refine st (asB rfl) rfl ?_
 refine ng ?_
 refine sr ?_
 refine st (mvT rfl) rfl ?_
 refine st (mvT rfl) rfl ?_
 refine st (OpT.geq (H rfl) (T1 rfl) (T1 rfl)) rfl ?_
 refine st (mvT rfl) rfl ?_
 apply AWl.and (d := 14) (t := 10) rfl
 ·
  intro hb1 Q1 k1
  refine rs hb1 (mvT rfl) rfl ?_
  refine rs hb1 (mvT rfl) rfl ?_
  refine rs hb1 (OpT.leq (H rfl) (T1 rfl) (T1 rfl)) rfl ?_
  refine st (OpT.pickT (A := .cel _ _) (H rfl) (T1 rfl) hb1 (T1 rfl) rfl) rfl ?_
  exact AWl.to (junk 3 rfl) k1
 ·
  intro hb1 Q1 k1
  refine ps hb1 rfl ?_
  refine ps hb1 rfl ?_
  refine ps hb1 rfl ?_
  refine st (OpT.pickF (A := .cel _ _) (H rfl) (T1 rfl) hb1 Opd.bool rfl) rfl ?_
  exact k1
 refine st (asT rfl) rfl ?_
 refine ng ?_
 refine AW.ret ?_
 exact rt1 rfl (.inl rfl) rfl

/-- spec.l00Max -/
theorem c_spec_l00Max (x y : Int) : AC Tryz.prog 73 [.cel (Kd.int .i64) x, .cel (Kd.int .i64) y] [.cel (Kd.int .i64) (max x y)] [] := by
 refine acI (N := 10) Tryz.func73 (Nat.le_of_ble_eq_true rfl) rfl fun w0 hd s0 ar => ?_
 refine AW.to (kc2 0 1 rfl <| Kn) ?_
 refine sr ?_
 refine st (asI rfl) rfl ?_
 refine ng ?_
 refine AW.seq ?_
 refine sr ?_
 refine st (mvT rfl) rfl ?_
 refine st (mvT rfl) rfl ?_
 refine st (OpT.gtr (H rfl) (T1 rfl) (T1 rfl)) rfl ?_
 refine ng ?_
 refine cd rfl (fun hc1 => ?_) fun hc1 => ?_
 ·
  replace hc1 := oT hc1
  refine sr ?_
  refine st (mvT rfl) rfl ?_
  refine st (asT rfl) rfl ?_
  refine ng ?_
  refine AW.ret ?_
  refine rT ?_
  exact rt1 rfl (.inl rfl) (by simp_all; omega)
 ·
  replace hc1 := oF hc1
  refine AW.skip ?_
  refine AX.go ?_
  refine sr ?_
  refine st (mvT rfl) rfl ?_
  refine st (asT rfl) rfl ?_
  refine ng ?_
  refine AW.ret ?_
  exact rt1 rfl (.inl rfl) (by simp_all; omega)

set_option maxHeartbeats 4000000 in
/-- spec.l03Ok -/
theorem c_spec_l03Ok (x : Int × Int × Int) : AC Tryz.prog 70 [.cel (Kd.ptr kMix) x] [.cel Kd.bool (mixS x)] [] := by
 refine acI (N := 43) Tryz.func70 (Nat.le_of_ble_eq_true rfl) rfl fun w0 hd s0 ar => ?_
 refine AW.to (kc 0 rfl <| Kn) ?_
 refine AW.fact (fun a w hr => okMix (ok_ptr (R_ok (t := 0) rfl hr))) (fun hx => ?_)
 refine sr ?_
 refine st (asB rfl) rfl ?_
 refine ng ?_
 refine AW.seq ?_
 rcases Bool.eq_false_or_eq_true (inb x.2.1 (4 : Int) (96 : Int)) with hd1 | hd1
 ·
  rcases Bool.eq_false_or_eq_true (inb x.2.2 (1 : Int) (8 : Int)) with hd2 | hd2
  ·
   rcases Bool.eq_false_or_eq_true (decide ((IntKind.i16.wrap ((2 : Int) * x.2.2)) ≤ x.2.1)) with hd3 | hd3
   ·
    refine dh fomo ?_
    refine d1 [0] (fun ve h => OpT.move (A := .cel _ _) (.inl rfl) rfl (ok' rfl) (D1 h rfl) rfl) rfl ?_
    refine d1 [3] (fun ve h => OpT.nilCheck (H rfl) (D1 h rfl)) rfl ?_
    refine d1 [4] (fun ve h => OpT.fieldAddr (H rfl) (D1 h rfl) fd47_1 sz45 (by decide) sb47_1) rfl ?_
    refine d1 [5] (fun ve h => OpT.load (H rfl) (D1 h rfl) ag45 rfl) rfl ?_
    refine d1 [6] (fun ve h => OpT.conv (H rfl) us45 Tryz.underlying2 (D1 h rfl) (nw (by omega))) rfl ?_
    refine d1 [7] (fun ve h => OpT.c1 (ms := [.flat, .flat, .flat]) (c_spec_l00In _ _ _) (H rfl) (Af (D1 h rfl) rfl rfl <| Af (I rfl) rfl rfl <| Af (I rfl) rfl rfl <| An) rfl rfl) rfl ?_
    refine d1 [8] (fun ve h => OpT.move (A := .cel _ _) (.inl rfl) rfl (ok' rfl) (D1 h rfl) rfl) rfl ?_
    refine dr [0, 9] hd1 (fun ve h => OpT.move (A := .cel _ _) (.inl rfl) rfl (ok' rfl) (D1 h rfl) rfl) rfl ?_
    refine dr [9, 10] hd1 (fun ve h => OpT.nilCheck (H rfl) (D1 h rfl)) rfl ?_
    refine dr [9, 11] hd1 (fun ve h => OpT.fieldAddr (H rfl) (D1 h rfl) fd47_2 sz45 (by decide) sb47_2) rfl ?_
    refine dr [9, 12] hd1 (fun ve h => OpT.load (H rfl) (D1 h rfl) ag45 rfl) rfl ?_
    refine dr [9, 13] hd1 (fun ve h => OpT.conv (H rfl) us45 Tryz.underlying2 (D1 h rfl) (nw (by omega))) rfl ?_
    refine dr [9, 14] hd1 (fun ve h => OpT.c1 (ms := [.flat, .flat, .flat]) (c_spec_l00In _ _ _) (H rfl) (Af (D1 h rfl) rfl rfl <| Af (I rfl) rfl rfl <| Af (I rfl) rfl rfl <| An) rfl rfl) rfl ?_
    refine d1 [9, 15] (fun ve h => OpT.pickT (A := .cel _ _) (H rfl) (D1 h rfl) hd1 (D1 h rfl) rfl) rfl ?_
    refine d1 [16] (fun ve h => OpT.move (A := .cel _ _) (.inl rfl) rfl (ok' rfl) (D1 h rfl) rfl) rfl ?_
    refine dr [0, 17] hd2 (fun ve h => OpT.move (A := .cel _ _) (.inl rfl) rfl (ok' rfl) (D1 h rfl) rfl) rfl ?_
    refine dr [17, 18] hd2 (fun ve h => OpT.nilCheck (H rfl) (D1 h rfl)) rfl ?_
    refine dr [17, 19] hd2 (fun ve h => OpT.fieldAddr (H rfl) (D1 h rfl) fd47_2 sz45 (by decide) sb47_2) rfl ?_
    refine dr [17, 20] hd2 (fun ve h => OpT.load (H rfl) (D1 h rfl) ag45 rfl) rfl ?_
    refine dr [17, 21] hd2 (fun ve h => OpT.mul (H rfl) (I rfl) (D1 h rfl) rfl) rfl ?_
    refine dr [0, 17] hd2 (fun ve h => OpT.move (A := .cel _ _) (.inl rfl) rfl (ok' rfl) (D1 h rfl) rfl) rfl ?_
    refine dr [17, 23] hd2 (fun ve h => OpT.nilCheck (H rfl) (D1 h rfl)) rfl ?_
    refine dr [17, 24] hd2 (fun ve h => OpT.fieldAddr (H rfl) (D1 h rfl) fd47_1 sz45 (by decide) sb47_1) rfl ?_
    refine dr [17, 25] hd2 (fun ve h => OpT.load (H rfl) (D1 h rfl) ag45 rfl) rfl ?_
    refine dr [17, 22, 26] hd2 (fun ve h => OpT.leq (H rfl) (D1 h rfl) (D1 h rfl)) rfl ?_
    refine d1 [17, 27] (fun ve h => OpT.pickT (A := .cel _ _) (H rfl) (D1 h rfl) hd2 (D1 h rfl) rfl) rfl ?_
    refine d1 [28] (fun ve h => OpT.move (A := .cel _ _) (.inl rfl) rfl (ok' rfl) (D1 h rfl) rfl) rfl ?_
    refine dr [0, 29] hd3 (fun ve h => OpT.move (A := .cel _ _) (.inl rfl) rfl (ok' rfl) (D1 h rfl) rfl) rfl ?_
    refine dr [29, 30] hd3 (fun ve h => OpT.nilCheck (H rfl) (D1 h rfl)) rfl ?_
    refine dr [29, 31] hd3 (fun ve h => OpT.fieldAddr (H rfl) (D1 h rfl) fd47_0 sz45 (by decide) sb47_0) rfl ?_
    refine dr [29, 32] hd3 (fun ve h => OpT.load (H rfl) (D1 h rfl) ag45 rfl) rfl ?_
    refine dr [29, 33] hd3 (fun ve h => OpT.conv (H rfl) us45 Tryz.underlying2 (D1 h rfl) (nw (by omega))) rfl ?_
    refine dr [0, 29] hd3 (fun ve h => OpT.move (A := .cel _ _) (.inl rfl) rfl (ok' rfl) (D1 h rfl) rfl) rfl ?_
    refine dr [29, 35] hd3 (fun ve h => OpT.nilCheck (H rfl) (D1 h rfl)) rfl ?_
    refine dr [29, 36] hd3 (fun ve h => OpT.fieldAddr (H rfl) (D1 h rfl) fd47_1 sz45 (by decide) sb47_1) rfl ?_
    refine dr [29, 37] hd3 (fun ve h => OpT.load (H rfl) (D1 h rfl) ag45 rfl) rfl ?_
    refine dr [29, 38] hd3 (fun ve h => OpT.conv (H rfl) us45 Tryz.underlying2 (D1 h rfl) (nw (by omega))) rfl ?_
    refine dr [29, 39] hd3 (fun ve h => OpT.sub (H rfl) (I rfl) (D1 h rfl) (nw (by omega))) rfl ?_
    refine dr [29, 34, 40] hd3 (fun ve h => OpT.c1 (ms := [.flat, .flat, .flat]) (c_spec_l00In _ _ _) (H rfl) (Af (D1 h rfl) rfl rfl <| Af (I rfl) rfl rfl <| Af (D1 h rfl) rfl rfl <| An) rfl rfl) rfl ?_
    refine d1 [29, 41] (fun ve h => OpT.pickT (A := .cel _ _) (H rfl) (D1 h rfl) hd3 (D1 h rfl) rfl) rfl ?_
    refine d1 [42] (fun ve h => OpT.move (A := .cel _ _) (.inr rfl) rfl (ok' rfl) (D1 h rfl) rfl) rfl ?_
    refine dn ⟨by kernel_rfl, by kernel_rfl, ?_⟩
    refine AX.pr (kc 2 rfl <| Kn) ?_
    refine AX.go ?_
    refine AW.ret ?_
    exact rt1 rfl (.inl rfl) (by simp only [mixS, *, Bool.false_and, Bool.true_and, Bool.and_false])
   ·
    refine dh fomo ?_
    refine d1 [0] (fun ve h => OpT.move (A := .cel _ _) (.inl rfl) rfl (ok' rfl) (D1 h rfl) rfl) rfl ?_
    refine d1 [3] (fun ve h => OpT.nilCheck (H rfl) (D1 h rfl)) rfl ?_
    refine d1 [4] (fun ve h => OpT.fieldAddr (H rfl) (D1 h rfl) fd47_1 sz45 (by decide) sb47_1) rfl ?_
    refine d1 [5] (fun ve h => OpT.load (H rfl) (D1 h rfl) ag45 rfl) rfl ?_
    refine d1 [6] (fun ve h => OpT.conv (H rfl) us45 Tryz.underlying2 (D1 h rfl) (nw (by omega))) rfl ?_
    refine d1 [7] (fun ve h => OpT.c1 (ms := [.flat, .flat, .flat]) (c_spec_l00In _ _ _) (H rfl) (Af (D1 h rfl) rfl rfl <| Af (I rfl) rfl rfl <| Af (I rfl) rfl rfl <| An) rfl rfl) rfl ?_
    refine d1 [8] (fun ve h => OpT.move (A := .cel _ _) (.inl rfl) rfl (ok' rfl) (D1 h rfl) rfl) rfl ?_
    refine dr [0, 9] hd1 (fun ve h => OpT.move (A := .cel _ _) (.inl rfl) rfl (ok' rfl) (D1 h rfl) rfl) rfl ?_
    refine dr [9, 10] hd1 (fun ve h => OpT.nilCheck (H rfl) (D1 h rfl)) rfl ?_
    refine dr [9, 11] hd1 (fun ve h => OpT.fieldAddr (H rfl) (D1 h rfl) fd47_2 sz45 (by decide) sb47_2) rfl ?_
    refine dr [9, 12] hd1 (fun ve h => OpT.load (H rfl) (D1 h rfl) ag45 rfl) rfl ?_
    refine dr [9, 13] hd1 (fun ve h => OpT.conv (H rfl) us45 Tryz.underlying2 (D1 h rfl) (nw (by omega))) rfl ?_
    refine dr [9, 14] hd1 (fun ve h => OpT.c1 (ms := [.flat, .flat, .flat]) (c_spec_l00In _ _ _) (H rfl) (Af (D1 h rfl) rfl rfl <| Af (I rfl) rfl rfl <| Af (I rfl) rfl rfl <| An) rfl rfl) rfl ?_
    refine d1 [9, 15] (fun ve h => OpT.pickT (A := .cel _ _) (H rfl) (D1 h rfl) hd1 (D1 h rfl) rfl) rfl ?_
    refine d1 [16] (fun ve h => OpT.move (A := .cel _ _) (.inl rfl) rfl (ok' rfl) (D1 h rfl) rfl) rfl ?_
    refine dr [0, 17] hd2 (fun ve h => OpT.move (A := .cel _ _) (.inl rfl) rfl (ok' rfl) (D1 h rfl) rfl) rfl ?_
    refine dr [17, 18] hd2 (fun ve h => OpT.nilCheck (H rfl) (D1 h rfl)) rfl ?_
    refine dr [17, 19] hd2 (fun ve h => OpT.fieldAddr (H rfl) (D1 h rfl) fd47_2 sz45 (by decide) sb47_2) rfl ?_
    refine dr [17, 20] hd2 (fun ve h => OpT.load (H rfl) (D1 h rfl) ag45 rfl) rfl ?_
    refine dr [17, 21] hd2 (fun ve h => OpT.mul (H rfl) (I rfl) (D1 h rfl) rfl) rfl ?_
    refine dr [0, 17] hd2 (fun ve h => OpT.move (A := .cel _ _) (.inl rfl) rfl (ok' rfl) (D1 h rfl) rfl) rfl ?_
    refine dr [17, 23] hd2 (fun ve h => OpT.nilCheck (H rfl) (D1 h rfl)) rfl ?_
    refine dr [17, 24] hd2 (fun ve h => OpT.fieldAddr (H rfl) (D1 h rfl) fd47_1 sz45 (by decide) sb47_1) rfl ?_
    refine dr [17, 25] hd2 (fun ve h => OpT.load (H rfl) (D1 h rfl) ag45 rfl) rfl ?_
    refine dr [17, 22, 26] hd2 (fun ve h => OpT.leq (H rfl) (D1 h rfl) (D1 h rfl)) rfl ?_
    refine d1 [17, 27] (fun ve h => OpT.pickT (A := .cel _ _) (H rfl) (D1 h rfl) hd2 (D1 h rfl) rfl) rfl ?_
    refine d1 [28] (fun ve h => OpT.move (A := .cel _ _) (.inl rfl) rfl (ok' rfl) (D1 h rfl) rfl) rfl ?_
    refine dp hd3 rfl ?_
    refine dp hd3 rfl ?_
    refine dp hd3 rfl ?_
    refine dp hd3 rfl ?_
    refine dp hd3 rfl ?_
    refine dp hd3 rfl ?_
    refine dp hd3 rfl ?_
    refine dp hd3 rfl ?_
    refine dp hd3 rfl ?_
    refine dp hd3 rfl ?_
    refine dp hd3 rfl ?_
    refine dp hd3 rfl ?_
    refine d1 [29] (fun ve h => OpT.pickF (A := .cel _ _) (H rfl) (D1 h rfl) hd3 Opd.bool rfl) rfl ?_
    refine d1 [42] (fun ve h => OpT.move (A := .cel _ _) (.inr rfl) rfl (ok' rfl) (D1 h rfl) rfl) rfl ?_
    refine dn ⟨by kernel_rfl, by kernel_rfl, ?_⟩
    refine AX.pr (kc 2 rfl <| Kn) ?_
    refine AX.go ?_
    refine AW.ret ?_
    exact rt1 rfl (.inl rfl) (by simp only [mixS, *, Bool.false_and, Bool.true_and, Bool.and_false])
  ·
   refine dh fomo ?_
   refine d1 [0] (fun ve h => OpT.move (A := .cel _ _) (.inl rfl) rfl (ok' rfl) (D1 h rfl) rfl) rfl ?_
   refine d1 [3] (fun ve h => OpT.nilCheck (H rfl) (D1 h rfl)) rfl ?_
   refine d1 [4] (fun ve h => OpT.fieldAddr (H rfl) (D1 h rfl) fd47_1 sz45 (by decide) sb47_1) rfl ?_
   refine d1 [5] (fun ve h => OpT.load (H rfl) (D1 h rfl) ag45 rfl) rfl ?_
   refine d1 [6] (fun ve h => OpT.conv (H rfl) us45 Tryz.underlying2 (D1 h rfl) (nw (by omega))) rfl ?_
   refine d1 [7] (fun ve h => OpT.c1 (ms := [.flat, .flat, .flat]) (c_spec_l00In _ _ _) (H rfl) (Af (D1 h rfl) rfl rfl <| Af (I rfl) rfl rfl <| Af (I rfl) rfl rfl <| An) rfl rfl) rfl ?_
   refine d1 [8] (fun ve h => OpT.move (A := .cel _ _) (.inl rfl) rfl (ok' rfl) (D1 h rfl) rfl) rfl ?_
   refine dr [0, 9] hd1 (fun ve h => OpT.move (A := .cel _ _) (.inl rfl) rfl (ok' rfl) (D1 h rfl) rfl) rfl ?_
   refine dr [9, 10] hd1 (fun ve h => OpT.nilCheck (H rfl) (D1 h rfl)) rfl ?_
   refine dr [9, 11] hd1 (fun ve h => OpT.fieldAddr (H rfl) (D1 h rfl) fd47_2 sz45 (by decide) sb47_2) rfl ?_
   refine dr [9, 12] hd1 (fun ve h => OpT.load (H rfl) (D1 h rfl) ag45 rfl) rfl ?_
   refine dr [9, 13] hd1 (fun ve h => OpT.conv (H rfl) us45 Tryz.underlying2 (D1 h rfl) (nw (by omega))) rfl ?_
   refine dr [9, 14] hd1 (fun ve h => OpT.c1 (ms := [.flat, .flat, .flat]) (c_spec_l00In _ _ _) (H rfl) (Af (D1 h rfl) rfl rfl <| Af (I rfl) rfl rfl <| Af (I rfl) rfl rfl <| An) rfl rfl) rfl ?_
   refine d1 [9, 15] (fun ve h => OpT.pickT (A := .cel _ _) (H rfl) (D1 h rfl) hd1 (D1 h rfl) rfl) rfl ?_
   refine d1 [16] (fun ve h => OpT.move (A := .cel _ _) (.inl rfl) rfl (ok' rfl) (D1 h rfl) rfl) rfl ?_
   refine dp hd2 rfl ?_
   refine dp hd2 rfl ?_
   refine dp hd2 rfl ?_
   refine dp hd2 rfl ?_
   refine dp hd2 rfl ?_
   refine dp hd2 rfl ?_
   refine dp hd2 rfl ?_
   refine dp hd2 rfl ?_
   refine dp hd2 rfl ?_
   refine dp hd2 rfl ?_
   refine d1 [17] (fun ve h => OpT.pickF (A := .cel _ _) (H rfl) (D1 h rfl) hd2 Opd.bool rfl) rfl ?_
   refine d1 [28] (fun ve h => OpT.move (A := .cel _ _) (.inl rfl) rfl (ok' rfl) (D1 h rfl) rfl) rfl ?_
   refine dp rfl rfl ?_
   refine dp rfl rfl ?_
   refine dp rfl rfl ?_
   refine dp rfl rfl ?_
   refine dp rfl rfl ?_
   refine dp rfl rfl ?_
   refine dp rfl rfl ?_
   refine dp rfl rfl ?_
   refine dp rfl rfl ?_
   refine dp rfl rfl ?_
   refine dp rfl rfl ?_
   refine dp rfl rfl ?_
   refine d1 [29] (fun ve h => OpT.pickF (A := .cel _ _) (H rfl) (D1 h rfl) rfl Opd.bool rfl) rfl ?_
   refine d1 [42] (fun ve h => OpT.move (A := .cel _ _) (.inr rfl) rfl (ok' rfl) (D1 h rfl) rfl) rfl ?_
   refine dn ⟨by kernel_rfl, by kernel_rfl, ?_⟩
   refine AX.pr (kc 2 rfl <| Kn) ?_
   refine AX.go ?_
   refine AW.ret ?_
   exact rt1 rfl (.inl rfl) (by simp only [mixS, *, Bool.false_and, Bool.true_and, Bool.and_false])
 ·
  refine dh fomo ?_
  refine d1 [0] (fun ve h => OpT.move (A := .cel _ _) (.inl rfl) rfl (ok' rfl) (D1 h rfl) rfl) rfl ?_
  refine d1 [3] (fun ve h => OpT.nilCheck (H rfl) (D1 h rfl)) rfl ?_
  refine d1 [4] (fun ve h => OpT.fieldAddr (H rfl) (D1 h rfl) fd47_1 sz45 (by decide) sb47_1) rfl ?_
  refine d1 [5] (fun ve h => OpT.load (H rfl) (D1 h rfl) ag45 rfl) rfl ?_
  refine d1 [6] (fun ve h => OpT.conv (H rfl) us45 Tryz.underlying2 (D1 h rfl) (nw (by omega))) rfl ?_
  refine d1 [7] (fun ve h => OpT.c1 (ms := [.flat, .flat, .flat]) (c_spec_l00In _ _ _) (H rfl) (Af (D1 h rfl) rfl rfl <| Af (I rfl) rfl rfl <| Af (I rfl) rfl rfl <| An) rfl rfl) rfl ?_
  refine d1 [8] (fun ve h => OpT.move (A := .cel _ _) (.inl rfl) rfl (ok' rfl) (D1 h rfl) rfl) rfl ?_
  refine dp hd1 rfl ?_
  refine dp hd1 rfl ?_
  refine dp hd1 rfl ?_
  refine dp hd1 rfl ?_
  refine dp hd1 rfl ?_
  refine dp hd1 rfl ?_
  refine d1 [9] (fun ve h => OpT.pickF (A := .cel _ _) (H rfl) (D1 h rfl) hd1 Opd.bool rfl) rfl ?_
  refine d1 [16] (fun ve h => OpT.move (A := .cel _ _) (.inl rfl) rfl (ok' rfl) (D1 h rfl) rfl) rfl ?_
  refine dp rfl rfl ?_
  refine dp rfl rfl ?_
  refine dp rfl rfl ?_
  refine dp rfl rfl ?_
  refine dp rfl rfl ?_
  refine dp rfl rfl ?_
  refine dp rfl rfl ?_
  refine dp rfl rfl ?_
  refine dp rfl rfl ?_
  refine dp rfl rfl ?_
  refine d1 [17] (fun ve h => OpT.pickF (A := .cel _ _) (H rfl) (D1 h rfl) rfl Opd.bool rfl) rfl ?_
  refine d1 [28] (fun ve h => OpT.move (A := .cel _ _) (.inl rfl) rfl (ok' rfl) (D1 h rfl) rfl) rfl ?_
  refine dp rfl rfl ?_
  refine dp rfl rfl ?_
  refine dp rfl rfl ?_
  refine dp rfl rfl ?_
  refine dp rfl rfl ?_
  refine dp rfl rfl ?_
  refine dp rfl rfl ?_
  refine dp rfl rfl ?_
  refine dp rfl rfl ?_
  refine dp rfl rfl ?_
  refine dp rfl rfl ?_
  refine dp rfl rfl ?_
  refine d1 [29] (fun ve h => OpT.pickF (A := .cel _ _) (H rfl) (D1 h rfl) rfl Opd.bool rfl) rfl ?_
  refine d1 [42] (fun ve h => OpT.move (A := .cel _ _) (.inr rfl) rfl (ok' rfl) (D1 h rfl) rfl) rfl ?_
  refine dn ⟨by kernel_rfl, by kernel_rfl, ?_⟩
  refine AX.pr (kc 2 rfl <| Kn) ?_
  refine AX.go ?_
  refine AW.ret ?_
  exact rt1 rfl (.inl rfl) (by simp only [mixS, *, Bool.false_and, Bool.true_and, Bool.and_false])

/-- impl.isMix -/
theorem c_impl_isMix (x : Int × Int × Int) : AC Tryz.prog 68 [.agg kMix x] [.cel Kd.bool (mixI x)] [] := by
 refine acI (N := 42) Tryz.func68 (Nat.le_of_ble_eq_true rfl) rfl fun w0 hd s0 ar => ?_
 refine AW.to (ka 0 rfl <| Kn) ?_
 refine AW.fact (fun a w hr => okMix (R_okA (t := 0) rfl hr)) (fun hx => ?_)
 refine sr ?_
 refine st (OpT.frz (OpT.boxA (E := 47) (H rfl) (T1 rfl))) rfl ?_
 refine st (asB rfl) rfl ?_
 refine ng ?_
 refine sr ?_
 refine st (OpT.fieldAddr (H rfl) (T1 rfl) fd47_1 sz45 (by decide) sb47_1) rfl ?_
 refine st (OpT.load (H rfl) (T1 rfl) ag45 rfl) rfl ?_
 refine st (OpT.geq (H rfl) (T1 rfl) (I rfl)) rfl ?_
 refine st (mvT rfl) rfl ?_
 apply AWl.and (d := 10) (t := 6) rfl
 ·
  intro hb1 Q1 k1
  refine rs hb1 (OpT.fieldAddr (H rfl) (T1 rfl) fd47_1 sz45 (by decide) sb47_1) rfl ?_
  refine rs hb1 (OpT.load (H rfl) (T1 rfl) ag45 rfl) rfl ?_
  refine rs hb1 (OpT.leq (H rfl) (T1 rfl) (I rfl)) rfl ?_
  refine st (OpT.pickT (A := .cel _ _) (H rfl) (T1 rfl) hb1 (T1 rfl) rfl) rfl ?_
  exact AWl.to (junk 3 rfl) k1
 ·
  intro hb1 Q1 k1
  refine ps hb1 rfl ?_
  refine ps hb1 rfl ?_
  refine ps hb1 rfl ?_
  refine st (OpT.pickF (A := .cel _ _) (H rfl) (T1 rfl) hb1 Opd.bool rfl) rfl ?_
  exact k1
 refine st (mvT rfl) rfl ?_
 apply AWl.and (d := 15) (t := 11) rfl
 ·
  intro hb2 Q1 k1
  refine rs hb2 (OpT.fieldAddr (H rfl) (T1 rfl) fd47_2 sz45 (by decide) sb47_2) rfl ?_
  refine rs hb2 (OpT.load (H rfl) (T1 rfl) ag45 rfl) rfl ?_
  refine rs hb2 (OpT.geq (H rfl) (T1 rfl) (I rfl)) rfl ?_
  refine st (OpT.pickT (A := .cel _ _) (H rfl) (T1 rfl) hb2 (T1 rfl) rfl) rfl ?_
  exact AWl.to (junk 3 rfl) k1
 ·
  intro hb2 Q1 k1
  refine ps hb2 rfl ?_
  refine ps hb2 rfl ?_
  refine ps hb2 rfl ?_
  refine st (OpT.pickF (A := .cel _ _) (H rfl) (T1 rfl) hb2 Opd.bool rfl) rfl ?_
  exact k1
 refine st (mvT rfl) rfl ?_
 apply AWl.and (d := 20) (t := 16) rfl
 ·
  intro hb3 Q1 k1
  refine rs hb3 (OpT.fieldAddr (H rfl) (T1 rfl) fd47_2 sz45 (by decide) sb47_2) rfl ?_
  refine rs hb3 (OpT.load (H rfl) (T1 rfl) ag45 rfl) rfl ?_
  refine rs hb3 (OpT.leq (H rfl) (T1 rfl) (I rfl)) rfl ?_
  refine st (OpT.pickT (A := .cel _ _) (H rfl) (T1 rfl) hb3 (T1 rfl) rfl) rfl ?_
  exact AWl.to (junk 3 rfl) k1
 ·
  intro hb3 Q1 k1
  refine ps hb3 rfl ?_
  refine ps hb3 rfl ?_
  refine ps hb3 rfl ?_
  refine st (OpT.pickF (A := .cel _ _) (H rfl) (T1 rfl) hb3 Opd.bool rfl) rfl ?_
  exact k1
 refine st (mvT rfl) rfl ?_
 apply AWl.and (d := 28) (t := 21) rfl
 ·
  intro hb4 Q1 k1
  refine rs hb4 (OpT.fieldAddr (H rfl) (T1 rfl) fd47_2 sz45 (by decide) sb47_2) rfl ?_
  refine rs hb4 (OpT.load (H rfl) (T1 rfl) ag45 rfl) rfl ?_
  refine rs hb4 (OpT.fieldAddr (H rfl) (T1 rfl) fd47_1 sz45 (by decide) sb47_1) rfl ?_
  refine rs hb4 (OpT.load (H rfl) (T1 rfl) ag45 rfl) rfl ?_
  refine rs hb4 (OpT.quo (H rfl) (T1 rfl) (I rfl) (by omega) rfl) rfl ?_
  refine rs hb4 (OpT.leq (H rfl) (T1 rfl) (T1 rfl)) rfl ?_
  refine st (OpT.pickT (A := .cel _ _) (H rfl) (T1 rfl) hb4 (T1 rfl) rfl) rfl ?_
  exact AWl.to (junk 6 rfl) k1
 ·
  intro hb4 Q1 k1
  refine ps hb4 rfl ?_
  refine ps hb4 rfl ?_
  refine ps hb4 rfl ?_
  refine ps hb4 rfl ?_
  refine ps hb4 rfl ?_
  refine ps hb4 rfl ?_
  refine st (OpT.pickF (A := .cel _ _) (H rfl) (T1 rfl) hb4 Opd.bool rfl) rfl ?_
  exact k1
 refine st (mvT rfl) rfl ?_
 apply AWl.and (d := 33) (t := 29) rfl
 ·
  intro hb5 Q1 k1
  refine rs hb5 (OpT.fieldAddr (H rfl) (T1 rfl) fd47_0 sz45 (by decide) sb47_0) rfl ?_
  refine rs hb5 (OpT.load (H rfl) (T1 rfl) ag45 rfl) rfl ?_
  refine rs hb5 (OpT.geq (H rfl) (T1 rfl) (I rfl)) rfl ?_
  refine st (OpT.pickT (A := .cel _ _) (H rfl) (T1 rfl) hb5 (T1 rfl) rfl) rfl ?_
  exact AWl.to (junk 3 rfl) k1
 ·
  intro hb5 Q1 k1
  refine ps hb5 rfl ?_
  refine ps hb5 rfl ?_
  refine ps hb5 rfl ?_
  refine st (OpT.pickF (A := .cel _ _) (H rfl) (T1 rfl) hb5 Opd.bool rfl) rfl ?_
  exact k1
 refine st (mvT rfl) rfl ?_
 apply AWl.and (d := 41) (t := 34) rfl
 ·
  intro hb6 Q1 k1
  refine rs hb6 (OpT.fieldAddr (H rfl) (T1 rfl) fd47_0 sz45 (by decide) sb47_0) rfl ?_
  refine rs hb6 (OpT.load (H rfl) (T1 rfl) ag45 rfl) rfl ?_
  refine rs hb6 (OpT.fieldAddr (H rfl) (T1 rfl) fd47_1 sz45 (by decide) sb47_1) rfl ?_
  refine rs hb6 (OpT.load (H rfl) (T1 rfl) ag45 rfl) rfl ?_
  refine rs hb6 (OpT.sub (H rfl) (I rfl) (T1 rfl) rfl) rfl ?_
  refine rs hb6 (OpT.leq (H rfl) (T1 rfl) (T1 rfl)) rfl ?_
  refine st (OpT.pickT (A := .cel _ _) (H rfl) (T1 rfl) hb6 (T1 rfl) rfl) rfl ?_
  exact AWl.to (junk 6 rfl) k1
 ·
  intro hb6 Q1 k1
  refine ps hb6 rfl ?_
  refine ps hb6 rfl ?_
  refine ps hb6 rfl ?_
  refine ps hb6 rfl ?_
  refine ps hb6 rfl ?_
  refine ps hb6 rfl ?_
  refine st (OpT.pickF (A := .cel _ _) (H rfl) (T1 rfl) hb6 Opd.bool rfl) rfl ?_
  exact k1
 refine st (asT rfl) rfl ?_
 refine AWl.to (kc 2 rfl <| Kn) ?_
 refine ng ?_
 refine AW.ret ?_
 exact rt1 rfl (.inl rfl) rfl

/-- spec.l06Chance -/
theorem c_spec_l06Chance (a b n m : Int) (h : 0 < a ∧ a ≤ 96 ∧ 0 ≤ b ∧ b ≤ a ∧ 0 ≤ n ∧ n ≤ 100 ∧ 0 ≤ m ∧ m ≤ 12) : AC Tryz.prog 72 [.cel (Kd.int .i64) a, .cel (Kd.int .i64) b, .cel (Kd.int .i64) n, .cel (Kd.int .i64) m] [.cel (Kd.int .i64) (chance a b n m)] [] := by
 refine acI (N := 38) Tryz.func72 (Nat.le_of_ble_eq_true rfl) rfl fun w0 hd s0 ar => ?_
 refine AW.to (kc4 0 1 2 3 rfl <| Kn) ?_
 have hbm := bm_in (b := b) (m := m) (by omega)
 refine sr ?_
 refine st (asI rfl) rfl ?_
 refine ng ?_
 refine sr ?_
 refine st (asI rfl) rfl ?_
 refine ng ?_
 refine AW.seq ?_
 refine sr ?_
 refine st (asI rfl) rfl ?_
 refine ng ?_
 refine AW.block ?_
 refine AW.loop (fun z : Nat => (z : Int) ≤ n) (fun z : Nat => keep [(0, .cel (Kd.int .i64) a), (1, .cel (Kd.int .i64) b), (2, .cel (Kd.int .i64) n), (3, .cel (Kd.int .i64) m), (9, .cel (Kd.int .i64) (miss a b z)), (10, .cel (Kd.int .i64) (z : Int))]) (fun z : Nat => n.toNat - z) (0) (by omega) (Kc 0 _ (Kv rfl rfl) <| Kc 1 _ (Kv rfl rfl) <| Kc 2 _ (Kv rfl rfl) <| Kc 3 _ (Kv rfl rfl) <| Kc 9 _ (Kv rfl rfl) <| Kc 10 _ (Kv rfl rfl) <| Kn) ?_
 intro z hI
 have hm := miss_in (a := a) (b := b) (by omega) z
 have hbd := miss_mul (a := a) (b := b) (by omega) z
 have hq : 0 ≤ (miss a b z * (a - b)).tdiv a ∧ (miss a b z * (a - b)).tdiv a ≤ 1000000000 := miss_in (by omega) (z + 1)
 refine AW.seq ?_
 refine sr ?_
 refine st (mvT rfl) rfl ?_
 refine st (mvT rfl) rfl ?_
 refine st (OpT.lss (H rfl) (T1 rfl) (T1 rfl)) rfl ?_
 refine ng ?_
 refine cd rfl (fun hc1 => ?_) fun hc1 => ?_
 ·
  replace hc1 := oT hc1
  refine AW.skip ?_
  refine AX.go ?_
  refine AW.seq ?_
  refine AW.block ?_
  refine AW.region ?_
  refine st (mvT rfl) rfl ?_
  refine st (mvT rfl) rfl ?_
  refine st (mvT rfl) rfl ?_
  refine st (OpT.sub (H rfl) (T1 rfl) (T1 rfl) (nw (by omega))) rfl ?_
  refine st (OpT.mul (H rfl) (T1 rfl) (T1 rfl) (nw (by omega))) rfl ?_
  refine st (mvT rfl) rfl ?_
  refine st (OpT.quo (H rfl) (T1 rfl) (T1 rfl) (by omega) (nw (by omega))) rfl ?_
  refine st (asT rfl) rfl ?_
  refine nn ?_
  refine AX.normal_block ?_
  refine AX.go ?_
  refine AW.region ?_
  refine st (mvT rfl) rfl ?_
  refine st (OpT.add (H rfl) (T1 rfl) (I rfl) (nw (by omega))) rfl ?_
  refine st (asT rfl) rfl ?_
  refine nn ?_
  exact AX.again (z + 1) (by omega) (by omega) (Kc 0 _ (Kv rfl rfl) <| Kc 1 _ (Kv rfl rfl) <| Kc 2 _ (Kv rfl rfl) <| Kc 3 _ (Kv rfl rfl) <| Kc 9 _ (Kv rfl rfl) <| Kc 10 _ (Kv rfl (by omega)) <| Kn)
 ·
  replace hc1 := oF hc1
  refine AW.exit ?_
  refine xT <| xT <| AX.exit_hit ?_
  refine AX.go ?_
  refine sr ?_
  refine st (asI rfl) rfl ?_
  refine ng ?_
  refine AW.seq ?_
  refine sr ?_
  refine st (asI rfl) rfl ?_
  refine ng ?_
  refine AW.block ?_
  obtain rfl : z = n.toNat := by omega
  have hp := miss_in (a := a) (b := b) (by omega) n.toNat
  refine AW.loop (fun z : Nat => (z : Int) ≤ b * m) (fun z : Nat => keep [(1, .cel (Kd.int .i64) b), (3, .cel (Kd.int .i64) m), (9, .cel (Kd.int .i64) (miss a b n.toNat)), (11, .cel (Kd.int .i64) (hitC (miss a b n.toNat) z)), (12, .cel (Kd.int .i64) (z : Int))]) (fun z : Nat => (b * m).toNat - z) (0) (by omega) (Kc 1 _ (Kv rfl rfl) <| Kc 3 _ (Kv rfl rfl) <| Kc 9 _ (Kv rfl rfl) <| Kc 11 _ (Kv rfl rfl) <| Kc 12 _ (Kv rfl rfl) <| Kn) ?_
  intro y hI
  have hm := hit_in hp y
  have hbd := hit_mul hp y
  have hq : 0 ≤ (hitC (miss a b n.toNat) y * (1000000000 - miss a b n.toNat)).tdiv 1000000000 ∧ (hitC (miss a b n.toNat) y * (1000000000 - miss a b n.toNat)).tdiv 1000000000 ≤ 1000000000 := hit_in hp (y + 1)
  refine AW.seq ?_
  refine sr ?_
  refine st (mvT rfl) rfl ?_
  refine st (mvT rfl) rfl ?_
  refine st (mvT rfl) rfl ?_
  refine st (OpT.mul (H rfl) (T1 rfl) (T1 rfl) (nw (by omega))) rfl ?_
  refine st (OpT.lss (H rfl) (T1 rfl) (T1 rfl)) rfl ?_
  refine ng ?_
  refine cd rfl (fun hc2 => ?_) fun hc2 => ?_
  ·
   replace hc2 := oT hc2
   refine AW.skip ?_
   refine AX.go ?_
   refine AW.seq ?_
   refine AW.block ?_
   refine AW.region ?_
   refine st (mvT rfl) rfl ?_
   refine st (mvT rfl) rfl ?_
   refine st (OpT.sub (H rfl) (I rfl) (T1 rfl) (nw (by omega))) rfl ?_
   refine st (OpT.mul (H rfl) (T1 rfl) (T1 rfl) (nw (by omega))) rfl ?_
   refine st (OpT.quo (H rfl) (T1 rfl) (I rfl) (by omega) (nw (by omega))) rfl ?_
   refine st (asT rfl) rfl ?_
   refine nn ?_
   refine AX.normal_block ?_
   refine AX.go ?_
   refine AW.region ?_
   refine st (mvT rfl) rfl ?_
   refine st (OpT.add (H rfl) (T1 rfl) (I rfl) (nw (by omega))) rfl ?_
   refine st (asT rfl) rfl ?_
   refine nn ?_
   exact AX.again (y + 1) (by omega) (by omega) (Kc 1 _ (Kv rfl rfl) <| Kc 3 _ (Kv rfl rfl) <| Kc 9 _ (Kv rfl rfl) <| Kc 11 _ (Kv rfl rfl) <| Kc 12 _ (Kv rfl (by omega)) <| Kn)
  ·
   replace hc2 := oF hc2
   refine AW.exit ?_
   refine xT <| xT <| AX.exit_hit ?_
   refine AX.go ?_
   refine sr ?_
   refine st (mvT rfl) rfl ?_
   refine st (asT rfl) rfl ?_
   refine AWl.to (kc 8 rfl <| Kn) ?_
   refine ng ?_
   refine AW.ret ?_
   obtain rfl : y = (b * m).toNat := by omega
   exact rt1 rfl (.inl rfl) rfl

/-- impl.falseChance -/
theorem c_impl_falseChance (a b n m : Int) (h : 0 < a ∧ a ≤ 96 ∧ 0 ≤ b ∧ b ≤ a ∧ 0 ≤ n ∧ n ≤ 100 ∧ 0 ≤ m ∧ m ≤ 12) : AC Tryz.prog 69 [.cel (Kd.int .i64) a, .cel (Kd.int .i64) b, .cel (Kd.int .i64) n, .cel (Kd.int .i64) m] [.cel (Kd.int .i64) (chance a b n m)] [] := by
 refine acI (N := 34) Tryz.func69 (Nat.le_of_ble_eq_true rfl) rfl fun w0 hd s0 ar => ?_
 refine AW.to (kc4 0 1 2 3 rfl <| Kn) ?_
 have hbm := bm_in (b := b) (m := m) (by omega)
 refine sr ?_
 refine st (asI rfl) rfl ?_
 refine ng ?_
 refine sr ?_
 refine st (asI rfl) rfl ?_
 refine ng ?_
 refine AW.seq ?_
 refine sr ?_
 refine st (mvT rfl) rfl ?_
 refine st (mvI rfl) rfl ?_
 refine ng ?_
 refine AW.block ?_
 refine AW.loop (fun z : Nat => (z : Int) ≤ n) (fun z : Nat => keep [(0, .cel (Kd.int .i64) a), (1, .cel (Kd.int .i64) b), (3, .cel (Kd.int .i64) m), (11, .cel (Kd.int .i64) n), (9, .cel (Kd.int .i64) (miss a b z)), (12, .cel (Kd.int .i64) (z : Int))]) (fun z : Nat => n.toNat - z) (0) (by omega) (Kc 0 _ (Kv rfl rfl) <| Kc 1 _ (Kv rfl rfl) <| Kc 3 _ (Kv rfl rfl) <| Kc 11 _ (Kv rfl rfl) <| Kc 9 _ (Kv rfl rfl) <| Kc 12 _ (Kv rfl rfl) <| Kn) ?_
 intro z hI
 have hm := miss_in (a := a) (b := b) (by omega) z
 have hbd := miss_mul (a := a) (b := b) (by omega) z
 have hq : 0 ≤ (miss a b z * (a - b)).tdiv a ∧ (miss a b z * (a - b)).tdiv a ≤ 1000000000 := miss_in (by omega) (z + 1)
 refine sr ?_
 refine st (OpT.lss (H rfl) (T1 rfl) (T1 rfl)) rfl ?_
 refine ng ?_
 refine AW.seq ?_
 refine cd rfl (fun hc1 => ?_) fun hc1 => ?_
 ·
  replace hc1 := oT hc1
  refine AW.skip ?_
  refine AX.go ?_
  refine AW.seq ?_
  refine AW.block ?_
  refine AW.region ?_
  refine st (mvT rfl) rfl ?_
  refine st (mvT rfl) rfl ?_
  refine st (mvT rfl) rfl ?_
  refine st (OpT.sub (H rfl) (T1 rfl) (T1 rfl) (nw (by omega))) rfl ?_
  refine st (OpT.mul (H rfl) (T1 rfl) (T1 rfl) (nw (by omega))) rfl ?_
  refine st (mvT rfl) rfl ?_
  refine st (OpT.quo (H rfl) (T1 rfl) (T1 rfl) (by omega) (nw (by omega))) rfl ?_
  refine st (asT rfl) rfl ?_
  refine nn ?_
  refine AX.normal_block ?_
  refine AX.go ?_
  refine AW.region ?_
  refine st (OpT.add (H rfl) (T1 rfl) (I rfl) (nw (by omega))) rfl ?_
  refine st (mvT rfl) rfl ?_
  refine nn ?_
  exact AX.again (z + 1) (by omega) (by omega) (Kc 0 _ (Kv rfl rfl) <| Kc 1 _ (Kv rfl rfl) <| Kc 3 _ (Kv rfl rfl) <| Kc 11 _ (Kv rfl rfl) <| Kc 9 _ (Kv rfl rfl) <| Kc 12 _ (Kv rfl (by omega)) <| Kn)
 ·
  replace hc1 := oF hc1
  refine AW.exit ?_
  refine xT <| xT <| AX.exit_hit ?_
  refine AX.go ?_
  refine sr ?_
  refine st (asI rfl) rfl ?_
  refine ng ?_
  refine AW.seq ?_
  refine sr ?_
  refine st (mvT rfl) rfl ?_
  refine st (mvT rfl) rfl ?_
  refine st (OpT.mul (H rfl) (T1 rfl) (T1 rfl) (nw (by omega))) rfl ?_
  refine st (mvI rfl) rfl ?_
  refine ng ?_
  refine AW.block ?_
  obtain rfl : z = n.toNat := by omega
  have hp := miss_in (a := a) (b := b) (by omega) n.toNat
  refine AW.loop (fun z : Nat => (z : Int) ≤ b * m) (fun z : Nat => keep [(24, .cel (Kd.int .i64) (b * m)), (9, .cel (Kd.int .i64) (miss a b n.toNat)), (10, .cel (Kd.int .i64) (hitC (miss a b n.toNat) z)), (25, .cel (Kd.int .i64) (z : Int))]) (fun z : Nat => (b * m).toNat - z) (0) (by omega) (Kc 24 _ (Kv rfl rfl) <| Kc 9 _ (Kv rfl rfl) <| Kc 10 _ (Kv rfl rfl) <| Kc 25 _ (Kv rfl rfl) <| Kn) ?_
  intro y hI
  have hm := hit_in hp y
  have hbd := hit_mul hp y
  have hq : 0 ≤ (hitC (miss a b n.toNat) y * (1000000000 - miss a b n.toNat)).tdiv 1000000000 ∧ (hitC (miss a b n.toNat) y * (1000000000 - miss a b n.toNat)).tdiv 1000000000 ≤ 1000000000 := hit_in hp (y + 1)
  refine sr ?_
  refine st (OpT.lss (H rfl) (T1 rfl) (T1 rfl)) rfl ?_
  refine ng ?_
  refine AW.seq ?_
  refine cd rfl (fun hc2 => ?_) fun hc2 => ?_
  ·
   replace hc2 := oT hc2
   refine AW.skip ?_
   refine AX.go ?_
   refine AW.seq ?_
   refine AW.block ?_
   refine AW.region ?_
   refine st (mvT rfl) rfl ?_
   refine st (mvT rfl) rfl ?_
   refine st (OpT.sub (H rfl) (I rfl) (T1 rfl) (nw (by omega))) rfl ?_
   refine st (OpT.mul (H rfl) (T1 rfl) (T1 rfl) (nw (by omega))) rfl ?_
   refine st (OpT.quo (H rfl) (T1 rfl) (I rfl) (by omega) (nw (by omega))) rfl ?_
   refine st (asT rfl) rfl ?_
   refine nn ?_
   refine AX.normal_block ?_
   refine AX.go ?_
   refine AW.region ?_
   refine st (OpT.add (H rfl) (T1 rfl) (I rfl) (nw (by omega))) rfl ?_
   refine st (mvT rfl) rfl ?_
   refine nn ?_
   exact AX.again (y + 1) (by omega) (by omega) (Kc 24 _ (Kv rfl rfl) <| Kc 9 _ (Kv rfl rfl) <| Kc 10 _ (Kv rfl rfl) <| Kc 25 _ (Kv rfl (by omega)) <| Kn)
  ·
   replace hc2 := oF hc2
   refine AW.exit ?_
   refine xT <| xT <| AX.exit_hit ?_
   refine AX.go ?_
   refine sr ?_
   refine st (mvT rfl) rfl ?_
   refine st (asT rfl) rfl ?_
   refine ng ?_
   refine AW.ret ?_
   obtain rfl : y = (b * m).toNat := by omega
   exact rt1 rfl (.inl rfl) rfl

/-- spec.FalseChance -/
theorem c_spec_FalseChance (x : Int × Int × Int) (n m : Int) : AC Tryz.prog 22 [.agg kMix x, .cel (Kd.int .i64) n, .cel (Kd.int .i64) m] [.cel (Kd.int .i64) (falseS x n m).1, .cel (Kd.int .i64) (falseS x n m).2] [] := by
 refine acI (N := 27) Tryz.func22 (Nat.le_of_ble_eq_true rfl) rfl fun w0 hd s0 ar => ?_
 refine AW.to (ka 0 rfl <| kc2 1 2 rfl <| Kn) ?_
 refine AW.fact (fun a w hr => okMix (R_okA (t := 0) rfl hr)) (fun hx => ?_)
 refine sr ?_
 refine st (OpT.frz (OpT.boxA (E := 47) (H rfl) (T1 rfl))) rfl ?_
 refine st (asI rfl) rfl ?_
 refine st (asI rfl) rfl ?_
 refine ng ?_
 refine AW.seq ?_
 refine sr ?_
 refine st (OpT.c1 (ms := [.flat]) (c_spec_l03Ok _) (H rfl) (Af (T1 rfl) rfl rfl <| An) rfl rfl) rfl ?_
 refine st (OpT.not (H rfl) (T1 rfl)) rfl ?_
 refine ng ?_
 refine cd rfl (fun hc1 => ?_) fun hc1 => ?_
 ·
  replace hc1 := oT hc1
  refine sr ?_
  refine st (asI rfl) rfl ?_
  refine st (asI rfl) rfl ?_
  refine ng ?_
  refine AW.ret ?_
  refine rT ?_
  exact rt2 rfl (.inl rfl) (by simp_all [falseS]) (by simp_all [falseS])
 ·
  replace hc1 := oF hc1
  refine AW.skip ?_
  refine AX.go ?_
  refine AW.seq ?_
  refine sr ?_
  refine st (mvT rfl) rfl ?_
  refine st (OpT.c1 (ms := [.flat, .flat, .flat]) (c_spec_l00In _ _ _) (H rfl) (Af (T1 rfl) rfl rfl <| Af (I rfl) rfl rfl <| Af (I rfl) rfl rfl <| An) rfl rfl) rfl ?_
  refine st (OpT.not (H rfl) (T1 rfl)) rfl ?_
  refine st (mvT rfl) rfl ?_
  apply AWl.or (d := 17) (t := 13) rfl
  ·
   intro hb1 Q1 k1
   refine rs hb1 (mvT rfl) rfl ?_
   refine rs hb1 (OpT.c1 (ms := [.flat, .flat, .flat]) (c_spec_l00In _ _ _) (H rfl) (Af (T1 rfl) rfl rfl <| Af (I rfl) rfl rfl <| Af (I rfl) rfl rfl <| An) rfl rfl) rfl ?_
   refine rs hb1 (OpT.not (H rfl) (T1 rfl)) rfl ?_
   refine st (OpT.pickF (A := .cel _ _) (H rfl) (T1 rfl) hb1 (T1 rfl) rfl) rfl ?_
   exact AWl.to (junk 3 rfl) k1
  ·
   intro hb1 Q1 k1
   refine ps hb1 rfl ?_
   refine ps hb1 rfl ?_
   refine ps hb1 rfl ?_
   refine st (OpT.pickT (A := .cel _ _) (H rfl) (T1 rfl) hb1 Opd.bool rfl) rfl ?_
   exact k1
  refine ng ?_
  refine cd rfl (fun hc2 => ?_) fun hc2 => ?_
  ·
   replace hc2 := oT hc2
   refine sr ?_
   refine st (asI rfl) rfl ?_
   refine st (asI rfl) rfl ?_
   refine ng ?_
   refine AW.ret ?_
   refine rT ?_
   exact rt2 rfl (.inl rfl) (by simp_all [falseS]) (by simp_all [falseS])
  ·
   replace hc2 := oF hc2
   refine AW.skip ?_
   refine AX.go ?_
   refine sr ?_
   refine st (OpT.fieldAddr (H rfl) (T1 rfl) fd47_1 sz45 (by decide) sb47_1) rfl ?_
   refine st (OpT.load (H rfl) (T1 rfl) ag45 rfl) rfl ?_
   refine st (OpT.conv (H rfl) us45 Tryz.underlying2 (T1 rfl) (nw (by omega))) rfl ?_
   refine st (OpT.fieldAddr (H rfl) (T1 rfl) fd47_2 sz45 (by decide) sb47_2) rfl ?_
   refine st (OpT.load (H rfl) (T1 rfl) ag45 rfl) rfl ?_
   refine st (OpT.conv (H rfl) us45 Tryz.underlying2 (T1 rfl) (nw (by omega))) rfl ?_
   refine st (mvT rfl) rfl ?_
   refine st (mvT rfl) rfl ?_
   refine st (OpT.c1 (ms := [.flat, .flat, .flat, .flat]) (c_spec_l06Chance _ _ _ _ (by have := mixS_in (by simpa using hc1); simp [inb] at hc2; omega)) (H rfl) (Af (T1 rfl) rfl rfl <| Af (T1 rfl) rfl rfl <| Af (T1 rfl) rfl rfl <| Af (T1 rfl) rfl rfl <| An) rfl rfl) rfl ?_
   refine st (asT rfl) rfl ?_
   refine st (asI rfl) rfl ?_
   refine AWl.to (kc2 7 6 rfl <| Kn) ?_
   refine ng ?_
   refine AW.ret ?_
   exact rt2 rfl (.inl rfl) (by simp_all [falseS]) (by simp_all [falseS])

/-- impl.FalseChance -/
theorem c_impl_FalseChance (x : Int × Int × Int) (n m : Int) : AC Tryz.prog 21 [.agg kMix x, .cel (Kd.int .i64) n, .cel (Kd.int .i64) m] [.cel (Kd.int .i64) (falseI x n m).1, .cel (Kd.int .i64) (falseI x n m).2] [] := by
 refine acI (N := 34) Tryz.func21 (Nat.le_of_ble_eq_true rfl) rfl fun w0 hd s0 ar => ?_
 refine AW.to (ka 0 rfl <| kc2 1 2 rfl <| Kn) ?_
 refine AW.fact (fun a w hr => okMix (R_okA (t := 0) rfl hr)) (fun hx => ?_)
 refine sr ?_
 refine st (OpT.frz (OpT.boxA (E := 47) (H rfl) (T1 rfl))) rfl ?_
 refine st (asI rfl) rfl ?_
 refine st (asI rfl) rfl ?_
 refine ng ?_
 refine AW.seq ?_
 refine sr ?_
 refine st (OpT.loadA (H rfl) (T1 rfl) ag47 sz47) rfl ?_
 refine st (OpT.c1 (ms := [.flat]) (c_impl_isMix _) (H rfl) (Af (T1 rfl) rfl rfl <| An) rfl rfl) rfl ?_
 refine st (OpT.not (H rfl) (T1 rfl)) rfl ?_
 refine ng ?_
 refine cd rfl (fun hc1 => ?_) fun hc1 => ?_
 ·
  replace hc1 := oT hc1
  refine sr ?_
  refine st (asI rfl) rfl ?_
  refine st (asI rfl) rfl ?_
  refine ng ?_
  refine AW.ret ?_
  refine rT ?_
  exact rt2 rfl (.inl rfl) (by simp_all [falseI] <;> (rw [if_neg (by omega)])) (by simp_all [falseI] <;> (rw [if_neg (by omega)]))
 ·
  replace hc1 := oF hc1
  refine AW.skip ?_
  refine AX.go ?_
  refine AW.seq ?_
  refine sr ?_
  refine st (mvT rfl) rfl ?_
  refine st (OpT.lss (H rfl) (T1 rfl) (I rfl)) rfl ?_
  refine st (mvT rfl) rfl ?_
  apply AWl.or (d := 16) (t := 13) rfl
  ·
   intro hb1 Q1 k1
   refine rs hb1 (mvT rfl) rfl ?_
   refine rs hb1 (OpT.gtr (H rfl) (T1 rfl) (I rfl)) rfl ?_
   refine st (OpT.pickF (A := .cel _ _) (H rfl) (T1 rfl) hb1 (T1 rfl) rfl) rfl ?_
   exact AWl.to (junk 2 rfl) k1
  ·
   intro hb1 Q1 k1
   refine ps hb1 rfl ?_
   refine ps hb1 rfl ?_
   refine st (OpT.pickT (A := .cel _ _) (H rfl) (T1 rfl) hb1 Opd.bool rfl) rfl ?_
   exact k1
  refine st (mvT rfl) rfl ?_
  apply AWl.or (d := 20) (t := 17) rfl
  ·
   intro hb2 Q1 k1
   refine rs hb2 (mvT rfl) rfl ?_
   refine rs hb2 (OpT.lss (H rfl) (T1 rfl) (I rfl)) rfl ?_
   refine st (OpT.pickF (A := .cel _ _) (H rfl) (T1 rfl) hb2 (T1 rfl) rfl) rfl ?_
   exact AWl.to (junk 2 rfl) k1
  ·
   intro hb2 Q1 k1
   refine ps hb2 rfl ?_
   refine ps hb2 rfl ?_
   refine st (OpT.pickT (A := .cel _ _) (H rfl) (T1 rfl) hb2 Opd.bool rfl) rfl ?_
   exact k1
  refine st (mvT rfl) rfl ?_
  apply AWl.or (d := 24) (t := 21) rfl
  ·
   intro hb3 Q1 k1
   refine rs hb3 (mvT rfl) rfl ?_
   refine rs hb3 (OpT.gtr (H rfl) (T1 rfl) (I rfl)) rfl ?_
   refine st (OpT.pickF (A := .cel _ _) (H rfl) (T1 rfl) hb3 (T1 rfl) rfl) rfl ?_
   exact AWl.to (junk 2 rfl) k1
  ·
   intro hb3 Q1 k1
   refine ps hb3 rfl ?_
   refine ps hb3 rfl ?_
   refine st (OpT.pickT (A := .cel _ _) (H rfl) (T1 rfl) hb3 Opd.bool rfl) rfl ?_
   exact k1
  refine AWl.to (kc4 24 7 6 3 rfl <| kc2 1 2 rfl <| Kn) ?_
  refine ng ?_
  refine cd rfl (fun hc2 => ?_) fun hc2 => ?_
  ·
   replace hc2 := oT hc2
   refine sr ?_
   refine st (asI rfl) rfl ?_
   refine st (asI rfl) rfl ?_
   refine ng ?_
   refine AW.ret ?_
   refine rT ?_
   exact rt2 rfl (.inl rfl) (by simp_all [falseI] <;> (rw [if_neg (by omega)])) (by simp_all [falseI] <;> (rw [if_neg (by omega)]))
  ·
   replace hc2 := oF hc2
   refine AW.skip ?_
   refine AX.go ?_
   refine sr ?_
   refine st (OpT.fieldAddr (H rfl) (T1 rfl) fd47_1 sz45 (by decide) sb47_1) rfl ?_
   refine st (OpT.load (H rfl) (T1 rfl) ag45 rfl) rfl ?_
   refine st (OpT.conv (H rfl) us45 Tryz.underlying2 (T1 rfl) (nw (by omega))) rfl ?_
   refine st (OpT.fieldAddr (H rfl) (T1 rfl) fd47_2 sz45 (by decide) sb47_2) rfl ?_
   refine st (OpT.load (H rfl) (T1 rfl) ag45 rfl) rfl ?_
   refine st (OpT.conv (H rfl) us45 Tryz.underlying2 (T1 rfl) (nw (by omega))) rfl ?_
   refine st (mvT rfl) rfl ?_
   refine st (mvT rfl) rfl ?_
   refine st (OpT.c1 (ms := [.flat, .flat, .flat, .flat]) (c_impl_falseChance _ _ _ _ (by have := mixI_in hx (by simpa using hc1); simp at hc2; omega)) (H rfl) (Af (T1 rfl) rfl rfl <| Af (T1 rfl) rfl rfl <| Af (T1 rfl) rfl rfl <| Af (T1 rfl) rfl rfl <| An) rfl rfl) rfl ?_
   refine st (asT rfl) rfl ?_
   refine st (asI rfl) rfl ?_
   refine AWl.to (kc2 7 6 rfl <| Kn) ?_
   refine ng ?_
   refine AW.ret ?_
   exact rt2 rfl (.inl rfl) (by simp_all [falseI] <;> (rw [if_neg (by omega)])) (by simp_all [falseI] <;> (rw [if_neg (by omega)]))
end Go.Proofs.YtohcpnobmknglaaGreatDoor.VL
