/- Proved here: what some functions of the program take and give: walks with the words of VA..VQ. Printed by program. -/
import Derived.Test.YtdjbdaidnlbhhaaWT
set_option linter.unusedVariables false
set_option linter.unusedSimpArgs false
set_option maxRecDepth 4000
namespace Go.Proofs.Ytdjbdaidnlbhhaa.VL
open Go
/-- laws.toMask -/
theorem c_laws_toMask (x : BitVec 64 × BitVec 64) : AC Try.prog 23 [.agg kMask x] [.agg kMask x] [] := by
  refine ⟨ACall.intro (N := 15) Try.func23 (c := _) (rfl : Func.body _ = some _) rfl (Nat.le_of_ble_eq_true rfl) (Nat.le_of_ble_eq_true rfl) rfl (Nat.le_of_ble_eq_true rfl) fun w0 hd s0 ar har => ?_, _, Try.func23, rfl, by decide⟩
  refine AW.to (Kc 0 (.agg _ _) rfl <| Kn) ?_
  refine AW.seq ?_
  refine AW.region ?_
  refine AWl.st rfl (OpT.frz (OpT.boxA (E := 39) rfl rfl (okd rfl rfl) (Tm rfl rfl rfl))) rfl ?_
  refine AWl.st rfl (OpT.alloc rfl rfl (okd rfl rfl) zr41 zk41) rfl ?_
  refine AWl.nil ?_
  refine AX.pr (Kc 2 (.box _ _ _) rfl <| Kc 1 (.cel _ _) rfl <| Kn) ?_
  refine AX.go ?_
  refine AW.seq ?_
  refine AW.region ?_
  refine AWl.st rfl (OpT.alloc rfl rfl (okd rfl rfl) zr41 zk41) rfl ?_
  refine AWl.nil ?_
  refine AX.go ?_
  refine AW.seq ?_
  refine AW.seq ?_
  refine AW.region ?_
  refine AWl.st rfl (OpT.move (A := .cel _ _) (.inr rfl) rfl (okd rfl rfl) (I rfl) rfl) rfl ?_
  refine AWl.nil ?_
  refine AX.go ?_
  refine AW.block ?_
  refine AW.loop (fun z : Nat => z ≤ 2) (fun z : Nat => keep [(1, .cel (Kd.ptr kMask) x), (2, .box 41 kMask (0#64, 0#64)), (3, .box 41 kMask (toM x z)), (4, .cel (Kd.int .i64) (z : Int))]) (fun z : Nat => 2 - z) (0) (by omega) (Kc 1 _ (Kv rfl rfl) <| Kc 2 _ (Kb rfl rfl) <| Kc 3 _ (Kb rfl rfl) <| Kc 4 _ (Kv rfl rfl) <| Kn) ?_
  intro z hI
  refine AW.seq ?_
  refine AW.seq ?_
  refine AW.region ?_
  refine AWl.st rfl (OpT.move (A := .cel _ _) (.inl rfl) rfl (okd rfl rfl) (Tm rfl rfl rfl) rfl) rfl ?_
  refine AWl.st rfl (OpT.lss rfl rfl (okd rfl rfl) (Tm rfl rfl rfl) (I rfl)) rfl ?_
  refine AWl.nil ?_
  refine AX.go ?_
  refine AW.cond (t := 6) rfl (by decide) (fun hc1 => ?_) (fun hc1 => ?_)
  ·
    try simp only [decide_eq_true_eq, decide_eq_false_iff_not, Bool.not_eq_true', Bool.not_eq_false'] at hc1
    refine AW.skip ?_
    refine AX.go ?_
    refine AW.seq ?_
    refine AW.block ?_
    refine AW.region ?_
    refine AWl.st rfl (OpT.move (A := .cel _ _) (.inl rfl) rfl (okd rfl rfl) (Tm rfl rfl rfl) rfl) rfl ?_
    refine AWl.st rfl (OpT.move (A := .cel _ _) (.inl rfl) rfl (okd rfl rfl) (Tm rfl rfl rfl) rfl) rfl ?_
    refine AWl.st rfl (OpT.indexAddrP rfl rfl (okd rfl rfl) (Tm rfl rfl rfl) (Tm rfl rfl rfl) ar39 sz38 (by omega) (Sub.two (by omega) rfl)) rfl ?_
    refine AWl.st rfl (OpT.load rfl rfl (okd rfl rfl) (Tm rfl rfl rfl) ag38 rfl) rfl ?_
    refine AWl.st rfl (OpT.indexAddrB rfl rfl (okd rfl rfl) (Root.self (by decide)) rfl (by decide) (Tm rfl rfl rfl) ar41 sz38 (by omega) (Sub.two (by omega) rfl)) rfl ?_
    refine AWl.sg rfl (OpT.storeB rfl rfl (Tm rfl rfl rfl) rfl sz38 rfl (Tm rfl rfl rfl)) (Kc 13 (.pel _ _ _ _ _ _ _) rfl <| Kc 12 (.cel _ _) rfl <| Kc 11 (.cel _ _) rfl <| Kc 10 (.cel _ _) rfl <| Kc 9 (.cel _ _) rfl <| Kc 6 (.cel _ _) rfl <| Kc 5 (.cel _ _) rfl <| Kc 1 (.cel _ _) rfl <| Kc 2 (.box _ _ _) rfl <| Kc 3 (.box _ _ _) rfl <| Kc 4 (.cel _ _) rfl <| Kn) ?_
    refine AWl.nil ?_
    refine AX.normal_block ?_
    refine AX.go ?_
    refine AW.region ?_
    refine AWl.st rfl (OpT.move (A := .cel _ _) (.inl rfl) rfl (okd rfl rfl) (Tm rfl rfl rfl) rfl) rfl ?_
    refine AWl.st rfl (OpT.add rfl rfl (okd rfl rfl) (Tm rfl rfl rfl) (I rfl) (nw (by omega))) rfl ?_
    refine AWl.sg rfl (OpT.move (A := .cel _ _) (.inr rfl) rfl (okd rfl rfl) (Tm rfl rfl rfl) rfl) (Kc 4 (.cel _ _) rfl <| Kc 8 (.cel _ _) rfl <| Kc 7 (.cel _ _) rfl <| Kc 13 (.pel _ _ _ _ _ _ _) rfl <| Kc 12 (.cel _ _) rfl <| Kc 11 (.cel _ _) rfl <| Kc 10 (.cel _ _) rfl <| Kc 9 (.cel _ _) rfl <| Kc 6 (.cel _ _) rfl <| Kc 5 (.cel _ _) rfl <| Kc 1 (.cel _ _) rfl <| Kc 2 (.box _ _ _) rfl <| Kc 3 (.box _ _ _) rfl <| Kn) ?_
    refine AWl.nil ?_
    exact AX.again (z + 1) (by omega) (by omega) (Kc 1 _ (Kv rfl rfl) <| Kc 2 _ (Kb rfl rfl) <| Kc 3 _ (Kb rfl (toM_step x (by omega))) <| Kc 4 _ (Kv rfl (by omega)) <| Kn)
  ·
    try simp only [decide_eq_true_eq, decide_eq_false_iff_not, Bool.not_eq_true', Bool.not_eq_false'] at hc1
    refine AW.exit ?_
    refine AX.exit_then ?_
    refine AX.exit_then ?_
    refine AX.exit_hit ?_
    refine AX.pr (Kc 2 (.box _ _ _) rfl <| Kc 3 (.box _ _ _) rfl <| Kn) ?_
    refine AX.go ?_
    refine AW.seq ?_
    refine AW.region ?_
    refine AWl.st rfl (OpT.loadB rfl rfl (okd rfl rfl) (Root.self (by decide)) rfl ag41 sz41) rfl ?_
    refine AWl.sg rfl (OpT.storeBA rfl rfl (Opd.whole (Root.self (by decide)) rfl) rfl sz41 (by decide) (Tm rfl rfl rfl)) (Kc 14 (.agg _ _) rfl <| Kc 2 (.box _ _ _) rfl <| Kc 3 (.box _ _ _) rfl <| Kn) ?_
    refine AWl.nil ?_
    refine AX.pr (Kc 2 (.box _ _ _) rfl <| Kn) ?_
    refine AX.go ?_
    refine AW.ret ?_
    exact AX.rt (rs := [.cell 2 41]) (ts := [none]) (.inl rfl) rfl (ROs.cons (RO.cellA (by decide) (Kb rfl (by obtain rfl : z = 2 := (by omega); rfl)) ag41 sz41) <| ROs.nil) (by decide) OutsOK.nil

/-- spec.l01Mask -/
theorem c_spec_l01Mask (x : BitVec 64 × BitVec 64) : AC Try.prog 59 [.agg kMask x] [.cel Kd.bool (okM x)] [] := by
  refine ⟨ACall.intro (N := 7) Try.func59 (c := _) (rfl : Func.body _ = some _) rfl (Nat.le_of_ble_eq_true rfl) (Nat.le_of_ble_eq_true rfl) rfl (Nat.le_of_ble_eq_true rfl) fun w0 hd s0 ar har => ?_, _, Try.func59, rfl, by decide⟩
  refine AW.to (Kc 0 (.agg _ _) rfl <| Kn) ?_
  refine AW.seq ?_
  refine AW.region ?_
  refine AWl.st rfl (OpT.frz (OpT.boxA (E := 41) rfl rfl (okd rfl rfl) (Tm rfl rfl rfl))) rfl ?_
  refine AWl.st rfl (OpT.move (A := .cel _ _) (.inr rfl) rfl (okd rfl rfl) Opd.bool rfl) rfl ?_
  refine AWl.nil ?_
  refine AX.pr (Kc 2 (.cel _ _) rfl <| Kc 1 (.cel _ _) rfl <| Kn) ?_
  refine AX.go ?_
  refine AW.seq ?_
  refine AW.region ?_
  refine AWl.st rfl (OpT.indexAddrP rfl rfl (okd rfl rfl) (Tm rfl rfl rfl) (I rfl) ar41 sz38 (by decide) sx41_1) rfl ?_
  refine AWl.st rfl (OpT.load rfl rfl (okd rfl rfl) (Tm rfl rfl rfl) ag38 rfl) rfl ?_
  refine AWl.st rfl (OpT.shr rfl rfl (okd rfl rfl) (Tm rfl rfl rfl) (I rfl) (by decide)) rfl ?_
  refine AWl.st rfl (OpT.ueql rfl rfl (okd rfl rfl) (Tm rfl rfl rfl) (U2 0 rfl rfl)) rfl ?_
  refine AWl.sg rfl (OpT.move (A := .cel _ _) (.inr rfl) rfl (okd rfl rfl) (Tm rfl rfl rfl) rfl) (Kc 2 (.cel _ _) rfl <| Kc 6 (.cel _ _) rfl <| Kc 5 (.cel _ _) rfl <| Kc 4 (.cel _ _) rfl <| Kc 3 (.cel _ _) rfl <| Kc 1 (.cel _ _) rfl <| Kn) ?_
  refine AWl.nil ?_
  refine AX.pr (Kc 2 (.cel _ _) rfl <| Kn) ?_
  refine AX.go ?_
  refine AW.ret ?_
  exact AX.rt (rs := [.tmp 2]) (ts := [some 2]) (.inl rfl) rfl (ROs.cons (RO.tmp (At.self (by decide)) (Kv rfl rfl) rfl) <| ROs.nil) (by decide) OutsOK.nil

/-- impl.isMask -/
theorem c_impl_isMask (x : BitVec 64 × BitVec 64) : AC Try.prog 61 [.agg kMask x] [.cel Kd.bool (okM x)] [] := by
  refine ⟨ACall.intro (N := 7) Try.func61 (c := _) (rfl : Func.body _ = some _) rfl (Nat.le_of_ble_eq_true rfl) (Nat.le_of_ble_eq_true rfl) rfl (Nat.le_of_ble_eq_true rfl) fun w0 hd s0 ar har => ?_, _, Try.func61, rfl, by decide⟩
  refine AW.to (Kc 0 (.agg _ _) rfl <| Kn) ?_
  refine AW.seq ?_
  refine AW.region ?_
  refine AWl.st rfl (OpT.frz (OpT.boxA (E := 41) rfl rfl (okd rfl rfl) (Tm rfl rfl rfl))) rfl ?_
  refine AWl.st rfl (OpT.move (A := .cel _ _) (.inr rfl) rfl (okd rfl rfl) Opd.bool rfl) rfl ?_
  refine AWl.nil ?_
  refine AX.pr (Kc 2 (.cel _ _) rfl <| Kc 1 (.cel _ _) rfl <| Kn) ?_
  refine AX.go ?_
  refine AW.seq ?_
  refine AW.region ?_
  refine AWl.st rfl (OpT.indexAddrP rfl rfl (okd rfl rfl) (Tm rfl rfl rfl) (I rfl) ar41 sz38 (by decide) sx41_1) rfl ?_
  refine AWl.st rfl (OpT.load rfl rfl (okd rfl rfl) (Tm rfl rfl rfl) ag38 rfl) rfl ?_
  refine AWl.st rfl (OpT.shr rfl rfl (okd rfl rfl) (Tm rfl rfl rfl) (I rfl) (by decide)) rfl ?_
  refine AWl.st rfl (OpT.ueql rfl rfl (okd rfl rfl) (Tm rfl rfl rfl) (U2 0 rfl rfl)) rfl ?_
  refine AWl.sg rfl (OpT.move (A := .cel _ _) (.inr rfl) rfl (okd rfl rfl) (Tm rfl rfl rfl) rfl) (Kc 2 (.cel _ _) rfl <| Kc 6 (.cel _ _) rfl <| Kc 5 (.cel _ _) rfl <| Kc 4 (.cel _ _) rfl <| Kc 3 (.cel _ _) rfl <| Kc 1 (.cel _ _) rfl <| Kn) ?_
  refine AWl.nil ?_
  refine AX.pr (Kc 2 (.cel _ _) rfl <| Kn) ?_
  refine AX.go ?_
  refine AW.ret ?_
  exact AX.rt (rs := [.tmp 2]) (ts := [some 2]) (.inl rfl) rfl (ROs.cons (RO.tmp (At.self (by decide)) (Kv rfl rfl) rfl) <| ROs.nil) (by decide) OutsOK.nil

/-- spec.l01Less -/
theorem c_spec_l01Less (x y : BitVec 64 × BitVec 64) : AC Try.prog 94 [.agg kMask x, .agg kMask y] [.agg kMask (lessM x y)] [] := by
  refine ⟨ACall.intro (N := 16) Try.func94 (c := _) (rfl : Func.body _ = some _) rfl (Nat.le_of_ble_eq_true rfl) (Nat.le_of_ble_eq_true rfl) rfl (Nat.le_of_ble_eq_true rfl) fun w0 hd s0 ar har => ?_, _, Try.func94, rfl, by decide⟩
  refine AW.to (Kc 0 (.agg _ _) rfl <| Kc 1 (.agg _ _) rfl <| Kn) ?_
  refine AW.seq ?_
  refine AW.region ?_
  refine AWl.st rfl (OpT.frz (OpT.boxA (E := 41) rfl rfl (okd rfl rfl) (Tm rfl rfl rfl))) rfl ?_
  refine AWl.st rfl (OpT.frz (OpT.boxA (E := 41) rfl rfl (okd rfl rfl) (Tm rfl rfl rfl))) rfl ?_
  refine AWl.st rfl (OpT.alloc rfl rfl (okd rfl rfl) zr41 zk41) rfl ?_
  refine AWl.nil ?_
  refine AX.pr (Kc 4 (.box _ _ _) rfl <| Kc 3 (.cel _ _) rfl <| Kc 2 (.cel _ _) rfl <| Kn) ?_
  refine AX.go ?_
  refine AW.seq ?_
  refine AW.region ?_
  refine AWl.st rfl (OpT.indexAddrP rfl rfl (okd rfl rfl) (Tm rfl rfl rfl) (I rfl) ar41 sz38 (by decide) sx41_0) rfl ?_
  refine AWl.st rfl (OpT.load rfl rfl (okd rfl rfl) (Tm rfl rfl rfl) ag38 rfl) rfl ?_
  refine AWl.st rfl (OpT.indexAddrP rfl rfl (okd rfl rfl) (Tm rfl rfl rfl) (I rfl) ar41 sz38 (by decide) sx41_0) rfl ?_
  refine AWl.st rfl (OpT.load rfl rfl (okd rfl rfl) (Tm rfl rfl rfl) ag38 rfl) rfl ?_
  refine AWl.st rfl (OpT.bandNot rfl rfl (okd rfl rfl) (Tm rfl rfl rfl) (Tm rfl rfl rfl)) rfl ?_
  refine AWl.st rfl (OpT.indexAddrP rfl rfl (okd rfl rfl) (Tm rfl rfl rfl) (I rfl) ar41 sz38 (by decide) sx41_1) rfl ?_
  refine AWl.st rfl (OpT.load rfl rfl (okd rfl rfl) (Tm rfl rfl rfl) ag38 rfl) rfl ?_
  refine AWl.st rfl (OpT.indexAddrP rfl rfl (okd rfl rfl) (Tm rfl rfl rfl) (I rfl) ar41 sz38 (by decide) sx41_1) rfl ?_
  refine AWl.st rfl (OpT.load rfl rfl (okd rfl rfl) (Tm rfl rfl rfl) ag38 rfl) rfl ?_
  refine AWl.st rfl (OpT.bandNot rfl rfl (okd rfl rfl) (Tm rfl rfl rfl) (Tm rfl rfl rfl)) rfl ?_
  refine AWl.st rfl (OpT.buildA rfl rfl (okd rfl rfl) ar41 sz38 zr41 zk41 (Built.cel (Tm rfl rfl rfl) rfl rfl sx41_0 (Built.cel (Tm rfl rfl rfl) rfl rfl sx41_1 (Built.nil _)))) rfl ?_
  refine AWl.sg rfl (OpT.storeBA rfl rfl (Opd.whole (Root.self (by decide)) rfl) rfl sz41 (by decide) (Tm rfl rfl rfl)) (Kc 15 (.agg _ _) rfl <| Kc 14 (.cel _ _) rfl <| Kc 13 (.cel _ _) rfl <| Kc 12 (.cel _ _) rfl <| Kc 11 (.cel _ _) rfl <| Kc 10 (.cel _ _) rfl <| Kc 9 (.cel _ _) rfl <| Kc 8 (.cel _ _) rfl <| Kc 7 (.cel _ _) rfl <| Kc 6 (.cel _ _) rfl <| Kc 5 (.cel _ _) rfl <| Kc 4 (.box _ _ _) rfl <| Kc 3 (.cel _ _) rfl <| Kc 2 (.cel _ _) rfl <| Kn) ?_
  refine AWl.nil ?_
  refine AX.pr (Kc 4 (.box _ _ _) rfl <| Kn) ?_
  refine AX.go ?_
  refine AW.ret ?_
  exact AX.rt (rs := [.cell 4 41]) (ts := [none]) (.inl rfl) rfl (ROs.cons (RO.cellA (by decide) (Kb rfl rfl) ag41 sz41) <| ROs.nil) (by decide) OutsOK.nil

/-- impl.LessMask -/
theorem c_impl_LessMask (x y : BitVec 64 × BitVec 64) : AC Try.prog 96 [.agg kMask x, .agg kMask y] [.agg kMask (lessM x y)] [] := by
  refine ⟨ACall.intro (N := 16) Try.func96 (c := _) (rfl : Func.body _ = some _) rfl (Nat.le_of_ble_eq_true rfl) (Nat.le_of_ble_eq_true rfl) rfl (Nat.le_of_ble_eq_true rfl) fun w0 hd s0 ar har => ?_, _, Try.func96, rfl, by decide⟩
  refine AW.to (Kc 0 (.agg _ _) rfl <| Kc 1 (.agg _ _) rfl <| Kn) ?_
  refine AW.seq ?_
  refine AW.region ?_
  refine AWl.st rfl (OpT.frz (OpT.boxA (E := 41) rfl rfl (okd rfl rfl) (Tm rfl rfl rfl))) rfl ?_
  refine AWl.st rfl (OpT.frz (OpT.boxA (E := 41) rfl rfl (okd rfl rfl) (Tm rfl rfl rfl))) rfl ?_
  refine AWl.st rfl (OpT.alloc rfl rfl (okd rfl rfl) zr41 zk41) rfl ?_
  refine AWl.nil ?_
  refine AX.pr (Kc 4 (.box _ _ _) rfl <| Kc 3 (.cel _ _) rfl <| Kc 2 (.cel _ _) rfl <| Kn) ?_
  refine AX.go ?_
  refine AW.seq ?_
  refine AW.region ?_
  refine AWl.st rfl (OpT.indexAddrP rfl rfl (okd rfl rfl) (Tm rfl rfl rfl) (I rfl) ar41 sz38 (by decide) sx41_0) rfl ?_
  refine AWl.st rfl (OpT.load rfl rfl (okd rfl rfl) (Tm rfl rfl rfl) ag38 rfl) rfl ?_
  refine AWl.st rfl (OpT.indexAddrP rfl rfl (okd rfl rfl) (Tm rfl rfl rfl) (I rfl) ar41 sz38 (by decide) sx41_0) rfl ?_
  refine AWl.st rfl (OpT.load rfl rfl (okd rfl rfl) (Tm rfl rfl rfl) ag38 rfl) rfl ?_
  refine AWl.st rfl (OpT.bandNot rfl rfl (okd rfl rfl) (Tm rfl rfl rfl) (Tm rfl rfl rfl)) rfl ?_
  refine AWl.st rfl (OpT.indexAddrP rfl rfl (okd rfl rfl) (Tm rfl rfl rfl) (I rfl) ar41 sz38 (by decide) sx41_1) rfl ?_
  refine AWl.st rfl (OpT.load rfl rfl (okd rfl rfl) (Tm rfl rfl rfl) ag38 rfl) rfl ?_
  refine AWl.st rfl (OpT.indexAddrP rfl rfl (okd rfl rfl) (Tm rfl rfl rfl) (I rfl) ar41 sz38 (by decide) sx41_1) rfl ?_
  refine AWl.st rfl (OpT.load rfl rfl (okd rfl rfl) (Tm rfl rfl rfl) ag38 rfl) rfl ?_
  refine AWl.st rfl (OpT.bandNot rfl rfl (okd rfl rfl) (Tm rfl rfl rfl) (Tm rfl rfl rfl)) rfl ?_
  refine AWl.st rfl (OpT.buildA rfl rfl (okd rfl rfl) ar41 sz38 zr41 zk41 (Built.cel (Tm rfl rfl rfl) rfl rfl sx41_0 (Built.cel (Tm rfl rfl rfl) rfl rfl sx41_1 (Built.nil _)))) rfl ?_
  refine AWl.sg rfl (OpT.storeBA rfl rfl (Opd.whole (Root.self (by decide)) rfl) rfl sz41 (by decide) (Tm rfl rfl rfl)) (Kc 15 (.agg _ _) rfl <| Kc 14 (.cel _ _) rfl <| Kc 13 (.cel _ _) rfl <| Kc 12 (.cel _ _) rfl <| Kc 11 (.cel _ _) rfl <| Kc 10 (.cel _ _) rfl <| Kc 9 (.cel _ _) rfl <| Kc 8 (.cel _ _) rfl <| Kc 7 (.cel _ _) rfl <| Kc 6 (.cel _ _) rfl <| Kc 5 (.cel _ _) rfl <| Kc 4 (.box _ _ _) rfl <| Kc 3 (.cel _ _) rfl <| Kc 2 (.cel _ _) rfl <| Kn) ?_
  refine AWl.nil ?_
  refine AX.pr (Kc 4 (.box _ _ _) rfl <| Kn) ?_
  refine AX.go ?_
  refine AW.ret ?_
  exact AX.rt (rs := [.cell 4 41]) (ts := [none]) (.inl rfl) rfl (ROs.cons (RO.cellA (by decide) (Kb rfl rfl) ag41 sz41) <| ROs.nil) (by decide) OutsOK.nil

/-- bits.OnesCount64 -/
theorem c_math_bits_OnesCount64 (x : BitVec 64) : AC Try.prog 112 [.cel Kd.u64 x] [.cel (Kd.int .i64) (pop x)] [] := by
  refine ⟨ACall.intro (N := 35) Try.func112 (c := _) (rfl : Func.body _ = some _) rfl (Nat.le_of_ble_eq_true rfl) (Nat.le_of_ble_eq_true rfl) rfl (Nat.le_of_ble_eq_true rfl) fun w0 hd s0 ar har => ?_, _, Try.func112, rfl, by decide⟩
  refine AW.to (Kc 0 (.cel _ _) rfl <| Kn) ?_
  refine AW.seq ?_
  refine AW.region ?_
  refine AWl.st rfl (OpT.move (A := .cel _ _) (.inr rfl) rfl (okd rfl rfl) (I rfl) rfl) rfl ?_
  refine AWl.nil ?_
  refine AX.go ?_
  refine AW.seq ?_
  refine AW.region ?_
  refine AWl.st rfl (OpT.move (A := .cel _ _) (.inl rfl) rfl (okd rfl rfl) (Tm rfl rfl rfl) rfl) rfl ?_
  refine AWl.st rfl (OpT.shr rfl rfl (okd rfl rfl) (Tm rfl rfl rfl) (I rfl) (by decide)) rfl ?_
  refine AWl.st rfl (OpT.band rfl rfl (okd rfl rfl) (Tm rfl rfl rfl) (U2 6148914691236517205 rfl rfl)) rfl ?_
  refine AWl.st rfl (OpT.move (A := .cel _ _) (.inl rfl) rfl (okd rfl rfl) (Tm rfl rfl rfl) rfl) rfl ?_
  refine AWl.st rfl (OpT.band rfl rfl (okd rfl rfl) (Tm rfl rfl rfl) (U2 6148914691236517205 rfl rfl)) rfl ?_
  refine AWl.st rfl (OpT.uadd rfl rfl (okd rfl rfl) (Tm rfl rfl rfl) (Tm rfl rfl rfl)) rfl ?_
  refine AWl.sg rfl (OpT.move (A := .cel _ _) (.inr rfl) rfl (okd rfl rfl) (Tm rfl rfl rfl) rfl) (Kc 0 (.cel _ _) rfl <| Kc 8 (.cel _ _) rfl <| Kc 7 (.cel _ _) rfl <| Kc 6 (.cel _ _) rfl <| Kc 5 (.cel _ _) rfl <| Kc 4 (.cel _ _) rfl <| Kc 3 (.cel _ _) rfl <| Kc 2 (.cel _ _) rfl <| Kn) ?_
  refine AWl.nil ?_
  refine AX.pr (Kc 0 (.cel _ _) rfl <| Kc 2 (.cel _ _) rfl <| Kn) ?_
  refine AX.go ?_
  refine AW.seq ?_
  refine AW.region ?_
  refine AWl.st rfl (OpT.move (A := .cel _ _) (.inl rfl) rfl (okd rfl rfl) (Tm rfl rfl rfl) rfl) rfl ?_
  refine AWl.st rfl (OpT.shr rfl rfl (okd rfl rfl) (Tm rfl rfl rfl) (I rfl) (by decide)) rfl ?_
  refine AWl.st rfl (OpT.band rfl rfl (okd rfl rfl) (Tm rfl rfl rfl) (U2 3689348814741910323 rfl rfl)) rfl ?_
  refine AWl.st rfl (OpT.move (A := .cel _ _) (.inl rfl) rfl (okd rfl rfl) (Tm rfl rfl rfl) rfl) rfl ?_
  refine AWl.st rfl (OpT.band rfl rfl (okd rfl rfl) (Tm rfl rfl rfl) (U2 3689348814741910323 rfl rfl)) rfl ?_
  refine AWl.st rfl (OpT.uadd rfl rfl (okd rfl rfl) (Tm rfl rfl rfl) (Tm rfl rfl rfl)) rfl ?_
  refine AWl.sg rfl (OpT.move (A := .cel _ _) (.inr rfl) rfl (okd rfl rfl) (Tm rfl rfl rfl) rfl) (Kc 0 (.cel _ _) rfl <| Kc 14 (.cel _ _) rfl <| Kc 13 (.cel _ _) rfl <| Kc 12 (.cel _ _) rfl <| Kc 11 (.cel _ _) rfl <| Kc 10 (.cel _ _) rfl <| Kc 9 (.cel _ _) rfl <| Kc 2 (.cel _ _) rfl <| Kn) ?_
  refine AWl.nil ?_
  refine AX.pr (Kc 0 (.cel _ _) rfl <| Kc 2 (.cel _ _) rfl <| Kn) ?_
  refine AX.go ?_
  refine AW.seq ?_
  refine AW.region ?_
  refine AWl.st rfl (OpT.move (A := .cel _ _) (.inl rfl) rfl (okd rfl rfl) (Tm rfl rfl rfl) rfl) rfl ?_
  refine AWl.st rfl (OpT.shr rfl rfl (okd rfl rfl) (Tm rfl rfl rfl) (I rfl) (by decide)) rfl ?_
  refine AWl.st rfl (OpT.move (A := .cel _ _) (.inl rfl) rfl (okd rfl rfl) (Tm rfl rfl rfl) rfl) rfl ?_
  refine AWl.st rfl (OpT.uadd rfl rfl (okd rfl rfl) (Tm rfl rfl rfl) (Tm rfl rfl rfl)) rfl ?_
  refine AWl.st rfl (OpT.band rfl rfl (okd rfl rfl) (Tm rfl rfl rfl) (U2 1085102592571150095 rfl rfl)) rfl ?_
  refine AWl.sg rfl (OpT.move (A := .cel _ _) (.inr rfl) rfl (okd rfl rfl) (Tm rfl rfl rfl) rfl) (Kc 0 (.cel _ _) rfl <| Kc 19 (.cel _ _) rfl <| Kc 18 (.cel _ _) rfl <| Kc 17 (.cel _ _) rfl <| Kc 16 (.cel _ _) rfl <| Kc 15 (.cel _ _) rfl <| Kc 2 (.cel _ _) rfl <| Kn) ?_
  refine AWl.nil ?_
  refine AX.pr (Kc 0 (.cel _ _) rfl <| Kc 2 (.cel _ _) rfl <| Kn) ?_
  refine AX.go ?_
  refine AW.seq ?_
  refine AW.region ?_
  refine AWl.st rfl (OpT.move (A := .cel _ _) (.inl rfl) rfl (okd rfl rfl) (Tm rfl rfl rfl) rfl) rfl ?_
  refine AWl.st rfl (OpT.move (A := .cel _ _) (.inl rfl) rfl (okd rfl rfl) (Tm rfl rfl rfl) rfl) rfl ?_
  refine AWl.st rfl (OpT.shr rfl rfl (okd rfl rfl) (Tm rfl rfl rfl) (I rfl) (by decide)) rfl ?_
  refine AWl.st rfl (OpT.uadd rfl rfl (okd rfl rfl) (Tm rfl rfl rfl) (Tm rfl rfl rfl)) rfl ?_
  refine AWl.sg rfl (OpT.move (A := .cel _ _) (.inr rfl) rfl (okd rfl rfl) (Tm rfl rfl rfl) rfl) (Kc 0 (.cel _ _) rfl <| Kc 23 (.cel _ _) rfl <| Kc 22 (.cel _ _) rfl <| Kc 21 (.cel _ _) rfl <| Kc 20 (.cel _ _) rfl <| Kc 2 (.cel _ _) rfl <| Kn) ?_
  refine AWl.nil ?_
  refine AX.pr (Kc 0 (.cel _ _) rfl <| Kc 2 (.cel _ _) rfl <| Kn) ?_
  refine AX.go ?_
  refine AW.seq ?_
  refine AW.region ?_
  refine AWl.st rfl (OpT.move (A := .cel _ _) (.inl rfl) rfl (okd rfl rfl) (Tm rfl rfl rfl) rfl) rfl ?_
  refine AWl.st rfl (OpT.move (A := .cel _ _) (.inl rfl) rfl (okd rfl rfl) (Tm rfl rfl rfl) rfl) rfl ?_
  refine AWl.st rfl (OpT.shr rfl rfl (okd rfl rfl) (Tm rfl rfl rfl) (I rfl) (by decide)) rfl ?_
  refine AWl.st rfl (OpT.uadd rfl rfl (okd rfl rfl) (Tm rfl rfl rfl) (Tm rfl rfl rfl)) rfl ?_
  refine AWl.sg rfl (OpT.move (A := .cel _ _) (.inr rfl) rfl (okd rfl rfl) (Tm rfl rfl rfl) rfl) (Kc 0 (.cel _ _) rfl <| Kc 27 (.cel _ _) rfl <| Kc 26 (.cel _ _) rfl <| Kc 25 (.cel _ _) rfl <| Kc 24 (.cel _ _) rfl <| Kc 2 (.cel _ _) rfl <| Kn) ?_
  refine AWl.nil ?_
  refine AX.pr (Kc 0 (.cel _ _) rfl <| Kc 2 (.cel _ _) rfl <| Kn) ?_
  refine AX.go ?_
  refine AW.seq ?_
  refine AW.region ?_
  refine AWl.st rfl (OpT.move (A := .cel _ _) (.inl rfl) rfl (okd rfl rfl) (Tm rfl rfl rfl) rfl) rfl ?_
  refine AWl.st rfl (OpT.move (A := .cel _ _) (.inl rfl) rfl (okd rfl rfl) (Tm rfl rfl rfl) rfl) rfl ?_
  refine AWl.st rfl (OpT.shr rfl rfl (okd rfl rfl) (Tm rfl rfl rfl) (I rfl) (by decide)) rfl ?_
  refine AWl.st rfl (OpT.uadd rfl rfl (okd rfl rfl) (Tm rfl rfl rfl) (Tm rfl rfl rfl)) rfl ?_
  refine AWl.sg rfl (OpT.move (A := .cel _ _) (.inr rfl) rfl (okd rfl rfl) (Tm rfl rfl rfl) rfl) (Kc 0 (.cel _ _) rfl <| Kc 31 (.cel _ _) rfl <| Kc 30 (.cel _ _) rfl <| Kc 29 (.cel _ _) rfl <| Kc 28 (.cel _ _) rfl <| Kc 2 (.cel _ _) rfl <| Kn) ?_
  refine AWl.nil ?_
  refine AX.pr (Kc 0 (.cel _ _) rfl <| Kc 2 (.cel _ _) rfl <| Kn) ?_
  refine AX.go ?_
  refine AW.seq ?_
  refine AW.region ?_
  refine AWl.st rfl (OpT.move (A := .cel _ _) (.inl rfl) rfl (okd rfl rfl) (Tm rfl rfl rfl) rfl) rfl ?_
  refine AWl.st rfl (OpT.convi rfl rfl (okd rfl rfl) us38 Try.underlying3 (Tm rfl rfl rfl) (ones_wrap x)) rfl ?_
  refine AWl.st rfl (OpT.iand (y := 127) rfl rfl (okd rfl rfl) (Tm rfl rfl rfl) (I rfl)) rfl ?_
  refine AWl.sg rfl (OpT.move (A := .cel _ _) (.inr rfl) rfl (okd rfl rfl) (Tm rfl rfl rfl) rfl) (Kc 2 (.cel _ _) rfl <| Kc 34 (.cel _ _) rfl <| Kc 33 (.cel _ _) rfl <| Kc 32 (.cel _ _) rfl <| Kc 0 (.cel _ _) rfl <| Kn) ?_
  refine AWl.nil ?_
  refine AX.pr (Kc 2 (.cel _ _) rfl <| Kn) ?_
  refine AX.go ?_
  refine AW.ret ?_
  exact AX.rt (rs := [.tmp 2]) (ts := [some 2]) (.inl rfl) rfl (ROs.cons (RO.tmp (At.self (by decide)) (Kv rfl (ones_eq x).2) rfl) <| ROs.nil) (by decide) OutsOK.nil

/-- impl.CountHoles -/
theorem c_impl_CountHoles (x : BitVec 64 × BitVec 64) : AC Try.prog 95 [.agg kMask x] [.cel (Kd.int .i64) (cntM x)] [] := by
  refine ⟨ACall.intro (N := 10) Try.func95 (c := _) (rfl : Func.body _ = some _) rfl (Nat.le_of_ble_eq_true rfl) (Nat.le_of_ble_eq_true rfl) rfl (Nat.le_of_ble_eq_true rfl) fun w0 hd s0 ar har => ?_, _, Try.func95, rfl, by decide⟩
  refine AW.to (Kc 0 (.agg _ _) rfl <| Kn) ?_
  have h1 := pop_in x.1
  have h2 := pop_in x.2
  refine AW.seq ?_
  refine AW.region ?_
  refine AWl.st rfl (OpT.frz (OpT.boxA (E := 41) rfl rfl (okd rfl rfl) (Tm rfl rfl rfl))) rfl ?_
  refine AWl.st rfl (OpT.move (A := .cel _ _) (.inr rfl) rfl (okd rfl rfl) (I rfl) rfl) rfl ?_
  refine AWl.nil ?_
  refine AX.pr (Kc 2 (.cel _ _) rfl <| Kc 1 (.cel _ _) rfl <| Kn) ?_
  refine AX.go ?_
  refine AW.seq ?_
  refine AW.dg fomo ?_
  refine DG.fr (d := 3) [1] (DS rfl fun v h => OpT.indexAddrP rfl rfl (okd rfl rfl) (D h rfl rfl rfl rfl) (I rfl) ar41 sz38 (by decide) sx41_0) rfl rfl ?_
  refine DG.fr (d := 4) [3] (DS rfl fun v h => OpT.load rfl rfl (okd rfl rfl) (D h rfl rfl rfl rfl) ag38 rfl) rfl rfl ?_
  refine DG.fr (d := 5) [4] (DS rfl fun v h => OpT.c1 (ms := [.flat]) (c_math_bits_OnesCount64 _) rfl rfl (okd rfl rfl) (Af (D h rfl rfl rfl rfl) rfl rfl <| An) rfl rfl) rfl rfl ?_
  refine DG.fr (d := 6) [1] (DS rfl fun v h => OpT.indexAddrP rfl rfl (okd rfl rfl) (D h rfl rfl rfl rfl) (I rfl) ar41 sz38 (by decide) sx41_1) rfl rfl ?_
  refine DG.fr (d := 7) [6] (DS rfl fun v h => OpT.load rfl rfl (okd rfl rfl) (D h rfl rfl rfl rfl) ag38 rfl) rfl rfl ?_
  refine DG.fr (d := 8) [7] (DS rfl fun v h => OpT.c1 (ms := [.flat]) (c_math_bits_OnesCount64 _) rfl rfl (okd rfl rfl) (Af (D h rfl rfl rfl rfl) rfl rfl <| An) rfl rfl) rfl rfl ?_
  refine DG.fr (d := 9) [5, 8] (DS rfl fun v h => OpT.add rfl rfl (okd rfl rfl) (D h rfl rfl rfl rfl) (D h rfl rfl rfl rfl) (nw (by omega))) rfl rfl ?_
  refine DG.one (d := 2) (e2 := drp _ _) [9] (DS rfl fun v h => OpT.move (A := .cel _ _) (.inr rfl) rfl (okd rfl rfl) (D h rfl rfl rfl rfl) rfl) rfl rfl ?_
  refine DG.nil ⟨by kernel_rfl, by kernel_rfl, ?_⟩
  refine AX.pr (Kc 2 (.cel _ _) rfl <| Kn) ?_
  refine AX.go ?_
  refine AW.ret ?_
  exact AX.rt (rs := [.tmp 2]) (ts := [some 2]) (.inl rfl) rfl (ROs.cons (RO.tmp (At.self (by decide)) (Kv rfl rfl) rfl) <| ROs.nil) (by decide) OutsOK.nil

/-- spec.CountHoles -/
theorem c_spec_CountHoles (x : BitVec 64 × BitVec 64) : AC Try.prog 93 [.agg kMask x] [.cel (Kd.int .i64) (cntM x)] [] := by
  refine ⟨ACall.intro (N := 23) Try.func93 (c := _) (rfl : Func.body _ = some _) rfl (Nat.le_of_ble_eq_true rfl) (Nat.le_of_ble_eq_true rfl) rfl (Nat.le_of_ble_eq_true rfl) fun w0 hd s0 ar har => ?_, _, Try.func93, rfl, by decide⟩
  refine AW.to (Kc 0 (.agg _ _) rfl <| Kn) ?_
  refine AW.seq ?_
  refine AW.region ?_
  refine AWl.st rfl (OpT.frz (OpT.boxA (E := 41) rfl rfl (okd rfl rfl) (Tm rfl rfl rfl))) rfl ?_
  refine AWl.st rfl (OpT.move (A := .cel _ _) (.inr rfl) rfl (okd rfl rfl) (I rfl) rfl) rfl ?_
  refine AWl.nil ?_
  refine AX.pr (Kc 2 (.cel _ _) rfl <| Kc 1 (.cel _ _) rfl <| Kn) ?_
  refine AX.go ?_
  refine AW.seq ?_
  refine AW.region ?_
  refine AWl.st rfl (OpT.move (A := .cel _ _) (.inr rfl) rfl (okd rfl rfl) (I rfl) rfl) rfl ?_
  refine AWl.nil ?_
  refine AX.go ?_
  refine AW.seq ?_
  refine AW.seq ?_
  refine AW.region ?_
  refine AWl.st rfl (OpT.move (A := .cel _ _) (.inr rfl) rfl (okd rfl rfl) (I rfl) rfl) rfl ?_
  refine AWl.nil ?_
  refine AX.go ?_
  refine AW.block ?_
  refine AW.loop (fun z : Nat => z ≤ 2) (fun z : Nat => keep [(1, .cel (Kd.ptr kMask) x), (3, .cel (Kd.int .i64) (pcs x z)), (4, .cel (Kd.int .i64) (z : Int))]) (fun z : Nat => 2 - z) (0) (by omega) (Kc 1 _ (Kv rfl rfl) <| Kc 3 _ (Kv rfl rfl) <| Kc 4 _ (Kv rfl rfl) <| Kn) ?_
  intro z hI
  refine AW.seq ?_
  refine AW.seq ?_
  refine AW.region ?_
  refine AWl.st rfl (OpT.move (A := .cel _ _) (.inl rfl) rfl (okd rfl rfl) (Tm rfl rfl rfl) rfl) rfl ?_
  refine AWl.st rfl (OpT.lss rfl rfl (okd rfl rfl) (Tm rfl rfl rfl) (I rfl)) rfl ?_
  refine AWl.nil ?_
  refine AX.go ?_
  refine AW.cond (t := 7) rfl (by decide) (fun hc1 => ?_) (fun hc1 => ?_)
  ·
    try simp only [decide_eq_true_eq, decide_eq_false_iff_not, Bool.not_eq_true', Bool.not_eq_false'] at hc1
    refine AW.skip ?_
    refine AX.go ?_
    refine AW.seq ?_
    refine AW.block ?_
    refine AW.seq ?_
    refine AW.region ?_
    refine AWl.st rfl (OpT.move (A := .cel _ _) (.inl rfl) rfl (okd rfl rfl) (Tm rfl rfl rfl) rfl) rfl ?_
    refine AWl.st rfl (OpT.indexAddrP rfl rfl (okd rfl rfl) (Tm rfl rfl rfl) (Tm rfl rfl rfl) ar41 sz38 (by omega) (Sub.two (by omega) rfl)) rfl ?_
    refine AWl.st rfl (OpT.load rfl rfl (okd rfl rfl) (Tm rfl rfl rfl) ag38 rfl) rfl ?_
    refine AWl.st rfl (OpT.move (A := .cel _ _) (.inr rfl) rfl (okd rfl rfl) (Tm rfl rfl rfl) rfl) rfl ?_
    refine AWl.nil ?_
    refine AX.go ?_
    refine AW.block ?_
    refine AW.loop (fun p : BitVec 64 × Int => p.2 + pop p.1 = pcs x (z + 1) ∧ 0 ≤ p.2 ∧ p.2 ≤ 128) (fun p : BitVec 64 × Int => keep [(1, .cel (Kd.ptr kMask) x), (3, .cel (Kd.int .i64) p.2), (4, .cel (Kd.int .i64) (z : Int)), (5, .cel Kd.u64 p.1)]) (fun p : BitVec 64 × Int => p.1.toNat) ((if Int.toNat (z : Int) = 0 then x.1 else x.2, pcs x z)) (pcs_step x (by omega)) (Kc 1 _ (Kv rfl rfl) <| Kc 3 _ (Kv rfl rfl) <| Kc 4 _ (Kv rfl rfl) <| Kc 5 _ (Kv rfl rfl) <| Kn) ?_
    intro p hI
    have hpi := pop_in p.1
    have hst := pop_step p.1
    have hr2 := rem2_in p.1
    have hpj := pop_in (p.1 / 2#64)
    have hps := pcs_in x (z + 1)
    refine AW.seq ?_
    refine AW.seq ?_
    refine AW.region ?_
    refine AWl.st rfl (OpT.move (A := .cel _ _) (.inl rfl) rfl (okd rfl rfl) (Tm rfl rfl rfl) rfl) rfl ?_
    refine AWl.st rfl (OpT.ugtr rfl rfl (okd rfl rfl) (Tm rfl rfl rfl) (U2 0 rfl rfl)) rfl ?_
    refine AWl.nil ?_
    refine AX.go ?_
    refine AW.cond (t := 14) rfl (by decide) (fun hc2 => ?_) (fun hc2 => ?_)
    ·
      try simp only [decide_eq_true_eq, decide_eq_false_iff_not, Bool.not_eq_true', Bool.not_eq_false'] at hc2
      refine AW.skip ?_
      refine AX.go ?_
      refine AW.seq ?_
      refine AW.block ?_
      refine AW.region ?_
      refine AWl.st rfl (OpT.move (A := .cel _ _) (.inl rfl) rfl (okd rfl rfl) (Tm rfl rfl rfl) rfl) rfl ?_
      refine AWl.st rfl (OpT.move (A := .cel _ _) (.inl rfl) rfl (okd rfl rfl) (Tm rfl rfl rfl) rfl) rfl ?_
      refine AWl.st rfl (OpT.urem rfl rfl (okd rfl rfl) (Tm rfl rfl rfl) (U2 2 rfl rfl) (by decide)) rfl ?_
      refine AWl.st rfl (OpT.convi rfl rfl (okd rfl rfl) us38 Try.underlying2 (Tm rfl rfl rfl) (wrap_i64 (by have := rem2_in p.1; omega))) rfl ?_
      refine AWl.st rfl (OpT.add rfl rfl (okd rfl rfl) (Tm rfl rfl rfl) (Tm rfl rfl rfl) (nw (by omega))) rfl ?_
      refine AWl.sg rfl (OpT.move (A := .cel _ _) (.inr rfl) rfl (okd rfl rfl) (Tm rfl rfl rfl) rfl) (Kc 3 (.cel _ _) rfl <| Kc 21 (.cel _ _) rfl <| Kc 20 (.cel _ _) rfl <| Kc 19 (.cel _ _) rfl <| Kc 18 (.cel _ _) rfl <| Kc 17 (.cel _ _) rfl <| Kc 14 (.cel _ _) rfl <| Kc 13 (.cel _ _) rfl <| Kc 1 (.cel _ _) rfl <| Kc 4 (.cel _ _) rfl <| Kc 5 (.cel _ _) rfl <| Kn) ?_
      refine AWl.nil ?_
      refine AX.normal_block ?_
      refine AX.go ?_
      refine AW.region ?_
      refine AWl.st rfl (OpT.move (A := .cel _ _) (.inl rfl) rfl (okd rfl rfl) (Tm rfl rfl rfl) rfl) rfl ?_
      refine AWl.st rfl (OpT.uquo rfl rfl (okd rfl rfl) (Tm rfl rfl rfl) (U2 2 rfl rfl) (by decide)) rfl ?_
      refine AWl.sg rfl (OpT.move (A := .cel _ _) (.inr rfl) rfl (okd rfl rfl) (Tm rfl rfl rfl) rfl) (Kc 5 (.cel _ _) rfl <| Kc 16 (.cel _ _) rfl <| Kc 15 (.cel _ _) rfl <| Kc 3 (.cel _ _) rfl <| Kc 21 (.cel _ _) rfl <| Kc 20 (.cel _ _) rfl <| Kc 19 (.cel _ _) rfl <| Kc 18 (.cel _ _) rfl <| Kc 17 (.cel _ _) rfl <| Kc 14 (.cel _ _) rfl <| Kc 13 (.cel _ _) rfl <| Kc 1 (.cel _ _) rfl <| Kc 4 (.cel _ _) rfl <| Kn) ?_
      refine AWl.nil ?_
      exact AX.again ((p.1 / 2#64, p.2 + ((p.1 % 2#64).toNat : Int))) (by refine ⟨?_, ?_, ?_⟩ <;> (try simp only []) <;> omega) (half_lt (by simpa using hc2)) (Kc 1 _ (Kv rfl rfl) <| Kc 3 _ (Kv rfl rfl) <| Kc 4 _ (Kv rfl rfl) <| Kc 5 _ (Kv rfl rfl) <| Kn)
    ·
      try simp only [decide_eq_true_eq, decide_eq_false_iff_not, Bool.not_eq_true', Bool.not_eq_false'] at hc2
      refine AW.exit ?_
      refine AX.exit_then ?_
      refine AX.exit_then ?_
      refine AX.exit_hit ?_
      refine AX.normal_block ?_
      refine AX.go ?_
      refine AW.region ?_
      refine AWl.st rfl (OpT.move (A := .cel _ _) (.inl rfl) rfl (okd rfl rfl) (Tm rfl rfl rfl) rfl) rfl ?_
      refine AWl.st rfl (OpT.add rfl rfl (okd rfl rfl) (Tm rfl rfl rfl) (I rfl) (nw (by omega))) rfl ?_
      refine AWl.sg rfl (OpT.move (A := .cel _ _) (.inr rfl) rfl (okd rfl rfl) (Tm rfl rfl rfl) rfl) (Kc 4 (.cel _ _) rfl <| Kc 9 (.cel _ _) rfl <| Kc 8 (.cel _ _) rfl <| Kc 14 (.cel _ _) rfl <| Kc 13 (.cel _ _) rfl <| Kc 1 (.cel _ _) rfl <| Kc 3 (.cel _ _) rfl <| Kc 5 (.cel _ _) rfl <| Kn) ?_
      refine AWl.nil ?_
      exact AX.again (z + 1) (by omega) (by omega) (Kc 1 _ (Kv rfl rfl) <| Kc 3 _ (Kv rfl (by have := pop_of_zero hc2; omega)) <| Kc 4 _ (Kv rfl (by omega)) <| Kn)
  ·
    try simp only [decide_eq_true_eq, decide_eq_false_iff_not, Bool.not_eq_true', Bool.not_eq_false'] at hc1
    refine AW.exit ?_
    refine AX.exit_then ?_
    refine AX.exit_then ?_
    refine AX.exit_hit ?_
    refine AX.pr (Kc 3 (.cel _ _) rfl <| Kn) ?_
    refine AX.go ?_
    refine AW.seq ?_
    refine AW.region ?_
    refine AWl.st rfl (OpT.move (A := .cel _ _) (.inl rfl) rfl (okd rfl rfl) (Tm rfl rfl rfl) rfl) rfl ?_
    refine AWl.st rfl (OpT.move (A := .cel _ _) (.inr rfl) rfl (okd rfl rfl) (Tm rfl rfl rfl) rfl) rfl ?_
    refine AWl.nil ?_
    refine AX.pr (Kc 2 (.cel _ _) rfl <| Kn) ?_
    refine AX.go ?_
    refine AW.ret ?_
    exact AX.rt (rs := [.tmp 2]) (ts := [some 2]) (.inl rfl) rfl (ROs.cons (RO.tmp (At.self (by decide)) (Kv rfl (by obtain rfl : z = 2 := (by omega); rfl)) rfl) <| ROs.nil) (by decide) OutsOK.nil

/-- spec.l07Far -/
theorem c_spec_l07Far (x y : BitVec 64 × BitVec 64) : AC Try.prog 60 [.agg kMask x, .agg kMask y] [.cel (Kd.int .i64) (distM x y)] [] := by
  refine ⟨ACall.intro (N := 14) Try.func60 (c := _) (rfl : Func.body _ = some _) rfl (Nat.le_of_ble_eq_true rfl) (Nat.le_of_ble_eq_true rfl) rfl (Nat.le_of_ble_eq_true rfl) fun w0 hd s0 ar har => ?_, _, Try.func60, rfl, by decide⟩
  refine AW.to (Kc 0 (.agg _ _) rfl <| Kc 1 (.agg _ _) rfl <| Kn) ?_
  have h1 := cntM_in (lessM x y)
  have h2 := cntM_in (lessM y x)
  refine AW.seq ?_
  refine AW.region ?_
  refine AWl.st rfl (OpT.frz (OpT.boxA (E := 41) rfl rfl (okd rfl rfl) (Tm rfl rfl rfl))) rfl ?_
  refine AWl.st rfl (OpT.frz (OpT.boxA (E := 41) rfl rfl (okd rfl rfl) (Tm rfl rfl rfl))) rfl ?_
  refine AWl.st rfl (OpT.move (A := .cel _ _) (.inr rfl) rfl (okd rfl rfl) (I rfl) rfl) rfl ?_
  refine AWl.nil ?_
  refine AX.pr (Kc 4 (.cel _ _) rfl <| Kc 3 (.cel _ _) rfl <| Kc 2 (.cel _ _) rfl <| Kn) ?_
  refine AX.go ?_
  refine AW.seq ?_
  refine AW.dg fomo ?_
  refine DG.fr (d := 5) [2] (DS rfl fun v h => OpT.loadA rfl rfl (okd rfl rfl) (D h rfl rfl rfl rfl) ag41 sz41) rfl rfl ?_
  refine DG.fr (d := 6) [3] (DS rfl fun v h => OpT.loadA rfl rfl (okd rfl rfl) (D h rfl rfl rfl rfl) ag41 sz41) rfl rfl ?_
  refine DG.fr (d := 7) [5, 6] (DS rfl fun v h => OpT.c1 (ms := [.flat, .flat]) (c_spec_l01Less _ _) rfl rfl (okd rfl rfl) (Af (D h rfl rfl rfl rfl) rfl rfl <| Af (D h rfl rfl rfl rfl) rfl rfl <| An) rfl rfl) rfl rfl ?_
  refine DG.fr (d := 8) [7] (DS rfl fun v h => OpT.c1 (ms := [.flat]) (c_spec_CountHoles _) rfl rfl (okd rfl rfl) (Af (D h rfl rfl rfl rfl) rfl rfl <| An) rfl rfl) rfl rfl ?_
  refine DG.fr (d := 9) [3] (DS rfl fun v h => OpT.loadA rfl rfl (okd rfl rfl) (D h rfl rfl rfl rfl) ag41 sz41) rfl rfl ?_
  refine DG.fr (d := 10) [2] (DS rfl fun v h => OpT.loadA rfl rfl (okd rfl rfl) (D h rfl rfl rfl rfl) ag41 sz41) rfl rfl ?_
  refine DG.fr (d := 11) [9, 10] (DS rfl fun v h => OpT.c1 (ms := [.flat, .flat]) (c_spec_l01Less _ _) rfl rfl (okd rfl rfl) (Af (D h rfl rfl rfl rfl) rfl rfl <| Af (D h rfl rfl rfl rfl) rfl rfl <| An) rfl rfl) rfl rfl ?_
  refine DG.fr (d := 12) [11] (DS rfl fun v h => OpT.c1 (ms := [.flat]) (c_spec_CountHoles _) rfl rfl (okd rfl rfl) (Af (D h rfl rfl rfl rfl) rfl rfl <| An) rfl rfl) rfl rfl ?_
  refine DG.fr (d := 13) [8, 12] (DS rfl fun v h => OpT.add rfl rfl (okd rfl rfl) (D h rfl rfl rfl rfl) (D h rfl rfl rfl rfl) (nw (by omega))) rfl rfl ?_
  refine DG.one (d := 4) (e2 := drp _ _) [13] (DS rfl fun v h => OpT.move (A := .cel _ _) (.inr rfl) rfl (okd rfl rfl) (D h rfl rfl rfl rfl) rfl) rfl rfl ?_
  refine DG.nil ⟨by kernel_rfl, by kernel_rfl, ?_⟩
  refine AX.pr (Kc 4 (.cel _ _) rfl <| Kn) ?_
  refine AX.go ?_
  refine AW.ret ?_
  exact AX.rt (rs := [.tmp 4]) (ts := [some 4]) (.inl rfl) rfl (ROs.cons (RO.tmp (At.self (by decide)) (Kv rfl rfl) rfl) <| ROs.nil) (by decide) OutsOK.nil

/-- impl.distance -/
theorem c_impl_distance (x y : BitVec 64 × BitVec 64) : AC Try.prog 62 [.agg kMask x, .agg kMask y] [.cel (Kd.int .i64) (distM x y)] [] := by
  refine ⟨ACall.intro (N := 14) Try.func62 (c := _) (rfl : Func.body _ = some _) rfl (Nat.le_of_ble_eq_true rfl) (Nat.le_of_ble_eq_true rfl) rfl (Nat.le_of_ble_eq_true rfl) fun w0 hd s0 ar har => ?_, _, Try.func62, rfl, by decide⟩
  refine AW.to (Kc 0 (.agg _ _) rfl <| Kc 1 (.agg _ _) rfl <| Kn) ?_
  have h1 := cntM_in (lessM x y)
  have h2 := cntM_in (lessM y x)
  refine AW.seq ?_
  refine AW.region ?_
  refine AWl.st rfl (OpT.frz (OpT.boxA (E := 41) rfl rfl (okd rfl rfl) (Tm rfl rfl rfl))) rfl ?_
  refine AWl.st rfl (OpT.frz (OpT.boxA (E := 41) rfl rfl (okd rfl rfl) (Tm rfl rfl rfl))) rfl ?_
  refine AWl.st rfl (OpT.move (A := .cel _ _) (.inr rfl) rfl (okd rfl rfl) (I rfl) rfl) rfl ?_
  refine AWl.nil ?_
  refine AX.pr (Kc 4 (.cel _ _) rfl <| Kc 3 (.cel _ _) rfl <| Kc 2 (.cel _ _) rfl <| Kn) ?_
  refine AX.go ?_
  refine AW.seq ?_
  refine AW.dg fomo ?_
  refine DG.fr (d := 5) [2] (DS rfl fun v h => OpT.loadA rfl rfl (okd rfl rfl) (D h rfl rfl rfl rfl) ag41 sz41) rfl rfl ?_
  refine DG.fr (d := 6) [3] (DS rfl fun v h => OpT.loadA rfl rfl (okd rfl rfl) (D h rfl rfl rfl rfl) ag41 sz41) rfl rfl ?_
  refine DG.fr (d := 7) [5, 6] (DS rfl fun v h => OpT.c1 (ms := [.flat, .flat]) (c_impl_LessMask _ _) rfl rfl (okd rfl rfl) (Af (D h rfl rfl rfl rfl) rfl rfl <| Af (D h rfl rfl rfl rfl) rfl rfl <| An) rfl rfl) rfl rfl ?_
  refine DG.fr (d := 8) [7] (DS rfl fun v h => OpT.c1 (ms := [.flat]) (c_impl_CountHoles _) rfl rfl (okd rfl rfl) (Af (D h rfl rfl rfl rfl) rfl rfl <| An) rfl rfl) rfl rfl ?_
  refine DG.fr (d := 9) [3] (DS rfl fun v h => OpT.loadA rfl rfl (okd rfl rfl) (D h rfl rfl rfl rfl) ag41 sz41) rfl rfl ?_
  refine DG.fr (d := 10) [2] (DS rfl fun v h => OpT.loadA rfl rfl (okd rfl rfl) (D h rfl rfl rfl rfl) ag41 sz41) rfl rfl ?_
  refine DG.fr (d := 11) [9, 10] (DS rfl fun v h => OpT.c1 (ms := [.flat, .flat]) (c_impl_LessMask _ _) rfl rfl (okd rfl rfl) (Af (D h rfl rfl rfl rfl) rfl rfl <| Af (D h rfl rfl rfl rfl) rfl rfl <| An) rfl rfl) rfl rfl ?_
  refine DG.fr (d := 12) [11] (DS rfl fun v h => OpT.c1 (ms := [.flat]) (c_impl_CountHoles _) rfl rfl (okd rfl rfl) (Af (D h rfl rfl rfl rfl) rfl rfl <| An) rfl rfl) rfl rfl ?_
  refine DG.fr (d := 13) [8, 12] (DS rfl fun v h => OpT.add rfl rfl (okd rfl rfl) (D h rfl rfl rfl rfl) (D h rfl rfl rfl rfl) (nw (by omega))) rfl rfl ?_
  refine DG.one (d := 4) (e2 := drp _ _) [13] (DS rfl fun v h => OpT.move (A := .cel _ _) (.inr rfl) rfl (okd rfl rfl) (D h rfl rfl rfl rfl) rfl) rfl rfl ?_
  refine DG.nil ⟨by kernel_rfl, by kernel_rfl, ?_⟩
  refine AX.pr (Kc 4 (.cel _ _) rfl <| Kn) ?_
  refine AX.go ?_
  refine AW.ret ?_
  exact AX.rt (rs := [.tmp 4]) (ts := [some 4]) (.inl rfl) rfl (ROs.cons (RO.tmp (At.self (by decide)) (Kv rfl rfl) rfl) <| ROs.nil) (by decide) OutsOK.nil

/-- spec.DistanceOf -/
theorem c_spec_DistanceOf (x y : BitVec 64 × BitVec 64) : AC Try.prog 22 [.agg kMask x, .agg kMask y] [.cel (Kd.int .i64) (distS x y).1, .cel (Kd.int .i64) (distS x y).2] [] := by
  refine ⟨ACall.intro (N := 17) Try.func22 (c := _) (rfl : Func.body _ = some _) rfl (Nat.le_of_ble_eq_true rfl) (Nat.le_of_ble_eq_true rfl) rfl (Nat.le_of_ble_eq_true rfl) fun w0 hd s0 ar har => ?_, _, Try.func22, rfl, by decide⟩
  refine AW.to (Kc 0 (.agg _ _) rfl <| Kc 1 (.agg _ _) rfl <| Kn) ?_
  refine AW.seq ?_
  refine AW.region ?_
  refine AWl.st rfl (OpT.frz (OpT.boxA (E := 41) rfl rfl (okd rfl rfl) (Tm rfl rfl rfl))) rfl ?_
  refine AWl.st rfl (OpT.frz (OpT.boxA (E := 41) rfl rfl (okd rfl rfl) (Tm rfl rfl rfl))) rfl ?_
  refine AWl.st rfl (OpT.move (A := .cel _ _) (.inr rfl) rfl (okd rfl rfl) (I rfl) rfl) rfl ?_
  refine AWl.st rfl (OpT.move (A := .cel _ _) (.inr rfl) rfl (okd rfl rfl) (I rfl) rfl) rfl ?_
  refine AWl.nil ?_
  refine AX.pr (Kc 5 (.cel _ _) rfl <| Kc 4 (.cel _ _) rfl <| Kc 3 (.cel _ _) rfl <| Kc 2 (.cel _ _) rfl <| Kn) ?_
  refine AX.go ?_
  refine AW.seq ?_
  refine AW.seq ?_
  refine AW.region ?_
  refine AWl.st rfl (OpT.loadA rfl rfl (okd rfl rfl) (Tm rfl rfl rfl) ag41 sz41) rfl ?_
  refine AWl.st rfl (OpT.c1 (ms := [.flat]) (c_spec_l01Mask _) rfl rfl (okd rfl rfl) (Af (Tm rfl rfl rfl) rfl rfl <| An) rfl rfl) rfl ?_
  refine AWl.st rfl (OpT.not rfl rfl (okd rfl rfl) (Tm rfl rfl rfl)) rfl ?_
  refine AWl.st rfl (OpT.move (A := .cel _ _) (.inl rfl) rfl (okd rfl rfl) (Tm rfl rfl rfl) rfl) rfl ?_
  apply AWl.or (d := 13) (t := 9) rfl
  · intro hb1 Q1 k1
    refine AWl.rs rfl rfl rfl rfl hb1 (OpT.loadA rfl rfl (okd rfl rfl) (Tm rfl rfl rfl) ag41 sz41) rfl ?_
    refine AWl.rs rfl rfl rfl rfl hb1 (OpT.c1 (ms := [.flat]) (c_spec_l01Mask _) rfl rfl (okd rfl rfl) (Af (Tm rfl rfl rfl) rfl rfl <| An) rfl rfl) rfl ?_
    refine AWl.rs rfl rfl rfl rfl hb1 (OpT.not rfl rfl (okd rfl rfl) (Tm rfl rfl rfl)) rfl ?_
    refine AWl.st rfl (OpT.pickF (A := .cel _ _) rfl rfl (okd rfl rfl) (Tm rfl rfl rfl) hb1 (Tm rfl rfl rfl) rfl) rfl ?_
    exact AWl.to (junk 3 rfl) k1
  · intro hb1 Q1 k1
    refine AWl.pas rfl rfl rfl rfl hb1 rfl (okd rfl rfl) rfl ?_
    refine AWl.pas rfl rfl rfl rfl hb1 rfl (okd rfl rfl) rfl ?_
    refine AWl.pas rfl rfl rfl rfl hb1 rfl (okd rfl rfl) rfl ?_
    refine AWl.st rfl (OpT.pickT (A := .cel _ _) rfl rfl (okd rfl rfl) (Tm rfl rfl rfl) hb1 Opd.bool rfl) rfl ?_
    exact k1
  refine AWl.nil ?_
  refine AX.pr (Kc 13 (.cel _ _) rfl <| Kc 5 (.cel _ _) rfl <| Kc 4 (.cel _ _) rfl <| Kc 3 (.cel _ _) rfl <| Kc 2 (.cel _ _) rfl <| Kn) ?_
  refine AX.go ?_
  refine AW.cond (t := 13) rfl (by decide) (fun hc1 => ?_) (fun hc1 => ?_)
  ·
    try simp only [decide_eq_true_eq, decide_eq_false_iff_not, Bool.not_eq_true', Bool.not_eq_false'] at hc1
    refine AW.seq ?_
    refine AW.region ?_
    refine AWl.sg rfl (OpT.move (A := .cel _ _) (.inr rfl) rfl (okd rfl rfl) (I rfl) rfl) (Kc 4 (.cel _ _) rfl <| Kc 13 (.cel _ _) rfl <| Kc 5 (.cel _ _) rfl <| Kc 3 (.cel _ _) rfl <| Kc 2 (.cel _ _) rfl <| Kn) ?_
    refine AWl.sg rfl (OpT.move (A := .cel _ _) (.inr rfl) rfl (okd rfl rfl) (I rfl) rfl) (Kc 5 (.cel _ _) rfl <| Kc 4 (.cel _ _) rfl <| Kc 13 (.cel _ _) rfl <| Kc 3 (.cel _ _) rfl <| Kc 2 (.cel _ _) rfl <| Kn) ?_
    refine AWl.nil ?_
    refine AX.pr (Kc 5 (.cel _ _) rfl <| Kc 4 (.cel _ _) rfl <| Kc 3 (.cel _ _) rfl <| Kc 2 (.cel _ _) rfl <| Kn) ?_
    refine AX.go ?_
    refine AW.ret ?_
    refine AX.ret_then ?_
    exact AX.rt (rs := [.tmp 4, .tmp 5]) (ts := [some 4, some 5]) (.inl rfl) rfl (ROs.cons (RO.tmp (At.self (by decide)) (Kv rfl (by simp_all [distS])) rfl) <| ROs.cons (RO.tmp (At.self (by decide)) (Kv rfl (by simp_all [distS])) rfl) <| ROs.nil) (by decide) OutsOK.nil
  ·
    try simp only [decide_eq_true_eq, decide_eq_false_iff_not, Bool.not_eq_true', Bool.not_eq_false'] at hc1
    refine AW.skip ?_
    refine AX.pr (Kc 5 (.cel _ _) rfl <| Kc 4 (.cel _ _) rfl <| Kc 3 (.cel _ _) rfl <| Kc 2 (.cel _ _) rfl <| Kn) ?_
    refine AX.go ?_
    refine AW.seq ?_
    refine AW.region ?_
    refine AWl.st rfl (OpT.loadA rfl rfl (okd rfl rfl) (Tm rfl rfl rfl) ag41 sz41) rfl ?_
    refine AWl.st rfl (OpT.loadA rfl rfl (okd rfl rfl) (Tm rfl rfl rfl) ag41 sz41) rfl ?_
    refine AWl.st rfl (OpT.c1 (ms := [.flat, .flat]) (c_spec_l07Far _ _) rfl rfl (okd rfl rfl) (Af (Tm rfl rfl rfl) rfl rfl <| Af (Tm rfl rfl rfl) rfl rfl <| An) rfl rfl) rfl ?_
    refine AWl.sg rfl (OpT.move (A := .cel _ _) (.inr rfl) rfl (okd rfl rfl) (Tm rfl rfl rfl) rfl) (Kc 4 (.cel _ _) rfl <| Kc 16 (.cel _ _) rfl <| Kc 15 (.agg _ _) rfl <| Kc 14 (.agg _ _) rfl <| Kc 5 (.cel _ _) rfl <| Kc 3 (.cel _ _) rfl <| Kc 2 (.cel _ _) rfl <| Kn) ?_
    refine AWl.sg rfl (OpT.move (A := .cel _ _) (.inr rfl) rfl (okd rfl rfl) (I rfl) rfl) (Kc 5 (.cel _ _) rfl <| Kc 4 (.cel _ _) rfl <| Kc 16 (.cel _ _) rfl <| Kc 15 (.agg _ _) rfl <| Kc 14 (.agg _ _) rfl <| Kc 3 (.cel _ _) rfl <| Kc 2 (.cel _ _) rfl <| Kn) ?_
    refine AWl.nil ?_
    refine AX.pr (Kc 5 (.cel _ _) rfl <| Kc 4 (.cel _ _) rfl <| Kn) ?_
    refine AX.go ?_
    refine AW.ret ?_
    exact AX.rt (rs := [.tmp 4, .tmp 5]) (ts := [some 4, some 5]) (.inl rfl) rfl (ROs.cons (RO.tmp (At.self (by decide)) (Kv rfl (by simp_all [distS])) rfl) <| ROs.cons (RO.tmp (At.self (by decide)) (Kv rfl (by simp_all [distS])) rfl) <| ROs.nil) (by decide) OutsOK.nil

/-- impl.DistanceOf -/
theorem c_impl_DistanceOf (x y : BitVec 64 × BitVec 64) : AC Try.prog 24 [.agg kMask x, .agg kMask y] [.cel (Kd.int .i64) (distS x y).1, .cel (Kd.int .i64) (distS x y).2] [] := by
  refine ⟨ACall.intro (N := 17) Try.func24 (c := _) (rfl : Func.body _ = some _) rfl (Nat.le_of_ble_eq_true rfl) (Nat.le_of_ble_eq_true rfl) rfl (Nat.le_of_ble_eq_true rfl) fun w0 hd s0 ar har => ?_, _, Try.func24, rfl, by decide⟩
  refine AW.to (Kc 0 (.agg _ _) rfl <| Kc 1 (.agg _ _) rfl <| Kn) ?_
  refine AW.seq ?_
  refine AW.region ?_
  refine AWl.st rfl (OpT.frz (OpT.boxA (E := 41) rfl rfl (okd rfl rfl) (Tm rfl rfl rfl))) rfl ?_
  refine AWl.st rfl (OpT.frz (OpT.boxA (E := 41) rfl rfl (okd rfl rfl) (Tm rfl rfl rfl))) rfl ?_
  refine AWl.st rfl (OpT.move (A := .cel _ _) (.inr rfl) rfl (okd rfl rfl) (I rfl) rfl) rfl ?_
  refine AWl.st rfl (OpT.move (A := .cel _ _) (.inr rfl) rfl (okd rfl rfl) (I rfl) rfl) rfl ?_
  refine AWl.nil ?_
  refine AX.pr (Kc 5 (.cel _ _) rfl <| Kc 4 (.cel _ _) rfl <| Kc 3 (.cel _ _) rfl <| Kc 2 (.cel _ _) rfl <| Kn) ?_
  refine AX.go ?_
  refine AW.seq ?_
  refine AW.seq ?_
  refine AW.region ?_
  refine AWl.st rfl (OpT.loadA rfl rfl (okd rfl rfl) (Tm rfl rfl rfl) ag41 sz41) rfl ?_
  refine AWl.st rfl (OpT.c1 (ms := [.flat]) (c_impl_isMask _) rfl rfl (okd rfl rfl) (Af (Tm rfl rfl rfl) rfl rfl <| An) rfl rfl) rfl ?_
  refine AWl.st rfl (OpT.not rfl rfl (okd rfl rfl) (Tm rfl rfl rfl)) rfl ?_
  refine AWl.st rfl (OpT.move (A := .cel _ _) (.inl rfl) rfl (okd rfl rfl) (Tm rfl rfl rfl) rfl) rfl ?_
  apply AWl.or (d := 13) (t := 9) rfl
  · intro hb1 Q1 k1
    refine AWl.rs rfl rfl rfl rfl hb1 (OpT.loadA rfl rfl (okd rfl rfl) (Tm rfl rfl rfl) ag41 sz41) rfl ?_
    refine AWl.rs rfl rfl rfl rfl hb1 (OpT.c1 (ms := [.flat]) (c_impl_isMask _) rfl rfl (okd rfl rfl) (Af (Tm rfl rfl rfl) rfl rfl <| An) rfl rfl) rfl ?_
    refine AWl.rs rfl rfl rfl rfl hb1 (OpT.not rfl rfl (okd rfl rfl) (Tm rfl rfl rfl)) rfl ?_
    refine AWl.st rfl (OpT.pickF (A := .cel _ _) rfl rfl (okd rfl rfl) (Tm rfl rfl rfl) hb1 (Tm rfl rfl rfl) rfl) rfl ?_
    exact AWl.to (junk 3 rfl) k1
  · intro hb1 Q1 k1
    refine AWl.pas rfl rfl rfl rfl hb1 rfl (okd rfl rfl) rfl ?_
    refine AWl.pas rfl rfl rfl rfl hb1 rfl (okd rfl rfl) rfl ?_
    refine AWl.pas rfl rfl rfl rfl hb1 rfl (okd rfl rfl) rfl ?_
    refine AWl.st rfl (OpT.pickT (A := .cel _ _) rfl rfl (okd rfl rfl) (Tm rfl rfl rfl) hb1 Opd.bool rfl) rfl ?_
    exact k1
  refine AWl.nil ?_
  refine AX.pr (Kc 13 (.cel _ _) rfl <| Kc 5 (.cel _ _) rfl <| Kc 4 (.cel _ _) rfl <| Kc 3 (.cel _ _) rfl <| Kc 2 (.cel _ _) rfl <| Kn) ?_
  refine AX.go ?_
  refine AW.cond (t := 13) rfl (by decide) (fun hc1 => ?_) (fun hc1 => ?_)
  ·
    try simp only [decide_eq_true_eq, decide_eq_false_iff_not, Bool.not_eq_true', Bool.not_eq_false'] at hc1
    refine AW.seq ?_
    refine AW.region ?_
    refine AWl.sg rfl (OpT.move (A := .cel _ _) (.inr rfl) rfl (okd rfl rfl) (I rfl) rfl) (Kc 4 (.cel _ _) rfl <| Kc 13 (.cel _ _) rfl <| Kc 5 (.cel _ _) rfl <| Kc 3 (.cel _ _) rfl <| Kc 2 (.cel _ _) rfl <| Kn) ?_
    refine AWl.sg rfl (OpT.move (A := .cel _ _) (.inr rfl) rfl (okd rfl rfl) (I rfl) rfl) (Kc 5 (.cel _ _) rfl <| Kc 4 (.cel _ _) rfl <| Kc 13 (.cel _ _) rfl <| Kc 3 (.cel _ _) rfl <| Kc 2 (.cel _ _) rfl <| Kn) ?_
    refine AWl.nil ?_
    refine AX.pr (Kc 5 (.cel _ _) rfl <| Kc 4 (.cel _ _) rfl <| Kc 3 (.cel _ _) rfl <| Kc 2 (.cel _ _) rfl <| Kn) ?_
    refine AX.go ?_
    refine AW.ret ?_
    refine AX.ret_then ?_
    exact AX.rt (rs := [.tmp 4, .tmp 5]) (ts := [some 4, some 5]) (.inl rfl) rfl (ROs.cons (RO.tmp (At.self (by decide)) (Kv rfl (by simp_all [distS])) rfl) <| ROs.cons (RO.tmp (At.self (by decide)) (Kv rfl (by simp_all [distS])) rfl) <| ROs.nil) (by decide) OutsOK.nil
  ·
    try simp only [decide_eq_true_eq, decide_eq_false_iff_not, Bool.not_eq_true', Bool.not_eq_false'] at hc1
    refine AW.skip ?_
    refine AX.pr (Kc 5 (.cel _ _) rfl <| Kc 4 (.cel _ _) rfl <| Kc 3 (.cel _ _) rfl <| Kc 2 (.cel _ _) rfl <| Kn) ?_
    refine AX.go ?_
    refine AW.seq ?_
    refine AW.region ?_
    refine AWl.st rfl (OpT.loadA rfl rfl (okd rfl rfl) (Tm rfl rfl rfl) ag41 sz41) rfl ?_
    refine AWl.st rfl (OpT.loadA rfl rfl (okd rfl rfl) (Tm rfl rfl rfl) ag41 sz41) rfl ?_
    refine AWl.st rfl (OpT.c1 (ms := [.flat, .flat]) (c_impl_distance _ _) rfl rfl (okd rfl rfl) (Af (Tm rfl rfl rfl) rfl rfl <| Af (Tm rfl rfl rfl) rfl rfl <| An) rfl rfl) rfl ?_
    refine AWl.sg rfl (OpT.move (A := .cel _ _) (.inr rfl) rfl (okd rfl rfl) (Tm rfl rfl rfl) rfl) (Kc 4 (.cel _ _) rfl <| Kc 16 (.cel _ _) rfl <| Kc 15 (.agg _ _) rfl <| Kc 14 (.agg _ _) rfl <| Kc 5 (.cel _ _) rfl <| Kc 3 (.cel _ _) rfl <| Kc 2 (.cel _ _) rfl <| Kn) ?_
    refine AWl.sg rfl (OpT.move (A := .cel _ _) (.inr rfl) rfl (okd rfl rfl) (I rfl) rfl) (Kc 5 (.cel _ _) rfl <| Kc 4 (.cel _ _) rfl <| Kc 16 (.cel _ _) rfl <| Kc 15 (.agg _ _) rfl <| Kc 14 (.agg _ _) rfl <| Kc 3 (.cel _ _) rfl <| Kc 2 (.cel _ _) rfl <| Kn) ?_
    refine AWl.nil ?_
    refine AX.pr (Kc 5 (.cel _ _) rfl <| Kc 4 (.cel _ _) rfl <| Kn) ?_
    refine AX.go ?_
    refine AW.ret ?_
    exact AX.rt (rs := [.tmp 4, .tmp 5]) (ts := [some 4, some 5]) (.inl rfl) rfl (ROs.cons (RO.tmp (At.self (by decide)) (Kv rfl (by simp_all [distS])) rfl) <| ROs.cons (RO.tmp (At.self (by decide)) (Kv rfl (by simp_all [distS])) rfl) <| ROs.nil) (by decide) OutsOK.nil

/-- laws.FnExactDistanceOf -/
theorem c_laws_FnExactDistanceOf (x y : BitVec 64 × BitVec 64) : AC Try.prog 6 [.agg kMask x, .agg kMask y] [.cel Kd.bool true] [] := by
  refine ⟨ACall.intro (N := 33) Try.func6 (c := _) (rfl : Func.body _ = some _) rfl (Nat.le_of_ble_eq_true rfl) (Nat.le_of_ble_eq_true rfl) rfl (Nat.le_of_ble_eq_true rfl) fun w0 hd s0 ar har => ?_, _, Try.func6, rfl, by decide⟩
  refine AW.to (Kc 0 (.agg _ _) rfl <| Kc 1 (.agg _ _) rfl <| Kn) ?_
  refine AW.seq ?_
  refine AW.region ?_
  refine AWl.st rfl (OpT.frz (OpT.boxA (E := 39) rfl rfl (okd rfl rfl) (Tm rfl rfl rfl))) rfl ?_
  refine AWl.st rfl (OpT.frz (OpT.boxA (E := 39) rfl rfl (okd rfl rfl) (Tm rfl rfl rfl))) rfl ?_
  refine AWl.st rfl (OpT.move (A := .cel _ _) (.inr rfl) rfl (okd rfl rfl) Opd.bool rfl) rfl ?_
  refine AWl.nil ?_
  refine AX.pr (Kc 4 (.cel _ _) rfl <| Kc 3 (.cel _ _) rfl <| Kc 2 (.cel _ _) rfl <| Kn) ?_
  refine AX.go ?_
  refine AW.seq ?_
  refine AW.dg fomo ?_
  refine DG.fr (d := 10) [2] (DS rfl fun v h => OpT.loadA rfl rfl (okd rfl rfl) (D h rfl rfl rfl rfl) ag39 sz39) rfl rfl ?_
  refine DG.fr (d := 11) [10] (DS rfl fun v h => OpT.c1 (ms := [.flat]) (c_laws_toMask _) rfl rfl (okd rfl rfl) (Af (D h rfl rfl rfl rfl) rfl rfl <| An) rfl rfl) rfl rfl ?_
  refine DG.fr (d := 12) [3] (DS rfl fun v h => OpT.loadA rfl rfl (okd rfl rfl) (D h rfl rfl rfl rfl) ag39 sz39) rfl rfl ?_
  refine DG.fr (d := 13) [12] (DS rfl fun v h => OpT.c1 (ms := [.flat]) (c_laws_toMask _) rfl rfl (okd rfl rfl) (Af (D h rfl rfl rfl rfl) rfl rfl <| An) rfl rfl) rfl rfl ?_
  refine DG.two (d := 14) [11, 13] (DS2 rfl fun v h => OpT.c2 (ms := [.flat, .flat]) (c_spec_DistanceOf _ _) rfl rfl (okd rfl rfl) (Af (D h rfl rfl rfl rfl) rfl rfl <| Af (D h rfl rfl rfl rfl) rfl rfl <| An) rfl rfl rfl) rfl rfl ?_
  refine DG.fr (d := 9) [] (DS rfl fun v h => OpT.alias rfl rfl (okd rfl rfl) (by decide) (by decide)) rfl rfl ?_
  refine DG.fr (d := 15) [9, 10014] (DS rfl fun v h => OpT.extractV (m := 10014) rfl rfl (okd rfl rfl) ((h _ (List.elem_iff.1 rfl)).trans rfl) rfl rfl rfl ((h _ (List.elem_iff.1 rfl)).trans rfl) rfl rfl) rfl rfl ?_
  refine DG.fr (d := 16) [9, 20014] (DS rfl fun v h => OpT.extractV (m := 20014) rfl rfl (okd rfl rfl) ((h _ (List.elem_iff.1 rfl)).trans rfl) rfl rfl rfl ((h _ (List.elem_iff.1 rfl)).trans rfl) rfl rfl) rfl rfl ?_
  refine DG.fr (d := 5) [15] (DS rfl fun v h => OpT.move (A := .cel _ _) (.inr rfl) rfl (okd rfl rfl) (D h rfl rfl rfl rfl) rfl) rfl rfl ?_
  refine DG.fr (d := 6) [16] (DS rfl fun v h => OpT.move (A := .cel _ _) (.inr rfl) rfl (okd rfl rfl) (D h rfl rfl rfl rfl) rfl) rfl rfl ?_
  refine DG.nil ⟨by kernel_rfl, by kernel_rfl, ?_⟩
  refine AX.pr (Kc 6 (.cel _ _) rfl <| Kc 5 (.cel _ _) rfl <| Kc 4 (.cel _ _) rfl <| Kc 3 (.cel _ _) rfl <| Kc 2 (.cel _ _) rfl <| Kn) ?_
  refine AX.go ?_
  refine AW.seq ?_
  refine AW.dg fomo ?_
  refine DG.fr (d := 18) [2] (DS rfl fun v h => OpT.loadA rfl rfl (okd rfl rfl) (D h rfl rfl rfl rfl) ag39 sz39) rfl rfl ?_
  refine DG.fr (d := 19) [18] (DS rfl fun v h => OpT.c1 (ms := [.flat]) (c_laws_toMask _) rfl rfl (okd rfl rfl) (Af (D h rfl rfl rfl rfl) rfl rfl <| An) rfl rfl) rfl rfl ?_
  refine DG.fr (d := 20) [3] (DS rfl fun v h => OpT.loadA rfl rfl (okd rfl rfl) (D h rfl rfl rfl rfl) ag39 sz39) rfl rfl ?_
  refine DG.fr (d := 21) [20] (DS rfl fun v h => OpT.c1 (ms := [.flat]) (c_laws_toMask _) rfl rfl (okd rfl rfl) (Af (D h rfl rfl rfl rfl) rfl rfl <| An) rfl rfl) rfl rfl ?_
  refine DG.two (d := 22) [19, 21] (DS2 rfl fun v h => OpT.c2 (ms := [.flat, .flat]) (c_impl_DistanceOf _ _) rfl rfl (okd rfl rfl) (Af (D h rfl rfl rfl rfl) rfl rfl <| Af (D h rfl rfl rfl rfl) rfl rfl <| An) rfl rfl rfl) rfl rfl ?_
  refine DG.fr (d := 17) [] (DS rfl fun v h => OpT.alias rfl rfl (okd rfl rfl) (by decide) (by decide)) rfl rfl ?_
  refine DG.fr (d := 23) [17, 10022] (DS rfl fun v h => OpT.extractV (m := 10022) rfl rfl (okd rfl rfl) ((h _ (List.elem_iff.1 rfl)).trans rfl) rfl rfl rfl ((h _ (List.elem_iff.1 rfl)).trans rfl) rfl rfl) rfl rfl ?_
  refine DG.fr (d := 24) [17, 20022] (DS rfl fun v h => OpT.extractV (m := 20022) rfl rfl (okd rfl rfl) ((h _ (List.elem_iff.1 rfl)).trans rfl) rfl rfl rfl ((h _ (List.elem_iff.1 rfl)).trans rfl) rfl rfl) rfl rfl ?_
  refine DG.fr (d := 7) [23] (DS rfl fun v h => OpT.move (A := .cel _ _) (.inr rfl) rfl (okd rfl rfl) (D h rfl rfl rfl rfl) rfl) rfl rfl ?_
  refine DG.fr (d := 8) [24] (DS rfl fun v h => OpT.move (A := .cel _ _) (.inr rfl) rfl (okd rfl rfl) (D h rfl rfl rfl rfl) rfl) rfl rfl ?_
  refine DG.nil ⟨by kernel_rfl, by kernel_rfl, ?_⟩
  refine AX.pr (Kc 8 (.cel _ _) rfl <| Kc 7 (.cel _ _) rfl <| Kc 6 (.cel _ _) rfl <| Kc 5 (.cel _ _) rfl <| Kc 4 (.cel _ _) rfl <| Kn) ?_
  refine AX.go ?_
  refine AW.seq ?_
  refine AW.seq ?_
  refine AW.region ?_
  refine AWl.st rfl (OpT.move (A := .cel _ _) (.inl rfl) rfl (okd rfl rfl) (Tm rfl rfl rfl) rfl) rfl ?_
  refine AWl.st rfl (OpT.move (A := .cel _ _) (.inl rfl) rfl (okd rfl rfl) (Tm rfl rfl rfl) rfl) rfl ?_
  refine AWl.st rfl (OpT.neq rfl rfl (okd rfl rfl) (Tm rfl rfl rfl) (Tm rfl rfl rfl)) rfl ?_
  refine AWl.st rfl (OpT.move (A := .cel _ _) (.inl rfl) rfl (okd rfl rfl) (Tm rfl rfl rfl) rfl) rfl ?_
  apply AWl.or (d := 32) (t := 28) rfl
  · intro hb1 Q1 k1
    refine AWl.rs rfl rfl rfl rfl hb1 (OpT.move (A := .cel _ _) (.inl rfl) rfl (okd rfl rfl) (Tm rfl rfl rfl) rfl) rfl ?_
    refine AWl.rs rfl rfl rfl rfl hb1 (OpT.move (A := .cel _ _) (.inl rfl) rfl (okd rfl rfl) (Tm rfl rfl rfl) rfl) rfl ?_
    refine AWl.rs rfl rfl rfl rfl hb1 (OpT.neq rfl rfl (okd rfl rfl) (Tm rfl rfl rfl) (Tm rfl rfl rfl)) rfl ?_
    refine AWl.st rfl (OpT.pickF (A := .cel _ _) rfl rfl (okd rfl rfl) (Tm rfl rfl rfl) hb1 (Tm rfl rfl rfl) rfl) rfl ?_
    exact AWl.to (junk 3 rfl) k1
  · intro hb1 Q1 k1
    refine AWl.pas rfl rfl rfl rfl hb1 rfl (okd rfl rfl) rfl ?_
    refine AWl.pas rfl rfl rfl rfl hb1 rfl (okd rfl rfl) rfl ?_
    refine AWl.pas rfl rfl rfl rfl hb1 rfl (okd rfl rfl) rfl ?_
    refine AWl.st rfl (OpT.pickT (A := .cel _ _) rfl rfl (okd rfl rfl) (Tm rfl rfl rfl) hb1 Opd.bool rfl) rfl ?_
    exact k1
  refine AWl.nil ?_
  refine AX.pr (Kc 32 (.cel _ _) rfl <| Kc 4 (.cel _ _) rfl <| Kn) ?_
  refine AX.go ?_
  refine AW.cond (t := 32) rfl (by decide) (fun hc1 => ?_) (fun hc1 => ?_)
  ·
    try simp only [decide_eq_true_eq, decide_eq_false_iff_not, Bool.not_eq_true', Bool.not_eq_false'] at hc1
    refine AW.seq ?_
    refine AW.region ?_
    refine AWl.sg rfl (OpT.move (A := .cel _ _) (.inr rfl) rfl (okd rfl rfl) Opd.bool rfl) (Kc 4 (.cel _ _) rfl <| Kc 32 (.cel _ _) rfl <| Kn) ?_
    refine AWl.nil ?_
    refine AX.pr (Kc 4 (.cel _ _) rfl <| Kn) ?_
    refine AX.go ?_
    refine AW.ret ?_
    refine AX.ret_then ?_
    exact AX.rt (rs := [.tmp 4]) (ts := [some 4]) (.inl rfl) rfl (ROs.cons (RO.tmp (At.self (by decide)) (Kv rfl (by simp_all)) rfl) <| ROs.nil) (by decide) OutsOK.nil
  ·
    try simp only [decide_eq_true_eq, decide_eq_false_iff_not, Bool.not_eq_true', Bool.not_eq_false'] at hc1
    refine AW.skip ?_
    refine AX.pr (Kc 4 (.cel _ _) rfl <| Kn) ?_
    refine AX.go ?_
    refine AW.seq ?_
    refine AW.region ?_
    refine AWl.sg rfl (OpT.move (A := .cel _ _) (.inr rfl) rfl (okd rfl rfl) Opd.bool rfl) (Kc 4 (.cel _ _) rfl <| Kn) ?_
    refine AWl.nil ?_
    refine AX.go ?_
    refine AW.ret ?_
    exact AX.rt (rs := [.tmp 4]) (ts := [some 4]) (.inl rfl) rfl (ROs.cons (RO.tmp (At.self (by decide)) (Kv rfl (by simp_all)) rfl) <| ROs.nil) (by decide) OutsOK.nil
end Go.Proofs.Ytdjbdaidnlbhhaa.VL
