/- Proved here: what some functions of the program take and give: walks with the words of VA..VQ. Printed by program. -/
import Derived.Test.YtcaeabgfgofefaaDoorWT
import Derived.Test.YtcaeabgfgofefaaDoorPI
import Derived.Test.YtcaeabgfgofefaaDoorWA
import Derived.Test.YtcaeabgfgofefaaDoorWB
import Derived.Test.YtcaeabgfgofefaaDoorWL
import Derived.Test.YtcaeabgfgofefaaDoorWD
set_option linter.unusedVariables false
set_option linter.unusedSimpArgs false
set_option maxRecDepth 4000
namespace Go.Proofs.YtcaeabgfgofefaaDoor.VL
open Go
/-- spec.l01Has -/
theorem c_spec_l01Has (m : BitVec 64 × BitVec 64) (i : Int) (h : 0 ≤ i ∧ i < 128) : AC Tryd.prog 75 [.agg kMask m, .cel (Kd.int .i64) i] [.cel Kd.bool (hasM m i)] [] := by
  refine ⟨ACall.intro (N := 15) Tryd.func75 (c := _) (rfl : Func.body _ = some _) rfl (Nat.le_of_ble_eq_true rfl) (Nat.le_of_ble_eq_true rfl) rfl (Nat.le_of_ble_eq_true rfl) fun w0 hd s0 ar har => ?_, _, Tryd.func75, rfl, by decide⟩
  refine AW.to (Kc 0 (.agg _ _) rfl <| Kc 1 (.cel _ _) rfl <| Kn) ?_
  have hd64 := div64 h
  have hm64 := mod64 h.1
  refine AW.seq ?_
  refine AW.region ?_
  refine AWl.st rfl (OpT.frz (OpT.boxA (E := 29) rfl rfl (okd rfl rfl) (Tm rfl rfl rfl))) rfl ?_
  refine AWl.st rfl (OpT.move (A := .cel _ _) (.inr rfl) rfl (okd rfl rfl) Opd.bool rfl) rfl ?_
  refine AWl.nil ?_
  refine AX.pr (Kc 4 (.cel _ _) rfl <| Kc 2 (.cel _ _) rfl <| Kc 1 (.cel _ _) rfl <| Kn) ?_
  refine AX.go ?_
  refine AW.seq ?_
  refine AW.region ?_
  refine AWl.st rfl (OpT.move (A := .cel _ _) (.inl rfl) rfl (okd rfl rfl) (Tm rfl rfl rfl) rfl) rfl ?_
  refine AWl.st rfl (OpT.quo rfl rfl (okd rfl rfl) (Tm rfl rfl rfl) (I rfl) (by omega) (nw (by omega))) rfl ?_
  refine AWl.st rfl (OpT.indexAddrP rfl rfl (okd rfl rfl) (Tm rfl rfl rfl) (Tm rfl rfl rfl) ar29 sz22 (by omega) (Sub.two (by omega) rfl)) rfl ?_
  refine AWl.st rfl (OpT.load rfl rfl (okd rfl rfl) (Tm rfl rfl rfl) ag22 rfl) rfl ?_
  refine AWl.st rfl (OpT.move (A := .cel _ _) (.inl rfl) rfl (okd rfl rfl) (Tm rfl rfl rfl) rfl) rfl ?_
  refine AWl.st rfl (OpT.rem rfl rfl (okd rfl rfl) (Tm rfl rfl rfl) (I rfl) (by omega)) rfl ?_
  refine AWl.st rfl (OpT.convu rfl rfl (okd rfl rfl) us2 Tryd.underlying22 (Tm rfl rfl rfl)) rfl ?_
  refine AWl.st rfl (OpT.shr rfl rfl (okd rfl rfl) (Tm rfl rfl rfl) (Opd.asInt (Tm rfl rfl rfl)) (Int.natCast_nonneg _)) rfl ?_
  refine AWl.st rfl (OpT.urem rfl rfl (okd rfl rfl) (Tm rfl rfl rfl) (U2 2 rfl rfl) (by decide)) rfl ?_
  refine AWl.st rfl (OpT.ueql rfl rfl (okd rfl rfl) (Tm rfl rfl rfl) (U2 1 rfl rfl)) rfl ?_
  refine AWl.sg rfl (OpT.move (A := .cel _ _) (.inr rfl) rfl (okd rfl rfl) (Tm rfl rfl rfl) rfl) (Kc 4 (.cel _ _) rfl <| Kc 14 (.cel _ _) rfl <| Kc 13 (.cel _ _) rfl <| Kc 12 (.cel _ _) rfl <| Kc 11 (.cel _ _) rfl <| Kc 10 (.cel _ _) rfl <| Kc 9 (.cel _ _) rfl <| Kc 8 (.cel _ _) rfl <| Kc 7 (.cel _ _) rfl <| Kc 6 (.cel _ _) rfl <| Kc 5 (.cel _ _) rfl <| Kc 2 (.cel _ _) rfl <| Kc 1 (.cel _ _) rfl <| Kn) ?_
  refine AWl.nil ?_
  refine AX.pr (Kc 4 (.cel _ _) rfl <| Kn) ?_
  refine AX.go ?_
  refine AW.ret ?_
  exact AX.rt (rs := [.tmp 4]) (ts := [some 4]) (.inl rfl) rfl (ROs.cons (RO.tmp (At.self (by decide)) (Kv rfl (by unfold hasM limb; rw [rem64 h.1]; rfl)) rfl) <| ROs.nil) (by decide) OutsOK.nil

/-- impl.Mask).has -/
theorem c_impl_Mask_has (m : BitVec 64 × BitVec 64) (i : Int) (h : 0 ≤ i ∧ i < 128) : AC Tryd.prog 78 [.agg kMask m, .cel (Kd.int .i64) i] [.cel Kd.bool (hasM m i)] [] := by
  refine ⟨ACall.intro (N := 14) Tryd.func78 (c := _) (rfl : Func.body _ = some _) rfl (Nat.le_of_ble_eq_true rfl) (Nat.le_of_ble_eq_true rfl) rfl (Nat.le_of_ble_eq_true rfl) fun w0 hd s0 ar har => ?_, _, Tryd.func78, rfl, by decide⟩
  refine AW.to (Kc 0 (.agg _ _) rfl <| Kc 1 (.cel _ _) rfl <| Kn) ?_
  have hd64 := div64 h
  have hm64 := mod64 h.1
  refine AW.seq ?_
  refine AW.region ?_
  refine AWl.st rfl (OpT.frz (OpT.boxA (E := 29) rfl rfl (okd rfl rfl) (Tm rfl rfl rfl))) rfl ?_
  refine AWl.st rfl (OpT.move (A := .cel _ _) (.inr rfl) rfl (okd rfl rfl) Opd.bool rfl) rfl ?_
  refine AWl.nil ?_
  refine AX.pr (Kc 4 (.cel _ _) rfl <| Kc 2 (.cel _ _) rfl <| Kc 1 (.cel _ _) rfl <| Kn) ?_
  refine AX.go ?_
  refine AW.seq ?_
  refine AW.region ?_
  refine AWl.st rfl (OpT.move (A := .cel _ _) (.inl rfl) rfl (okd rfl rfl) (Tm rfl rfl rfl) rfl) rfl ?_
  refine AWl.st rfl (OpT.quo rfl rfl (okd rfl rfl) (Tm rfl rfl rfl) (I rfl) (by omega) (nw (by omega))) rfl ?_
  refine AWl.st rfl (OpT.indexAddrP rfl rfl (okd rfl rfl) (Tm rfl rfl rfl) (Tm rfl rfl rfl) ar29 sz22 (by omega) (Sub.two (by omega) rfl)) rfl ?_
  refine AWl.st rfl (OpT.load rfl rfl (okd rfl rfl) (Tm rfl rfl rfl) ag22 rfl) rfl ?_
  refine AWl.st rfl (OpT.move (A := .cel _ _) (.inl rfl) rfl (okd rfl rfl) (Tm rfl rfl rfl) rfl) rfl ?_
  refine AWl.st rfl (OpT.rem rfl rfl (okd rfl rfl) (Tm rfl rfl rfl) (I rfl) (by omega)) rfl ?_
  refine AWl.st rfl (OpT.shr rfl rfl (okd rfl rfl) (Tm rfl rfl rfl) (Tm rfl rfl rfl) (by omega)) rfl ?_
  refine AWl.st rfl (OpT.band rfl rfl (okd rfl rfl) (Tm rfl rfl rfl) (U2 1 rfl rfl)) rfl ?_
  refine AWl.st rfl (OpT.ueql rfl rfl (okd rfl rfl) (Tm rfl rfl rfl) (U2 1 rfl rfl)) rfl ?_
  refine AWl.sg rfl (OpT.move (A := .cel _ _) (.inr rfl) rfl (okd rfl rfl) (Tm rfl rfl rfl) rfl) (Kc 4 (.cel _ _) rfl <| Kc 13 (.cel _ _) rfl <| Kc 12 (.cel _ _) rfl <| Kc 11 (.cel _ _) rfl <| Kc 10 (.cel _ _) rfl <| Kc 9 (.cel _ _) rfl <| Kc 8 (.cel _ _) rfl <| Kc 7 (.cel _ _) rfl <| Kc 6 (.cel _ _) rfl <| Kc 5 (.cel _ _) rfl <| Kc 2 (.cel _ _) rfl <| Kc 1 (.cel _ _) rfl <| Kn) ?_
  refine AWl.nil ?_
  refine AX.pr (Kc 4 (.cel _ _) rfl <| Kn) ?_
  refine AX.go ?_
  refine AW.ret ?_
  exact AX.rt (rs := [.tmp 4]) (ts := [some 4]) (.inl rfl) rfl (ROs.cons (RO.tmp (At.self (by decide)) (Kv rfl (by unfold hasM limb; rw [and_one])) rfl) <| ROs.nil) (by decide) OutsOK.nil

/-- spec.l01Hole -/
theorem c_spec_l01Hole (h : Int) : AC Tryd.prog 74 [.cel (Kd.int .i64) h] [.cel Kd.bool (inb h 0 95)] [] := by
  refine ⟨ACall.intro (N := 5) Tryd.func74 (c := _) (rfl : Func.body _ = some _) rfl (Nat.le_of_ble_eq_true rfl) (Nat.le_of_ble_eq_true rfl) rfl (Nat.le_of_ble_eq_true rfl) fun w0 hd s0 ar har => ?_, _, Tryd.func74, rfl, by decide⟩
  refine AW.to (Kc 0 (.cel _ _) rfl <| Kn) ?_
  refine AW.seq ?_
  refine AW.region ?_
  refine AWl.st rfl (OpT.move (A := .cel _ _) (.inr rfl) rfl (okd rfl rfl) Opd.bool rfl) rfl ?_
  refine AWl.nil ?_
  refine AX.go ?_
  refine AW.seq ?_
  refine AW.region ?_
  refine AWl.st rfl (OpT.move (A := .cel _ _) (.inl rfl) rfl (okd rfl rfl) (Tm rfl rfl rfl) rfl) rfl ?_
  refine AWl.st rfl (OpT.c1 (ms := [.flat, .flat, .flat]) (c_spec_l00In _ _ _) rfl rfl (okd rfl rfl) (Af (Tm rfl rfl rfl) rfl rfl <| Af (I rfl) rfl rfl <| Af (I rfl) rfl rfl <| An) rfl rfl) rfl ?_
  refine AWl.sg rfl (OpT.move (A := .cel _ _) (.inr rfl) rfl (okd rfl rfl) (Tm rfl rfl rfl) rfl) (Kc 2 (.cel _ _) rfl <| Kc 4 (.cel _ _) rfl <| Kc 3 (.cel _ _) rfl <| Kc 0 (.cel _ _) rfl <| Kn) ?_
  refine AWl.nil ?_
  refine AX.pr (Kc 2 (.cel _ _) rfl <| Kn) ?_
  refine AX.go ?_
  refine AW.ret ?_
  exact AX.rt (rs := [.tmp 2]) (ts := [some 2]) (.inl rfl) rfl (ROs.cons (RO.tmp (At.self (by decide)) (Kv rfl rfl) rfl) <| ROs.nil) (by decide) OutsOK.nil

/-- impl.isHole -/
theorem c_impl_isHole (h : Int) : AC Tryd.prog 77 [.cel (Kd.int .i64) h] [.cel Kd.bool (inb h 0 95)] [] := by
  refine ⟨ACall.intro (N := 9) Tryd.func77 (c := _) (rfl : Func.body _ = some _) rfl (Nat.le_of_ble_eq_true rfl) (Nat.le_of_ble_eq_true rfl) rfl (Nat.le_of_ble_eq_true rfl) fun w0 hd s0 ar har => ?_, _, Tryd.func77, rfl, by decide⟩
  refine AW.to (Kc 0 (.cel _ _) rfl <| Kn) ?_
  refine AW.seq ?_
  refine AW.region ?_
  refine AWl.st rfl (OpT.move (A := .cel _ _) (.inr rfl) rfl (okd rfl rfl) Opd.bool rfl) rfl ?_
  refine AWl.nil ?_
  refine AX.go ?_
  refine AW.seq ?_
  refine AW.region ?_
  refine AWl.st rfl (OpT.move (A := .cel _ _) (.inl rfl) rfl (okd rfl rfl) (Tm rfl rfl rfl) rfl) rfl ?_
  refine AWl.st rfl (OpT.geq rfl rfl (okd rfl rfl) (Tm rfl rfl rfl) (I rfl)) rfl ?_
  refine AWl.st rfl (OpT.move (A := .cel _ _) (.inl rfl) rfl (okd rfl rfl) (Tm rfl rfl rfl) rfl) rfl ?_
  apply AWl.and (d := 8) (t := 5) rfl
  · intro hb1 Q1 k1
    refine AWl.rs rfl rfl rfl rfl hb1 (OpT.move (A := .cel _ _) (.inl rfl) rfl (okd rfl rfl) (Tm rfl rfl rfl) rfl) rfl ?_
    refine AWl.rs rfl rfl rfl rfl hb1 (OpT.lss rfl rfl (okd rfl rfl) (Tm rfl rfl rfl) (I rfl)) rfl ?_
    refine AWl.st rfl (OpT.pickT (A := .cel _ _) rfl rfl (okd rfl rfl) (Tm rfl rfl rfl) hb1 (Tm rfl rfl rfl) rfl) rfl ?_
    exact AWl.to (junk 2 rfl) k1
  · intro hb1 Q1 k1
    refine AWl.pas rfl rfl rfl rfl hb1 rfl (okd rfl rfl) rfl ?_
    refine AWl.pas rfl rfl rfl rfl hb1 rfl (okd rfl rfl) rfl ?_
    refine AWl.st rfl (OpT.pickF (A := .cel _ _) rfl rfl (okd rfl rfl) (Tm rfl rfl rfl) hb1 Opd.bool rfl) rfl ?_
    exact k1
  refine AWl.sg rfl (OpT.move (A := .cel _ _) (.inr rfl) rfl (okd rfl rfl) (Tm rfl rfl rfl) rfl) (Kc 2 (.cel _ _) rfl <| Kc 8 (.cel _ _) rfl <| Kc 5 (.cel _ _) rfl <| Kc 4 (.cel _ _) rfl <| Kc 3 (.cel _ _) rfl <| Kc 0 (.cel _ _) rfl <| Kn) ?_
  refine AWl.nil ?_
  refine AX.pr (Kc 2 (.cel _ _) rfl <| Kn) ?_
  refine AX.go ?_
  refine AW.ret ?_
  exact AX.rt (rs := [.tmp 2]) (ts := [some 2]) (.inl rfl) rfl (ROs.cons (RO.tmp (At.self (by decide)) (Kv rfl (hole_same h)) rfl) <| ROs.nil) (by decide) OutsOK.nil

/-- spec.l01Meet -/
theorem c_spec_l01Meet (x y : BitVec 64 × BitVec 64) : AC Tryd.prog 136 [.agg kMask x, .agg kMask y] [.agg kMask (meetM x y)] [] := by
  refine ⟨ACall.intro (N := 16) Tryd.func136 (c := _) (rfl : Func.body _ = some _) rfl (Nat.le_of_ble_eq_true rfl) (Nat.le_of_ble_eq_true rfl) rfl (Nat.le_of_ble_eq_true rfl) fun w0 hd s0 ar har => ?_, _, Tryd.func136, rfl, by decide⟩
  refine AW.to (Kc 0 (.agg _ _) rfl <| Kc 1 (.agg _ _) rfl <| Kn) ?_
  refine AW.seq ?_
  refine AW.region ?_
  refine AWl.st rfl (OpT.frz (OpT.boxA (E := 29) rfl rfl (okd rfl rfl) (Tm rfl rfl rfl))) rfl ?_
  refine AWl.st rfl (OpT.frz (OpT.boxA (E := 29) rfl rfl (okd rfl rfl) (Tm rfl rfl rfl))) rfl ?_
  refine AWl.st rfl (OpT.alloc rfl rfl (okd rfl rfl) zr29 zk29) rfl ?_
  refine AWl.nil ?_
  refine AX.pr (Kc 4 (.box _ _ _) rfl <| Kc 3 (.cel _ _) rfl <| Kc 2 (.cel _ _) rfl <| Kn) ?_
  refine AX.go ?_
  refine AW.seq ?_
  refine AW.region ?_
  refine AWl.st rfl (OpT.indexAddrP rfl rfl (okd rfl rfl) (Tm rfl rfl rfl) (I rfl) ar29 sz22 (by decide) sx29_0) rfl ?_
  refine AWl.st rfl (OpT.load rfl rfl (okd rfl rfl) (Tm rfl rfl rfl) ag22 rfl) rfl ?_
  refine AWl.st rfl (OpT.indexAddrP rfl rfl (okd rfl rfl) (Tm rfl rfl rfl) (I rfl) ar29 sz22 (by decide) sx29_0) rfl ?_
  refine AWl.st rfl (OpT.load rfl rfl (okd rfl rfl) (Tm rfl rfl rfl) ag22 rfl) rfl ?_
  refine AWl.st rfl (OpT.band rfl rfl (okd rfl rfl) (Tm rfl rfl rfl) (Tm rfl rfl rfl)) rfl ?_
  refine AWl.st rfl (OpT.indexAddrP rfl rfl (okd rfl rfl) (Tm rfl rfl rfl) (I rfl) ar29 sz22 (by decide) sx29_1) rfl ?_
  refine AWl.st rfl (OpT.load rfl rfl (okd rfl rfl) (Tm rfl rfl rfl) ag22 rfl) rfl ?_
  refine AWl.st rfl (OpT.indexAddrP rfl rfl (okd rfl rfl) (Tm rfl rfl rfl) (I rfl) ar29 sz22 (by decide) sx29_1) rfl ?_
  refine AWl.st rfl (OpT.load rfl rfl (okd rfl rfl) (Tm rfl rfl rfl) ag22 rfl) rfl ?_
  refine AWl.st rfl (OpT.band rfl rfl (okd rfl rfl) (Tm rfl rfl rfl) (Tm rfl rfl rfl)) rfl ?_
  refine AWl.st rfl (OpT.buildA rfl rfl (okd rfl rfl) ar29 sz22 zr29 zk29 (Built.cel (Tm rfl rfl rfl) rfl rfl sx29_0 (Built.cel (Tm rfl rfl rfl) rfl rfl sx29_1 (Built.nil _)))) rfl ?_
  refine AWl.sg rfl (OpT.storeBA rfl rfl (Opd.whole (Root.self (t := 4) (by decide)) rfl) rfl sz29 (by decide) (Tm rfl rfl rfl)) (Kc 15 (.agg _ _) rfl <| Kc 14 (.cel _ _) rfl <| Kc 13 (.cel _ _) rfl <| Kc 12 (.cel _ _) rfl <| Kc 11 (.cel _ _) rfl <| Kc 10 (.cel _ _) rfl <| Kc 9 (.cel _ _) rfl <| Kc 8 (.cel _ _) rfl <| Kc 7 (.cel _ _) rfl <| Kc 6 (.cel _ _) rfl <| Kc 5 (.cel _ _) rfl <| Kc 4 (.box _ _ _) rfl <| Kc 3 (.cel _ _) rfl <| Kc 2 (.cel _ _) rfl <| Kn) ?_
  refine AWl.nil ?_
  refine AX.pr (Kc 4 (.box _ _ _) rfl <| Kn) ?_
  refine AX.go ?_
  refine AW.ret ?_
  exact AX.rt (rs := [.cell 4 29]) (ts := [none]) (.inl rfl) rfl (ROs.cons (RO.cellA (by decide) (Kb rfl rfl) ag29 sz29) <| ROs.nil) (by decide) OutsOK.nil

/-- impl.MeetMasks -/
theorem c_impl_MeetMasks (x y : BitVec 64 × BitVec 64) : AC Tryd.prog 140 [.agg kMask x, .agg kMask y] [.agg kMask (meetM x y)] [] := by
  refine ⟨ACall.intro (N := 16) Tryd.func140 (c := _) (rfl : Func.body _ = some _) rfl (Nat.le_of_ble_eq_true rfl) (Nat.le_of_ble_eq_true rfl) rfl (Nat.le_of_ble_eq_true rfl) fun w0 hd s0 ar har => ?_, _, Tryd.func140, rfl, by decide⟩
  refine AW.to (Kc 0 (.agg _ _) rfl <| Kc 1 (.agg _ _) rfl <| Kn) ?_
  refine AW.seq ?_
  refine AW.region ?_
  refine AWl.st rfl (OpT.frz (OpT.boxA (E := 29) rfl rfl (okd rfl rfl) (Tm rfl rfl rfl))) rfl ?_
  refine AWl.st rfl (OpT.frz (OpT.boxA (E := 29) rfl rfl (okd rfl rfl) (Tm rfl rfl rfl))) rfl ?_
  refine AWl.st rfl (OpT.alloc rfl rfl (okd rfl rfl) zr29 zk29) rfl ?_
  refine AWl.nil ?_
  refine AX.pr (Kc 4 (.box _ _ _) rfl <| Kc 3 (.cel _ _) rfl <| Kc 2 (.cel _ _) rfl <| Kn) ?_
  refine AX.go ?_
  refine AW.seq ?_
  refine AW.region ?_
  refine AWl.st rfl (OpT.indexAddrP rfl rfl (okd rfl rfl) (Tm rfl rfl rfl) (I rfl) ar29 sz22 (by decide) sx29_0) rfl ?_
  refine AWl.st rfl (OpT.load rfl rfl (okd rfl rfl) (Tm rfl rfl rfl) ag22 rfl) rfl ?_
  refine AWl.st rfl (OpT.indexAddrP rfl rfl (okd rfl rfl) (Tm rfl rfl rfl) (I rfl) ar29 sz22 (by decide) sx29_0) rfl ?_
  refine AWl.st rfl (OpT.load rfl rfl (okd rfl rfl) (Tm rfl rfl rfl) ag22 rfl) rfl ?_
  refine AWl.st rfl (OpT.band rfl rfl (okd rfl rfl) (Tm rfl rfl rfl) (Tm rfl rfl rfl)) rfl ?_
  refine AWl.st rfl (OpT.indexAddrP rfl rfl (okd rfl rfl) (Tm rfl rfl rfl) (I rfl) ar29 sz22 (by decide) sx29_1) rfl ?_
  refine AWl.st rfl (OpT.load rfl rfl (okd rfl rfl) (Tm rfl rfl rfl) ag22 rfl) rfl ?_
  refine AWl.st rfl (OpT.indexAddrP rfl rfl (okd rfl rfl) (Tm rfl rfl rfl) (I rfl) ar29 sz22 (by decide) sx29_1) rfl ?_
  refine AWl.st rfl (OpT.load rfl rfl (okd rfl rfl) (Tm rfl rfl rfl) ag22 rfl) rfl ?_
  refine AWl.st rfl (OpT.band rfl rfl (okd rfl rfl) (Tm rfl rfl rfl) (Tm rfl rfl rfl)) rfl ?_
  refine AWl.st rfl (OpT.buildA rfl rfl (okd rfl rfl) ar29 sz22 zr29 zk29 (Built.cel (Tm rfl rfl rfl) rfl rfl sx29_0 (Built.cel (Tm rfl rfl rfl) rfl rfl sx29_1 (Built.nil _)))) rfl ?_
  refine AWl.sg rfl (OpT.storeBA rfl rfl (Opd.whole (Root.self (t := 4) (by decide)) rfl) rfl sz29 (by decide) (Tm rfl rfl rfl)) (Kc 15 (.agg _ _) rfl <| Kc 14 (.cel _ _) rfl <| Kc 13 (.cel _ _) rfl <| Kc 12 (.cel _ _) rfl <| Kc 11 (.cel _ _) rfl <| Kc 10 (.cel _ _) rfl <| Kc 9 (.cel _ _) rfl <| Kc 8 (.cel _ _) rfl <| Kc 7 (.cel _ _) rfl <| Kc 6 (.cel _ _) rfl <| Kc 5 (.cel _ _) rfl <| Kc 4 (.box _ _ _) rfl <| Kc 3 (.cel _ _) rfl <| Kc 2 (.cel _ _) rfl <| Kn) ?_
  refine AWl.nil ?_
  refine AX.pr (Kc 4 (.box _ _ _) rfl <| Kn) ?_
  refine AX.go ?_
  refine AW.ret ?_
  exact AX.rt (rs := [.cell 4 29]) (ts := [none]) (.inl rfl) rfl (ROs.cons (RO.cellA (by decide) (Kb rfl rfl) ag29 sz29) <| ROs.nil) (by decide) OutsOK.nil

/-- spec.IsWithin -/
theorem c_spec_IsWithin (x y : BitVec 64 × BitVec 64) : AC Tryd.prog 151 [.agg kMask x, .agg kMask y] [.cel Kd.bool (withinM x y)] [] := by
  refine ⟨ACall.intro (N := 10) Tryd.func151 (c := _) (rfl : Func.body _ = some _) rfl (Nat.le_of_ble_eq_true rfl) (Nat.le_of_ble_eq_true rfl) rfl (Nat.le_of_ble_eq_true rfl) fun w0 hd s0 ar har => ?_, _, Tryd.func151, rfl, by decide⟩
  refine AW.to (Kc 0 (.agg _ _) rfl <| Kc 1 (.agg _ _) rfl <| Kn) ?_
  refine AW.seq ?_
  refine AW.region ?_
  refine AWl.st rfl (OpT.frz (OpT.boxA (E := 29) rfl rfl (okd rfl rfl) (Tm rfl rfl rfl))) rfl ?_
  refine AWl.st rfl (OpT.frz (OpT.boxA (E := 29) rfl rfl (okd rfl rfl) (Tm rfl rfl rfl))) rfl ?_
  refine AWl.st rfl (OpT.move (A := .cel _ _) (.inr rfl) rfl (okd rfl rfl) Opd.bool rfl) rfl ?_
  refine AWl.nil ?_
  refine AX.pr (Kc 4 (.cel _ _) rfl <| Kc 3 (.cel _ _) rfl <| Kc 2 (.cel _ _) rfl <| Kn) ?_
  refine AX.go ?_
  refine AW.seq ?_
  refine AW.region ?_
  refine AWl.st rfl (OpT.loadA rfl rfl (okd rfl rfl) (Tm rfl rfl rfl) ag29 sz29) rfl ?_
  refine AWl.st rfl (OpT.loadA rfl rfl (okd rfl rfl) (Tm rfl rfl rfl) ag29 sz29) rfl ?_
  refine AWl.st rfl (OpT.c1 (ms := [.flat, .flat]) (c_spec_l01Less _ _) rfl rfl (okd rfl rfl) (Af (Tm rfl rfl rfl) rfl rfl <| Af (Tm rfl rfl rfl) rfl rfl <| An) rfl rfl) rfl ?_
  refine AWl.st rfl (OpT.buildA rfl rfl (okd rfl rfl) ar29 sz22 zr29 zk29 (Built.nil _)) rfl ?_
  refine AWl.st rfl (OpT.eqA rfl rfl (okd rfl rfl) (Tm rfl rfl rfl) (Tm rfl rfl rfl) eq29 ag29 rfl eg29) rfl ?_
  refine AWl.sg rfl (OpT.move (A := .cel _ _) (.inr rfl) rfl (okd rfl rfl) (Tm rfl rfl rfl) rfl) (Kc 4 (.cel _ _) rfl <| Kc 9 (.cel _ _) rfl <| Kc 8 (.agg _ _) rfl <| Kc 7 (.agg _ _) rfl <| Kc 6 (.agg _ _) rfl <| Kc 5 (.agg _ _) rfl <| Kc 3 (.cel _ _) rfl <| Kc 2 (.cel _ _) rfl <| Kn) ?_
  refine AWl.nil ?_
  refine AX.pr (Kc 4 (.cel _ _) rfl <| Kn) ?_
  refine AX.go ?_
  refine AW.ret ?_
  exact AX.rt (rs := [.tmp 4]) (ts := [some 4]) (.inl rfl) rfl (ROs.cons (RO.tmp (At.self (by decide)) (Kv rfl rfl) rfl) <| ROs.nil) (by decide) OutsOK.nil

/-- impl.IsWithin -/
theorem c_impl_IsWithin (x y : BitVec 64 × BitVec 64) : AC Tryd.prog 167 [.agg kMask x, .agg kMask y] [.cel Kd.bool (withinM x y)] [] := by
  refine ⟨ACall.intro (N := 10) Tryd.func167 (c := _) (rfl : Func.body _ = some _) rfl (Nat.le_of_ble_eq_true rfl) (Nat.le_of_ble_eq_true rfl) rfl (Nat.le_of_ble_eq_true rfl) fun w0 hd s0 ar har => ?_, _, Tryd.func167, rfl, by decide⟩
  refine AW.to (Kc 0 (.agg _ _) rfl <| Kc 1 (.agg _ _) rfl <| Kn) ?_
  refine AW.seq ?_
  refine AW.region ?_
  refine AWl.st rfl (OpT.frz (OpT.boxA (E := 29) rfl rfl (okd rfl rfl) (Tm rfl rfl rfl))) rfl ?_
  refine AWl.st rfl (OpT.frz (OpT.boxA (E := 29) rfl rfl (okd rfl rfl) (Tm rfl rfl rfl))) rfl ?_
  refine AWl.st rfl (OpT.move (A := .cel _ _) (.inr rfl) rfl (okd rfl rfl) Opd.bool rfl) rfl ?_
  refine AWl.nil ?_
  refine AX.pr (Kc 4 (.cel _ _) rfl <| Kc 3 (.cel _ _) rfl <| Kc 2 (.cel _ _) rfl <| Kn) ?_
  refine AX.go ?_
  refine AW.seq ?_
  refine AW.region ?_
  refine AWl.st rfl (OpT.loadA rfl rfl (okd rfl rfl) (Tm rfl rfl rfl) ag29 sz29) rfl ?_
  refine AWl.st rfl (OpT.loadA rfl rfl (okd rfl rfl) (Tm rfl rfl rfl) ag29 sz29) rfl ?_
  refine AWl.st rfl (OpT.c1 (ms := [.flat, .flat]) (c_impl_LessMask _ _) rfl rfl (okd rfl rfl) (Af (Tm rfl rfl rfl) rfl rfl <| Af (Tm rfl rfl rfl) rfl rfl <| An) rfl rfl) rfl ?_
  refine AWl.st rfl (OpT.buildA rfl rfl (okd rfl rfl) ar29 sz22 zr29 zk29 (Built.nil _)) rfl ?_
  refine AWl.st rfl (OpT.eqA rfl rfl (okd rfl rfl) (Tm rfl rfl rfl) (Tm rfl rfl rfl) eq29 ag29 rfl eg29) rfl ?_
  refine AWl.sg rfl (OpT.move (A := .cel _ _) (.inr rfl) rfl (okd rfl rfl) (Tm rfl rfl rfl) rfl) (Kc 4 (.cel _ _) rfl <| Kc 9 (.cel _ _) rfl <| Kc 8 (.agg _ _) rfl <| Kc 7 (.agg _ _) rfl <| Kc 6 (.agg _ _) rfl <| Kc 5 (.agg _ _) rfl <| Kc 3 (.cel _ _) rfl <| Kc 2 (.cel _ _) rfl <| Kn) ?_
  refine AWl.nil ?_
  refine AX.pr (Kc 4 (.cel _ _) rfl <| Kn) ?_
  refine AX.go ?_
  refine AW.ret ?_
  exact AX.rt (rs := [.tmp 4]) (ts := [some 4]) (.inl rfl) rfl (ROs.cons (RO.tmp (At.self (by decide)) (Kv rfl rfl) rfl) <| ROs.nil) (by decide) OutsOK.nil

/-- spec.l02Drops -/
theorem c_spec_l02Drops (q : DQuery) (m : BitVec 64 × BitVec 64) : AC Tryd.prog 137 [.cel (Kd.ptr kQuery) q, .agg kMask m] [.cel Kd.bool (dropsQ q m)] [] := by
  refine ⟨ACall.intro (N := 21) Tryd.func137 (c := _) (rfl : Func.body _ = some _) rfl (Nat.le_of_ble_eq_true rfl) (Nat.le_of_ble_eq_true rfl) rfl (Nat.le_of_ble_eq_true rfl) fun w0 hd s0 ar har => ?_, _, Tryd.func137, rfl, by decide⟩
  refine AW.to (Kc 0 (.cel _ _) rfl <| Kc 1 (.agg _ _) rfl <| Kn) ?_
  refine AW.seq ?_
  refine AW.region ?_
  refine AWl.st rfl (OpT.frz (OpT.boxA (E := 29) rfl rfl (okd rfl rfl) (Tm rfl rfl rfl))) rfl ?_
  refine AWl.st rfl (OpT.move (A := .cel _ _) (.inr rfl) rfl (okd rfl rfl) Opd.bool rfl) rfl ?_
  refine AWl.nil ?_
  refine AX.pr (Kc 4 (.cel _ _) rfl <| Kc 3 (.cel _ _) rfl <| Kc 0 (.cel _ _) rfl <| Kn) ?_
  refine AX.go ?_
  refine AW.seq ?_
  rcases Bool.eq_false_or_eq_true (withinM q.1 m) with hd1 | hd1
  ·
    refine AW.dg fomo ?_
    refine DG.fr (d := 5) [0] (DS rfl fun ve h => OpT.move (A := .cel _ _) (.inl rfl) rfl (okd rfl rfl) (D h rfl rfl rfl rfl) rfl) rfl rfl ?_
    refine DG.fr (d := 6) [5] (DS rfl fun ve h => OpT.nilCheck rfl rfl (okd rfl rfl) (D h rfl rfl rfl rfl)) rfl rfl ?_
    refine DG.fr (d := 7) [6] (DS rfl fun ve h => OpT.fieldAddr rfl rfl (okd rfl rfl) (D h rfl rfl rfl rfl) fd68_0 sz29 (by decide) sb68_0) rfl rfl ?_
    refine DG.fr (d := 8) [7] (DS rfl fun ve h => OpT.loadA rfl rfl (okd rfl rfl) (D h rfl rfl rfl rfl) ag29 sz29) rfl rfl ?_
    refine DG.fr (d := 9) [3] (DS rfl fun ve h => OpT.loadA rfl rfl (okd rfl rfl) (D h rfl rfl rfl rfl) ag29 sz29) rfl rfl ?_
    refine DG.fr (d := 10) [8, 9] (DS rfl fun ve h => OpT.c1 (ms := [.flat, .flat]) (c_spec_IsWithin _ _) rfl rfl (okd rfl rfl) (Af (D h rfl rfl rfl rfl) rfl rfl <| Af (D h rfl rfl rfl rfl) rfl rfl <| An) rfl rfl) rfl rfl ?_
    refine DG.fr (d := 11) [10] (DS rfl fun ve h => OpT.move (A := .cel _ _) (.inl rfl) rfl (okd rfl rfl) (D h rfl rfl rfl rfl) rfl) rfl rfl ?_
    refine DG.fr (d := 12) [0, 11] (DSr rfl rfl rfl rfl rfl hd1 fun ve h => OpT.move (A := .cel _ _) (.inl rfl) rfl (okd rfl rfl) (D h rfl rfl rfl rfl) rfl) rfl rfl ?_
    refine DG.fr (d := 13) [11, 12] (DSr rfl rfl rfl rfl rfl hd1 fun ve h => OpT.nilCheck rfl rfl (okd rfl rfl) (D h rfl rfl rfl rfl)) rfl rfl ?_
    refine DG.fr (d := 14) [11, 13] (DSr rfl rfl rfl rfl rfl hd1 fun ve h => OpT.fieldAddr rfl rfl (okd rfl rfl) (D h rfl rfl rfl rfl) fd68_1 sz29 (by decide) sb68_1) rfl rfl ?_
    refine DG.fr (d := 15) [11, 14] (DSr rfl rfl rfl rfl rfl hd1 fun ve h => OpT.loadA rfl rfl (okd rfl rfl) (D h rfl rfl rfl rfl) ag29 sz29) rfl rfl ?_
    refine DG.fr (d := 16) [3, 11] (DSr rfl rfl rfl rfl rfl hd1 fun ve h => OpT.loadA rfl rfl (okd rfl rfl) (D h rfl rfl rfl rfl) ag29 sz29) rfl rfl ?_
    refine DG.fr (d := 17) [11, 15, 16] (DSr rfl rfl rfl rfl rfl hd1 fun ve h => OpT.c1 (ms := [.flat, .flat]) (c_spec_l01Meet _ _) rfl rfl (okd rfl rfl) (Af (D h rfl rfl rfl rfl) rfl rfl <| Af (D h rfl rfl rfl rfl) rfl rfl <| An) rfl rfl) rfl rfl ?_
    refine DG.fr (d := 18) [11] (DSr rfl rfl rfl rfl rfl hd1 fun ve h => OpT.buildA rfl rfl (okd rfl rfl) ar29 sz22 zr29 zk29 (Built.nil _)) rfl rfl ?_
    refine DG.fr (d := 19) [11, 17, 18] (DSr rfl rfl rfl rfl rfl hd1 fun ve h => OpT.eqA rfl rfl (okd rfl rfl) (D h rfl rfl rfl rfl) (D h rfl rfl rfl rfl) eq29 ag29 rfl eg29) rfl rfl ?_
    refine DG.fr (d := 20) [11, 19] (DS rfl fun ve h => OpT.pickT (A := .cel _ _) rfl rfl (okd rfl rfl) (D h rfl rfl rfl rfl) hd1 (D h rfl rfl rfl rfl) rfl) rfl rfl ?_
    refine DG.one (d := 4) (e2 := drp _ _) [20] (DS rfl fun ve h => OpT.move (A := .cel _ _) (.inr rfl) rfl (okd rfl rfl) (D h rfl rfl rfl rfl) rfl) rfl rfl ?_
    refine DG.nil ⟨by kernel_rfl, by kernel_rfl, ?_⟩
    refine AX.pr (Kc 4 (.cel _ _) rfl <| Kn) ?_
    refine AX.go ?_
    refine AW.ret ?_
    exact AX.rt (rs := [.tmp 4]) (ts := [some 4]) (.inl rfl) rfl (ROs.cons (RO.tmp (At.self (by decide)) (Kv rfl (by first | rfl | (unfold dropsQ; rw [hd1]; rfl))) rfl) <| ROs.nil) (by decide) OutsOK.nil
  ·
    refine AW.dg fomo ?_
    refine DG.fr (d := 5) [0] (DS rfl fun ve h => OpT.move (A := .cel _ _) (.inl rfl) rfl (okd rfl rfl) (D h rfl rfl rfl rfl) rfl) rfl rfl ?_
    refine DG.fr (d := 6) [5] (DS rfl fun ve h => OpT.nilCheck rfl rfl (okd rfl rfl) (D h rfl rfl rfl rfl)) rfl rfl ?_
    refine DG.fr (d := 7) [6] (DS rfl fun ve h => OpT.fieldAddr rfl rfl (okd rfl rfl) (D h rfl rfl rfl rfl) fd68_0 sz29 (by decide) sb68_0) rfl rfl ?_
    refine DG.fr (d := 8) [7] (DS rfl fun ve h => OpT.loadA rfl rfl (okd rfl rfl) (D h rfl rfl rfl rfl) ag29 sz29) rfl rfl ?_
    refine DG.fr (d := 9) [3] (DS rfl fun ve h => OpT.loadA rfl rfl (okd rfl rfl) (D h rfl rfl rfl rfl) ag29 sz29) rfl rfl ?_
    refine DG.fr (d := 10) [8, 9] (DS rfl fun ve h => OpT.c1 (ms := [.flat, .flat]) (c_spec_IsWithin _ _) rfl rfl (okd rfl rfl) (Af (D h rfl rfl rfl rfl) rfl rfl <| Af (D h rfl rfl rfl rfl) rfl rfl <| An) rfl rfl) rfl rfl ?_
    refine DG.fr (d := 11) [10] (DS rfl fun ve h => OpT.move (A := .cel _ _) (.inl rfl) rfl (okd rfl rfl) (D h rfl rfl rfl rfl) rfl) rfl rfl ?_
    refine DG.pas (d := 12) [11] (DSp rfl rfl rfl rfl rfl hd1 rfl (okd rfl rfl)) rfl rfl ?_
    refine DG.pas (d := 13) [11] (DSp rfl rfl rfl rfl rfl hd1 rfl (okd rfl rfl)) rfl rfl ?_
    refine DG.pas (d := 14) [11] (DSp rfl rfl rfl rfl rfl hd1 rfl (okd rfl rfl)) rfl rfl ?_
    refine DG.pas (d := 15) [11] (DSp rfl rfl rfl rfl rfl hd1 rfl (okd rfl rfl)) rfl rfl ?_
    refine DG.pas (d := 16) [11] (DSp rfl rfl rfl rfl rfl hd1 rfl (okd rfl rfl)) rfl rfl ?_
    refine DG.pas (d := 17) [11] (DSp rfl rfl rfl rfl rfl hd1 rfl (okd rfl rfl)) rfl rfl ?_
    refine DG.pas (d := 18) [11] (DSp rfl rfl rfl rfl rfl hd1 rfl (okd rfl rfl)) rfl rfl ?_
    refine DG.pas (d := 19) [11] (DSp rfl rfl rfl rfl rfl hd1 rfl (okd rfl rfl)) rfl rfl ?_
    refine DG.fr (d := 20) [11] (DS rfl fun ve h => OpT.pickF (A := .cel _ _) rfl rfl (okd rfl rfl) (D h rfl rfl rfl rfl) hd1 Opd.bool rfl) rfl rfl ?_
    refine DG.one (d := 4) (e2 := drp _ _) [20] (DS rfl fun ve h => OpT.move (A := .cel _ _) (.inr rfl) rfl (okd rfl rfl) (D h rfl rfl rfl rfl) rfl) rfl rfl ?_
    refine DG.nil ⟨by kernel_rfl, by kernel_rfl, ?_⟩
    refine AX.pr (Kc 4 (.cel _ _) rfl <| Kn) ?_
    refine AX.go ?_
    refine AW.ret ?_
    exact AX.rt (rs := [.tmp 4]) (ts := [some 4]) (.inl rfl) rfl (ROs.cons (RO.tmp (At.self (by decide)) (Kv rfl (by first | rfl | (unfold dropsQ; rw [hd1]; rfl))) rfl) <| ROs.nil) (by decide) OutsOK.nil

/-- impl.Query).drops -/
theorem c_impl_Query_drops (q : DQuery) (m : BitVec 64 × BitVec 64) : AC Tryd.prog 141 [.agg kQuery q, .agg kMask m] [.cel Kd.bool (dropsQ q m)] [] := by
  refine ⟨ACall.intro (N := 17) Tryd.func141 (c := _) (rfl : Func.body _ = some _) rfl (Nat.le_of_ble_eq_true rfl) (Nat.le_of_ble_eq_true rfl) rfl (Nat.le_of_ble_eq_true rfl) fun w0 hd s0 ar har => ?_, _, Tryd.func141, rfl, by decide⟩
  refine AW.to (Kc 0 (.agg _ _) rfl <| Kc 1 (.agg _ _) rfl <| Kn) ?_
  refine AW.seq ?_
  refine AW.region ?_
  refine AWl.st rfl (OpT.frz (OpT.boxA (E := 68) rfl rfl (okd rfl rfl) (Tm rfl rfl rfl))) rfl ?_
  refine AWl.st rfl (OpT.frz (OpT.boxA (E := 29) rfl rfl (okd rfl rfl) (Tm rfl rfl rfl))) rfl ?_
  refine AWl.st rfl (OpT.move (A := .cel _ _) (.inr rfl) rfl (okd rfl rfl) Opd.bool rfl) rfl ?_
  refine AWl.nil ?_
  refine AX.pr (Kc 4 (.cel _ _) rfl <| Kc 3 (.cel _ _) rfl <| Kc 2 (.cel _ _) rfl <| Kn) ?_
  refine AX.go ?_
  refine AW.seq ?_
  refine AW.region ?_
  refine AWl.st rfl (OpT.fieldAddr rfl rfl (okd rfl rfl) (Tm rfl rfl rfl) fd68_0 sz29 (by decide) sb68_0) rfl ?_
  refine AWl.st rfl (OpT.loadA rfl rfl (okd rfl rfl) (Tm rfl rfl rfl) ag29 sz29) rfl ?_
  refine AWl.st rfl (OpT.loadA rfl rfl (okd rfl rfl) (Tm rfl rfl rfl) ag29 sz29) rfl ?_
  refine AWl.st rfl (OpT.c1 (ms := [.flat, .flat]) (c_impl_IsWithin _ _) rfl rfl (okd rfl rfl) (Af (Tm rfl rfl rfl) rfl rfl <| Af (Tm rfl rfl rfl) rfl rfl <| An) rfl rfl) rfl ?_
  refine AWl.st rfl (OpT.move (A := .cel _ _) (.inl rfl) rfl (okd rfl rfl) (Tm rfl rfl rfl) rfl) rfl ?_
  apply AWl.and (d := 16) (t := 9) rfl
  · intro hb1 Q1 k1
    refine AWl.rs rfl rfl rfl rfl hb1 (OpT.fieldAddr rfl rfl (okd rfl rfl) (Tm rfl rfl rfl) fd68_1 sz29 (by decide) sb68_1) rfl ?_
    refine AWl.rs rfl rfl rfl rfl hb1 (OpT.loadA rfl rfl (okd rfl rfl) (Tm rfl rfl rfl) ag29 sz29) rfl ?_
    refine AWl.rs rfl rfl rfl rfl hb1 (OpT.loadA rfl rfl (okd rfl rfl) (Tm rfl rfl rfl) ag29 sz29) rfl ?_
    refine AWl.rs rfl rfl rfl rfl hb1 (OpT.c1 (ms := [.flat, .flat]) (c_impl_MeetMasks _ _) rfl rfl (okd rfl rfl) (Af (Tm rfl rfl rfl) rfl rfl <| Af (Tm rfl rfl rfl) rfl rfl <| An) rfl rfl) rfl ?_
    refine AWl.rs rfl rfl rfl rfl hb1 (OpT.buildA rfl rfl (okd rfl rfl) ar29 sz22 zr29 zk29 (Built.nil _)) rfl ?_
    refine AWl.rs rfl rfl rfl rfl hb1 (OpT.eqA rfl rfl (okd rfl rfl) (Tm rfl rfl rfl) (Tm rfl rfl rfl) eq29 ag29 rfl eg29) rfl ?_
    refine AWl.st rfl (OpT.pickT (A := .cel _ _) rfl rfl (okd rfl rfl) (Tm rfl rfl rfl) hb1 (Tm rfl rfl rfl) rfl) rfl ?_
    exact AWl.to (junk 6 rfl) k1
  · intro hb1 Q1 k1
    refine AWl.pas rfl rfl rfl rfl hb1 rfl (okd rfl rfl) rfl ?_
    refine AWl.pas rfl rfl rfl rfl hb1 rfl (okd rfl rfl) rfl ?_
    refine AWl.pas rfl rfl rfl rfl hb1 rfl (okd rfl rfl) rfl ?_
    refine AWl.pas rfl rfl rfl rfl hb1 rfl (okd rfl rfl) rfl ?_
    refine AWl.pas rfl rfl rfl rfl hb1 rfl (okd rfl rfl) rfl ?_
    refine AWl.pas rfl rfl rfl rfl hb1 rfl (okd rfl rfl) rfl ?_
    refine AWl.st rfl (OpT.pickF (A := .cel _ _) rfl rfl (okd rfl rfl) (Tm rfl rfl rfl) hb1 Opd.bool rfl) rfl ?_
    exact k1
  refine AWl.sg rfl (OpT.move (A := .cel _ _) (.inr rfl) rfl (okd rfl rfl) (Tm rfl rfl rfl) rfl) (Kc 4 (.cel _ _) rfl <| Kc 16 (.cel _ _) rfl <| Kc 9 (.cel _ _) rfl <| Kc 8 (.cel _ _) rfl <| Kc 7 (.agg _ _) rfl <| Kc 6 (.agg _ _) rfl <| Kc 5 (.cel _ _) rfl <| Kc 3 (.cel _ _) rfl <| Kc 2 (.cel _ _) rfl <| Kn) ?_
  refine AWl.nil ?_
  refine AX.pr (Kc 4 (.cel _ _) rfl <| Kn) ?_
  refine AX.go ?_
  refine AW.ret ?_
  exact AX.rt (rs := [.tmp 4]) (ts := [some 4]) (.inl rfl) rfl (ROs.cons (RO.tmp (At.self (by decide)) (Kv rfl rfl) rfl) <| ROs.nil) (by decide) OutsOK.nil

/-- spec.l02Query -/
theorem c_spec_l02Query (q : DQuery) : AC Tryd.prog 89 [.cel (Kd.ptr kQuery) q] [.cel Kd.bool (queryOK q)] [] := by
  refine ⟨ACall.intro (N := 28) Tryd.func89 (c := _) (rfl : Func.body _ = some _) rfl (Nat.le_of_ble_eq_true rfl) (Nat.le_of_ble_eq_true rfl) rfl (Nat.le_of_ble_eq_true rfl) fun w0 hd s0 ar har => ?_, _, Tryd.func89, rfl, by decide⟩
  refine AW.to (Kc 0 (.cel _ _) rfl <| Kn) ?_
  refine AW.seq ?_
  refine AW.region ?_
  refine AWl.st rfl (OpT.move (A := .cel _ _) (.inr rfl) rfl (okd rfl rfl) Opd.bool rfl) rfl ?_
  refine AWl.nil ?_
  refine AX.go ?_
  refine AW.seq ?_
  rcases Bool.eq_false_or_eq_true (okM q.1) with hd1 | hd1
  ·
    rcases Bool.eq_false_or_eq_true (okM q.2) with hd2 | hd2
    ·
      refine AW.dg fomo ?_
      refine DG.fr (d := 3) [0] (DS rfl fun ve h => OpT.move (A := .cel _ _) (.inl rfl) rfl (okd rfl rfl) (D h rfl rfl rfl rfl) rfl) rfl rfl ?_
      refine DG.fr (d := 4) [3] (DS rfl fun ve h => OpT.nilCheck rfl rfl (okd rfl rfl) (D h rfl rfl rfl rfl)) rfl rfl ?_
      refine DG.fr (d := 5) [4] (DS rfl fun ve h => OpT.fieldAddr rfl rfl (okd rfl rfl) (D h rfl rfl rfl rfl) fd68_0 sz29 (by decide) sb68_0) rfl rfl ?_
      refine DG.fr (d := 6) [5] (DS rfl fun ve h => OpT.loadA rfl rfl (okd rfl rfl) (D h rfl rfl rfl rfl) ag29 sz29) rfl rfl ?_
      refine DG.fr (d := 7) [6] (DS rfl fun ve h => OpT.c1 (ms := [.flat]) (c_spec_l01Mask _) rfl rfl (okd rfl rfl) (Af (D h rfl rfl rfl rfl) rfl rfl <| An) rfl rfl) rfl rfl ?_
      refine DG.fr (d := 8) [7] (DS rfl fun ve h => OpT.move (A := .cel _ _) (.inl rfl) rfl (okd rfl rfl) (D h rfl rfl rfl rfl) rfl) rfl rfl ?_
      refine DG.fr (d := 9) [0, 8] (DSr rfl rfl rfl rfl rfl hd1 fun ve h => OpT.move (A := .cel _ _) (.inl rfl) rfl (okd rfl rfl) (D h rfl rfl rfl rfl) rfl) rfl rfl ?_
      refine DG.fr (d := 10) [8, 9] (DSr rfl rfl rfl rfl rfl hd1 fun ve h => OpT.nilCheck rfl rfl (okd rfl rfl) (D h rfl rfl rfl rfl)) rfl rfl ?_
      refine DG.fr (d := 11) [8, 10] (DSr rfl rfl rfl rfl rfl hd1 fun ve h => OpT.fieldAddr rfl rfl (okd rfl rfl) (D h rfl rfl rfl rfl) fd68_1 sz29 (by decide) sb68_1) rfl rfl ?_
      refine DG.fr (d := 12) [8, 11] (DSr rfl rfl rfl rfl rfl hd1 fun ve h => OpT.loadA rfl rfl (okd rfl rfl) (D h rfl rfl rfl rfl) ag29 sz29) rfl rfl ?_
      refine DG.fr (d := 13) [8, 12] (DSr rfl rfl rfl rfl rfl hd1 fun ve h => OpT.c1 (ms := [.flat]) (c_spec_l01Mask _) rfl rfl (okd rfl rfl) (Af (D h rfl rfl rfl rfl) rfl rfl <| An) rfl rfl) rfl rfl ?_
      refine DG.fr (d := 14) [8, 13] (DS rfl fun ve h => OpT.pickT (A := .cel _ _) rfl rfl (okd rfl rfl) (D h rfl rfl rfl rfl) hd1 (D h rfl rfl rfl rfl) rfl) rfl rfl ?_
      refine DG.fr (d := 15) [14] (DS rfl fun ve h => OpT.move (A := .cel _ _) (.inl rfl) rfl (okd rfl rfl) (D h rfl rfl rfl rfl) rfl) rfl rfl ?_
      refine DG.fr (d := 16) [0, 15] (DSr rfl rfl rfl rfl rfl hd2 fun ve h => OpT.move (A := .cel _ _) (.inl rfl) rfl (okd rfl rfl) (D h rfl rfl rfl rfl) rfl) rfl rfl ?_
      refine DG.fr (d := 17) [15, 16] (DSr rfl rfl rfl rfl rfl hd2 fun ve h => OpT.nilCheck rfl rfl (okd rfl rfl) (D h rfl rfl rfl rfl)) rfl rfl ?_
      refine DG.fr (d := 18) [15, 17] (DSr rfl rfl rfl rfl rfl hd2 fun ve h => OpT.fieldAddr rfl rfl (okd rfl rfl) (D h rfl rfl rfl rfl) fd68_0 sz29 (by decide) sb68_0) rfl rfl ?_
      refine DG.fr (d := 19) [15, 18] (DSr rfl rfl rfl rfl rfl hd2 fun ve h => OpT.loadA rfl rfl (okd rfl rfl) (D h rfl rfl rfl rfl) ag29 sz29) rfl rfl ?_
      refine DG.fr (d := 20) [0, 15] (DSr rfl rfl rfl rfl rfl hd2 fun ve h => OpT.move (A := .cel _ _) (.inl rfl) rfl (okd rfl rfl) (D h rfl rfl rfl rfl) rfl) rfl rfl ?_
      refine DG.fr (d := 21) [15, 20] (DSr rfl rfl rfl rfl rfl hd2 fun ve h => OpT.nilCheck rfl rfl (okd rfl rfl) (D h rfl rfl rfl rfl)) rfl rfl ?_
      refine DG.fr (d := 22) [15, 21] (DSr rfl rfl rfl rfl rfl hd2 fun ve h => OpT.fieldAddr rfl rfl (okd rfl rfl) (D h rfl rfl rfl rfl) fd68_1 sz29 (by decide) sb68_1) rfl rfl ?_
      refine DG.fr (d := 23) [15, 22] (DSr rfl rfl rfl rfl rfl hd2 fun ve h => OpT.loadA rfl rfl (okd rfl rfl) (D h rfl rfl rfl rfl) ag29 sz29) rfl rfl ?_
      refine DG.fr (d := 24) [15, 19, 23] (DSr rfl rfl rfl rfl rfl hd2 fun ve h => OpT.c1 (ms := [.flat, .flat]) (c_spec_l01Meet _ _) rfl rfl (okd rfl rfl) (Af (D h rfl rfl rfl rfl) rfl rfl <| Af (D h rfl rfl rfl rfl) rfl rfl <| An) rfl rfl) rfl rfl ?_
      refine DG.fr (d := 25) [15] (DSr rfl rfl rfl rfl rfl hd2 fun ve h => OpT.buildA rfl rfl (okd rfl rfl) ar29 sz22 zr29 zk29 (Built.nil _)) rfl rfl ?_
      refine DG.fr (d := 26) [15, 24, 25] (DSr rfl rfl rfl rfl rfl hd2 fun ve h => OpT.eqA rfl rfl (okd rfl rfl) (D h rfl rfl rfl rfl) (D h rfl rfl rfl rfl) eq29 ag29 rfl eg29) rfl rfl ?_
      refine DG.fr (d := 27) [15, 26] (DS rfl fun ve h => OpT.pickT (A := .cel _ _) rfl rfl (okd rfl rfl) (D h rfl rfl rfl rfl) hd2 (D h rfl rfl rfl rfl) rfl) rfl rfl ?_
      refine DG.one (d := 2) (e2 := drp _ _) [27] (DS rfl fun ve h => OpT.move (A := .cel _ _) (.inr rfl) rfl (okd rfl rfl) (D h rfl rfl rfl rfl) rfl) rfl rfl ?_
      refine DG.nil ⟨by kernel_rfl, by kernel_rfl, ?_⟩
      refine AX.pr (Kc 2 (.cel _ _) rfl <| Kn) ?_
      refine AX.go ?_
      refine AW.ret ?_
      exact AX.rt (rs := [.tmp 2]) (ts := [some 2]) (.inl rfl) rfl (ROs.cons (RO.tmp (At.self (by decide)) (Kv rfl (by first | rfl | (unfold queryOK; simp [*]))) rfl) <| ROs.nil) (by decide) OutsOK.nil
    ·
      refine AW.dg fomo ?_
      refine DG.fr (d := 3) [0] (DS rfl fun ve h => OpT.move (A := .cel _ _) (.inl rfl) rfl (okd rfl rfl) (D h rfl rfl rfl rfl) rfl) rfl rfl ?_
      refine DG.fr (d := 4) [3] (DS rfl fun ve h => OpT.nilCheck rfl rfl (okd rfl rfl) (D h rfl rfl rfl rfl)) rfl rfl ?_
      refine DG.fr (d := 5) [4] (DS rfl fun ve h => OpT.fieldAddr rfl rfl (okd rfl rfl) (D h rfl rfl rfl rfl) fd68_0 sz29 (by decide) sb68_0) rfl rfl ?_
      refine DG.fr (d := 6) [5] (DS rfl fun ve h => OpT.loadA rfl rfl (okd rfl rfl) (D h rfl rfl rfl rfl) ag29 sz29) rfl rfl ?_
      refine DG.fr (d := 7) [6] (DS rfl fun ve h => OpT.c1 (ms := [.flat]) (c_spec_l01Mask _) rfl rfl (okd rfl rfl) (Af (D h rfl rfl rfl rfl) rfl rfl <| An) rfl rfl) rfl rfl ?_
      refine DG.fr (d := 8) [7] (DS rfl fun ve h => OpT.move (A := .cel _ _) (.inl rfl) rfl (okd rfl rfl) (D h rfl rfl rfl rfl) rfl) rfl rfl ?_
      refine DG.fr (d := 9) [0, 8] (DSr rfl rfl rfl rfl rfl hd1 fun ve h => OpT.move (A := .cel _ _) (.inl rfl) rfl (okd rfl rfl) (D h rfl rfl rfl rfl) rfl) rfl rfl ?_
      refine DG.fr (d := 10) [8, 9] (DSr rfl rfl rfl rfl rfl hd1 fun ve h => OpT.nilCheck rfl rfl (okd rfl rfl) (D h rfl rfl rfl rfl)) rfl rfl ?_
      refine DG.fr (d := 11) [8, 10] (DSr rfl rfl rfl rfl rfl hd1 fun ve h => OpT.fieldAddr rfl rfl (okd rfl rfl) (D h rfl rfl rfl rfl) fd68_1 sz29 (by decide) sb68_1) rfl rfl ?_
      refine DG.fr (d := 12) [8, 11] (DSr rfl rfl rfl rfl rfl hd1 fun ve h => OpT.loadA rfl rfl (okd rfl rfl) (D h rfl rfl rfl rfl) ag29 sz29) rfl rfl ?_
      refine DG.fr (d := 13) [8, 12] (DSr rfl rfl rfl rfl rfl hd1 fun ve h => OpT.c1 (ms := [.flat]) (c_spec_l01Mask _) rfl rfl (okd rfl rfl) (Af (D h rfl rfl rfl rfl) rfl rfl <| An) rfl rfl) rfl rfl ?_
      refine DG.fr (d := 14) [8, 13] (DS rfl fun ve h => OpT.pickT (A := .cel _ _) rfl rfl (okd rfl rfl) (D h rfl rfl rfl rfl) hd1 (D h rfl rfl rfl rfl) rfl) rfl rfl ?_
      refine DG.fr (d := 15) [14] (DS rfl fun ve h => OpT.move (A := .cel _ _) (.inl rfl) rfl (okd rfl rfl) (D h rfl rfl rfl rfl) rfl) rfl rfl ?_
      refine DG.pas (d := 16) [15] (DSp rfl rfl rfl rfl rfl hd2 rfl (okd rfl rfl)) rfl rfl ?_
      refine DG.pas (d := 17) [15] (DSp rfl rfl rfl rfl rfl hd2 rfl (okd rfl rfl)) rfl rfl ?_
      refine DG.pas (d := 18) [15] (DSp rfl rfl rfl rfl rfl hd2 rfl (okd rfl rfl)) rfl rfl ?_
      refine DG.pas (d := 19) [15] (DSp rfl rfl rfl rfl rfl hd2 rfl (okd rfl rfl)) rfl rfl ?_
      refine DG.pas (d := 20) [15] (DSp rfl rfl rfl rfl rfl hd2 rfl (okd rfl rfl)) rfl rfl ?_
      refine DG.pas (d := 21) [15] (DSp rfl rfl rfl rfl rfl hd2 rfl (okd rfl rfl)) rfl rfl ?_
      refine DG.pas (d := 22) [15] (DSp rfl rfl rfl rfl rfl hd2 rfl (okd rfl rfl)) rfl rfl ?_
      refine DG.pas (d := 23) [15] (DSp rfl rfl rfl rfl rfl hd2 rfl (okd rfl rfl)) rfl rfl ?_
      refine DG.pas (d := 24) [15] (DSp rfl rfl rfl rfl rfl hd2 rfl (okd rfl rfl)) rfl rfl ?_
      refine DG.pas (d := 25) [15] (DSp rfl rfl rfl rfl rfl hd2 rfl (okd rfl rfl)) rfl rfl ?_
      refine DG.pas (d := 26) [15] (DSp rfl rfl rfl rfl rfl hd2 rfl (okd rfl rfl)) rfl rfl ?_
      refine DG.fr (d := 27) [15] (DS rfl fun ve h => OpT.pickF (A := .cel _ _) rfl rfl (okd rfl rfl) (D h rfl rfl rfl rfl) hd2 Opd.bool rfl) rfl rfl ?_
      refine DG.one (d := 2) (e2 := drp _ _) [27] (DS rfl fun ve h => OpT.move (A := .cel _ _) (.inr rfl) rfl (okd rfl rfl) (D h rfl rfl rfl rfl) rfl) rfl rfl ?_
      refine DG.nil ⟨by kernel_rfl, by kernel_rfl, ?_⟩
      refine AX.pr (Kc 2 (.cel _ _) rfl <| Kn) ?_
      refine AX.go ?_
      refine AW.ret ?_
      exact AX.rt (rs := [.tmp 2]) (ts := [some 2]) (.inl rfl) rfl (ROs.cons (RO.tmp (At.self (by decide)) (Kv rfl (by first | rfl | (unfold queryOK; simp [*]))) rfl) <| ROs.nil) (by decide) OutsOK.nil
  ·
    refine AW.dg fomo ?_
    refine DG.fr (d := 3) [0] (DS rfl fun ve h => OpT.move (A := .cel _ _) (.inl rfl) rfl (okd rfl rfl) (D h rfl rfl rfl rfl) rfl) rfl rfl ?_
    refine DG.fr (d := 4) [3] (DS rfl fun ve h => OpT.nilCheck rfl rfl (okd rfl rfl) (D h rfl rfl rfl rfl)) rfl rfl ?_
    refine DG.fr (d := 5) [4] (DS rfl fun ve h => OpT.fieldAddr rfl rfl (okd rfl rfl) (D h rfl rfl rfl rfl) fd68_0 sz29 (by decide) sb68_0) rfl rfl ?_
    refine DG.fr (d := 6) [5] (DS rfl fun ve h => OpT.loadA rfl rfl (okd rfl rfl) (D h rfl rfl rfl rfl) ag29 sz29) rfl rfl ?_
    refine DG.fr (d := 7) [6] (DS rfl fun ve h => OpT.c1 (ms := [.flat]) (c_spec_l01Mask _) rfl rfl (okd rfl rfl) (Af (D h rfl rfl rfl rfl) rfl rfl <| An) rfl rfl) rfl rfl ?_
    refine DG.fr (d := 8) [7] (DS rfl fun ve h => OpT.move (A := .cel _ _) (.inl rfl) rfl (okd rfl rfl) (D h rfl rfl rfl rfl) rfl) rfl rfl ?_
    refine DG.pas (d := 9) [8] (DSp rfl rfl rfl rfl rfl hd1 rfl (okd rfl rfl)) rfl rfl ?_
    refine DG.pas (d := 10) [8] (DSp rfl rfl rfl rfl rfl hd1 rfl (okd rfl rfl)) rfl rfl ?_
    refine DG.pas (d := 11) [8] (DSp rfl rfl rfl rfl rfl hd1 rfl (okd rfl rfl)) rfl rfl ?_
    refine DG.pas (d := 12) [8] (DSp rfl rfl rfl rfl rfl hd1 rfl (okd rfl rfl)) rfl rfl ?_
    refine DG.pas (d := 13) [8] (DSp rfl rfl rfl rfl rfl hd1 rfl (okd rfl rfl)) rfl rfl ?_
    refine DG.fr (d := 14) [8] (DS rfl fun ve h => OpT.pickF (A := .cel _ _) rfl rfl (okd rfl rfl) (D h rfl rfl rfl rfl) hd1 Opd.bool rfl) rfl rfl ?_
    refine DG.fr (d := 15) [14] (DS rfl fun ve h => OpT.move (A := .cel _ _) (.inl rfl) rfl (okd rfl rfl) (D h rfl rfl rfl rfl) rfl) rfl rfl ?_
    refine DG.pas (d := 16) [15] (DSp rfl rfl rfl rfl rfl rfl rfl (okd rfl rfl)) rfl rfl ?_
    refine DG.pas (d := 17) [15] (DSp rfl rfl rfl rfl rfl rfl rfl (okd rfl rfl)) rfl rfl ?_
    refine DG.pas (d := 18) [15] (DSp rfl rfl rfl rfl rfl rfl rfl (okd rfl rfl)) rfl rfl ?_
    refine DG.pas (d := 19) [15] (DSp rfl rfl rfl rfl rfl rfl rfl (okd rfl rfl)) rfl rfl ?_
    refine DG.pas (d := 20) [15] (DSp rfl rfl rfl rfl rfl rfl rfl (okd rfl rfl)) rfl rfl ?_
    refine DG.pas (d := 21) [15] (DSp rfl rfl rfl rfl rfl rfl rfl (okd rfl rfl)) rfl rfl ?_
    refine DG.pas (d := 22) [15] (DSp rfl rfl rfl rfl rfl rfl rfl (okd rfl rfl)) rfl rfl ?_
    refine DG.pas (d := 23) [15] (DSp rfl rfl rfl rfl rfl rfl rfl (okd rfl rfl)) rfl rfl ?_
    refine DG.pas (d := 24) [15] (DSp rfl rfl rfl rfl rfl rfl rfl (okd rfl rfl)) rfl rfl ?_
    refine DG.pas (d := 25) [15] (DSp rfl rfl rfl rfl rfl rfl rfl (okd rfl rfl)) rfl rfl ?_
    refine DG.pas (d := 26) [15] (DSp rfl rfl rfl rfl rfl rfl rfl (okd rfl rfl)) rfl rfl ?_
    refine DG.fr (d := 27) [15] (DS rfl fun ve h => OpT.pickF (A := .cel _ _) rfl rfl (okd rfl rfl) (D h rfl rfl rfl rfl) rfl Opd.bool rfl) rfl rfl ?_
    refine DG.one (d := 2) (e2 := drp _ _) [27] (DS rfl fun ve h => OpT.move (A := .cel _ _) (.inr rfl) rfl (okd rfl rfl) (D h rfl rfl rfl rfl) rfl) rfl rfl ?_
    refine DG.nil ⟨by kernel_rfl, by kernel_rfl, ?_⟩
    refine AX.pr (Kc 2 (.cel _ _) rfl <| Kn) ?_
    refine AX.go ?_
    refine AW.ret ?_
    exact AX.rt (rs := [.tmp 2]) (ts := [some 2]) (.inl rfl) rfl (ROs.cons (RO.tmp (At.self (by decide)) (Kv rfl (by first | rfl | (unfold queryOK; simp [*]))) rfl) <| ROs.nil) (by decide) OutsOK.nil

/-- impl.isQuery -/
theorem c_impl_isQuery (q : DQuery) : AC Tryd.prog 94 [.agg kQuery q] [.cel Kd.bool (queryOK q)] [] := by
  refine ⟨ACall.intro (N := 20) Tryd.func94 (c := _) (rfl : Func.body _ = some _) rfl (Nat.le_of_ble_eq_true rfl) (Nat.le_of_ble_eq_true rfl) rfl (Nat.le_of_ble_eq_true rfl) fun w0 hd s0 ar har => ?_, _, Tryd.func94, rfl, by decide⟩
  refine AW.to (Kc 0 (.agg _ _) rfl <| Kn) ?_
  refine AW.seq ?_
  refine AW.region ?_
  refine AWl.st rfl (OpT.frz (OpT.boxA (E := 68) rfl rfl (okd rfl rfl) (Tm rfl rfl rfl))) rfl ?_
  refine AWl.st rfl (OpT.move (A := .cel _ _) (.inr rfl) rfl (okd rfl rfl) Opd.bool rfl) rfl ?_
  refine AWl.nil ?_
  refine AX.pr (Kc 2 (.cel _ _) rfl <| Kc 1 (.cel _ _) rfl <| Kn) ?_
  refine AX.go ?_
  refine AW.seq ?_
  refine AW.region ?_
  refine AWl.st rfl (OpT.fieldAddr rfl rfl (okd rfl rfl) (Tm rfl rfl rfl) fd68_0 sz29 (by decide) sb68_0) rfl ?_
  refine AWl.st rfl (OpT.loadA rfl rfl (okd rfl rfl) (Tm rfl rfl rfl) ag29 sz29) rfl ?_
  refine AWl.st rfl (OpT.c1 (ms := [.flat]) (c_impl_isMask _) rfl rfl (okd rfl rfl) (Af (Tm rfl rfl rfl) rfl rfl <| An) rfl rfl) rfl ?_
  refine AWl.st rfl (OpT.move (A := .cel _ _) (.inl rfl) rfl (okd rfl rfl) (Tm rfl rfl rfl) rfl) rfl ?_
  apply AWl.and (d := 10) (t := 6) rfl
  · intro hb1 Q1 k1
    refine AWl.rs rfl rfl rfl rfl hb1 (OpT.fieldAddr rfl rfl (okd rfl rfl) (Tm rfl rfl rfl) fd68_1 sz29 (by decide) sb68_1) rfl ?_
    refine AWl.rs rfl rfl rfl rfl hb1 (OpT.loadA rfl rfl (okd rfl rfl) (Tm rfl rfl rfl) ag29 sz29) rfl ?_
    refine AWl.rs rfl rfl rfl rfl hb1 (OpT.c1 (ms := [.flat]) (c_impl_isMask _) rfl rfl (okd rfl rfl) (Af (Tm rfl rfl rfl) rfl rfl <| An) rfl rfl) rfl ?_
    refine AWl.st rfl (OpT.pickT (A := .cel _ _) rfl rfl (okd rfl rfl) (Tm rfl rfl rfl) hb1 (Tm rfl rfl rfl) rfl) rfl ?_
    exact AWl.to (junk 3 rfl) k1
  · intro hb1 Q1 k1
    refine AWl.pas rfl rfl rfl rfl hb1 rfl (okd rfl rfl) rfl ?_
    refine AWl.pas rfl rfl rfl rfl hb1 rfl (okd rfl rfl) rfl ?_
    refine AWl.pas rfl rfl rfl rfl hb1 rfl (okd rfl rfl) rfl ?_
    refine AWl.st rfl (OpT.pickF (A := .cel _ _) rfl rfl (okd rfl rfl) (Tm rfl rfl rfl) hb1 Opd.bool rfl) rfl ?_
    exact k1
  refine AWl.st rfl (OpT.move (A := .cel _ _) (.inl rfl) rfl (okd rfl rfl) (Tm rfl rfl rfl) rfl) rfl ?_
  apply AWl.and (d := 19) (t := 11) rfl
  · intro hb2 Q1 k1
    refine AWl.rs rfl rfl rfl rfl hb2 (OpT.fieldAddr rfl rfl (okd rfl rfl) (Tm rfl rfl rfl) fd68_0 sz29 (by decide) sb68_0) rfl ?_
    refine AWl.rs rfl rfl rfl rfl hb2 (OpT.loadA rfl rfl (okd rfl rfl) (Tm rfl rfl rfl) ag29 sz29) rfl ?_
    refine AWl.rs rfl rfl rfl rfl hb2 (OpT.fieldAddr rfl rfl (okd rfl rfl) (Tm rfl rfl rfl) fd68_1 sz29 (by decide) sb68_1) rfl ?_
    refine AWl.rs rfl rfl rfl rfl hb2 (OpT.loadA rfl rfl (okd rfl rfl) (Tm rfl rfl rfl) ag29 sz29) rfl ?_
    refine AWl.rs rfl rfl rfl rfl hb2 (OpT.c1 (ms := [.flat, .flat]) (c_impl_MeetMasks _ _) rfl rfl (okd rfl rfl) (Af (Tm rfl rfl rfl) rfl rfl <| Af (Tm rfl rfl rfl) rfl rfl <| An) rfl rfl) rfl ?_
    refine AWl.rs rfl rfl rfl rfl hb2 (OpT.buildA rfl rfl (okd rfl rfl) ar29 sz22 zr29 zk29 (Built.nil _)) rfl ?_
    refine AWl.rs rfl rfl rfl rfl hb2 (OpT.eqA rfl rfl (okd rfl rfl) (Tm rfl rfl rfl) (Tm rfl rfl rfl) eq29 ag29 rfl eg29) rfl ?_
    refine AWl.st rfl (OpT.pickT (A := .cel _ _) rfl rfl (okd rfl rfl) (Tm rfl rfl rfl) hb2 (Tm rfl rfl rfl) rfl) rfl ?_
    exact AWl.to (junk 7 rfl) k1
  · intro hb2 Q1 k1
    refine AWl.pas rfl rfl rfl rfl hb2 rfl (okd rfl rfl) rfl ?_
    refine AWl.pas rfl rfl rfl rfl hb2 rfl (okd rfl rfl) rfl ?_
    refine AWl.pas rfl rfl rfl rfl hb2 rfl (okd rfl rfl) rfl ?_
    refine AWl.pas rfl rfl rfl rfl hb2 rfl (okd rfl rfl) rfl ?_
    refine AWl.pas rfl rfl rfl rfl hb2 rfl (okd rfl rfl) rfl ?_
    refine AWl.pas rfl rfl rfl rfl hb2 rfl (okd rfl rfl) rfl ?_
    refine AWl.pas rfl rfl rfl rfl hb2 rfl (okd rfl rfl) rfl ?_
    refine AWl.st rfl (OpT.pickF (A := .cel _ _) rfl rfl (okd rfl rfl) (Tm rfl rfl rfl) hb2 Opd.bool rfl) rfl ?_
    exact k1
  refine AWl.sg rfl (OpT.move (A := .cel _ _) (.inr rfl) rfl (okd rfl rfl) (Tm rfl rfl rfl) rfl) (Kc 2 (.cel _ _) rfl <| Kc 19 (.cel _ _) rfl <| Kc 11 (.cel _ _) rfl <| Kc 10 (.cel _ _) rfl <| Kc 6 (.cel _ _) rfl <| Kc 5 (.cel _ _) rfl <| Kc 4 (.agg _ _) rfl <| Kc 3 (.cel _ _) rfl <| Kc 1 (.cel _ _) rfl <| Kn) ?_
  refine AWl.nil ?_
  refine AX.pr (Kc 2 (.cel _ _) rfl <| Kn) ?_
  refine AX.go ?_
  refine AW.ret ?_
  exact AX.rt (rs := [.tmp 2]) (ts := [some 2]) (.inl rfl) rfl (ROs.cons (RO.tmp (At.self (by decide)) (Kv rfl rfl) rfl) <| ROs.nil) (by decide) OutsOK.nil

/-- spec.l07Shows -/
theorem c_spec_l07Shows (q : DQuery) (m : BitVec 64 × BitVec 64) (i : Int) (h : 0 ≤ i ∧ i < 128) : AC Tryd.prog 138 [.cel (Kd.ptr kQuery) q, .agg kMask m, .cel (Kd.int .i64) i] [.cel Kd.bool (showsQ q m i)] [] := by
  refine ⟨ACall.intro (N := 32) Tryd.func138 (c := _) (rfl : Func.body _ = some _) rfl (Nat.le_of_ble_eq_true rfl) (Nat.le_of_ble_eq_true rfl) rfl (Nat.le_of_ble_eq_true rfl) fun w0 hd s0 ar har => ?_, _, Tryd.func138, rfl, by decide⟩
  refine AW.to (Kc 0 (.cel _ _) rfl <| Kc 1 (.agg _ _) rfl <| Kc 2 (.cel _ _) rfl <| Kn) ?_
  refine AW.seq ?_
  refine AW.region ?_
  refine AWl.st rfl (OpT.frz (OpT.boxA (E := 29) rfl rfl (okd rfl rfl) (Tm rfl rfl rfl))) rfl ?_
  refine AWl.st rfl (OpT.move (A := .cel _ _) (.inr rfl) rfl (okd rfl rfl) Opd.bool rfl) rfl ?_
  refine AWl.nil ?_
  refine AX.pr (Kc 6 (.cel _ _) rfl <| Kc 4 (.cel _ _) rfl <| Kc 0 (.cel _ _) rfl <| Kc 2 (.cel _ _) rfl <| Kn) ?_
  refine AX.go ?_
  refine AW.seq ?_
  refine AW.region ?_
  refine AWl.st rfl (OpT.move (A := .cel _ _) (.inl rfl) rfl (okd rfl rfl) (Tm rfl rfl rfl) rfl) rfl ?_
  refine AWl.st rfl (OpT.nilCheck rfl rfl (okd rfl rfl) (Tm rfl rfl rfl)) rfl ?_
  refine AWl.st rfl (OpT.fieldAddr rfl rfl (okd rfl rfl) (Tm rfl rfl rfl) fd68_0 sz29 (by decide) sb68_0) rfl ?_
  refine AWl.st rfl (OpT.loadA rfl rfl (okd rfl rfl) (Tm rfl rfl rfl) ag29 sz29) rfl ?_
  refine AWl.st rfl (OpT.move (A := .cel _ _) (.inl rfl) rfl (okd rfl rfl) (Tm rfl rfl rfl) rfl) rfl ?_
  refine AWl.st rfl (OpT.c1 (ms := [.flat, .flat]) (c_spec_l01Has _ _ h) rfl rfl (okd rfl rfl) (Af (Tm rfl rfl rfl) rfl rfl <| Af (Tm rfl rfl rfl) rfl rfl <| An) rfl rfl) rfl ?_
  refine AWl.st rfl (OpT.move (A := .cel _ _) (.inl rfl) rfl (okd rfl rfl) (Tm rfl rfl rfl) rfl) rfl ?_
  apply AWl.and (d := 18) (t := 13) rfl
  · intro hb1 Q1 k1
    refine AWl.rs rfl rfl rfl rfl hb1 (OpT.loadA rfl rfl (okd rfl rfl) (Tm rfl rfl rfl) ag29 sz29) rfl ?_
    refine AWl.rs rfl rfl rfl rfl hb1 (OpT.move (A := .cel _ _) (.inl rfl) rfl (okd rfl rfl) (Tm rfl rfl rfl) rfl) rfl ?_
    refine AWl.rs rfl rfl rfl rfl hb1 (OpT.c1 (ms := [.flat, .flat]) (c_spec_l01Has _ _ h) rfl rfl (okd rfl rfl) (Af (Tm rfl rfl rfl) rfl rfl <| Af (Tm rfl rfl rfl) rfl rfl <| An) rfl rfl) rfl ?_
    refine AWl.rs rfl rfl rfl rfl hb1 (OpT.not rfl rfl (okd rfl rfl) (Tm rfl rfl rfl)) rfl ?_
    refine AWl.st rfl (OpT.pickT (A := .cel _ _) rfl rfl (okd rfl rfl) (Tm rfl rfl rfl) hb1 (Tm rfl rfl rfl) rfl) rfl ?_
    exact AWl.to (junk 4 rfl) k1
  · intro hb1 Q1 k1
    refine AWl.pas rfl rfl rfl rfl hb1 rfl (okd rfl rfl) rfl ?_
    refine AWl.pas rfl rfl rfl rfl hb1 rfl (okd rfl rfl) rfl ?_
    refine AWl.pas rfl rfl rfl rfl hb1 rfl (okd rfl rfl) rfl ?_
    refine AWl.pas rfl rfl rfl rfl hb1 rfl (okd rfl rfl) rfl ?_
    refine AWl.st rfl (OpT.pickF (A := .cel _ _) rfl rfl (okd rfl rfl) (Tm rfl rfl rfl) hb1 Opd.bool rfl) rfl ?_
    exact k1
  refine AWl.st rfl (OpT.move (A := .cel _ _) (.inl rfl) rfl (okd rfl rfl) (Tm rfl rfl rfl) rfl) rfl ?_
  apply AWl.or (d := 31) (t := 19) rfl
  · intro hb2 Q1 k1
    refine AWl.rs rfl rfl rfl rfl hb2 (OpT.move (A := .cel _ _) (.inl rfl) rfl (okd rfl rfl) (Tm rfl rfl rfl) rfl) rfl ?_
    refine AWl.rs rfl rfl rfl rfl hb2 (OpT.nilCheck rfl rfl (okd rfl rfl) (Tm rfl rfl rfl)) rfl ?_
    refine AWl.rs rfl rfl rfl rfl hb2 (OpT.fieldAddr rfl rfl (okd rfl rfl) (Tm rfl rfl rfl) fd68_1 sz29 (by decide) sb68_1) rfl ?_
    refine AWl.rs rfl rfl rfl rfl hb2 (OpT.loadA rfl rfl (okd rfl rfl) (Tm rfl rfl rfl) ag29 sz29) rfl ?_
    refine AWl.rs rfl rfl rfl rfl hb2 (OpT.move (A := .cel _ _) (.inl rfl) rfl (okd rfl rfl) (Tm rfl rfl rfl) rfl) rfl ?_
    refine AWl.rs rfl rfl rfl rfl hb2 (OpT.c1 (ms := [.flat, .flat]) (c_spec_l01Has _ _ h) rfl rfl (okd rfl rfl) (Af (Tm rfl rfl rfl) rfl rfl <| Af (Tm rfl rfl rfl) rfl rfl <| An) rfl rfl) rfl ?_
    refine AWl.rs rfl rfl rfl rfl hb2 (OpT.move (A := .cel _ _) (.inl rfl) rfl (okd rfl rfl) (Tm rfl rfl rfl) rfl) rfl ?_
    apply AWl.and (d := 30) (t := 26) rfl
    · intro hb3 Q1 k1
      refine AWl.rs rfl rfl rfl rfl hb3 (OpT.loadA rfl rfl (okd rfl rfl) (Tm rfl rfl rfl) ag29 sz29) rfl ?_
      refine AWl.rs rfl rfl rfl rfl hb3 (OpT.move (A := .cel _ _) (.inl rfl) rfl (okd rfl rfl) (Tm rfl rfl rfl) rfl) rfl ?_
      refine AWl.rs rfl rfl rfl rfl hb3 (OpT.c1 (ms := [.flat, .flat]) (c_spec_l01Has _ _ h) rfl rfl (okd rfl rfl) (Af (Tm rfl rfl rfl) rfl rfl <| Af (Tm rfl rfl rfl) rfl rfl <| An) rfl rfl) rfl ?_
      refine AWl.rs rfl rfl rfl rfl hb2 (OpT.pickT (A := .cel _ _) rfl rfl (okd rfl rfl) (Tm rfl rfl rfl) hb3 (Tm rfl rfl rfl) rfl) rfl ?_
      exact AWl.to (junk 3 rfl) k1
    · intro hb3 Q1 k1
      refine AWl.pas rfl rfl rfl rfl hb3 rfl (okd rfl rfl) rfl ?_
      refine AWl.pas rfl rfl rfl rfl hb3 rfl (okd rfl rfl) rfl ?_
      refine AWl.pas rfl rfl rfl rfl hb3 rfl (okd rfl rfl) rfl ?_
      refine AWl.rs rfl rfl rfl rfl hb2 (OpT.pickF (A := .cel _ _) rfl rfl (okd rfl rfl) (Tm rfl rfl rfl) hb3 Opd.bool rfl) rfl ?_
      exact k1
    refine AWl.st rfl (OpT.pickF (A := .cel _ _) rfl rfl (okd rfl rfl) (Tm rfl rfl rfl) hb2 (Tm rfl rfl rfl) rfl) rfl ?_
    exact AWl.to (junk 8 rfl) k1
  · intro hb2 Q1 k1
    refine AWl.pas rfl rfl rfl rfl hb2 rfl (okd rfl rfl) rfl ?_
    refine AWl.pas rfl rfl rfl rfl hb2 rfl (okd rfl rfl) rfl ?_
    refine AWl.pas rfl rfl rfl rfl hb2 rfl (okd rfl rfl) rfl ?_
    refine AWl.pas rfl rfl rfl rfl hb2 rfl (okd rfl rfl) rfl ?_
    refine AWl.pas rfl rfl rfl rfl hb2 rfl (okd rfl rfl) rfl ?_
    refine AWl.pas rfl rfl rfl rfl hb2 rfl (okd rfl rfl) rfl ?_
    refine AWl.pasv rfl rfl rfl rfl hb2 rfl (okd rfl rfl) rfl ?_
    refine AWl.pasu rfl rfl rfl rfl rfl (okd rfl rfl) rfl ?_
    refine AWl.pasu rfl rfl rfl rfl rfl (okd rfl rfl) rfl ?_
    refine AWl.pasu rfl rfl rfl rfl rfl (okd rfl rfl) rfl ?_
    refine AWl.pas rfl rfl rfl rfl hb2 rfl (okd rfl rfl) rfl ?_
    refine AWl.st rfl (OpT.pickT (A := .cel _ _) rfl rfl (okd rfl rfl) (Tm rfl rfl rfl) hb2 Opd.bool rfl) rfl ?_
    exact AWl.to (junk 4 rfl) k1
  refine AWl.sg rfl (OpT.move (A := .cel _ _) (.inr rfl) rfl (okd rfl rfl) (Tm rfl rfl rfl) rfl) (Kc 6 (.cel _ _) rfl <| Kc 31 (.cel _ _) rfl <| Kc 19 (.cel _ _) rfl <| Kc 18 (.cel _ _) rfl <| Kc 13 (.cel _ _) rfl <| Kc 12 (.cel _ _) rfl <| Kc 11 (.cel _ _) rfl <| Kc 10 (.agg _ _) rfl <| Kc 9 (.cel _ _) rfl <| Kc 8 (.cel _ _) rfl <| Kc 7 (.cel _ _) rfl <| Kc 4 (.cel _ _) rfl <| Kc 0 (.cel _ _) rfl <| Kc 2 (.cel _ _) rfl <| Kn) ?_
  refine AWl.nil ?_
  refine AX.pr (Kc 6 (.cel _ _) rfl <| Kn) ?_
  refine AX.go ?_
  refine AW.ret ?_
  exact AX.rt (rs := [.tmp 6]) (ts := [some 6]) (.inl rfl) rfl (ROs.cons (RO.tmp (At.self (by decide)) (Kv rfl rfl) rfl) <| ROs.nil) (by decide) OutsOK.nil

/-- impl.Query).isWitness -/
theorem c_impl_Query_isWitness (q : DQuery) (m : BitVec 64 × BitVec 64) (i : Int) (h : 0 ≤ i ∧ i < 128) : AC Tryd.prog 142 [.agg kQuery q, .agg kMask m, .cel (Kd.int .i64) i] [.cel Kd.bool (showsQ q m i)] [] := by
  refine ⟨ACall.intro (N := 28) Tryd.func142 (c := _) (rfl : Func.body _ = some _) rfl (Nat.le_of_ble_eq_true rfl) (Nat.le_of_ble_eq_true rfl) rfl (Nat.le_of_ble_eq_true rfl) fun w0 hd s0 ar har => ?_, _, Tryd.func142, rfl, by decide⟩
  refine AW.to (Kc 0 (.agg _ _) rfl <| Kc 1 (.agg _ _) rfl <| Kc 2 (.cel _ _) rfl <| Kn) ?_
  refine AW.seq ?_
  refine AW.region ?_
  refine AWl.st rfl (OpT.frz (OpT.boxA (E := 68) rfl rfl (okd rfl rfl) (Tm rfl rfl rfl))) rfl ?_
  refine AWl.st rfl (OpT.frz (OpT.boxA (E := 29) rfl rfl (okd rfl rfl) (Tm rfl rfl rfl))) rfl ?_
  refine AWl.st rfl (OpT.move (A := .cel _ _) (.inr rfl) rfl (okd rfl rfl) Opd.bool rfl) rfl ?_
  refine AWl.nil ?_
  refine AX.pr (Kc 6 (.cel _ _) rfl <| Kc 4 (.cel _ _) rfl <| Kc 3 (.cel _ _) rfl <| Kc 2 (.cel _ _) rfl <| Kn) ?_
  refine AX.go ?_
  refine AW.seq ?_
  refine AW.region ?_
  refine AWl.st rfl (OpT.fieldAddr rfl rfl (okd rfl rfl) (Tm rfl rfl rfl) fd68_0 sz29 (by decide) sb68_0) rfl ?_
  refine AWl.st rfl (OpT.loadA rfl rfl (okd rfl rfl) (Tm rfl rfl rfl) ag29 sz29) rfl ?_
  refine AWl.st rfl (OpT.move (A := .cel _ _) (.inl rfl) rfl (okd rfl rfl) (Tm rfl rfl rfl) rfl) rfl ?_
  refine AWl.st rfl (OpT.c1 (ms := [.flat, .flat]) (c_impl_Mask_has _ _ h) rfl rfl (okd rfl rfl) (Af (Tm rfl rfl rfl) rfl rfl <| Af (Tm rfl rfl rfl) rfl rfl <| An) rfl rfl) rfl ?_
  refine AWl.st rfl (OpT.move (A := .cel _ _) (.inl rfl) rfl (okd rfl rfl) (Tm rfl rfl rfl) rfl) rfl ?_
  apply AWl.and (d := 16) (t := 11) rfl
  · intro hb1 Q1 k1
    refine AWl.rs rfl rfl rfl rfl hb1 (OpT.loadA rfl rfl (okd rfl rfl) (Tm rfl rfl rfl) ag29 sz29) rfl ?_
    refine AWl.rs rfl rfl rfl rfl hb1 (OpT.move (A := .cel _ _) (.inl rfl) rfl (okd rfl rfl) (Tm rfl rfl rfl) rfl) rfl ?_
    refine AWl.rs rfl rfl rfl rfl hb1 (OpT.c1 (ms := [.flat, .flat]) (c_impl_Mask_has _ _ h) rfl rfl (okd rfl rfl) (Af (Tm rfl rfl rfl) rfl rfl <| Af (Tm rfl rfl rfl) rfl rfl <| An) rfl rfl) rfl ?_
    refine AWl.rs rfl rfl rfl rfl hb1 (OpT.not rfl rfl (okd rfl rfl) (Tm rfl rfl rfl)) rfl ?_
    refine AWl.st rfl (OpT.pickT (A := .cel _ _) rfl rfl (okd rfl rfl) (Tm rfl rfl rfl) hb1 (Tm rfl rfl rfl) rfl) rfl ?_
    exact AWl.to (junk 4 rfl) k1
  · intro hb1 Q1 k1
    refine AWl.pas rfl rfl rfl rfl hb1 rfl (okd rfl rfl) rfl ?_
    refine AWl.pas rfl rfl rfl rfl hb1 rfl (okd rfl rfl) rfl ?_
    refine AWl.pas rfl rfl rfl rfl hb1 rfl (okd rfl rfl) rfl ?_
    refine AWl.pas rfl rfl rfl rfl hb1 rfl (okd rfl rfl) rfl ?_
    refine AWl.st rfl (OpT.pickF (A := .cel _ _) rfl rfl (okd rfl rfl) (Tm rfl rfl rfl) hb1 Opd.bool rfl) rfl ?_
    exact k1
  refine AWl.st rfl (OpT.move (A := .cel _ _) (.inl rfl) rfl (okd rfl rfl) (Tm rfl rfl rfl) rfl) rfl ?_
  apply AWl.or (d := 27) (t := 17) rfl
  · intro hb2 Q1 k1
    refine AWl.rs rfl rfl rfl rfl hb2 (OpT.fieldAddr rfl rfl (okd rfl rfl) (Tm rfl rfl rfl) fd68_1 sz29 (by decide) sb68_1) rfl ?_
    refine AWl.rs rfl rfl rfl rfl hb2 (OpT.loadA rfl rfl (okd rfl rfl) (Tm rfl rfl rfl) ag29 sz29) rfl ?_
    refine AWl.rs rfl rfl rfl rfl hb2 (OpT.move (A := .cel _ _) (.inl rfl) rfl (okd rfl rfl) (Tm rfl rfl rfl) rfl) rfl ?_
    refine AWl.rs rfl rfl rfl rfl hb2 (OpT.c1 (ms := [.flat, .flat]) (c_impl_Mask_has _ _ h) rfl rfl (okd rfl rfl) (Af (Tm rfl rfl rfl) rfl rfl <| Af (Tm rfl rfl rfl) rfl rfl <| An) rfl rfl) rfl ?_
    refine AWl.rs rfl rfl rfl rfl hb2 (OpT.move (A := .cel _ _) (.inl rfl) rfl (okd rfl rfl) (Tm rfl rfl rfl) rfl) rfl ?_
    apply AWl.and (d := 26) (t := 22) rfl
    · intro hb3 Q1 k1
      refine AWl.rs rfl rfl rfl rfl hb3 (OpT.loadA rfl rfl (okd rfl rfl) (Tm rfl rfl rfl) ag29 sz29) rfl ?_
      refine AWl.rs rfl rfl rfl rfl hb3 (OpT.move (A := .cel _ _) (.inl rfl) rfl (okd rfl rfl) (Tm rfl rfl rfl) rfl) rfl ?_
      refine AWl.rs rfl rfl rfl rfl hb3 (OpT.c1 (ms := [.flat, .flat]) (c_impl_Mask_has _ _ h) rfl rfl (okd rfl rfl) (Af (Tm rfl rfl rfl) rfl rfl <| Af (Tm rfl rfl rfl) rfl rfl <| An) rfl rfl) rfl ?_
      refine AWl.rs rfl rfl rfl rfl hb2 (OpT.pickT (A := .cel _ _) rfl rfl (okd rfl rfl) (Tm rfl rfl rfl) hb3 (Tm rfl rfl rfl) rfl) rfl ?_
      exact AWl.to (junk 3 rfl) k1
    · intro hb3 Q1 k1
      refine AWl.pas rfl rfl rfl rfl hb3 rfl (okd rfl rfl) rfl ?_
      refine AWl.pas rfl rfl rfl rfl hb3 rfl (okd rfl rfl) rfl ?_
      refine AWl.pas rfl rfl rfl rfl hb3 rfl (okd rfl rfl) rfl ?_
      refine AWl.rs rfl rfl rfl rfl hb2 (OpT.pickF (A := .cel _ _) rfl rfl (okd rfl rfl) (Tm rfl rfl rfl) hb3 Opd.bool rfl) rfl ?_
      exact k1
    refine AWl.st rfl (OpT.pickF (A := .cel _ _) rfl rfl (okd rfl rfl) (Tm rfl rfl rfl) hb2 (Tm rfl rfl rfl) rfl) rfl ?_
    exact AWl.to (junk 6 rfl) k1
  · intro hb2 Q1 k1
    refine AWl.pas rfl rfl rfl rfl hb2 rfl (okd rfl rfl) rfl ?_
    refine AWl.pas rfl rfl rfl rfl hb2 rfl (okd rfl rfl) rfl ?_
    refine AWl.pas rfl rfl rfl rfl hb2 rfl (okd rfl rfl) rfl ?_
    refine AWl.pas rfl rfl rfl rfl hb2 rfl (okd rfl rfl) rfl ?_
    refine AWl.pasv rfl rfl rfl rfl hb2 rfl (okd rfl rfl) rfl ?_
    refine AWl.pasu rfl rfl rfl rfl rfl (okd rfl rfl) rfl ?_
    refine AWl.pasu rfl rfl rfl rfl rfl (okd rfl rfl) rfl ?_
    refine AWl.pasu rfl rfl rfl rfl rfl (okd rfl rfl) rfl ?_
    refine AWl.pas rfl rfl rfl rfl hb2 rfl (okd rfl rfl) rfl ?_
    refine AWl.st rfl (OpT.pickT (A := .cel _ _) rfl rfl (okd rfl rfl) (Tm rfl rfl rfl) hb2 Opd.bool rfl) rfl ?_
    exact AWl.to (junk 4 rfl) k1
  refine AWl.sg rfl (OpT.move (A := .cel _ _) (.inr rfl) rfl (okd rfl rfl) (Tm rfl rfl rfl) rfl) (Kc 6 (.cel _ _) rfl <| Kc 27 (.cel _ _) rfl <| Kc 17 (.cel _ _) rfl <| Kc 16 (.cel _ _) rfl <| Kc 11 (.cel _ _) rfl <| Kc 10 (.cel _ _) rfl <| Kc 9 (.cel _ _) rfl <| Kc 8 (.agg _ _) rfl <| Kc 7 (.cel _ _) rfl <| Kc 4 (.cel _ _) rfl <| Kc 3 (.cel _ _) rfl <| Kc 2 (.cel _ _) rfl <| Kn) ?_
  refine AWl.nil ?_
  refine AX.pr (Kc 6 (.cel _ _) rfl <| Kn) ?_
  refine AX.go ?_
  refine AW.ret ?_
  exact AX.rt (rs := [.tmp 6]) (ts := [some 6]) (.inl rfl) rfl (ROs.cons (RO.tmp (At.self (by decide)) (Kv rfl rfl) rfl) <| ROs.nil) (by decide) OutsOK.nil

set_option maxHeartbeats 4000000 in
/-- spec.l07Fault -/
theorem c_spec_l07Fault (x : List DCard) (v : DAns') (hx : x.length ≤ 80) (hn : v.2.1.length ≤ 1048576 ∧ v.2.2.length ≤ 1048576) : AC Tryd.prog 90 [.cel (Kd.slice kCard) x, .cel (Kd.ptr kAns) v] [.cel (Kd.int .i64) (faultS x v)] [] := by
  refine ⟨ACall.intro (N := 166) Tryd.func90 (c := _) (rfl : Func.body _ = some _) rfl (Nat.le_of_ble_eq_true rfl) (Nat.le_of_ble_eq_true rfl) rfl (Nat.le_of_ble_eq_true rfl) fun w0 hd s0 ar har => ?_, _, Tryd.func90, rfl, by decide⟩
  refine AW.to (Kc 0 (.cel _ _) rfl <| Kc 1 (.cel _ _) rfl <| Kn) ?_
  refine AW.fact (fun a w hr => (ok_slice (R_ok (t := 0) rfl hr)).2) (fun hl0 => ?_)
  refine AW.fact (fun a w hr => (ok_slice (ok_pair (ok_pair (ok_ptr (R_ok (t := 1) rfl hr))).2).2).1) (fun hw => ?_)
  refine AW.seq ?_
  refine AW.region ?_
  refine AWl.st rfl (OpT.move (A := .cel _ _) (.inr rfl) rfl (okd rfl rfl) (I rfl) rfl) rfl ?_
  refine AWl.nil ?_
  refine AX.go ?_
  refine AW.seq ?_
  refine AW.region ?_
  refine AWl.st rfl (OpT.move (A := .cel _ _) (.inl rfl) rfl (okd rfl rfl) (Tm rfl rfl rfl) rfl) rfl ?_
  refine AWl.st rfl (OpT.len rfl rfl (okd rfl rfl) (Tm rfl rfl rfl) el38) rfl ?_
  refine AWl.st rfl (OpT.move (A := .cel _ _) (.inr rfl) rfl (okd rfl rfl) (Tm rfl rfl rfl) rfl) rfl ?_
  refine AWl.nil ?_
  refine AX.pr (Kc 5 (.cel _ _) rfl <| Kc 4 (.cel _ _) rfl <| Kc 0 (.cel _ _) rfl <| Kc 1 (.cel _ _) rfl <| Kn) ?_
  refine AX.go ?_
  refine AW.seq ?_
  refine AW.region ?_
  refine AWl.st rfl (OpT.move (A := .cel _ _) (.inl rfl) rfl (okd rfl rfl) (Tm rfl rfl rfl) rfl) rfl ?_
  refine AWl.st rfl (OpT.len rfl rfl (okd rfl rfl) (Tm rfl rfl rfl) el38) rfl ?_
  refine AWl.st rfl (OpT.make rfl rfl (okd rfl rfl) (Tm rfl rfl rfl) (Tm rfl rfl rfl) el176 zr3 sz3 by3 (by decide) zk3 (by omega) (by omega)) rfl ?_
  refine AWl.sg rfl (OpT.take (.inl rfl) rfl (okd rfl rfl) (Root.self (by decide)) rfl rfl (by decide)) (Kc 6 (.own _ _ _) rfl <| Kc 17 (.cel _ _) rfl <| Kc 16 (.cel _ _) rfl <| Kc 5 (.cel _ _) rfl <| Kc 4 (.cel _ _) rfl <| Kc 0 (.cel _ _) rfl <| Kc 1 (.cel _ _) rfl <| Kn) ?_
  refine AWl.nil ?_
  refine AX.pr (Kc 6 (.own _ _ _) rfl <| Kc 5 (.cel _ _) rfl <| Kc 4 (.cel _ _) rfl <| Kc 0 (.cel _ _) rfl <| Kc 1 (.cel _ _) rfl <| Kn) ?_
  refine AX.go ?_
  refine AW.seq ?_
  refine AW.region ?_
  refine AWl.st rfl (OpT.move (A := .cel _ _) (.inl rfl) rfl (okd rfl rfl) (Tm rfl rfl rfl) rfl) rfl ?_
  refine AWl.st rfl (OpT.len rfl rfl (okd rfl rfl) (Tm rfl rfl rfl) el38) rfl ?_
  refine AWl.st rfl (OpT.make rfl rfl (okd rfl rfl) (Tm rfl rfl rfl) (Tm rfl rfl rfl) el177 zr4 sz4 by4 (by decide) zk4 (by omega) (by omega)) rfl ?_
  refine AWl.sg rfl (OpT.take (.inl rfl) rfl (okd rfl rfl) (Root.self (by decide)) rfl rfl (by decide)) (Kc 7 (.own _ _ _) rfl <| Kc 20 (.cel _ _) rfl <| Kc 19 (.cel _ _) rfl <| Kc 6 (.own _ _ _) rfl <| Kc 5 (.cel _ _) rfl <| Kc 4 (.cel _ _) rfl <| Kc 0 (.cel _ _) rfl <| Kc 1 (.cel _ _) rfl <| Kn) ?_
  refine AWl.nil ?_
  refine AX.pr (Kc 7 (.own _ _ _) rfl <| Kc 6 (.own _ _ _) rfl <| Kc 5 (.cel _ _) rfl <| Kc 4 (.cel _ _) rfl <| Kc 0 (.cel _ _) rfl <| Kc 1 (.cel _ _) rfl <| Kn) ?_
  refine AX.go ?_
  refine AW.seq ?_
  refine AW.seq ?_
  refine AW.region ?_
  refine AWl.st rfl (OpT.move (A := .cel _ _) (.inr rfl) rfl (okd rfl rfl) (I rfl) rfl) rfl ?_
  refine AWl.nil ?_
  refine AX.go ?_
  refine AW.block ?_
  refine AW.loop (fun z : Nat => z ≤ v.2.1.length ∧ ∀ i, i < z → ordF (fun c => c) x.length v.2.1 i) (fun z : Nat => keep [(0, .cel (Kd.slice kCard) x), (1, .cel (Kd.ptr kAns) v), (5, .cel (Kd.int .i64) (x.length : Int)), (6, .own 3 (Kd.int .i64) (cntL 0 x.length (v.2.1.take z))), (7, .own 4 Kd.bool (rtA v.1 x (v.2.1.take z))), (8, .cel (Kd.int .i64) (z : Int))]) (fun z : Nat => v.2.1.length - z) (0) ⟨Nat.zero_le _, all_none⟩ (Kc 0 _ (Kv rfl rfl) <| Kc 1 _ (Kv rfl rfl) <| Kc 5 _ (Kv rfl rfl) <| Kc 6 _ (Ko rfl cntL_nil) <| Kc 7 _ (Ko rfl rfl) <| Kc 8 _ (Kv rfl rfl) <| Kn) ?_
  intro z hI
  refine AW.seq ?_
  refine AW.seq ?_
  refine AW.region ?_
  refine AWl.st rfl (OpT.move (A := .cel _ _) (.inl rfl) rfl (okd rfl rfl) (Tm rfl rfl rfl) rfl) rfl ?_
  refine AWl.st rfl (OpT.move (A := .cel _ _) (.inl rfl) rfl (okd rfl rfl) (Tm rfl rfl rfl) rfl) rfl ?_
  refine AWl.st rfl (OpT.nilCheck rfl rfl (okd rfl rfl) (Tm rfl rfl rfl)) rfl ?_
  refine AWl.st rfl (OpT.fieldAddr rfl rfl (okd rfl rfl) (Tm rfl rfl rfl) fd71_1 sz61 (by decide) sb71_1) rfl ?_
  refine AWl.st rfl (OpT.load rfl rfl (okd rfl rfl) (Tm rfl rfl rfl) ag61 rfl) rfl ?_
  refine AWl.st rfl (OpT.len rfl rfl (okd rfl rfl) (Tm rfl rfl rfl) el61) rfl ?_
  refine AWl.st rfl (OpT.lss rfl rfl (okd rfl rfl) (Tm rfl rfl rfl) (Tm rfl rfl rfl)) rfl ?_
  refine AWl.nil ?_
  refine AX.go ?_
  refine AW.cond (t := 28) rfl (by decide) (fun hc1 => ?_) (fun hc1 => ?_)
  ·
    try simp only [decide_eq_true_eq, decide_eq_false_iff_not, Bool.not_eq_true', Bool.not_eq_false'] at hc1
    have hc1' := hc1; try simp only [decide_eq_true_eq, decide_eq_false_iff_not, beq_iff_eq, beq_eq_false_iff_ne, bne_iff_ne, bne_eq_false_iff_eq, ne_eq, Bool.not_eq_true', Bool.not_eq_false', Bool.and_eq_true, Bool.or_eq_true, Bool.or_eq_false_iff, Bool.and_eq_false_iff, Bool.not_true, Bool.not_false] at hc1'
    obtain ⟨a, ha⟩ := getI (x := v.2.1) (z := z) (by omega)
    obtain ⟨vp, hvp⟩ := getPr (x := v.2.1) (z := z) hI.1
    have hio := ordF_iff (f := fun c => c) (n := x.length) ha hvp
    refine AW.skip ?_
    refine AX.go ?_
    refine AW.seq ?_
    refine AW.block ?_
    refine AW.seq ?_
    refine AW.region ?_
    refine AWl.st rfl (OpT.move (A := .cel _ _) (.inl rfl) rfl (okd rfl rfl) (Tm rfl rfl rfl) rfl) rfl ?_
    refine AWl.st rfl (OpT.nilCheck rfl rfl (okd rfl rfl) (Tm rfl rfl rfl)) rfl ?_
    refine AWl.st rfl (OpT.fieldAddr rfl rfl (okd rfl rfl) (Tm rfl rfl rfl) fd71_1 sz61 (by decide) sb71_1) rfl ?_
    refine AWl.st rfl (OpT.load rfl rfl (okd rfl rfl) (Tm rfl rfl rfl) ag61 rfl) rfl ?_
    refine AWl.st rfl (OpT.move (A := .cel _ _) (.inl rfl) rfl (okd rfl rfl) (Tm rfl rfl rfl) rfl) rfl ?_
    refine AWl.st rfl (OpT.indexAddr rfl rfl (okd rfl rfl) (Tm rfl rfl rfl) (Tm rfl rfl rfl) el61 sz2 (by omega) (by assumption)) rfl ?_
    refine AWl.st rfl (OpT.load rfl rfl (okd rfl rfl) (Tm rfl rfl rfl) ag2 rfl) rfl ?_
    refine AWl.st rfl (OpT.move (A := .cel _ _) (.inr rfl) rfl (okd rfl rfl) (Tm rfl rfl rfl) rfl) rfl ?_
    refine AWl.nil ?_
    refine AX.go ?_
    refine AW.seq ?_
    refine AW.seq ?_
    refine AW.region ?_
    refine AWl.st rfl (OpT.move (A := .cel _ _) (.inl rfl) rfl (okd rfl rfl) (Tm rfl rfl rfl) rfl) rfl ?_
    refine AWl.st rfl (OpT.move (A := .cel _ _) (.inl rfl) rfl (okd rfl rfl) (Tm rfl rfl rfl) rfl) rfl ?_
    refine AWl.st rfl (OpT.sub rfl rfl (okd rfl rfl) (Tm rfl rfl rfl) (I rfl) (nw (by omega))) rfl ?_
    refine AWl.st rfl (OpT.c1 (ms := [.flat, .flat, .flat]) (c_spec_l00In _ _ _) rfl rfl (okd rfl rfl) (Af (Tm rfl rfl rfl) rfl rfl <| Af (I rfl) rfl rfl <| Af (Tm rfl rfl rfl) rfl rfl <| An) rfl rfl) rfl ?_
    refine AWl.st rfl (OpT.not rfl rfl (okd rfl rfl) (Tm rfl rfl rfl)) rfl ?_
    refine AWl.st rfl (OpT.move (A := .cel _ _) (.inl rfl) rfl (okd rfl rfl) (Tm rfl rfl rfl) rfl) rfl ?_
    apply AWl.or (d := 58) (t := 43) rfl
    · intro hb1 Q1 k1
      have hb1' := hb1; try simp only [decide_eq_true_eq, decide_eq_false_iff_not, beq_iff_eq, beq_eq_false_iff_ne, bne_iff_ne, bne_eq_false_iff_eq, ne_eq, Bool.not_eq_true', Bool.not_eq_false', Bool.and_eq_true, Bool.or_eq_true, Bool.or_eq_false_iff, Bool.and_eq_false_iff, Bool.not_true, Bool.not_false] at hb1'
      refine AWl.rs rfl rfl rfl rfl hb1 (OpT.move (A := .cel _ _) (.inl rfl) rfl (okd rfl rfl) (Tm rfl rfl rfl) rfl) rfl ?_
      refine AWl.rs rfl rfl rfl rfl hb1 (OpT.gtr rfl rfl (okd rfl rfl) (Tm rfl rfl rfl) (I rfl)) rfl ?_
      refine AWl.rs rfl rfl rfl rfl hb1 (OpT.move (A := .cel _ _) (.inl rfl) rfl (okd rfl rfl) (Tm rfl rfl rfl) rfl) rfl ?_
      apply AWl.and (d := 57) (t := 46) rfl
      · intro hb2 Q1 k1
        have hb2' := hb2; try simp only [decide_eq_true_eq, decide_eq_false_iff_not, beq_iff_eq, beq_eq_false_iff_ne, bne_iff_ne, bne_eq_false_iff_eq, ne_eq, Bool.not_eq_true', Bool.not_eq_false', Bool.and_eq_true, Bool.or_eq_true, Bool.or_eq_false_iff, Bool.and_eq_false_iff, Bool.not_true, Bool.not_false] at hb2'
        have hvp1 := hvp (by omega)
        refine AWl.rs rfl rfl rfl rfl hb2 (OpT.move (A := .cel _ _) (.inl rfl) rfl (okd rfl rfl) (Tm rfl rfl rfl) rfl) rfl ?_
        refine AWl.rs rfl rfl rfl rfl hb2 (OpT.move (A := .cel _ _) (.inl rfl) rfl (okd rfl rfl) (Tm rfl rfl rfl) rfl) rfl ?_
        refine AWl.rs rfl rfl rfl rfl hb2 (OpT.nilCheck rfl rfl (okd rfl rfl) (Tm rfl rfl rfl)) rfl ?_
        refine AWl.rs rfl rfl rfl rfl hb2 (OpT.fieldAddr rfl rfl (okd rfl rfl) (Tm rfl rfl rfl) fd71_1 sz61 (by decide) sb71_1) rfl ?_
        refine AWl.rs rfl rfl rfl rfl hb2 (OpT.load rfl rfl (okd rfl rfl) (Tm rfl rfl rfl) ag61 rfl) rfl ?_
        refine AWl.rs rfl rfl rfl rfl hb2 (OpT.move (A := .cel _ _) (.inl rfl) rfl (okd rfl rfl) (Tm rfl rfl rfl) rfl) rfl ?_
        refine AWl.rs rfl rfl rfl rfl hb2 (OpT.sub rfl rfl (okd rfl rfl) (Tm rfl rfl rfl) (I rfl) (nw (by omega))) rfl ?_
        refine AWl.rs rfl rfl rfl rfl hb2 (OpT.indexAddr rfl rfl (okd rfl rfl) (Tm rfl rfl rfl) (Tm rfl rfl rfl) el61 sz2 (by omega) (by assumption)) rfl ?_
        refine AWl.rs rfl rfl rfl rfl hb2 (OpT.load rfl rfl (okd rfl rfl) (Tm rfl rfl rfl) ag2 rfl) rfl ?_
        refine AWl.rs rfl rfl rfl rfl hb2 (OpT.leq rfl rfl (okd rfl rfl) (Tm rfl rfl rfl) (Tm rfl rfl rfl)) rfl ?_
        refine AWl.rs rfl rfl rfl rfl hb1 (OpT.pickT (A := .cel _ _) rfl rfl (okd rfl rfl) (Tm rfl rfl rfl) hb2 (Tm rfl rfl rfl) rfl) rfl ?_
        exact AWl.to (junk 10 rfl) k1
      · intro hb2 Q1 k1
        refine AWl.pas rfl rfl rfl rfl hb2 rfl (okd rfl rfl) rfl ?_
        refine AWl.pas rfl rfl rfl rfl hb2 rfl (okd rfl rfl) rfl ?_
        refine AWl.pas rfl rfl rfl rfl hb2 rfl (okd rfl rfl) rfl ?_
        refine AWl.pas rfl rfl rfl rfl hb2 rfl (okd rfl rfl) rfl ?_
        refine AWl.pas rfl rfl rfl rfl hb2 rfl (okd rfl rfl) rfl ?_
        refine AWl.pas rfl rfl rfl rfl hb2 rfl (okd rfl rfl) rfl ?_
        refine AWl.pas rfl rfl rfl rfl hb2 rfl (okd rfl rfl) rfl ?_
        refine AWl.pas rfl rfl rfl rfl hb2 rfl (okd rfl rfl) rfl ?_
        refine AWl.pas rfl rfl rfl rfl hb2 rfl (okd rfl rfl) rfl ?_
        refine AWl.pas rfl rfl rfl rfl hb2 rfl (okd rfl rfl) rfl ?_
        refine AWl.rs rfl rfl rfl rfl hb1 (OpT.pickF (A := .cel _ _) rfl rfl (okd rfl rfl) (Tm rfl rfl rfl) hb2 Opd.bool rfl) rfl ?_
        exact k1
      refine AWl.st rfl (OpT.pickF (A := .cel _ _) rfl rfl (okd rfl rfl) (Tm rfl rfl rfl) hb1 (Tm rfl rfl rfl) rfl) rfl ?_
      exact AWl.to (junk 4 rfl) k1
    · intro hb1 Q1 k1
      refine AWl.pas rfl rfl rfl rfl hb1 rfl (okd rfl rfl) rfl ?_
      refine AWl.pas rfl rfl rfl rfl hb1 rfl (okd rfl rfl) rfl ?_
      refine AWl.pasv rfl rfl rfl rfl hb1 rfl (okd rfl rfl) rfl ?_
      refine AWl.pasu rfl rfl rfl rfl rfl (okd rfl rfl) rfl ?_
      refine AWl.pasu rfl rfl rfl rfl rfl (okd rfl rfl) rfl ?_
      refine AWl.pasu rfl rfl rfl rfl rfl (okd rfl rfl) rfl ?_
      refine AWl.pasu rfl rfl rfl rfl rfl (okd rfl rfl) rfl ?_
      refine AWl.pasu rfl rfl rfl rfl rfl (okd rfl rfl) rfl ?_
      refine AWl.pasu rfl rfl rfl rfl rfl (okd rfl rfl) rfl ?_
      refine AWl.pasu rfl rfl rfl rfl rfl (okd rfl rfl) rfl ?_
      refine AWl.pasu rfl rfl rfl rfl rfl (okd rfl rfl) rfl ?_
      refine AWl.pasu rfl rfl rfl rfl rfl (okd rfl rfl) rfl ?_
      refine AWl.pasu rfl rfl rfl rfl rfl (okd rfl rfl) rfl ?_
      refine AWl.pas rfl rfl rfl rfl hb1 rfl (okd rfl rfl) rfl ?_
      refine AWl.st rfl (OpT.pickT (A := .cel _ _) rfl rfl (okd rfl rfl) (Tm rfl rfl rfl) hb1 Opd.bool rfl) rfl ?_
      exact AWl.to (junk 11 rfl) k1
    refine AWl.nil ?_
    refine AX.go ?_
    refine AW.cond (t := 58) rfl (by decide) (fun hc2 => ?_) (fun hc2 => ?_)
    ·
      try simp only [decide_eq_true_eq, decide_eq_false_iff_not, Bool.not_eq_true', Bool.not_eq_false'] at hc2
      have hc2' := hc2; try simp only [decide_eq_true_eq, decide_eq_false_iff_not, beq_iff_eq, beq_eq_false_iff_ne, bne_iff_ne, bne_eq_false_iff_eq, ne_eq, Bool.not_eq_true', Bool.not_eq_false', Bool.and_eq_true, Bool.or_eq_true, Bool.or_eq_false_iff, Bool.and_eq_false_iff, Bool.not_true, Bool.not_false] at hc2'
      simp only [inb, Bool.and_eq_false_iff, Bool.and_eq_true, decide_eq_true_eq, decide_eq_false_iff_not] at hc2'
      have hno : ¬ (0 ≤ a ∧ a < (x.length : Int) ∧ (0 < z → vp < a)) := by omega
      refine AW.seq ?_
      refine AW.region ?_
      refine AWl.st rfl (OpT.move (A := .cel _ _) (.inr rfl) rfl (okd rfl rfl) (I rfl) rfl) rfl ?_
      refine AWl.nil ?_
      refine AX.go ?_
      refine AW.ret ?_
      refine AX.ret_then ?_
      refine AX.ret_block ?_
      refine AX.ret_then ?_
      refine AX.ret_then ?_
      refine AX.ret_block ?_
      refine AX.ret_then ?_
      exact AX.rt (rs := [.tmp 4]) (ts := [some 4]) (.inl rfl) rfl (ROs.cons (RO.tmp (At.self (by decide)) (Kv rfl (by first | exact flt_no1 (z := z) (by omega) (fun h => hno (hio.1 h)) | exact flt_no2 (z := y) (by omega) (fun h => hno (hio.1 h)) | exact flt_at hI0.2 hI1.2 hI.2 (by omega) (fun h => Bool.false_ne_true ((hob.1 h).symm.trans hc6)) | exact flt_end hI0.2 hI1.2 hI.2 (by omega))) rfl) <| ROs.nil) (by decide) OutsOK.nil
    ·
      try simp only [decide_eq_true_eq, decide_eq_false_iff_not, Bool.not_eq_true', Bool.not_eq_false'] at hc2
      have hc2' := hc2; try simp only [decide_eq_true_eq, decide_eq_false_iff_not, beq_iff_eq, beq_eq_false_iff_ne, bne_iff_ne, bne_eq_false_iff_eq, ne_eq, Bool.not_eq_true', Bool.not_eq_false', Bool.and_eq_true, Bool.or_eq_true, Bool.or_eq_false_iff, Bool.and_eq_false_iff, Bool.not_true, Bool.not_false] at hc2'
      simp only [inb, Bool.and_eq_false_iff, Bool.and_eq_true, decide_eq_true_eq, decide_eq_false_iff_not] at hc2'
      have hyes : 0 ≤ a ∧ a < (x.length : Int) ∧ (0 < z → vp < a) := by omega
      have hol : (v.2.1.take z).length ≤ 1048576 := by (rw [List.length_take]; omega)
      obtain ⟨e, he⟩ := get_of_len (r := x) rfl (c := a) (by omega)
      obtain ⟨cv, hcv, hcv1⟩ := cntL_in (b := 0) (a := a) (n := x.length) (l := v.2.1.take z) (by omega) (by omega)
      obtain ⟨rv, hrv⟩ := get_of_len (rtA_len v.1 x (v.2.1.take z)) (c := a) (by omega)
      refine AW.skip ?_
      refine AX.go ?_
      refine AW.seq ?_
      refine AW.region ?_
      refine AWl.st rfl (OpT.alias rfl rfl (okd rfl rfl) (by decide) (by decide)) rfl ?_
      refine AWl.st rfl (OpT.move (A := .cel _ _) (.inl rfl) rfl (okd rfl rfl) (Tm rfl rfl rfl) rfl) rfl ?_
      refine AWl.st rfl (OpT.indexAddrO rfl rfl (okd rfl rfl) (Root.ali rfl (by decide) (by decide)) rfl (by decide) (Tm rfl rfl rfl) el176 sz3 (by omega) (by assumption)) rfl ?_
      refine AWl.st rfl (OpT.loadP rfl rfl (okd rfl rfl) (Tm rfl rfl rfl) (.inr ⟨_, _, rfl, (by assumption)⟩) ag3 rfl) rfl ?_
      refine AWl.st rfl (OpT.add rfl rfl (okd rfl rfl) (Tm rfl rfl rfl) (I rfl) (nw (by omega))) rfl ?_
      refine AWl.st rfl (OpT.indexAddrO rfl rfl (okd rfl rfl) (Root.ali rfl (by decide) (by decide)) rfl (by decide) (Tm rfl rfl rfl) el176 sz3 (by omega) (by assumption)) rfl ?_
      refine AWl.sg rfl (OpT.storeO rfl rfl (Tm rfl rfl rfl) rfl (by assumption) sz3 rfl (Tm rfl rfl rfl)) (Kc 64 (.pel _ _ _ _ _ _ _) rfl <| Kc 63 (.cel _ _) rfl <| Kc 62 (.cel _ _) rfl <| Kc 61 (.pel _ _ _ _ _ _ _) rfl <| Kc 60 (.cel _ _) rfl <| Kc 59 (.ali _) rfl <| Kc 58 (.cel _ _) rfl <| Kc 43 (.cel _ _) rfl <| Kc 42 (.cel _ _) rfl <| Kc 41 (.cel _ _) rfl <| Kc 40 (.cel _ _) rfl <| Kc 39 (.cel _ _) rfl <| Kc 38 (.cel _ _) rfl <| Kc 9 (.cel _ _) rfl <| Kc 37 (.cel _ _) rfl <| Kc 36 (.cel _ _) rfl <| Kc 35 (.cel _ _) rfl <| Kc 34 (.cel _ _) rfl <| Kc 33 (.cel _ _) rfl <| Kc 32 (.cel _ _) rfl <| Kc 31 (.cel _ _) rfl <| Kc 28 (.cel _ _) rfl <| Kc 27 (.cel _ _) rfl <| Kc 26 (.cel _ _) rfl <| Kc 25 (.cel _ _) rfl <| Kc 24 (.cel _ _) rfl <| Kc 23 (.cel _ _) rfl <| Kc 22 (.cel _ _) rfl <| Kc 0 (.cel _ _) rfl <| Kc 1 (.cel _ _) rfl <| Kc 5 (.cel _ _) rfl <| Kc 6 (.own _ _ _) rfl <| Kc 7 (.own _ _ _) rfl <| Kc 8 (.cel _ _) rfl <| Kn) ?_
      refine AWl.nil ?_
      refine AX.go ?_
      refine AW.dg fomo ?_
      refine DG.fr (d := 65) [] (DS rfl fun ve h => OpT.alias rfl rfl (okd rfl rfl) (by decide) (by decide)) rfl rfl ?_
      refine DG.fr (d := 66) [9] (DS rfl fun ve h => OpT.move (A := .cel _ _) (.inl rfl) rfl (okd rfl rfl) (D h rfl rfl rfl rfl) rfl) rfl rfl ?_
      refine DG.fr (d := 67) [1] (DS rfl fun ve h => OpT.move (A := .cel _ _) (.inl rfl) rfl (okd rfl rfl) (D h rfl rfl rfl rfl) rfl) rfl rfl ?_
      refine DG.fr (d := 68) [67] (DS rfl fun ve h => OpT.nilCheck rfl rfl (okd rfl rfl) (D h rfl rfl rfl rfl)) rfl rfl ?_
      refine DG.fr (d := 69) [68] (DS rfl fun ve h => OpT.fieldAddr rfl rfl (okd rfl rfl) (D h rfl rfl rfl rfl) fd71_0 sz68 (by decide) sb71_0) rfl rfl ?_
      refine DG.fr (d := 70) [0] (DS rfl fun ve h => OpT.move (A := .cel _ _) (.inl rfl) rfl (okd rfl rfl) (D h rfl rfl rfl rfl) rfl) rfl rfl ?_
      refine DG.fr (d := 71) [9] (DS rfl fun ve h => OpT.move (A := .cel _ _) (.inl rfl) rfl (okd rfl rfl) (D h rfl rfl rfl rfl) rfl) rfl rfl ?_
      refine DG.fr (d := 72) [70, 71] (DS rfl fun ve h => OpT.indexAddr rfl rfl (okd rfl rfl) (D h rfl rfl rfl rfl) (D h rfl rfl rfl rfl) el38 sz31 (by omega) (by assumption)) rfl rfl ?_
      refine DG.fr (d := 73) [72] (DS rfl fun ve h => OpT.fieldAddr rfl rfl (okd rfl rfl) (D h rfl rfl rfl rfl) fd31_1 sz29 (by decide) sb31_1) rfl rfl ?_
      refine DG.fr (d := 74) [73] (DS rfl fun ve h => OpT.loadA rfl rfl (okd rfl rfl) (D h rfl rfl rfl rfl) ag29 sz29) rfl rfl ?_
      refine DG.fr (d := 75) [69, 74] (DS rfl fun ve h => OpT.c1 (ms := [.flat, .flat]) (c_spec_l02Drops _ _) rfl rfl (okd rfl rfl) (Af (D h rfl rfl rfl rfl) rfl rfl <| Af (D h rfl rfl rfl rfl) rfl rfl <| An) rfl rfl) rfl rfl ?_
      refine DG.fr (d := 76) [7, 65, 66] (DS rfl fun ve h => OpT.indexAddrO rfl rfl (okd rfl rfl) (Root.ali ((h _ (List.elem_iff.1 rfl)).trans rfl) (by decide) (by decide)) ((h _ (List.elem_iff.1 rfl)).trans rfl) (by decide) (D h rfl rfl rfl rfl) el177 sz4 (by omega) (by assumption)) rfl rfl ?_
      refine DG.md (t := 7) [7, 75, 76] (DSm rfl fun ve h => OpT.storeO rfl rfl (D h rfl rfl rfl rfl) ((h _ (List.elem_iff.1 rfl)).trans rfl) (by assumption) sz4 rfl (D h rfl rfl rfl rfl)) ?_
      refine DG.nil ⟨by kernel_rfl, by kernel_rfl, ?_⟩
      refine AX.normal_block ?_
      refine AX.pr (Kc 7 (.own _ _ _) rfl <| Kc 76 (.pel _ _ _ _ _ _ _) rfl <| Kc 75 (.cel _ _) rfl <| Kc 74 (.agg _ _) rfl <| Kc 73 (.cel _ _) rfl <| Kc 72 (.cel _ _) rfl <| Kc 71 (.cel _ _) rfl <| Kc 70 (.cel _ _) rfl <| Kc 69 (.cel _ _) rfl <| Kc 68 (.cel _ _) rfl <| Kc 67 (.cel _ _) rfl <| Kc 66 (.cel _ _) rfl <| Kc 65 (.ali _) rfl <| Kc 64 (.pel _ _ _ _ _ _ _) rfl <| Kc 63 (.cel _ _) rfl <| Kc 62 (.cel _ _) rfl <| Kc 61 (.pel _ _ _ _ _ _ _) rfl <| Kc 60 (.cel _ _) rfl <| Kc 59 (.ali _) rfl <| Kc 58 (.cel _ _) rfl <| Kc 43 (.cel _ _) rfl <| Kc 42 (.cel _ _) rfl <| Kc 41 (.cel _ _) rfl <| Kc 40 (.cel _ _) rfl <| Kc 39 (.cel _ _) rfl <| Kc 38 (.cel _ _) rfl <| Kc 9 (.cel _ _) rfl <| Kc 37 (.cel _ _) rfl <| Kc 36 (.cel _ _) rfl <| Kc 35 (.cel _ _) rfl <| Kc 34 (.cel _ _) rfl <| Kc 33 (.cel _ _) rfl <| Kc 32 (.cel _ _) rfl <| Kc 31 (.cel _ _) rfl <| Kc 28 (.cel _ _) rfl <| Kc 27 (.cel _ _) rfl <| Kc 26 (.cel _ _) rfl <| Kc 25 (.cel _ _) rfl <| Kc 24 (.cel _ _) rfl <| Kc 23 (.cel _ _) rfl <| Kc 22 (.cel _ _) rfl <| Kc 0 (.cel _ _) rfl <| Kc 1 (.cel _ _) rfl <| Kc 5 (.cel _ _) rfl <| Kc 6 (.own _ _ _) rfl <| Kc 8 (.cel _ _) rfl <| Kn) ?_
      refine AX.go ?_
      refine AW.region ?_
      refine AWl.st rfl (OpT.move (A := .cel _ _) (.inl rfl) rfl (okd rfl rfl) (Tm rfl rfl rfl) rfl) rfl ?_
      refine AWl.st rfl (OpT.add rfl rfl (okd rfl rfl) (Tm rfl rfl rfl) (I rfl) (nw (by omega))) rfl ?_
      refine AWl.sg rfl (OpT.move (A := .cel _ _) (.inr rfl) rfl (okd rfl rfl) (Tm rfl rfl rfl) rfl) (Kc 8 (.cel _ _) rfl <| Kc 30 (.cel _ _) rfl <| Kc 29 (.cel _ _) rfl <| Kc 7 (.own _ _ _) rfl <| Kc 76 (.pel _ _ _ _ _ _ _) rfl <| Kc 75 (.cel _ _) rfl <| Kc 74 (.agg _ _) rfl <| Kc 73 (.cel _ _) rfl <| Kc 72 (.cel _ _) rfl <| Kc 71 (.cel _ _) rfl <| Kc 70 (.cel _ _) rfl <| Kc 69 (.cel _ _) rfl <| Kc 68 (.cel _ _) rfl <| Kc 67 (.cel _ _) rfl <| Kc 66 (.cel _ _) rfl <| Kc 65 (.ali _) rfl <| Kc 64 (.pel _ _ _ _ _ _ _) rfl <| Kc 63 (.cel _ _) rfl <| Kc 62 (.cel _ _) rfl <| Kc 61 (.pel _ _ _ _ _ _ _) rfl <| Kc 60 (.cel _ _) rfl <| Kc 59 (.ali _) rfl <| Kc 58 (.cel _ _) rfl <| Kc 43 (.cel _ _) rfl <| Kc 42 (.cel _ _) rfl <| Kc 41 (.cel _ _) rfl <| Kc 40 (.cel _ _) rfl <| Kc 39 (.cel _ _) rfl <| Kc 38 (.cel _ _) rfl <| Kc 9 (.cel _ _) rfl <| Kc 37 (.cel _ _) rfl <| Kc 36 (.cel _ _) rfl <| Kc 35 (.cel _ _) rfl <| Kc 34 (.cel _ _) rfl <| Kc 33 (.cel _ _) rfl <| Kc 32 (.cel _ _) rfl <| Kc 31 (.cel _ _) rfl <| Kc 28 (.cel _ _) rfl <| Kc 27 (.cel _ _) rfl <| Kc 26 (.cel _ _) rfl <| Kc 25 (.cel _ _) rfl <| Kc 24 (.cel _ _) rfl <| Kc 23 (.cel _ _) rfl <| Kc 22 (.cel _ _) rfl <| Kc 0 (.cel _ _) rfl <| Kc 1 (.cel _ _) rfl <| Kc 5 (.cel _ _) rfl <| Kc 6 (.own _ _ _) rfl <| Kn) ?_
      refine AWl.nil ?_
      exact AX.again (z + 1) ⟨by omega, all_step hI.2 (hio.2 hyes)⟩ (by omega) (Kc 0 _ (Kv rfl rfl) <| Kc 1 _ (Kv rfl rfl) <| Kc 5 _ (Kv rfl rfl) <| Kc 6 _ (Ko rfl (cnt_one ha (by omega) hcv)) <| Kc 7 _ (Ko rfl (rtA_next ha he)) <| Kc 8 _ (Kv rfl (by omega)) <| Kn)
  ·
    try simp only [decide_eq_true_eq, decide_eq_false_iff_not, Bool.not_eq_true', Bool.not_eq_false'] at hc1
    have hc1' := hc1; try simp only [decide_eq_true_eq, decide_eq_false_iff_not, beq_iff_eq, beq_eq_false_iff_ne, bne_iff_ne, bne_eq_false_iff_eq, ne_eq, Bool.not_eq_true', Bool.not_eq_false', Bool.and_eq_true, Bool.or_eq_true, Bool.or_eq_false_iff, Bool.and_eq_false_iff, Bool.not_true, Bool.not_false] at hc1'
    refine AW.exit ?_
    refine AX.exit_then ?_
    refine AX.exit_then ?_
    refine AX.exit_hit ?_
    refine AX.pr (Kc 0 (.cel _ _) rfl <| Kc 1 (.cel _ _) rfl <| Kc 5 (.cel _ _) rfl <| Kc 6 (.own _ _ _) rfl <| Kc 7 (.own _ _ _) rfl <| Kn) ?_
    refine AX.go ?_
    refine AW.seq ?_
    refine AW.seq ?_
    refine AW.region ?_
    refine AWl.st rfl (OpT.move (A := .cel _ _) (.inr rfl) rfl (okd rfl rfl) (I rfl) rfl) rfl ?_
    refine AWl.nil ?_
    refine AX.go ?_
    refine AW.block ?_
    obtain rfl : z = v.2.1.length := by omega
    have hI0 := hI
    refine AW.loop (fun y : Nat => y ≤ v.2.2.length ∧ ∀ i, i < y → ordF Prod.fst x.length v.2.2 i) (fun y : Nat => keep [(0, .cel (Kd.slice kCard) x), (1, .cel (Kd.ptr kAns) v), (5, .cel (Kd.int .i64) (x.length : Int)), (6, .own 3 (Kd.int .i64) (cntL 0 x.length (v.2.1 ++ (v.2.2.map (·.1)).take y))), (7, .own 4 Kd.bool (rtB v.1 x v.2.1 (v.2.2.take y))), (10, .cel (Kd.int .i64) (y : Int))]) (fun y : Nat => v.2.2.length - y) (0) ⟨Nat.zero_le _, all_none⟩ (Kc 0 _ (Kv rfl rfl) <| Kc 1 _ (Kv rfl rfl) <| Kc 5 _ (Kv rfl rfl) <| Kc 6 _ (Ko rfl (by rw [List.take_length, List.take_zero, List.append_nil])) <| Kc 7 _ (Ko rfl (by rw [List.take_length, List.take_zero]; rfl)) <| Kc 10 _ (Kv rfl rfl) <| Kn) ?_
    intro y hI
    refine AW.seq ?_
    refine AW.seq ?_
    refine AW.region ?_
    refine AWl.st rfl (OpT.move (A := .cel _ _) (.inl rfl) rfl (okd rfl rfl) (Tm rfl rfl rfl) rfl) rfl ?_
    refine AWl.st rfl (OpT.move (A := .cel _ _) (.inl rfl) rfl (okd rfl rfl) (Tm rfl rfl rfl) rfl) rfl ?_
    refine AWl.st rfl (OpT.nilCheck rfl rfl (okd rfl rfl) (Tm rfl rfl rfl)) rfl ?_
    refine AWl.st rfl (OpT.fieldAddr rfl rfl (okd rfl rfl) (Tm rfl rfl rfl) fd71_2 sz69 (by decide) sb71_2) rfl ?_
    refine AWl.st rfl (OpT.load rfl rfl (okd rfl rfl) (Tm rfl rfl rfl) ag69 rfl) rfl ?_
    refine AWl.st rfl (OpT.len rfl rfl (okd rfl rfl) (Tm rfl rfl rfl) el69) rfl ?_
    refine AWl.st rfl (OpT.lss rfl rfl (okd rfl rfl) (Tm rfl rfl rfl) (Tm rfl rfl rfl)) rfl ?_
    refine AWl.nil ?_
    refine AX.go ?_
    refine AW.cond (t := 83) rfl (by decide) (fun hc3 => ?_) (fun hc3 => ?_)
    ·
      try simp only [decide_eq_true_eq, decide_eq_false_iff_not, Bool.not_eq_true', Bool.not_eq_false'] at hc3
      have hc3' := hc3; try simp only [decide_eq_true_eq, decide_eq_false_iff_not, beq_iff_eq, beq_eq_false_iff_ne, bne_iff_ne, bne_eq_false_iff_eq, ne_eq, Bool.not_eq_true', Bool.not_eq_false', Bool.and_eq_true, Bool.or_eq_true, Bool.or_eq_false_iff, Bool.and_eq_false_iff, Bool.not_true, Bool.not_false] at hc3'
      obtain ⟨wt, hwt⟩ := getI (x := v.2.2) (z := y) (by omega)
      obtain ⟨wp, hwp⟩ := getPr (x := v.2.2) (z := y) hI.1
      have hio := ordF_iff (f := Prod.fst) (n := x.length) hwt hwp
      have hw16 := ok_i16 (ok_pair (hw wt (mem_getI hwt))).2
      refine AW.skip ?_
      refine AX.go ?_
      refine AW.seq ?_
      refine AW.block ?_
      refine AW.seq ?_
      refine AW.region ?_
      refine AWl.st rfl (OpT.move (A := .cel _ _) (.inl rfl) rfl (okd rfl rfl) (Tm rfl rfl rfl) rfl) rfl ?_
      refine AWl.st rfl (OpT.nilCheck rfl rfl (okd rfl rfl) (Tm rfl rfl rfl)) rfl ?_
      refine AWl.st rfl (OpT.fieldAddr rfl rfl (okd rfl rfl) (Tm rfl rfl rfl) fd71_2 sz69 (by decide) sb71_2) rfl ?_
      refine AWl.st rfl (OpT.load rfl rfl (okd rfl rfl) (Tm rfl rfl rfl) ag69 rfl) rfl ?_
      refine AWl.st rfl (OpT.move (A := .cel _ _) (.inl rfl) rfl (okd rfl rfl) (Tm rfl rfl rfl) rfl) rfl ?_
      refine AWl.st rfl (OpT.indexAddr rfl rfl (okd rfl rfl) (Tm rfl rfl rfl) (Tm rfl rfl rfl) el69 sz180 (by omega) (by assumption)) rfl ?_
      refine AWl.st rfl (OpT.fieldAddr rfl rfl (okd rfl rfl) (Tm rfl rfl rfl) fd180_0 sz2 (by decide) sb180_0) rfl ?_
      refine AWl.st rfl (OpT.load rfl rfl (okd rfl rfl) (Tm rfl rfl rfl) ag2 rfl) rfl ?_
      refine AWl.st rfl (OpT.move (A := .cel _ _) (.inr rfl) rfl (okd rfl rfl) (Tm rfl rfl rfl) rfl) rfl ?_
      refine AWl.nil ?_
      refine AX.go ?_
      refine AW.seq ?_
      refine AW.seq ?_
      refine AW.region ?_
      refine AWl.st rfl (OpT.move (A := .cel _ _) (.inl rfl) rfl (okd rfl rfl) (Tm rfl rfl rfl) rfl) rfl ?_
      refine AWl.st rfl (OpT.move (A := .cel _ _) (.inl rfl) rfl (okd rfl rfl) (Tm rfl rfl rfl) rfl) rfl ?_
      refine AWl.st rfl (OpT.sub rfl rfl (okd rfl rfl) (Tm rfl rfl rfl) (I rfl) (nw (by omega))) rfl ?_
      refine AWl.st rfl (OpT.c1 (ms := [.flat, .flat, .flat]) (c_spec_l00In _ _ _) rfl rfl (okd rfl rfl) (Af (Tm rfl rfl rfl) rfl rfl <| Af (I rfl) rfl rfl <| Af (Tm rfl rfl rfl) rfl rfl <| An) rfl rfl) rfl ?_
      refine AWl.st rfl (OpT.not rfl rfl (okd rfl rfl) (Tm rfl rfl rfl)) rfl ?_
      refine AWl.st rfl (OpT.move (A := .cel _ _) (.inl rfl) rfl (okd rfl rfl) (Tm rfl rfl rfl) rfl) rfl ?_
      apply AWl.or (d := 115) (t := 99) rfl
      · intro hb3 Q1 k1
        have hb3' := hb3; try simp only [decide_eq_true_eq, decide_eq_false_iff_not, beq_iff_eq, beq_eq_false_iff_ne, bne_iff_ne, bne_eq_false_iff_eq, ne_eq, Bool.not_eq_true', Bool.not_eq_false', Bool.and_eq_true, Bool.or_eq_true, Bool.or_eq_false_iff, Bool.and_eq_false_iff, Bool.not_true, Bool.not_false] at hb3'
        refine AWl.rs rfl rfl rfl rfl hb3 (OpT.move (A := .cel _ _) (.inl rfl) rfl (okd rfl rfl) (Tm rfl rfl rfl) rfl) rfl ?_
        refine AWl.rs rfl rfl rfl rfl hb3 (OpT.gtr rfl rfl (okd rfl rfl) (Tm rfl rfl rfl) (I rfl)) rfl ?_
        refine AWl.rs rfl rfl rfl rfl hb3 (OpT.move (A := .cel _ _) (.inl rfl) rfl (okd rfl rfl) (Tm rfl rfl rfl) rfl) rfl ?_
        apply AWl.and (d := 114) (t := 102) rfl
        · intro hb4 Q1 k1
          have hb4' := hb4; try simp only [decide_eq_true_eq, decide_eq_false_iff_not, beq_iff_eq, beq_eq_false_iff_ne, bne_iff_ne, bne_eq_false_iff_eq, ne_eq, Bool.not_eq_true', Bool.not_eq_false', Bool.and_eq_true, Bool.or_eq_true, Bool.or_eq_false_iff, Bool.and_eq_false_iff, Bool.not_true, Bool.not_false] at hb4'
          have hwp1 := hwp (by omega)
          refine AWl.rs rfl rfl rfl rfl hb4 (OpT.move (A := .cel _ _) (.inl rfl) rfl (okd rfl rfl) (Tm rfl rfl rfl) rfl) rfl ?_
          refine AWl.rs rfl rfl rfl rfl hb4 (OpT.move (A := .cel _ _) (.inl rfl) rfl (okd rfl rfl) (Tm rfl rfl rfl) rfl) rfl ?_
          refine AWl.rs rfl rfl rfl rfl hb4 (OpT.nilCheck rfl rfl (okd rfl rfl) (Tm rfl rfl rfl)) rfl ?_
          refine AWl.rs rfl rfl rfl rfl hb4 (OpT.fieldAddr rfl rfl (okd rfl rfl) (Tm rfl rfl rfl) fd71_2 sz69 (by decide) sb71_2) rfl ?_
          refine AWl.rs rfl rfl rfl rfl hb4 (OpT.load rfl rfl (okd rfl rfl) (Tm rfl rfl rfl) ag69 rfl) rfl ?_
          refine AWl.rs rfl rfl rfl rfl hb4 (OpT.move (A := .cel _ _) (.inl rfl) rfl (okd rfl rfl) (Tm rfl rfl rfl) rfl) rfl ?_
          refine AWl.rs rfl rfl rfl rfl hb4 (OpT.sub rfl rfl (okd rfl rfl) (Tm rfl rfl rfl) (I rfl) (nw (by omega))) rfl ?_
          refine AWl.rs rfl rfl rfl rfl hb4 (OpT.indexAddr rfl rfl (okd rfl rfl) (Tm rfl rfl rfl) (Tm rfl rfl rfl) el69 sz180 (by omega) (by assumption)) rfl ?_
          refine AWl.rs rfl rfl rfl rfl hb4 (OpT.fieldAddr rfl rfl (okd rfl rfl) (Tm rfl rfl rfl) fd180_0 sz2 (by decide) sb180_0) rfl ?_
          refine AWl.rs rfl rfl rfl rfl hb4 (OpT.load rfl rfl (okd rfl rfl) (Tm rfl rfl rfl) ag2 rfl) rfl ?_
          refine AWl.rs rfl rfl rfl rfl hb4 (OpT.leq rfl rfl (okd rfl rfl) (Tm rfl rfl rfl) (Tm rfl rfl rfl)) rfl ?_
          refine AWl.rs rfl rfl rfl rfl hb3 (OpT.pickT (A := .cel _ _) rfl rfl (okd rfl rfl) (Tm rfl rfl rfl) hb4 (Tm rfl rfl rfl) rfl) rfl ?_
          exact AWl.to (junk 11 rfl) k1
        · intro hb4 Q1 k1
          refine AWl.pas rfl rfl rfl rfl hb4 rfl (okd rfl rfl) rfl ?_
          refine AWl.pas rfl rfl rfl rfl hb4 rfl (okd rfl rfl) rfl ?_
          refine AWl.pas rfl rfl rfl rfl hb4 rfl (okd rfl rfl) rfl ?_
          refine AWl.pas rfl rfl rfl rfl hb4 rfl (okd rfl rfl) rfl ?_
          refine AWl.pas rfl rfl rfl rfl hb4 rfl (okd rfl rfl) rfl ?_
          refine AWl.pas rfl rfl rfl rfl hb4 rfl (okd rfl rfl) rfl ?_
          refine AWl.pas rfl rfl rfl rfl hb4 rfl (okd rfl rfl) rfl ?_
          refine AWl.pas rfl rfl rfl rfl hb4 rfl (okd rfl rfl) rfl ?_
          refine AWl.pas rfl rfl rfl rfl hb4 rfl (okd rfl rfl) rfl ?_
          refine AWl.pas rfl rfl rfl rfl hb4 rfl (okd rfl rfl) rfl ?_
          refine AWl.pas rfl rfl rfl rfl hb4 rfl (okd rfl rfl) rfl ?_
          refine AWl.rs rfl rfl rfl rfl hb3 (OpT.pickF (A := .cel _ _) rfl rfl (okd rfl rfl) (Tm rfl rfl rfl) hb4 Opd.bool rfl) rfl ?_
          exact k1
        refine AWl.st rfl (OpT.pickF (A := .cel _ _) rfl rfl (okd rfl rfl) (Tm rfl rfl rfl) hb3 (Tm rfl rfl rfl) rfl) rfl ?_
        exact AWl.to (junk 4 rfl) k1
      · intro hb3 Q1 k1
        refine AWl.pas rfl rfl rfl rfl hb3 rfl (okd rfl rfl) rfl ?_
        refine AWl.pas rfl rfl rfl rfl hb3 rfl (okd rfl rfl) rfl ?_
        refine AWl.pasv rfl rfl rfl rfl hb3 rfl (okd rfl rfl) rfl ?_
        refine AWl.pasu rfl rfl rfl rfl rfl (okd rfl rfl) rfl ?_
        refine AWl.pasu rfl rfl rfl rfl rfl (okd rfl rfl) rfl ?_
        refine AWl.pasu rfl rfl rfl rfl rfl (okd rfl rfl) rfl ?_
        refine AWl.pasu rfl rfl rfl rfl rfl (okd rfl rfl) rfl ?_
        refine AWl.pasu rfl rfl rfl rfl rfl (okd rfl rfl) rfl ?_
        refine AWl.pasu rfl rfl rfl rfl rfl (okd rfl rfl) rfl ?_
        refine AWl.pasu rfl rfl rfl rfl rfl (okd rfl rfl) rfl ?_
        refine AWl.pasu rfl rfl rfl rfl rfl (okd rfl rfl) rfl ?_
        refine AWl.pasu rfl rfl rfl rfl rfl (okd rfl rfl) rfl ?_
        refine AWl.pasu rfl rfl rfl rfl rfl (okd rfl rfl) rfl ?_
        refine AWl.pasu rfl rfl rfl rfl rfl (okd rfl rfl) rfl ?_
        refine AWl.pas rfl rfl rfl rfl hb3 rfl (okd rfl rfl) rfl ?_
        refine AWl.st rfl (OpT.pickT (A := .cel _ _) rfl rfl (okd rfl rfl) (Tm rfl rfl rfl) hb3 Opd.bool rfl) rfl ?_
        exact AWl.to (junk 12 rfl) k1
      refine AWl.nil ?_
      refine AX.go ?_
      refine AW.cond (t := 115) rfl (by decide) (fun hc4 => ?_) (fun hc4 => ?_)
      ·
        try simp only [decide_eq_true_eq, decide_eq_false_iff_not, Bool.not_eq_true', Bool.not_eq_false'] at hc4
        have hc4' := hc4; try simp only [decide_eq_true_eq, decide_eq_false_iff_not, beq_iff_eq, beq_eq_false_iff_ne, bne_iff_ne, bne_eq_false_iff_eq, ne_eq, Bool.not_eq_true', Bool.not_eq_false', Bool.and_eq_true, Bool.or_eq_true, Bool.or_eq_false_iff, Bool.and_eq_false_iff, Bool.not_true, Bool.not_false] at hc4'
        simp only [inb, Bool.and_eq_false_iff, Bool.and_eq_true, decide_eq_true_eq, decide_eq_false_iff_not] at hc4'
        have hno : ¬ (0 ≤ wt.1 ∧ wt.1 < (x.length : Int) ∧ (0 < y → wp.1 < wt.1)) := by omega
        refine AW.seq ?_
        refine AW.region ?_
        refine AWl.st rfl (OpT.move (A := .cel _ _) (.inr rfl) rfl (okd rfl rfl) (I rfl) rfl) rfl ?_
        refine AWl.nil ?_
        refine AX.go ?_
        refine AW.ret ?_
        refine AX.ret_then ?_
        refine AX.ret_block ?_
        refine AX.ret_then ?_
        refine AX.ret_then ?_
        refine AX.ret_block ?_
        refine AX.ret_then ?_
        exact AX.rt (rs := [.tmp 4]) (ts := [some 4]) (.inl rfl) rfl (ROs.cons (RO.tmp (At.self (by decide)) (Kv rfl (by first | exact flt_no1 (z := z) (by omega) (fun h => hno (hio.1 h)) | exact flt_no2 (z := y) (by omega) (fun h => hno (hio.1 h)) | exact flt_at hI0.2 hI1.2 hI.2 (by omega) (fun h => Bool.false_ne_true ((hob.1 h).symm.trans hc6)) | exact flt_end hI0.2 hI1.2 hI.2 (by omega))) rfl) <| ROs.nil) (by decide) OutsOK.nil
      ·
        try simp only [decide_eq_true_eq, decide_eq_false_iff_not, Bool.not_eq_true', Bool.not_eq_false'] at hc4
        have hc4' := hc4; try simp only [decide_eq_true_eq, decide_eq_false_iff_not, beq_iff_eq, beq_eq_false_iff_ne, bne_iff_ne, bne_eq_false_iff_eq, ne_eq, Bool.not_eq_true', Bool.not_eq_false', Bool.and_eq_true, Bool.or_eq_true, Bool.or_eq_false_iff, Bool.and_eq_false_iff, Bool.not_true, Bool.not_false] at hc4'
        simp only [inb, Bool.and_eq_false_iff, Bool.and_eq_true, decide_eq_true_eq, decide_eq_false_iff_not] at hc4'
        have hyes : 0 ≤ wt.1 ∧ wt.1 < (x.length : Int) ∧ (0 < y → wp.1 < wt.1) := by omega
        have hol : (v.2.1 ++ (v.2.2.map (·.1)).take y).length ≤ 2097152 := by (rw [List.length_append, List.length_take, List.length_map]; omega)
        obtain ⟨e, he⟩ := get_of_len (r := x) rfl (c := wt.1) (by omega)
        obtain ⟨cv, hcv, hcv1⟩ := cntL_in (b := 0) (a := wt.1) (n := x.length) (l := v.2.1 ++ (v.2.2.map (·.1)).take y) (by omega) (by omega)
        obtain ⟨rv, hrv⟩ := get_of_len (rtB_len v.1 x v.2.1 (v.2.2.take y)) (c := wt.1) (by omega)
        refine AW.skip ?_
        refine AX.go ?_
        refine AW.seq ?_
        refine AW.region ?_
        refine AWl.st rfl (OpT.alias rfl rfl (okd rfl rfl) (by decide) (by decide)) rfl ?_
        refine AWl.st rfl (OpT.move (A := .cel _ _) (.inl rfl) rfl (okd rfl rfl) (Tm rfl rfl rfl) rfl) rfl ?_
        refine AWl.st rfl (OpT.indexAddrO rfl rfl (okd rfl rfl) (Root.ali rfl (by decide) (by decide)) rfl (by decide) (Tm rfl rfl rfl) el176 sz3 (by omega) (by assumption)) rfl ?_
        refine AWl.st rfl (OpT.loadP rfl rfl (okd rfl rfl) (Tm rfl rfl rfl) (.inr ⟨_, _, rfl, (by assumption)⟩) ag3 rfl) rfl ?_
        refine AWl.st rfl (OpT.add rfl rfl (okd rfl rfl) (Tm rfl rfl rfl) (I rfl) (nw (by omega))) rfl ?_
        refine AWl.st rfl (OpT.indexAddrO rfl rfl (okd rfl rfl) (Root.ali rfl (by decide) (by decide)) rfl (by decide) (Tm rfl rfl rfl) el176 sz3 (by omega) (by assumption)) rfl ?_
        refine AWl.sg rfl (OpT.storeO rfl rfl (Tm rfl rfl rfl) rfl (by assumption) sz3 rfl (Tm rfl rfl rfl)) (Kc 121 (.pel _ _ _ _ _ _ _) rfl <| Kc 120 (.cel _ _) rfl <| Kc 119 (.cel _ _) rfl <| Kc 118 (.pel _ _ _ _ _ _ _) rfl <| Kc 117 (.cel _ _) rfl <| Kc 116 (.ali _) rfl <| Kc 115 (.cel _ _) rfl <| Kc 99 (.cel _ _) rfl <| Kc 98 (.cel _ _) rfl <| Kc 97 (.cel _ _) rfl <| Kc 96 (.cel _ _) rfl <| Kc 95 (.cel _ _) rfl <| Kc 94 (.cel _ _) rfl <| Kc 11 (.cel _ _) rfl <| Kc 93 (.cel _ _) rfl <| Kc 92 (.cel _ _) rfl <| Kc 91 (.cel _ _) rfl <| Kc 90 (.cel _ _) rfl <| Kc 89 (.cel _ _) rfl <| Kc 88 (.cel _ _) rfl <| Kc 87 (.cel _ _) rfl <| Kc 86 (.cel _ _) rfl <| Kc 83 (.cel _ _) rfl <| Kc 82 (.cel _ _) rfl <| Kc 81 (.cel _ _) rfl <| Kc 80 (.cel _ _) rfl <| Kc 79 (.cel _ _) rfl <| Kc 78 (.cel _ _) rfl <| Kc 77 (.cel _ _) rfl <| Kc 0 (.cel _ _) rfl <| Kc 1 (.cel _ _) rfl <| Kc 5 (.cel _ _) rfl <| Kc 6 (.own _ _ _) rfl <| Kc 7 (.own _ _ _) rfl <| Kc 10 (.cel _ _) rfl <| Kn) ?_
        refine AWl.nil ?_
        refine AX.go ?_
        refine AW.seq ?_
        refine AW.region ?_
        refine AWl.st rfl (OpT.move (A := .cel _ _) (.inl rfl) rfl (okd rfl rfl) (Tm rfl rfl rfl) rfl) rfl ?_
        refine AWl.st rfl (OpT.nilCheck rfl rfl (okd rfl rfl) (Tm rfl rfl rfl)) rfl ?_
        refine AWl.st rfl (OpT.fieldAddr rfl rfl (okd rfl rfl) (Tm rfl rfl rfl) fd71_2 sz69 (by decide) sb71_2) rfl ?_
        refine AWl.st rfl (OpT.load rfl rfl (okd rfl rfl) (Tm rfl rfl rfl) ag69 rfl) rfl ?_
        refine AWl.st rfl (OpT.move (A := .cel _ _) (.inl rfl) rfl (okd rfl rfl) (Tm rfl rfl rfl) rfl) rfl ?_
        refine AWl.st rfl (OpT.indexAddr rfl rfl (okd rfl rfl) (Tm rfl rfl rfl) (Tm rfl rfl rfl) el69 sz180 (by omega) (by assumption)) rfl ?_
        refine AWl.st rfl (OpT.fieldAddr rfl rfl (okd rfl rfl) (Tm rfl rfl rfl) fd180_1 sz51 (by decide) sb180_1) rfl ?_
        refine AWl.st rfl (OpT.load rfl rfl (okd rfl rfl) (Tm rfl rfl rfl) ag51 rfl) rfl ?_
        refine AWl.st rfl (OpT.conv rfl rfl (okd rfl rfl) us51 Tryd.underlying2 (Tm rfl rfl rfl) (nw (by omega))) rfl ?_
        refine AWl.st rfl (OpT.move (A := .cel _ _) (.inr rfl) rfl (okd rfl rfl) (Tm rfl rfl rfl) rfl) rfl ?_
        refine AWl.nil ?_
        refine AX.go ?_
        rcases Bool.eq_false_or_eq_true (inb wt.2 0 95) with hd1 | hd1
        ·
          have hd1' := hd1; try simp only [decide_eq_true_eq, decide_eq_false_iff_not, beq_iff_eq, beq_eq_false_iff_ne, bne_iff_ne, bne_eq_false_iff_eq, ne_eq, Bool.not_eq_true', Bool.not_eq_false', Bool.and_eq_true, Bool.or_eq_true, Bool.or_eq_false_iff, Bool.and_eq_false_iff, Bool.not_true, Bool.not_false] at hd1'
          refine AW.dg fomo ?_
          refine DG.fr (d := 131) [] (DS rfl fun ve h => OpT.alias rfl rfl (okd rfl rfl) (by decide) (by decide)) rfl rfl ?_
          refine DG.fr (d := 132) [11] (DS rfl fun ve h => OpT.move (A := .cel _ _) (.inl rfl) rfl (okd rfl rfl) (D h rfl rfl rfl rfl) rfl) rfl rfl ?_
          refine DG.fr (d := 133) [12] (DS rfl fun ve h => OpT.move (A := .cel _ _) (.inl rfl) rfl (okd rfl rfl) (D h rfl rfl rfl rfl) rfl) rfl rfl ?_
          refine DG.fr (d := 134) [133] (DS rfl fun ve h => OpT.c1 (ms := [.flat]) (c_spec_l01Hole _) rfl rfl (okd rfl rfl) (Af (D h rfl rfl rfl rfl) rfl rfl <| An) rfl rfl) rfl rfl ?_
          refine DG.fr (d := 135) [134] (DS rfl fun ve h => OpT.move (A := .cel _ _) (.inl rfl) rfl (okd rfl rfl) (D h rfl rfl rfl rfl) rfl) rfl rfl ?_
          refine DG.fr (d := 136) [1, 135] (DSr rfl rfl rfl rfl rfl hd1 fun ve h => OpT.move (A := .cel _ _) (.inl rfl) rfl (okd rfl rfl) (D h rfl rfl rfl rfl) rfl) rfl rfl ?_
          refine DG.fr (d := 137) [135, 136] (DSr rfl rfl rfl rfl rfl hd1 fun ve h => OpT.nilCheck rfl rfl (okd rfl rfl) (D h rfl rfl rfl rfl)) rfl rfl ?_
          refine DG.fr (d := 138) [135, 137] (DSr rfl rfl rfl rfl rfl hd1 fun ve h => OpT.fieldAddr rfl rfl (okd rfl rfl) (D h rfl rfl rfl rfl) fd71_0 sz68 (by decide) sb71_0) rfl rfl ?_
          refine DG.fr (d := 139) [0, 135] (DSr rfl rfl rfl rfl rfl hd1 fun ve h => OpT.move (A := .cel _ _) (.inl rfl) rfl (okd rfl rfl) (D h rfl rfl rfl rfl) rfl) rfl rfl ?_
          refine DG.fr (d := 140) [11, 135] (DSr rfl rfl rfl rfl rfl hd1 fun ve h => OpT.move (A := .cel _ _) (.inl rfl) rfl (okd rfl rfl) (D h rfl rfl rfl rfl) rfl) rfl rfl ?_
          refine DG.fr (d := 141) [135, 139, 140] (DSr rfl rfl rfl rfl rfl hd1 fun ve h => OpT.indexAddr rfl rfl (okd rfl rfl) (D h rfl rfl rfl rfl) (D h rfl rfl rfl rfl) el38 sz31 (by omega) (by assumption)) rfl rfl ?_
          refine DG.fr (d := 142) [135, 141] (DSr rfl rfl rfl rfl rfl hd1 fun ve h => OpT.fieldAddr rfl rfl (okd rfl rfl) (D h rfl rfl rfl rfl) fd31_1 sz29 (by decide) sb31_1) rfl rfl ?_
          refine DG.fr (d := 143) [135, 142] (DSr rfl rfl rfl rfl rfl hd1 fun ve h => OpT.loadA rfl rfl (okd rfl rfl) (D h rfl rfl rfl rfl) ag29 sz29) rfl rfl ?_
          refine DG.fr (d := 144) [12, 135] (DSr rfl rfl rfl rfl rfl hd1 fun ve h => OpT.move (A := .cel _ _) (.inl rfl) rfl (okd rfl rfl) (D h rfl rfl rfl rfl) rfl) rfl rfl ?_
          refine DG.fr (d := 145) [135, 138, 143, 144] (DSr rfl rfl rfl rfl rfl hd1 fun ve h => OpT.c1 (ms := [.flat, .flat, .flat]) (c_spec_l07Shows _ _ _ (by have := hole_in hd1; omega)) rfl rfl (okd rfl rfl) (Af (D h rfl rfl rfl rfl) rfl rfl <| Af (D h rfl rfl rfl rfl) rfl rfl <| Af (D h rfl rfl rfl rfl) rfl rfl <| An) rfl rfl) rfl rfl ?_
          refine DG.fr (d := 146) [135, 145] (DS rfl fun ve h => OpT.pickT (A := .cel _ _) rfl rfl (okd rfl rfl) (D h rfl rfl rfl rfl) hd1 (D h rfl rfl rfl rfl) rfl) rfl rfl ?_
          refine DG.fr (d := 147) [7, 131, 132] (DS rfl fun ve h => OpT.indexAddrO rfl rfl (okd rfl rfl) (Root.ali ((h _ (List.elem_iff.1 rfl)).trans rfl) (by decide) (by decide)) ((h _ (List.elem_iff.1 rfl)).trans rfl) (by decide) (D h rfl rfl rfl rfl) el177 sz4 (by omega) (by assumption)) rfl rfl ?_
          refine DG.md (t := 7) [7, 146, 147] (DSm rfl fun ve h => OpT.storeO rfl rfl (D h rfl rfl rfl rfl) ((h _ (List.elem_iff.1 rfl)).trans rfl) (by assumption) sz4 rfl (D h rfl rfl rfl rfl)) ?_
          refine DG.nil ⟨by kernel_rfl, by kernel_rfl, ?_⟩
          refine AX.normal_block ?_
          refine AX.pr (Kc 7 (.own _ _ _) rfl <| Kc 147 (.pel _ _ _ _ _ _ _) rfl <| Kc 146 (.cel _ _) rfl <| Kc 145 (.cel _ _) rfl <| Kc 144 (.cel _ _) rfl <| Kc 143 (.agg _ _) rfl <| Kc 142 (.cel _ _) rfl <| Kc 141 (.cel _ _) rfl <| Kc 140 (.cel _ _) rfl <| Kc 139 (.cel _ _) rfl <| Kc 138 (.cel _ _) rfl <| Kc 137 (.cel _ _) rfl <| Kc 136 (.cel _ _) rfl <| Kc 135 (.cel _ _) rfl <| Kc 134 (.cel _ _) rfl <| Kc 133 (.cel _ _) rfl <| Kc 132 (.cel _ _) rfl <| Kc 131 (.ali _) rfl <| Kc 12 (.cel _ _) rfl <| Kc 130 (.cel _ _) rfl <| Kc 129 (.cel _ _) rfl <| Kc 128 (.cel _ _) rfl <| Kc 127 (.cel _ _) rfl <| Kc 126 (.cel _ _) rfl <| Kc 125 (.cel _ _) rfl <| Kc 124 (.cel _ _) rfl <| Kc 123 (.cel _ _) rfl <| Kc 122 (.cel _ _) rfl <| Kc 121 (.pel _ _ _ _ _ _ _) rfl <| Kc 120 (.cel _ _) rfl <| Kc 119 (.cel _ _) rfl <| Kc 118 (.pel _ _ _ _ _ _ _) rfl <| Kc 117 (.cel _ _) rfl <| Kc 116 (.ali _) rfl <| Kc 115 (.cel _ _) rfl <| Kc 99 (.cel _ _) rfl <| Kc 98 (.cel _ _) rfl <| Kc 97 (.cel _ _) rfl <| Kc 96 (.cel _ _) rfl <| Kc 95 (.cel _ _) rfl <| Kc 94 (.cel _ _) rfl <| Kc 11 (.cel _ _) rfl <| Kc 93 (.cel _ _) rfl <| Kc 92 (.cel _ _) rfl <| Kc 91 (.cel _ _) rfl <| Kc 90 (.cel _ _) rfl <| Kc 89 (.cel _ _) rfl <| Kc 88 (.cel _ _) rfl <| Kc 87 (.cel _ _) rfl <| Kc 86 (.cel _ _) rfl <| Kc 83 (.cel _ _) rfl <| Kc 82 (.cel _ _) rfl <| Kc 81 (.cel _ _) rfl <| Kc 80 (.cel _ _) rfl <| Kc 79 (.cel _ _) rfl <| Kc 78 (.cel _ _) rfl <| Kc 77 (.cel _ _) rfl <| Kc 0 (.cel _ _) rfl <| Kc 1 (.cel _ _) rfl <| Kc 5 (.cel _ _) rfl <| Kc 6 (.own _ _ _) rfl <| Kc 10 (.cel _ _) rfl <| Kn) ?_
          refine AX.go ?_
          refine AW.region ?_
          refine AWl.st rfl (OpT.move (A := .cel _ _) (.inl rfl) rfl (okd rfl rfl) (Tm rfl rfl rfl) rfl) rfl ?_
          refine AWl.st rfl (OpT.add rfl rfl (okd rfl rfl) (Tm rfl rfl rfl) (I rfl) (nw (by omega))) rfl ?_
          refine AWl.sg rfl (OpT.move (A := .cel _ _) (.inr rfl) rfl (okd rfl rfl) (Tm rfl rfl rfl) rfl) (Kc 10 (.cel _ _) rfl <| Kc 85 (.cel _ _) rfl <| Kc 84 (.cel _ _) rfl <| Kc 7 (.own _ _ _) rfl <| Kc 147 (.pel _ _ _ _ _ _ _) rfl <| Kc 146 (.cel _ _) rfl <| Kc 145 (.cel _ _) rfl <| Kc 144 (.cel _ _) rfl <| Kc 143 (.agg _ _) rfl <| Kc 142 (.cel _ _) rfl <| Kc 141 (.cel _ _) rfl <| Kc 140 (.cel _ _) rfl <| Kc 139 (.cel _ _) rfl <| Kc 138 (.cel _ _) rfl <| Kc 137 (.cel _ _) rfl <| Kc 136 (.cel _ _) rfl <| Kc 135 (.cel _ _) rfl <| Kc 134 (.cel _ _) rfl <| Kc 133 (.cel _ _) rfl <| Kc 132 (.cel _ _) rfl <| Kc 131 (.ali _) rfl <| Kc 12 (.cel _ _) rfl <| Kc 130 (.cel _ _) rfl <| Kc 129 (.cel _ _) rfl <| Kc 128 (.cel _ _) rfl <| Kc 127 (.cel _ _) rfl <| Kc 126 (.cel _ _) rfl <| Kc 125 (.cel _ _) rfl <| Kc 124 (.cel _ _) rfl <| Kc 123 (.cel _ _) rfl <| Kc 122 (.cel _ _) rfl <| Kc 121 (.pel _ _ _ _ _ _ _) rfl <| Kc 120 (.cel _ _) rfl <| Kc 119 (.cel _ _) rfl <| Kc 118 (.pel _ _ _ _ _ _ _) rfl <| Kc 117 (.cel _ _) rfl <| Kc 116 (.ali _) rfl <| Kc 115 (.cel _ _) rfl <| Kc 99 (.cel _ _) rfl <| Kc 98 (.cel _ _) rfl <| Kc 97 (.cel _ _) rfl <| Kc 96 (.cel _ _) rfl <| Kc 95 (.cel _ _) rfl <| Kc 94 (.cel _ _) rfl <| Kc 11 (.cel _ _) rfl <| Kc 93 (.cel _ _) rfl <| Kc 92 (.cel _ _) rfl <| Kc 91 (.cel _ _) rfl <| Kc 90 (.cel _ _) rfl <| Kc 89 (.cel _ _) rfl <| Kc 88 (.cel _ _) rfl <| Kc 87 (.cel _ _) rfl <| Kc 86 (.cel _ _) rfl <| Kc 83 (.cel _ _) rfl <| Kc 82 (.cel _ _) rfl <| Kc 81 (.cel _ _) rfl <| Kc 80 (.cel _ _) rfl <| Kc 79 (.cel _ _) rfl <| Kc 78 (.cel _ _) rfl <| Kc 77 (.cel _ _) rfl <| Kc 0 (.cel _ _) rfl <| Kc 1 (.cel _ _) rfl <| Kc 5 (.cel _ _) rfl <| Kc 6 (.own _ _ _) rfl <| Kn) ?_
          refine AWl.nil ?_
          exact AX.again (y + 1) ⟨by omega, all_step hI.2 (hio.2 hyes)⟩ (by omega) (Kc 0 _ (Kv rfl rfl) <| Kc 1 _ (Kv rfl rfl) <| Kc 5 _ (Kv rfl rfl) <| Kc 6 _ (Ko rfl (cnt_next (map_next hwt) (by omega) hcv)) <| Kc 7 _ (Ko rfl (by first | exact rtB_next hwt he | exact (rtB_no hwt hd1) | exact (rtB_yes hwt he hd1))) <| Kc 10 _ (Kv rfl (by omega)) <| Kn)
        ·
          have hd1' := hd1; try simp only [decide_eq_true_eq, decide_eq_false_iff_not, beq_iff_eq, beq_eq_false_iff_ne, bne_iff_ne, bne_eq_false_iff_eq, ne_eq, Bool.not_eq_true', Bool.not_eq_false', Bool.and_eq_true, Bool.or_eq_true, Bool.or_eq_false_iff, Bool.and_eq_false_iff, Bool.not_true, Bool.not_false] at hd1'
          refine AW.dg fomo ?_
          refine DG.fr (d := 131) [] (DS rfl fun ve h => OpT.alias rfl rfl (okd rfl rfl) (by decide) (by decide)) rfl rfl ?_
          refine DG.fr (d := 132) [11] (DS rfl fun ve h => OpT.move (A := .cel _ _) (.inl rfl) rfl (okd rfl rfl) (D h rfl rfl rfl rfl) rfl) rfl rfl ?_
          refine DG.fr (d := 133) [12] (DS rfl fun ve h => OpT.move (A := .cel _ _) (.inl rfl) rfl (okd rfl rfl) (D h rfl rfl rfl rfl) rfl) rfl rfl ?_
          refine DG.fr (d := 134) [133] (DS rfl fun ve h => OpT.c1 (ms := [.flat]) (c_spec_l01Hole _) rfl rfl (okd rfl rfl) (Af (D h rfl rfl rfl rfl) rfl rfl <| An) rfl rfl) rfl rfl ?_
          refine DG.fr (d := 135) [134] (DS rfl fun ve h => OpT.move (A := .cel _ _) (.inl rfl) rfl (okd rfl rfl) (D h rfl rfl rfl rfl) rfl) rfl rfl ?_
          refine DG.pas (d := 136) [135] (DSp rfl rfl rfl rfl rfl hd1 rfl (okd rfl rfl)) rfl rfl ?_
          refine DG.pas (d := 137) [135] (DSp rfl rfl rfl rfl rfl hd1 rfl (okd rfl rfl)) rfl rfl ?_
          refine DG.pas (d := 138) [135] (DSp rfl rfl rfl rfl rfl hd1 rfl (okd rfl rfl)) rfl rfl ?_
          refine DG.pas (d := 139) [135] (DSp rfl rfl rfl rfl rfl hd1 rfl (okd rfl rfl)) rfl rfl ?_
          refine DG.pas (d := 140) [135] (DSp rfl rfl rfl rfl rfl hd1 rfl (okd rfl rfl)) rfl rfl ?_
          refine DG.pas (d := 141) [135] (DSp rfl rfl rfl rfl rfl hd1 rfl (okd rfl rfl)) rfl rfl ?_
          refine DG.pas (d := 142) [135] (DSp rfl rfl rfl rfl rfl hd1 rfl (okd rfl rfl)) rfl rfl ?_
          refine DG.pas (d := 143) [135] (DSp rfl rfl rfl rfl rfl hd1 rfl (okd rfl rfl)) rfl rfl ?_
          refine DG.pas (d := 144) [135] (DSp rfl rfl rfl rfl rfl hd1 rfl (okd rfl rfl)) rfl rfl ?_
          refine DG.pas (d := 145) [135] (DSp rfl rfl rfl rfl rfl hd1 rfl (okd rfl rfl)) rfl rfl ?_
          refine DG.fr (d := 146) [135] (DS rfl fun ve h => OpT.pickF (A := .cel _ _) rfl rfl (okd rfl rfl) (D h rfl rfl rfl rfl) hd1 Opd.bool rfl) rfl rfl ?_
          refine DG.fr (d := 147) [7, 131, 132] (DS rfl fun ve h => OpT.indexAddrO rfl rfl (okd rfl rfl) (Root.ali ((h _ (List.elem_iff.1 rfl)).trans rfl) (by decide) (by decide)) ((h _ (List.elem_iff.1 rfl)).trans rfl) (by decide) (D h rfl rfl rfl rfl) el177 sz4 (by omega) (by assumption)) rfl rfl ?_
          refine DG.md (t := 7) [7, 146, 147] (DSm rfl fun ve h => OpT.storeO rfl rfl (D h rfl rfl rfl rfl) ((h _ (List.elem_iff.1 rfl)).trans rfl) (by assumption) sz4 rfl (D h rfl rfl rfl rfl)) ?_
          refine DG.nil ⟨by kernel_rfl, by kernel_rfl, ?_⟩
          refine AX.normal_block ?_
          refine AX.pr (Kc 7 (.own _ _ _) rfl <| Kc 147 (.pel _ _ _ _ _ _ _) rfl <| Kc 146 (.cel _ _) rfl <| Kc 135 (.cel _ _) rfl <| Kc 134 (.cel _ _) rfl <| Kc 133 (.cel _ _) rfl <| Kc 132 (.cel _ _) rfl <| Kc 131 (.ali _) rfl <| Kc 12 (.cel _ _) rfl <| Kc 130 (.cel _ _) rfl <| Kc 129 (.cel _ _) rfl <| Kc 128 (.cel _ _) rfl <| Kc 127 (.cel _ _) rfl <| Kc 126 (.cel _ _) rfl <| Kc 125 (.cel _ _) rfl <| Kc 124 (.cel _ _) rfl <| Kc 123 (.cel _ _) rfl <| Kc 122 (.cel _ _) rfl <| Kc 121 (.pel _ _ _ _ _ _ _) rfl <| Kc 120 (.cel _ _) rfl <| Kc 119 (.cel _ _) rfl <| Kc 118 (.pel _ _ _ _ _ _ _) rfl <| Kc 117 (.cel _ _) rfl <| Kc 116 (.ali _) rfl <| Kc 115 (.cel _ _) rfl <| Kc 99 (.cel _ _) rfl <| Kc 98 (.cel _ _) rfl <| Kc 97 (.cel _ _) rfl <| Kc 96 (.cel _ _) rfl <| Kc 95 (.cel _ _) rfl <| Kc 94 (.cel _ _) rfl <| Kc 11 (.cel _ _) rfl <| Kc 93 (.cel _ _) rfl <| Kc 92 (.cel _ _) rfl <| Kc 91 (.cel _ _) rfl <| Kc 90 (.cel _ _) rfl <| Kc 89 (.cel _ _) rfl <| Kc 88 (.cel _ _) rfl <| Kc 87 (.cel _ _) rfl <| Kc 86 (.cel _ _) rfl <| Kc 83 (.cel _ _) rfl <| Kc 82 (.cel _ _) rfl <| Kc 81 (.cel _ _) rfl <| Kc 80 (.cel _ _) rfl <| Kc 79 (.cel _ _) rfl <| Kc 78 (.cel _ _) rfl <| Kc 77 (.cel _ _) rfl <| Kc 0 (.cel _ _) rfl <| Kc 1 (.cel _ _) rfl <| Kc 5 (.cel _ _) rfl <| Kc 6 (.own _ _ _) rfl <| Kc 10 (.cel _ _) rfl <| Kn) ?_
          refine AX.go ?_
          refine AW.region ?_
          refine AWl.st rfl (OpT.move (A := .cel _ _) (.inl rfl) rfl (okd rfl rfl) (Tm rfl rfl rfl) rfl) rfl ?_
          refine AWl.st rfl (OpT.add rfl rfl (okd rfl rfl) (Tm rfl rfl rfl) (I rfl) (nw (by omega))) rfl ?_
          refine AWl.sg rfl (OpT.move (A := .cel _ _) (.inr rfl) rfl (okd rfl rfl) (Tm rfl rfl rfl) rfl) (Kc 10 (.cel _ _) rfl <| Kc 85 (.cel _ _) rfl <| Kc 84 (.cel _ _) rfl <| Kc 7 (.own _ _ _) rfl <| Kc 147 (.pel _ _ _ _ _ _ _) rfl <| Kc 146 (.cel _ _) rfl <| Kc 135 (.cel _ _) rfl <| Kc 134 (.cel _ _) rfl <| Kc 133 (.cel _ _) rfl <| Kc 132 (.cel _ _) rfl <| Kc 131 (.ali _) rfl <| Kc 12 (.cel _ _) rfl <| Kc 130 (.cel _ _) rfl <| Kc 129 (.cel _ _) rfl <| Kc 128 (.cel _ _) rfl <| Kc 127 (.cel _ _) rfl <| Kc 126 (.cel _ _) rfl <| Kc 125 (.cel _ _) rfl <| Kc 124 (.cel _ _) rfl <| Kc 123 (.cel _ _) rfl <| Kc 122 (.cel _ _) rfl <| Kc 121 (.pel _ _ _ _ _ _ _) rfl <| Kc 120 (.cel _ _) rfl <| Kc 119 (.cel _ _) rfl <| Kc 118 (.pel _ _ _ _ _ _ _) rfl <| Kc 117 (.cel _ _) rfl <| Kc 116 (.ali _) rfl <| Kc 115 (.cel _ _) rfl <| Kc 99 (.cel _ _) rfl <| Kc 98 (.cel _ _) rfl <| Kc 97 (.cel _ _) rfl <| Kc 96 (.cel _ _) rfl <| Kc 95 (.cel _ _) rfl <| Kc 94 (.cel _ _) rfl <| Kc 11 (.cel _ _) rfl <| Kc 93 (.cel _ _) rfl <| Kc 92 (.cel _ _) rfl <| Kc 91 (.cel _ _) rfl <| Kc 90 (.cel _ _) rfl <| Kc 89 (.cel _ _) rfl <| Kc 88 (.cel _ _) rfl <| Kc 87 (.cel _ _) rfl <| Kc 86 (.cel _ _) rfl <| Kc 83 (.cel _ _) rfl <| Kc 82 (.cel _ _) rfl <| Kc 81 (.cel _ _) rfl <| Kc 80 (.cel _ _) rfl <| Kc 79 (.cel _ _) rfl <| Kc 78 (.cel _ _) rfl <| Kc 77 (.cel _ _) rfl <| Kc 0 (.cel _ _) rfl <| Kc 1 (.cel _ _) rfl <| Kc 5 (.cel _ _) rfl <| Kc 6 (.own _ _ _) rfl <| Kn) ?_
          refine AWl.nil ?_
          exact AX.again (y + 1) ⟨by omega, all_step hI.2 (hio.2 hyes)⟩ (by omega) (Kc 0 _ (Kv rfl rfl) <| Kc 1 _ (Kv rfl rfl) <| Kc 5 _ (Kv rfl rfl) <| Kc 6 _ (Ko rfl (cnt_next (map_next hwt) (by omega) hcv)) <| Kc 7 _ (Ko rfl (by first | exact rtB_next hwt he | exact (rtB_no hwt hd1) | exact (rtB_yes hwt he hd1))) <| Kc 10 _ (Kv rfl (by omega)) <| Kn)
    ·
      try simp only [decide_eq_true_eq, decide_eq_false_iff_not, Bool.not_eq_true', Bool.not_eq_false'] at hc3
      have hc3' := hc3; try simp only [decide_eq_true_eq, decide_eq_false_iff_not, beq_iff_eq, beq_eq_false_iff_ne, bne_iff_ne, bne_eq_false_iff_eq, ne_eq, Bool.not_eq_true', Bool.not_eq_false', Bool.and_eq_true, Bool.or_eq_true, Bool.or_eq_false_iff, Bool.and_eq_false_iff, Bool.not_true, Bool.not_false] at hc3'
      refine AW.exit ?_
      refine AX.exit_then ?_
      refine AX.exit_then ?_
      refine AX.exit_hit ?_
      refine AX.pr (Kc 5 (.cel _ _) rfl <| Kc 6 (.own _ _ _) rfl <| Kc 7 (.own _ _ _) rfl <| Kn) ?_
      refine AX.go ?_
      refine AW.seq ?_
      refine AW.seq ?_
      refine AW.region ?_
      refine AWl.st rfl (OpT.move (A := .cel _ _) (.inr rfl) rfl (okd rfl rfl) (I rfl) rfl) rfl ?_
      refine AWl.nil ?_
      refine AX.go ?_
      refine AW.block ?_
      obtain rfl : y = v.2.2.length := by omega
      have hI1 := hI
      refine AW.loop (fun u : Nat => u ≤ x.length ∧ ∀ i, i < u → onceI x v i) (fun u : Nat => keep [(5, .cel (Kd.int .i64) (x.length : Int)), (6, .own 3 (Kd.int .i64) (tmS x v.2.1 v.2.2)), (7, .own 4 Kd.bool (rtB v.1 x v.2.1 v.2.2)), (13, .cel (Kd.int .i64) (u : Int))]) (fun u : Nat => x.length - u) (0) ⟨Nat.zero_le _, all_none⟩ (Kc 5 _ (Kv rfl rfl) <| Kc 6 _ (Ko rfl (by rw [List.take_of_length_le (by rw [List.length_map]; exact Nat.le_refl _)]; rfl)) <| Kc 7 _ (Ko rfl (by rw [List.take_length])) <| Kc 13 _ (Kv rfl rfl) <| Kn) ?_
      intro u hI
      refine AW.seq ?_
      refine AW.seq ?_
      refine AW.region ?_
      refine AWl.st rfl (OpT.move (A := .cel _ _) (.inl rfl) rfl (okd rfl rfl) (Tm rfl rfl rfl) rfl) rfl ?_
      refine AWl.st rfl (OpT.move (A := .cel _ _) (.inl rfl) rfl (okd rfl rfl) (Tm rfl rfl rfl) rfl) rfl ?_
      refine AWl.st rfl (OpT.lss rfl rfl (okd rfl rfl) (Tm rfl rfl rfl) (Tm rfl rfl rfl)) rfl ?_
      refine AWl.nil ?_
      refine AX.go ?_
      refine AW.cond (t := 150) rfl (by decide) (fun hc5 => ?_) (fun hc5 => ?_)
      ·
        try simp only [decide_eq_true_eq, decide_eq_false_iff_not, Bool.not_eq_true', Bool.not_eq_false'] at hc5
        have hc5' := hc5; try simp only [decide_eq_true_eq, decide_eq_false_iff_not, beq_iff_eq, beq_eq_false_iff_ne, bne_iff_ne, bne_eq_false_iff_eq, ne_eq, Bool.not_eq_true', Bool.not_eq_false', Bool.and_eq_true, Bool.or_eq_true, Bool.or_eq_false_iff, Bool.and_eq_false_iff, Bool.not_true, Bool.not_false] at hc5'
        obtain ⟨t, ht⟩ := get_of_len (r := tmS x v.2.1 v.2.2) (by (unfold tmS; rw [cntL_len])) (c := (u : Int)) (by omega)
        obtain ⟨r, hr⟩ := get_of_len (rtB_len v.1 x v.2.1 v.2.2) (c := (u : Int)) (by omega)
        have hob := once_bool ht hr
        refine AW.skip ?_
        refine AX.go ?_
        refine AW.seq ?_
        refine AW.block ?_
        refine AW.seq ?_
        refine AW.region ?_
        refine AWl.st rfl (OpT.alias rfl rfl (okd rfl rfl) (by decide) (by decide)) rfl ?_
        refine AWl.st rfl (OpT.move (A := .cel _ _) (.inl rfl) rfl (okd rfl rfl) (Tm rfl rfl rfl) rfl) rfl ?_
        refine AWl.st rfl (OpT.indexAddrO rfl rfl (okd rfl rfl) (Root.ali rfl (by decide) (by decide)) rfl (by decide) (Tm rfl rfl rfl) el176 sz3 (by omega) (by assumption)) rfl ?_
        refine AWl.st rfl (OpT.loadP rfl rfl (okd rfl rfl) (Tm rfl rfl rfl) (.inr ⟨_, _, rfl, (by assumption)⟩) ag3 rfl) rfl ?_
        refine AWl.st rfl (OpT.neq rfl rfl (okd rfl rfl) (Tm rfl rfl rfl) (I rfl)) rfl ?_
        refine AWl.st rfl (OpT.move (A := .cel _ _) (.inl rfl) rfl (okd rfl rfl) (Tm rfl rfl rfl) rfl) rfl ?_
        apply AWl.or (d := 164) (t := 158) rfl
        · intro hb5 Q1 k1
          have hb5' := hb5; try simp only [decide_eq_true_eq, decide_eq_false_iff_not, beq_iff_eq, beq_eq_false_iff_ne, bne_iff_ne, bne_eq_false_iff_eq, ne_eq, Bool.not_eq_true', Bool.not_eq_false', Bool.and_eq_true, Bool.or_eq_true, Bool.or_eq_false_iff, Bool.and_eq_false_iff, Bool.not_true, Bool.not_false] at hb5'
          refine AWl.rs rfl rfl rfl rfl hb5 (OpT.alias rfl rfl (okd rfl rfl) (by decide) (by decide)) rfl ?_
          refine AWl.rs rfl rfl rfl rfl hb5 (OpT.move (A := .cel _ _) (.inl rfl) rfl (okd rfl rfl) (Tm rfl rfl rfl) rfl) rfl ?_
          refine AWl.rs rfl rfl rfl rfl hb5 (OpT.indexAddrO rfl rfl (okd rfl rfl) (Root.ali rfl (by decide) (by decide)) rfl (by decide) (Tm rfl rfl rfl) el177 sz4 (by omega) (by assumption)) rfl ?_
          refine AWl.rs rfl rfl rfl rfl hb5 (OpT.loadP rfl rfl (okd rfl rfl) (Tm rfl rfl rfl) (.inr ⟨_, _, rfl, (by assumption)⟩) ag4 rfl) rfl ?_
          refine AWl.rs rfl rfl rfl rfl hb5 (OpT.not rfl rfl (okd rfl rfl) (Tm rfl rfl rfl)) rfl ?_
          refine AWl.st rfl (OpT.pickF (A := .cel _ _) rfl rfl (okd rfl rfl) (Tm rfl rfl rfl) hb5 (Tm rfl rfl rfl) rfl) rfl ?_
          exact AWl.to (junk 5 rfl) k1
        · intro hb5 Q1 k1
          refine AWl.pas rfl rfl rfl rfl hb5 rfl (okd rfl rfl) rfl ?_
          refine AWl.pas rfl rfl rfl rfl hb5 rfl (okd rfl rfl) rfl ?_
          refine AWl.pas rfl rfl rfl rfl hb5 rfl (okd rfl rfl) rfl ?_
          refine AWl.pas rfl rfl rfl rfl hb5 rfl (okd rfl rfl) rfl ?_
          refine AWl.pas rfl rfl rfl rfl hb5 rfl (okd rfl rfl) rfl ?_
          refine AWl.st rfl (OpT.pickT (A := .cel _ _) rfl rfl (okd rfl rfl) (Tm rfl rfl rfl) hb5 Opd.bool rfl) rfl ?_
          exact k1
        refine AWl.nil ?_
        refine AX.go ?_
        refine AW.cond (t := 164) rfl (by decide) (fun hc6 => ?_) (fun hc6 => ?_)
        ·
          try simp only [decide_eq_true_eq, decide_eq_false_iff_not, Bool.not_eq_true', Bool.not_eq_false'] at hc6
          have hc6' := hc6; try simp only [decide_eq_true_eq, decide_eq_false_iff_not, beq_iff_eq, beq_eq_false_iff_ne, bne_iff_ne, bne_eq_false_iff_eq, ne_eq, Bool.not_eq_true', Bool.not_eq_false', Bool.and_eq_true, Bool.or_eq_true, Bool.or_eq_false_iff, Bool.and_eq_false_iff, Bool.not_true, Bool.not_false] at hc6'
          refine AW.seq ?_
          refine AW.region ?_
          refine AWl.st rfl (OpT.move (A := .cel _ _) (.inl rfl) rfl (okd rfl rfl) (Tm rfl rfl rfl) rfl) rfl ?_
          refine AWl.st rfl (OpT.move (A := .cel _ _) (.inr rfl) rfl (okd rfl rfl) (Tm rfl rfl rfl) rfl) rfl ?_
          refine AWl.nil ?_
          refine AX.go ?_
          refine AW.ret ?_
          refine AX.ret_block ?_
          refine AX.ret_then ?_
          refine AX.ret_then ?_
          refine AX.ret_block ?_
          refine AX.ret_then ?_
          exact AX.rt (rs := [.tmp 4]) (ts := [some 4]) (.inl rfl) rfl (ROs.cons (RO.tmp (At.self (by decide)) (Kv rfl (by first | exact flt_no1 (z := z) (by omega) (fun h => hno (hio.1 h)) | exact flt_no2 (z := y) (by omega) (fun h => hno (hio.1 h)) | exact flt_at hI0.2 hI1.2 hI.2 (by omega) (fun h => Bool.false_ne_true ((hob.1 h).symm.trans hc6)) | exact flt_end hI0.2 hI1.2 hI.2 (by omega))) rfl) <| ROs.nil) (by decide) OutsOK.nil
        ·
          try simp only [decide_eq_true_eq, decide_eq_false_iff_not, Bool.not_eq_true', Bool.not_eq_false'] at hc6
          have hc6' := hc6; try simp only [decide_eq_true_eq, decide_eq_false_iff_not, beq_iff_eq, beq_eq_false_iff_ne, bne_iff_ne, bne_eq_false_iff_eq, ne_eq, Bool.not_eq_true', Bool.not_eq_false', Bool.and_eq_true, Bool.or_eq_true, Bool.or_eq_false_iff, Bool.and_eq_false_iff, Bool.not_true, Bool.not_false] at hc6'
          refine AW.skip ?_
          refine AX.normal_block ?_
          refine AX.go ?_
          refine AW.region ?_
          refine AWl.st rfl (OpT.move (A := .cel _ _) (.inl rfl) rfl (okd rfl rfl) (Tm rfl rfl rfl) rfl) rfl ?_
          refine AWl.st rfl (OpT.add rfl rfl (okd rfl rfl) (Tm rfl rfl rfl) (I rfl) (nw (by omega))) rfl ?_
          refine AWl.sg rfl (OpT.move (A := .cel _ _) (.inr rfl) rfl (okd rfl rfl) (Tm rfl rfl rfl) rfl) (Kc 13 (.cel _ _) rfl <| Kc 152 (.cel _ _) rfl <| Kc 151 (.cel _ _) rfl <| Kc 164 (.cel _ _) rfl <| Kc 158 (.cel _ _) rfl <| Kc 157 (.cel _ _) rfl <| Kc 156 (.cel _ _) rfl <| Kc 155 (.pel _ _ _ _ _ _ _) rfl <| Kc 154 (.cel _ _) rfl <| Kc 153 (.ali _) rfl <| Kc 150 (.cel _ _) rfl <| Kc 149 (.cel _ _) rfl <| Kc 148 (.cel _ _) rfl <| Kc 5 (.cel _ _) rfl <| Kc 6 (.own _ _ _) rfl <| Kc 7 (.own _ _ _) rfl <| Kn) ?_
          refine AWl.nil ?_
          exact AX.again (u + 1) ⟨by omega, all_step hI.2 (hob.2 hc6)⟩ (by omega) (Kc 5 _ (Kv rfl rfl) <| Kc 6 _ (Ko rfl rfl) <| Kc 7 _ (Ko rfl rfl) <| Kc 13 _ (Kv rfl (by omega)) <| Kn)
      ·
        try simp only [decide_eq_true_eq, decide_eq_false_iff_not, Bool.not_eq_true', Bool.not_eq_false'] at hc5
        have hc5' := hc5; try simp only [decide_eq_true_eq, decide_eq_false_iff_not, beq_iff_eq, beq_eq_false_iff_ne, bne_iff_ne, bne_eq_false_iff_eq, ne_eq, Bool.not_eq_true', Bool.not_eq_false', Bool.and_eq_true, Bool.or_eq_true, Bool.or_eq_false_iff, Bool.and_eq_false_iff, Bool.not_true, Bool.not_false] at hc5'
        refine AW.exit ?_
        refine AX.exit_then ?_
        refine AX.exit_then ?_
        refine AX.exit_hit ?_
        refine AX.pr (Kn) ?_
        refine AX.go ?_
        refine AW.seq ?_
        refine AW.region ?_
        refine AWl.st rfl (OpT.move (A := .cel _ _) (.inr rfl) rfl (okd rfl rfl) (I rfl) rfl) rfl ?_
        refine AWl.nil ?_
        refine AX.go ?_
        refine AW.ret ?_
        exact AX.rt (rs := [.tmp 4]) (ts := [some 4]) (.inl rfl) rfl (ROs.cons (RO.tmp (At.self (by decide)) (Kv rfl (by first | exact flt_no1 (z := z) (by omega) (fun h => hno (hio.1 h)) | exact flt_no2 (z := y) (by omega) (fun h => hno (hio.1 h)) | exact flt_at hI0.2 hI1.2 hI.2 (by omega) (fun h => Bool.false_ne_true ((hob.1 h).symm.trans hc6)) | exact flt_end hI0.2 hI1.2 hI.2 (by omega))) rfl) <| ROs.nil) (by decide) OutsOK.nil

set_option maxHeartbeats 4000000 in
/-- impl.firstFault -/
theorem c_impl_firstFault (x : List DCard) (v : DAns') (hx : x.length ≤ 80) (hn : v.2.1.length ≤ 1048576 ∧ v.2.2.length ≤ 1048576) : AC Tryd.prog 95 [.cel (Kd.slice kCard) x, .agg kAns v] [.cel (Kd.int .i64) (faultI x v).1, .cel Kd.bool (faultI x v).2] [] := by
  refine ⟨ACall.intro (N := 150) Tryd.func95 (c := _) (rfl : Func.body _ = some _) rfl (Nat.le_of_ble_eq_true rfl) (Nat.le_of_ble_eq_true rfl) rfl (Nat.le_of_ble_eq_true rfl) fun w0 hd s0 ar har => ?_, _, Tryd.func95, rfl, by decide⟩
  refine AW.to (Kc 0 (.cel _ _) rfl <| Kc 1 (.agg _ _) rfl <| Kn) ?_
  refine AW.fact (fun a w hr => (ok_slice (R_ok (t := 0) rfl hr)).2) (fun hl0 => ?_)
  refine AW.fact (fun a w hr => (ok_slice (ok_pair (ok_pair (R_okA (t := 1) rfl hr)).2).2).1) (fun hw => ?_)
  refine AW.seq ?_
  refine AW.region ?_
  refine AWl.st rfl (OpT.frz (OpT.boxA (E := 71) rfl rfl (okd rfl rfl) (Tm rfl rfl rfl))) rfl ?_
  refine AWl.st rfl (OpT.move (A := .cel _ _) (.inr rfl) rfl (okd rfl rfl) (I rfl) rfl) rfl ?_
  refine AWl.st rfl (OpT.move (A := .cel _ _) (.inr rfl) rfl (okd rfl rfl) Opd.bool rfl) rfl ?_
  refine AWl.nil ?_
  refine AX.pr (Kc 5 (.cel _ _) rfl <| Kc 4 (.cel _ _) rfl <| Kc 3 (.cel _ _) rfl <| Kc 0 (.cel _ _) rfl <| Kn) ?_
  refine AX.go ?_
  refine AW.seq ?_
  refine AW.region ?_
  refine AWl.st rfl (OpT.move (A := .cel _ _) (.inl rfl) rfl (okd rfl rfl) (Tm rfl rfl rfl) rfl) rfl ?_
  refine AWl.st rfl (OpT.len rfl rfl (okd rfl rfl) (Tm rfl rfl rfl) el38) rfl ?_
  refine AWl.st rfl (OpT.make rfl rfl (okd rfl rfl) (Tm rfl rfl rfl) (Tm rfl rfl rfl) el176 zr3 sz3 by3 (by decide) zk3 (by omega) (by omega)) rfl ?_
  refine AWl.sg rfl (OpT.take (.inl rfl) rfl (okd rfl rfl) (Root.self (by decide)) rfl rfl (by decide)) (Kc 6 (.own _ _ _) rfl <| Kc 14 (.cel _ _) rfl <| Kc 13 (.cel _ _) rfl <| Kc 5 (.cel _ _) rfl <| Kc 4 (.cel _ _) rfl <| Kc 3 (.cel _ _) rfl <| Kc 0 (.cel _ _) rfl <| Kn) ?_
  refine AWl.nil ?_
  refine AX.pr (Kc 6 (.own _ _ _) rfl <| Kc 5 (.cel _ _) rfl <| Kc 4 (.cel _ _) rfl <| Kc 3 (.cel _ _) rfl <| Kc 0 (.cel _ _) rfl <| Kn) ?_
  refine AX.go ?_
  refine AW.seq ?_
  refine AW.region ?_
  refine AWl.st rfl (OpT.move (A := .cel _ _) (.inl rfl) rfl (okd rfl rfl) (Tm rfl rfl rfl) rfl) rfl ?_
  refine AWl.st rfl (OpT.len rfl rfl (okd rfl rfl) (Tm rfl rfl rfl) el38) rfl ?_
  refine AWl.st rfl (OpT.make rfl rfl (okd rfl rfl) (Tm rfl rfl rfl) (Tm rfl rfl rfl) el177 zr4 sz4 by4 (by decide) zk4 (by omega) (by omega)) rfl ?_
  refine AWl.sg rfl (OpT.take (.inl rfl) rfl (okd rfl rfl) (Root.self (by decide)) rfl rfl (by decide)) (Kc 7 (.own _ _ _) rfl <| Kc 17 (.cel _ _) rfl <| Kc 16 (.cel _ _) rfl <| Kc 6 (.own _ _ _) rfl <| Kc 5 (.cel _ _) rfl <| Kc 4 (.cel _ _) rfl <| Kc 3 (.cel _ _) rfl <| Kc 0 (.cel _ _) rfl <| Kn) ?_
  refine AWl.nil ?_
  refine AX.pr (Kc 7 (.own _ _ _) rfl <| Kc 6 (.own _ _ _) rfl <| Kc 5 (.cel _ _) rfl <| Kc 4 (.cel _ _) rfl <| Kc 3 (.cel _ _) rfl <| Kc 0 (.cel _ _) rfl <| Kn) ?_
  refine AX.go ?_
  refine AW.seq ?_
  refine AW.seq ?_
  refine AW.region ?_
  refine AWl.st rfl (OpT.fieldAddr rfl rfl (okd rfl rfl) (Tm rfl rfl rfl) fd71_1 sz61 (by decide) sb71_1) rfl ?_
  refine AWl.st rfl (OpT.load rfl rfl (okd rfl rfl) (Tm rfl rfl rfl) ag61 rfl) rfl ?_
  refine AWl.st rfl (OpT.len rfl rfl (okd rfl rfl) (Tm rfl rfl rfl) el61) rfl ?_
  refine AWl.st rfl (OpT.move (A := .cel _ _) (.inl rfl) rfl (okd rfl rfl) (I rfl) rfl) rfl ?_
  refine AWl.nil ?_
  refine AX.pr (Kc 22 (.cel _ _) rfl <| Kc 21 (.cel _ _) rfl <| Kc 20 (.cel _ _) rfl <| Kc 7 (.own _ _ _) rfl <| Kc 6 (.own _ _ _) rfl <| Kc 5 (.cel _ _) rfl <| Kc 4 (.cel _ _) rfl <| Kc 3 (.cel _ _) rfl <| Kc 0 (.cel _ _) rfl <| Kn) ?_
  refine AX.go ?_
  refine AW.block ?_
  refine AW.loop (fun z : Nat => z ≤ v.2.1.length ∧ ∀ i, i < z → ordF (fun c => c) x.length v.2.1 i) (fun z : Nat => keep [(0, .cel (Kd.slice kCard) x), (3, .cel (Kd.ptr kAns) v), (6, .own 3 (Kd.int .i64) (cntL 0 x.length (v.2.1.take z))), (7, .own 4 Kd.bool (rtA v.1 x (v.2.1.take z))), (20, .cel (Kd.slice (Kd.int .i64)) v.2.1), (21, .cel (Kd.int .i64) (v.2.1.length : Int)), (22, .cel (Kd.int .i64) (z : Int))]) (fun z : Nat => v.2.1.length - z) (0) ⟨Nat.zero_le _, all_none⟩ (Kc 0 _ (Kv rfl rfl) <| Kc 3 _ (Kv rfl rfl) <| Kc 6 _ (Ko rfl cntL_nil) <| Kc 7 _ (Ko rfl rfl) <| Kc 20 _ (Kv rfl rfl) <| Kc 21 _ (Kv rfl rfl) <| Kc 22 _ (Kv rfl rfl) <| Kn) ?_
  intro z hI
  refine AW.seq ?_
  refine AW.region ?_
  refine AWl.st rfl (OpT.lss rfl rfl (okd rfl rfl) (Tm rfl rfl rfl) (Tm rfl rfl rfl)) rfl ?_
  refine AWl.nil ?_
  refine AX.go ?_
  refine AW.seq ?_
  refine AW.cond (t := 23) rfl (by decide) (fun hc1 => ?_) (fun hc1 => ?_)
  ·
    try simp only [decide_eq_true_eq, decide_eq_false_iff_not, Bool.not_eq_true', Bool.not_eq_false'] at hc1
    have hc1' := hc1; try simp only [decide_eq_true_eq, decide_eq_false_iff_not, beq_iff_eq, beq_eq_false_iff_ne, bne_iff_ne, bne_eq_false_iff_eq, ne_eq, Bool.not_eq_true', Bool.not_eq_false', Bool.and_eq_true, Bool.or_eq_true, Bool.or_eq_false_iff, Bool.and_eq_false_iff, Bool.not_true, Bool.not_false] at hc1'
    obtain ⟨a, ha⟩ := getI (x := v.2.1) (z := z) (by omega)
    obtain ⟨vp, hvp⟩ := getPr (x := v.2.1) (z := z) hI.1
    have hio := ordF_iff (f := fun c => c) (n := x.length) ha hvp
    refine AW.skip ?_
    refine AX.go ?_
    refine AW.seq ?_
    refine AW.block ?_
    refine AW.seq ?_
    refine AW.region ?_
    refine AWl.st rfl (OpT.move (A := .cel _ _) (.inl rfl) rfl (okd rfl rfl) (Tm rfl rfl rfl) rfl) rfl ?_
    refine AWl.st rfl (OpT.indexAddr rfl rfl (okd rfl rfl) (Tm rfl rfl rfl) (Tm rfl rfl rfl) el61 sz2 (by omega) (by assumption)) rfl ?_
    refine AWl.st rfl (OpT.load rfl rfl (okd rfl rfl) (Tm rfl rfl rfl) ag2 rfl) rfl ?_
    refine AWl.st rfl (OpT.move (A := .cel _ _) (.inr rfl) rfl (okd rfl rfl) (Tm rfl rfl rfl) rfl) rfl ?_
    refine AWl.st rfl (OpT.move (A := .cel _ _) (.inr rfl) rfl (okd rfl rfl) (Tm rfl rfl rfl) rfl) rfl ?_
    refine AWl.nil ?_
    refine AX.go ?_
    refine AW.seq ?_
    refine AW.seq ?_
    refine AW.region ?_
    refine AWl.st rfl (OpT.move (A := .cel _ _) (.inl rfl) rfl (okd rfl rfl) (Tm rfl rfl rfl) rfl) rfl ?_
    refine AWl.st rfl (OpT.lss rfl rfl (okd rfl rfl) (Tm rfl rfl rfl) (I rfl)) rfl ?_
    refine AWl.st rfl (OpT.move (A := .cel _ _) (.inl rfl) rfl (okd rfl rfl) (Tm rfl rfl rfl) rfl) rfl ?_
    apply AWl.or (d := 34) (t := 29) rfl
    · intro hb1 Q1 k1
      have hb1' := hb1; try simp only [decide_eq_true_eq, decide_eq_false_iff_not, beq_iff_eq, beq_eq_false_iff_ne, bne_iff_ne, bne_eq_false_iff_eq, ne_eq, Bool.not_eq_true', Bool.not_eq_false', Bool.and_eq_true, Bool.or_eq_true, Bool.or_eq_false_iff, Bool.and_eq_false_iff, Bool.not_true, Bool.not_false] at hb1'
      refine AWl.rs rfl rfl rfl rfl hb1 (OpT.move (A := .cel _ _) (.inl rfl) rfl (okd rfl rfl) (Tm rfl rfl rfl) rfl) rfl ?_
      refine AWl.rs rfl rfl rfl rfl hb1 (OpT.move (A := .cel _ _) (.inl rfl) rfl (okd rfl rfl) (Tm rfl rfl rfl) rfl) rfl ?_
      refine AWl.rs rfl rfl rfl rfl hb1 (OpT.len rfl rfl (okd rfl rfl) (Tm rfl rfl rfl) el38) rfl ?_
      refine AWl.rs rfl rfl rfl rfl hb1 (OpT.geq rfl rfl (okd rfl rfl) (Tm rfl rfl rfl) (Tm rfl rfl rfl)) rfl ?_
      refine AWl.st rfl (OpT.pickF (A := .cel _ _) rfl rfl (okd rfl rfl) (Tm rfl rfl rfl) hb1 (Tm rfl rfl rfl) rfl) rfl ?_
      exact AWl.to (junk 4 rfl) k1
    · intro hb1 Q1 k1
      refine AWl.pas rfl rfl rfl rfl hb1 rfl (okd rfl rfl) rfl ?_
      refine AWl.pas rfl rfl rfl rfl hb1 rfl (okd rfl rfl) rfl ?_
      refine AWl.pas rfl rfl rfl rfl hb1 rfl (okd rfl rfl) rfl ?_
      refine AWl.pas rfl rfl rfl rfl hb1 rfl (okd rfl rfl) rfl ?_
      refine AWl.st rfl (OpT.pickT (A := .cel _ _) rfl rfl (okd rfl rfl) (Tm rfl rfl rfl) hb1 Opd.bool rfl) rfl ?_
      exact k1
    refine AWl.st rfl (OpT.move (A := .cel _ _) (.inl rfl) rfl (okd rfl rfl) (Tm rfl rfl rfl) rfl) rfl ?_
    apply AWl.or (d := 48) (t := 35) rfl
    · intro hb2 Q1 k1
      have hb2' := hb2; try simp only [decide_eq_true_eq, decide_eq_false_iff_not, beq_iff_eq, beq_eq_false_iff_ne, bne_iff_ne, bne_eq_false_iff_eq, ne_eq, Bool.not_eq_true', Bool.not_eq_false', Bool.and_eq_true, Bool.or_eq_true, Bool.or_eq_false_iff, Bool.and_eq_false_iff, Bool.not_true, Bool.not_false] at hb2'
      refine AWl.rs rfl rfl rfl rfl hb2 (OpT.move (A := .cel _ _) (.inl rfl) rfl (okd rfl rfl) (Tm rfl rfl rfl) rfl) rfl ?_
      refine AWl.rs rfl rfl rfl rfl hb2 (OpT.gtr rfl rfl (okd rfl rfl) (Tm rfl rfl rfl) (I rfl)) rfl ?_
      refine AWl.rs rfl rfl rfl rfl hb2 (OpT.move (A := .cel _ _) (.inl rfl) rfl (okd rfl rfl) (Tm rfl rfl rfl) rfl) rfl ?_
      apply AWl.and (d := 47) (t := 38) rfl
      · intro hb3 Q1 k1
        have hb3' := hb3; try simp only [decide_eq_true_eq, decide_eq_false_iff_not, beq_iff_eq, beq_eq_false_iff_ne, bne_iff_ne, bne_eq_false_iff_eq, ne_eq, Bool.not_eq_true', Bool.not_eq_false', Bool.and_eq_true, Bool.or_eq_true, Bool.or_eq_false_iff, Bool.and_eq_false_iff, Bool.not_true, Bool.not_false] at hb3'
        have hvp1 := hvp (by omega)
        refine AWl.rs rfl rfl rfl rfl hb3 (OpT.fieldAddr rfl rfl (okd rfl rfl) (Tm rfl rfl rfl) fd71_1 sz61 (by decide) sb71_1) rfl ?_
        refine AWl.rs rfl rfl rfl rfl hb3 (OpT.load rfl rfl (okd rfl rfl) (Tm rfl rfl rfl) ag61 rfl) rfl ?_
        refine AWl.rs rfl rfl rfl rfl hb3 (OpT.move (A := .cel _ _) (.inl rfl) rfl (okd rfl rfl) (Tm rfl rfl rfl) rfl) rfl ?_
        refine AWl.rs rfl rfl rfl rfl hb3 (OpT.sub rfl rfl (okd rfl rfl) (Tm rfl rfl rfl) (I rfl) (nw (by omega))) rfl ?_
        refine AWl.rs rfl rfl rfl rfl hb3 (OpT.indexAddr rfl rfl (okd rfl rfl) (Tm rfl rfl rfl) (Tm rfl rfl rfl) el61 sz2 (by omega) (by assumption)) rfl ?_
        refine AWl.rs rfl rfl rfl rfl hb3 (OpT.load rfl rfl (okd rfl rfl) (Tm rfl rfl rfl) ag2 rfl) rfl ?_
        refine AWl.rs rfl rfl rfl rfl hb3 (OpT.move (A := .cel _ _) (.inl rfl) rfl (okd rfl rfl) (Tm rfl rfl rfl) rfl) rfl ?_
        refine AWl.rs rfl rfl rfl rfl hb3 (OpT.geq rfl rfl (okd rfl rfl) (Tm rfl rfl rfl) (Tm rfl rfl rfl)) rfl ?_
        refine AWl.rs rfl rfl rfl rfl hb2 (OpT.pickT (A := .cel _ _) rfl rfl (okd rfl rfl) (Tm rfl rfl rfl) hb3 (Tm rfl rfl rfl) rfl) rfl ?_
        exact AWl.to (junk 8 rfl) k1
      · intro hb3 Q1 k1
        refine AWl.pas rfl rfl rfl rfl hb3 rfl (okd rfl rfl) rfl ?_
        refine AWl.pas rfl rfl rfl rfl hb3 rfl (okd rfl rfl) rfl ?_
        refine AWl.pas rfl rfl rfl rfl hb3 rfl (okd rfl rfl) rfl ?_
        refine AWl.pas rfl rfl rfl rfl hb3 rfl (okd rfl rfl) rfl ?_
        refine AWl.pas rfl rfl rfl rfl hb3 rfl (okd rfl rfl) rfl ?_
        refine AWl.pas rfl rfl rfl rfl hb3 rfl (okd rfl rfl) rfl ?_
        refine AWl.pas rfl rfl rfl rfl hb3 rfl (okd rfl rfl) rfl ?_
        refine AWl.pas rfl rfl rfl rfl hb3 rfl (okd rfl rfl) rfl ?_
        refine AWl.rs rfl rfl rfl rfl hb2 (OpT.pickF (A := .cel _ _) rfl rfl (okd rfl rfl) (Tm rfl rfl rfl) hb3 Opd.bool rfl) rfl ?_
        exact k1
      refine AWl.st rfl (OpT.pickF (A := .cel _ _) rfl rfl (okd rfl rfl) (Tm rfl rfl rfl) hb2 (Tm rfl rfl rfl) rfl) rfl ?_
      exact AWl.to (junk 4 rfl) k1
    · intro hb2 Q1 k1
      refine AWl.pas rfl rfl rfl rfl hb2 rfl (okd rfl rfl) rfl ?_
      refine AWl.pas rfl rfl rfl rfl hb2 rfl (okd rfl rfl) rfl ?_
      refine AWl.pasv rfl rfl rfl rfl hb2 rfl (okd rfl rfl) rfl ?_
      refine AWl.pasu rfl rfl rfl rfl rfl (okd rfl rfl) rfl ?_
      refine AWl.pasu rfl rfl rfl rfl rfl (okd rfl rfl) rfl ?_
      refine AWl.pasu rfl rfl rfl rfl rfl (okd rfl rfl) rfl ?_
      refine AWl.pasu rfl rfl rfl rfl rfl (okd rfl rfl) rfl ?_
      refine AWl.pasu rfl rfl rfl rfl rfl (okd rfl rfl) rfl ?_
      refine AWl.pasu rfl rfl rfl rfl rfl (okd rfl rfl) rfl ?_
      refine AWl.pasu rfl rfl rfl rfl rfl (okd rfl rfl) rfl ?_
      refine AWl.pasu rfl rfl rfl rfl rfl (okd rfl rfl) rfl ?_
      refine AWl.pas rfl rfl rfl rfl hb2 rfl (okd rfl rfl) rfl ?_
      refine AWl.st rfl (OpT.pickT (A := .cel _ _) rfl rfl (okd rfl rfl) (Tm rfl rfl rfl) hb2 Opd.bool rfl) rfl ?_
      exact AWl.to (junk 9 rfl) k1
    refine AWl.nil ?_
    refine AX.go ?_
    refine AW.cond (t := 48) rfl (by decide) (fun hc2 => ?_) (fun hc2 => ?_)
    ·
      try simp only [decide_eq_true_eq, decide_eq_false_iff_not, Bool.not_eq_true', Bool.not_eq_false'] at hc2
      have hc2' := hc2; try simp only [decide_eq_true_eq, decide_eq_false_iff_not, beq_iff_eq, beq_eq_false_iff_ne, bne_iff_ne, bne_eq_false_iff_eq, ne_eq, Bool.not_eq_true', Bool.not_eq_false', Bool.and_eq_true, Bool.or_eq_true, Bool.or_eq_false_iff, Bool.and_eq_false_iff, Bool.not_true, Bool.not_false] at hc2'
      have hno : ¬ (0 ≤ a ∧ a < (x.length : Int) ∧ (0 < z → vp < a)) := by omega
      refine AW.seq ?_
      refine AW.region ?_
      refine AWl.st rfl (OpT.move (A := .cel _ _) (.inr rfl) rfl (okd rfl rfl) (I rfl) rfl) rfl ?_
      refine AWl.st rfl (OpT.move (A := .cel _ _) (.inr rfl) rfl (okd rfl rfl) Opd.bool rfl) rfl ?_
      refine AWl.nil ?_
      refine AX.go ?_
      refine AW.ret ?_
      refine AX.ret_then ?_
      refine AX.ret_block ?_
      refine AX.ret_then ?_
      refine AX.ret_then ?_
      refine AX.ret_block ?_
      refine AX.ret_then ?_
      exact AX.rt (rs := [.tmp 4, .tmp 5]) (ts := [some 4, some 5]) (.inl rfl) rfl (ROs.cons (RO.tmp (At.self (by decide)) (Kv rfl (by first | rw [fltI_neg (flt_no1 (x := x) (v := v) (z := z) (by omega) (fun h => hno (hio.1 h)))] | rw [fltI_neg (flt_no2 (x := x) (v := v) (z := y) (by omega) (fun h => hno (hio.1 h)))] | rw [fltI_at (flt_at hI0.2 hI1.2 hI.2 (by omega) (fun h => Bool.false_ne_true ((hob.1 h).symm.trans hcF)))] | rw [fltI_end (flt_end hI0.2 hI1.2 hI.2 (by omega))])) rfl) <| ROs.cons (RO.tmp (At.self (by decide)) (Kv rfl (by first | rw [fltI_neg (flt_no1 (x := x) (v := v) (z := z) (by omega) (fun h => hno (hio.1 h)))] | rw [fltI_neg (flt_no2 (x := x) (v := v) (z := y) (by omega) (fun h => hno (hio.1 h)))] | rw [fltI_at (flt_at hI0.2 hI1.2 hI.2 (by omega) (fun h => Bool.false_ne_true ((hob.1 h).symm.trans hcF)))] | rw [fltI_end (flt_end hI0.2 hI1.2 hI.2 (by omega))])) rfl) <| ROs.nil) (by decide) OutsOK.nil
    ·
      try simp only [decide_eq_true_eq, decide_eq_false_iff_not, Bool.not_eq_true', Bool.not_eq_false'] at hc2
      have hc2' := hc2; try simp only [decide_eq_true_eq, decide_eq_false_iff_not, beq_iff_eq, beq_eq_false_iff_ne, bne_iff_ne, bne_eq_false_iff_eq, ne_eq, Bool.not_eq_true', Bool.not_eq_false', Bool.and_eq_true, Bool.or_eq_true, Bool.or_eq_false_iff, Bool.and_eq_false_iff, Bool.not_true, Bool.not_false] at hc2'
      have hyes : 0 ≤ a ∧ a < (x.length : Int) ∧ (0 < z → vp < a) := by omega
      have hol : (v.2.1.take z).length ≤ 1048576 := by (rw [List.length_take]; omega)
      obtain ⟨e, he⟩ := get_of_len (r := x) rfl (c := a) (by omega)
      obtain ⟨cv, hcv, hcv1⟩ := cntL_in (b := 0) (a := a) (n := x.length) (l := v.2.1.take z) (by omega) (by omega)
      obtain ⟨rv, hrv⟩ := get_of_len (rtA_len v.1 x (v.2.1.take z)) (c := a) (by omega)
      refine AW.skip ?_
      refine AX.go ?_
      refine AW.seq ?_
      refine AW.region ?_
      refine AWl.st rfl (OpT.alias rfl rfl (okd rfl rfl) (by decide) (by decide)) rfl ?_
      refine AWl.st rfl (OpT.move (A := .cel _ _) (.inl rfl) rfl (okd rfl rfl) (Tm rfl rfl rfl) rfl) rfl ?_
      refine AWl.st rfl (OpT.indexAddrO rfl rfl (okd rfl rfl) (Root.ali rfl (by decide) (by decide)) rfl (by decide) (Tm rfl rfl rfl) el176 sz3 (by omega) (by assumption)) rfl ?_
      refine AWl.st rfl (OpT.loadP rfl rfl (okd rfl rfl) (Tm rfl rfl rfl) (.inr ⟨_, _, rfl, (by assumption)⟩) ag3 rfl) rfl ?_
      refine AWl.st rfl (OpT.add rfl rfl (okd rfl rfl) (Tm rfl rfl rfl) (I rfl) (nw (by omega))) rfl ?_
      refine AWl.st rfl (OpT.indexAddrO rfl rfl (okd rfl rfl) (Root.ali rfl (by decide) (by decide)) rfl (by decide) (Tm rfl rfl rfl) el176 sz3 (by omega) (by assumption)) rfl ?_
      refine AWl.sg rfl (OpT.storeO rfl rfl (Tm rfl rfl rfl) rfl (by assumption) sz3 rfl (Tm rfl rfl rfl)) (Kc 54 (.pel _ _ _ _ _ _ _) rfl <| Kc 53 (.cel _ _) rfl <| Kc 52 (.cel _ _) rfl <| Kc 51 (.pel _ _ _ _ _ _ _) rfl <| Kc 50 (.cel _ _) rfl <| Kc 49 (.ali _) rfl <| Kc 48 (.cel _ _) rfl <| Kc 35 (.cel _ _) rfl <| Kc 34 (.cel _ _) rfl <| Kc 29 (.cel _ _) rfl <| Kc 28 (.cel _ _) rfl <| Kc 27 (.cel _ _) rfl <| Kc 9 (.cel _ _) rfl <| Kc 8 (.cel _ _) rfl <| Kc 26 (.cel _ _) rfl <| Kc 25 (.cel _ _) rfl <| Kc 24 (.cel _ _) rfl <| Kc 23 (.cel _ _) rfl <| Kc 0 (.cel _ _) rfl <| Kc 3 (.cel _ _) rfl <| Kc 6 (.own _ _ _) rfl <| Kc 7 (.own _ _ _) rfl <| Kc 20 (.cel _ _) rfl <| Kc 21 (.cel _ _) rfl <| Kc 22 (.cel _ _) rfl <| Kn) ?_
      refine AWl.nil ?_
      refine AX.go ?_
      refine AW.dg fomo ?_
      refine DG.fr (d := 55) [] (DS rfl fun ve h => OpT.alias rfl rfl (okd rfl rfl) (by decide) (by decide)) rfl rfl ?_
      refine DG.fr (d := 56) [9] (DS rfl fun ve h => OpT.move (A := .cel _ _) (.inl rfl) rfl (okd rfl rfl) (D h rfl rfl rfl rfl) rfl) rfl rfl ?_
      refine DG.fr (d := 57) [3] (DS rfl fun ve h => OpT.fieldAddr rfl rfl (okd rfl rfl) (D h rfl rfl rfl rfl) fd71_0 sz68 (by decide) sb71_0) rfl rfl ?_
      refine DG.fr (d := 58) [57] (DS rfl fun ve h => OpT.loadA rfl rfl (okd rfl rfl) (D h rfl rfl rfl rfl) ag68 sz68) rfl rfl ?_
      refine DG.fr (d := 59) [0] (DS rfl fun ve h => OpT.move (A := .cel _ _) (.inl rfl) rfl (okd rfl rfl) (D h rfl rfl rfl rfl) rfl) rfl rfl ?_
      refine DG.fr (d := 60) [9] (DS rfl fun ve h => OpT.move (A := .cel _ _) (.inl rfl) rfl (okd rfl rfl) (D h rfl rfl rfl rfl) rfl) rfl rfl ?_
      refine DG.fr (d := 61) [59, 60] (DS rfl fun ve h => OpT.indexAddr rfl rfl (okd rfl rfl) (D h rfl rfl rfl rfl) (D h rfl rfl rfl rfl) el38 sz31 (by omega) (by assumption)) rfl rfl ?_
      refine DG.fr (d := 62) [61] (DS rfl fun ve h => OpT.fieldAddr rfl rfl (okd rfl rfl) (D h rfl rfl rfl rfl) fd31_1 sz29 (by decide) sb31_1) rfl rfl ?_
      refine DG.fr (d := 63) [62] (DS rfl fun ve h => OpT.loadA rfl rfl (okd rfl rfl) (D h rfl rfl rfl rfl) ag29 sz29) rfl rfl ?_
      refine DG.fr (d := 64) [58, 63] (DS rfl fun ve h => OpT.c1 (ms := [.flat, .flat]) (c_impl_Query_drops _ _) rfl rfl (okd rfl rfl) (Af (D h rfl rfl rfl rfl) rfl rfl <| Af (D h rfl rfl rfl rfl) rfl rfl <| An) rfl rfl) rfl rfl ?_
      refine DG.fr (d := 65) [7, 55, 56] (DS rfl fun ve h => OpT.indexAddrO rfl rfl (okd rfl rfl) (Root.ali ((h _ (List.elem_iff.1 rfl)).trans rfl) (by decide) (by decide)) ((h _ (List.elem_iff.1 rfl)).trans rfl) (by decide) (D h rfl rfl rfl rfl) el177 sz4 (by omega) (by assumption)) rfl rfl ?_
      refine DG.md (t := 7) [7, 64, 65] (DSm rfl fun ve h => OpT.storeO rfl rfl (D h rfl rfl rfl rfl) ((h _ (List.elem_iff.1 rfl)).trans rfl) (by assumption) sz4 rfl (D h rfl rfl rfl rfl)) ?_
      refine DG.nil ⟨by kernel_rfl, by kernel_rfl, ?_⟩
      refine AX.normal_block ?_
      refine AX.pr (Kc 7 (.own _ _ _) rfl <| Kc 65 (.pel _ _ _ _ _ _ _) rfl <| Kc 64 (.cel _ _) rfl <| Kc 63 (.agg _ _) rfl <| Kc 62 (.cel _ _) rfl <| Kc 61 (.cel _ _) rfl <| Kc 60 (.cel _ _) rfl <| Kc 59 (.cel _ _) rfl <| Kc 58 (.agg _ _) rfl <| Kc 57 (.cel _ _) rfl <| Kc 56 (.cel _ _) rfl <| Kc 55 (.ali _) rfl <| Kc 54 (.pel _ _ _ _ _ _ _) rfl <| Kc 53 (.cel _ _) rfl <| Kc 52 (.cel _ _) rfl <| Kc 51 (.pel _ _ _ _ _ _ _) rfl <| Kc 50 (.cel _ _) rfl <| Kc 49 (.ali _) rfl <| Kc 48 (.cel _ _) rfl <| Kc 35 (.cel _ _) rfl <| Kc 34 (.cel _ _) rfl <| Kc 29 (.cel _ _) rfl <| Kc 28 (.cel _ _) rfl <| Kc 27 (.cel _ _) rfl <| Kc 9 (.cel _ _) rfl <| Kc 8 (.cel _ _) rfl <| Kc 26 (.cel _ _) rfl <| Kc 25 (.cel _ _) rfl <| Kc 24 (.cel _ _) rfl <| Kc 23 (.cel _ _) rfl <| Kc 0 (.cel _ _) rfl <| Kc 3 (.cel _ _) rfl <| Kc 6 (.own _ _ _) rfl <| Kc 20 (.cel _ _) rfl <| Kc 21 (.cel _ _) rfl <| Kc 22 (.cel _ _) rfl <| Kn) ?_
      refine AX.go ?_
      refine AW.region ?_
      refine AWl.st rfl (OpT.add rfl rfl (okd rfl rfl) (Tm rfl rfl rfl) (I rfl) (nw (by omega))) rfl ?_
      refine AWl.sg rfl (OpT.move (A := .cel _ _) (.inl rfl) rfl (okd rfl rfl) (Tm rfl rfl rfl) rfl) (Kc 22 (.cel _ _) rfl <| Kc 66 (.cel _ _) rfl <| Kc 7 (.own _ _ _) rfl <| Kc 65 (.pel _ _ _ _ _ _ _) rfl <| Kc 64 (.cel _ _) rfl <| Kc 63 (.agg _ _) rfl <| Kc 62 (.cel _ _) rfl <| Kc 61 (.cel _ _) rfl <| Kc 60 (.cel _ _) rfl <| Kc 59 (.cel _ _) rfl <| Kc 58 (.agg _ _) rfl <| Kc 57 (.cel _ _) rfl <| Kc 56 (.cel _ _) rfl <| Kc 55 (.ali _) rfl <| Kc 54 (.pel _ _ _ _ _ _ _) rfl <| Kc 53 (.cel _ _) rfl <| Kc 52 (.cel _ _) rfl <| Kc 51 (.pel _ _ _ _ _ _ _) rfl <| Kc 50 (.cel _ _) rfl <| Kc 49 (.ali _) rfl <| Kc 48 (.cel _ _) rfl <| Kc 35 (.cel _ _) rfl <| Kc 34 (.cel _ _) rfl <| Kc 29 (.cel _ _) rfl <| Kc 28 (.cel _ _) rfl <| Kc 27 (.cel _ _) rfl <| Kc 9 (.cel _ _) rfl <| Kc 8 (.cel _ _) rfl <| Kc 26 (.cel _ _) rfl <| Kc 25 (.cel _ _) rfl <| Kc 24 (.cel _ _) rfl <| Kc 23 (.cel _ _) rfl <| Kc 0 (.cel _ _) rfl <| Kc 3 (.cel _ _) rfl <| Kc 6 (.own _ _ _) rfl <| Kc 20 (.cel _ _) rfl <| Kc 21 (.cel _ _) rfl <| Kn) ?_
      refine AWl.nil ?_
      exact AX.again (z + 1) ⟨by omega, all_step hI.2 (hio.2 hyes)⟩ (by omega) (Kc 0 _ (Kv rfl rfl) <| Kc 3 _ (Kv rfl rfl) <| Kc 6 _ (Ko rfl (cnt_one ha (by omega) hcv)) <| Kc 7 _ (Ko rfl (rtA_next ha he)) <| Kc 20 _ (Kv rfl rfl) <| Kc 21 _ (Kv rfl rfl) <| Kc 22 _ (Kv rfl (by omega)) <| Kn)
  ·
    try simp only [decide_eq_true_eq, decide_eq_false_iff_not, Bool.not_eq_true', Bool.not_eq_false'] at hc1
    have hc1' := hc1; try simp only [decide_eq_true_eq, decide_eq_false_iff_not, beq_iff_eq, beq_eq_false_iff_ne, bne_iff_ne, bne_eq_false_iff_eq, ne_eq, Bool.not_eq_true', Bool.not_eq_false', Bool.and_eq_true, Bool.or_eq_true, Bool.or_eq_false_iff, Bool.and_eq_false_iff, Bool.not_true, Bool.not_false] at hc1'
    refine AW.exit ?_
    refine AX.exit_then ?_
    refine AX.exit_then ?_
    refine AX.exit_hit ?_
    refine AX.pr (Kc 0 (.cel _ _) rfl <| Kc 3 (.cel _ _) rfl <| Kc 6 (.own _ _ _) rfl <| Kc 7 (.own _ _ _) rfl <| Kn) ?_
    refine AX.go ?_
    refine AW.seq ?_
    refine AW.seq ?_
    refine AW.region ?_
    refine AWl.st rfl (OpT.fieldAddr rfl rfl (okd rfl rfl) (Tm rfl rfl rfl) fd71_2 sz69 (by decide) sb71_2) rfl ?_
    refine AWl.st rfl (OpT.load rfl rfl (okd rfl rfl) (Tm rfl rfl rfl) ag69 rfl) rfl ?_
    refine AWl.st rfl (OpT.len rfl rfl (okd rfl rfl) (Tm rfl rfl rfl) el69) rfl ?_
    refine AWl.st rfl (OpT.move (A := .cel _ _) (.inl rfl) rfl (okd rfl rfl) (I rfl) rfl) rfl ?_
    refine AWl.nil ?_
    refine AX.pr (Kc 70 (.cel _ _) rfl <| Kc 69 (.cel _ _) rfl <| Kc 68 (.cel _ _) rfl <| Kc 0 (.cel _ _) rfl <| Kc 3 (.cel _ _) rfl <| Kc 6 (.own _ _ _) rfl <| Kc 7 (.own _ _ _) rfl <| Kn) ?_
    refine AX.go ?_
    refine AW.block ?_
    obtain rfl : z = v.2.1.length := by omega
    have hI0 := hI
    refine AW.loop (fun y : Nat => y ≤ v.2.2.length ∧ ∀ i, i < y → ordF Prod.fst x.length v.2.2 i) (fun y : Nat => keep [(0, .cel (Kd.slice kCard) x), (3, .cel (Kd.ptr kAns) v), (6, .own 3 (Kd.int .i64) (cntL 0 x.length (v.2.1 ++ (v.2.2.map (·.1)).take y))), (7, .own 4 Kd.bool (rtB v.1 x v.2.1 (v.2.2.take y))), (68, .cel (Kd.slice kWit) v.2.2), (69, .cel (Kd.int .i64) (v.2.2.length : Int)), (70, .cel (Kd.int .i64) (y : Int))]) (fun y : Nat => v.2.2.length - y) (0) ⟨Nat.zero_le _, all_none⟩ (Kc 0 _ (Kv rfl rfl) <| Kc 3 _ (Kv rfl rfl) <| Kc 6 _ (Ko rfl (by rw [List.take_length, List.take_zero, List.append_nil])) <| Kc 7 _ (Ko rfl (by rw [List.take_length, List.take_zero]; rfl)) <| Kc 68 _ (Kv rfl rfl) <| Kc 69 _ (Kv rfl rfl) <| Kc 70 _ (Kv rfl rfl) <| Kn) ?_
    intro y hI
    refine AW.seq ?_
    refine AW.region ?_
    refine AWl.st rfl (OpT.lss rfl rfl (okd rfl rfl) (Tm rfl rfl rfl) (Tm rfl rfl rfl)) rfl ?_
    refine AWl.nil ?_
    refine AX.go ?_
    refine AW.seq ?_
    refine AW.cond (t := 71) rfl (by decide) (fun hc3 => ?_) (fun hc3 => ?_)
    ·
      try simp only [decide_eq_true_eq, decide_eq_false_iff_not, Bool.not_eq_true', Bool.not_eq_false'] at hc3
      have hc3' := hc3; try simp only [decide_eq_true_eq, decide_eq_false_iff_not, beq_iff_eq, beq_eq_false_iff_ne, bne_iff_ne, bne_eq_false_iff_eq, ne_eq, Bool.not_eq_true', Bool.not_eq_false', Bool.and_eq_true, Bool.or_eq_true, Bool.or_eq_false_iff, Bool.and_eq_false_iff, Bool.not_true, Bool.not_false] at hc3'
      obtain ⟨wt, hwt⟩ := getI (x := v.2.2) (z := y) (by omega)
      obtain ⟨wp, hwp⟩ := getPr (x := v.2.2) (z := y) hI.1
      have hio := ordF_iff (f := Prod.fst) (n := x.length) hwt hwp
      have hw16 := ok_i16 (ok_pair (hw wt (mem_getI hwt))).2
      refine AW.skip ?_
      refine AX.go ?_
      refine AW.seq ?_
      refine AW.block ?_
      refine AW.seq ?_
      refine AW.region ?_
      refine AWl.st rfl (OpT.move (A := .cel _ _) (.inl rfl) rfl (okd rfl rfl) (Tm rfl rfl rfl) rfl) rfl ?_
      refine AWl.st rfl (OpT.indexAddr rfl rfl (okd rfl rfl) (Tm rfl rfl rfl) (Tm rfl rfl rfl) el69 sz180 (by omega) (by assumption)) rfl ?_
      refine AWl.st rfl (OpT.loadA rfl rfl (okd rfl rfl) (Tm rfl rfl rfl) ag180 sz180) rfl ?_
      refine AWl.st rfl (OpT.alloc rfl rfl (okd rfl rfl) zr180 zk180) rfl ?_
      refine AWl.st rfl (OpT.move (A := .cel _ _) (.inr rfl) rfl (okd rfl rfl) (Tm rfl rfl rfl) rfl) rfl ?_
      refine AWl.sg rfl (OpT.storeBA rfl rfl (Opd.whole (Root.self (t := 11) (by decide)) rfl) rfl sz180 (by decide) (Tm rfl rfl rfl)) (Kc 10 (.cel _ _) rfl <| Kc 11 (.box _ _ _) rfl <| Kc 74 (.agg _ _) rfl <| Kc 73 (.cel _ _) rfl <| Kc 72 (.cel _ _) rfl <| Kc 71 (.cel _ _) rfl <| Kc 0 (.cel _ _) rfl <| Kc 3 (.cel _ _) rfl <| Kc 6 (.own _ _ _) rfl <| Kc 7 (.own _ _ _) rfl <| Kc 68 (.cel _ _) rfl <| Kc 69 (.cel _ _) rfl <| Kc 70 (.cel _ _) rfl <| Kn) ?_
      refine AWl.nil ?_
      refine AX.go ?_
      refine AW.seq ?_
      refine AW.seq ?_
      rcases Bool.eq_false_or_eq_true (decide (wt.1 < (0 : Int))) with hd1 | hd1
      ·
        have hd1' := hd1; try simp only [decide_eq_true_eq, decide_eq_false_iff_not, beq_iff_eq, beq_eq_false_iff_ne, bne_iff_ne, bne_eq_false_iff_eq, ne_eq, Bool.not_eq_true', Bool.not_eq_false', Bool.and_eq_true, Bool.or_eq_true, Bool.or_eq_false_iff, Bool.and_eq_false_iff, Bool.not_true, Bool.not_false] at hd1'
        refine AW.dg fomo ?_
        refine DG.fr (d := 75) [11] (DS rfl fun ve h => OpT.fieldAddrB rfl rfl (okd rfl rfl) (Root.self (t := 11) (by decide)) ((h _ (List.elem_iff.1 rfl)).trans rfl) (by decide) fd180_0 sz2 (by decide) sb180_0) rfl rfl ?_
        refine DG.fr (d := 76) [11, 75] (DS rfl fun ve h => OpT.loadP rfl rfl (okd rfl rfl) (D h rfl rfl rfl rfl) (.inl ⟨_, ((h _ (List.elem_iff.1 rfl)).trans rfl), rfl⟩) ag2 rfl) rfl rfl ?_
        refine DG.fr (d := 77) [76] (DS rfl fun ve h => OpT.lss rfl rfl (okd rfl rfl) (D h rfl rfl rfl rfl) (I rfl)) rfl rfl ?_
        refine DG.fr (d := 78) [77] (DS rfl fun ve h => OpT.move (A := .cel _ _) (.inl rfl) rfl (okd rfl rfl) (D h rfl rfl rfl rfl) rfl) rfl rfl ?_
        refine DG.pas (d := 79) [78] (DSp rfl rfl rfl rfl rfl hd1 rfl (okd rfl rfl)) rfl rfl ?_
        refine DG.pas (d := 80) [78] (DSp rfl rfl rfl rfl rfl hd1 rfl (okd rfl rfl)) rfl rfl ?_
        refine DG.pas (d := 81) [78] (DSp rfl rfl rfl rfl rfl hd1 rfl (okd rfl rfl)) rfl rfl ?_
        refine DG.pas (d := 82) [78] (DSp rfl rfl rfl rfl rfl hd1 rfl (okd rfl rfl)) rfl rfl ?_
        refine DG.pas (d := 83) [78] (DSp rfl rfl rfl rfl rfl hd1 rfl (okd rfl rfl)) rfl rfl ?_
        refine DG.fr (d := 84) [78] (DS rfl fun ve h => OpT.pickT (A := .cel _ _) rfl rfl (okd rfl rfl) (D h rfl rfl rfl rfl) hd1 Opd.bool rfl) rfl rfl ?_
        refine DG.fr (d := 85) [84] (DS rfl fun ve h => OpT.move (A := .cel _ _) (.inl rfl) rfl (okd rfl rfl) (D h rfl rfl rfl rfl) rfl) rfl rfl ?_
        refine DG.pas (d := 86) [85] (DSp rfl rfl rfl rfl rfl rfl rfl (okd rfl rfl)) rfl rfl ?_
        refine DG.pas (d := 87) [85] (DSp rfl rfl rfl rfl rfl rfl rfl (okd rfl rfl)) rfl rfl ?_
        refine DG.fr (d := 88) [85] (DSq rfl rfl rfl rfl rfl rfl rfl (okd rfl rfl)) rfl rfl ?_
        refine DG.pas (d := 89) [88] (DSpu rfl rfl rfl rfl rfl rfl (okd rfl rfl)) rfl rfl ?_
        refine DG.pas (d := 90) [88] (DSpu rfl rfl rfl rfl rfl rfl (okd rfl rfl)) rfl rfl ?_
        refine DG.pas (d := 91) [88] (DSpu rfl rfl rfl rfl rfl rfl (okd rfl rfl)) rfl rfl ?_
        refine DG.pas (d := 92) [88] (DSpu rfl rfl rfl rfl rfl rfl (okd rfl rfl)) rfl rfl ?_
        refine DG.pas (d := 93) [88] (DSpu rfl rfl rfl rfl rfl rfl (okd rfl rfl)) rfl rfl ?_
        refine DG.pas (d := 94) [88] (DSpu rfl rfl rfl rfl rfl rfl (okd rfl rfl)) rfl rfl ?_
        refine DG.pas (d := 95) [88] (DSpu rfl rfl rfl rfl rfl rfl (okd rfl rfl)) rfl rfl ?_
        refine DG.pas (d := 96) [88] (DSpu rfl rfl rfl rfl rfl rfl (okd rfl rfl)) rfl rfl ?_
        refine DG.pas (d := 97) [88] (DSpu rfl rfl rfl rfl rfl rfl (okd rfl rfl)) rfl rfl ?_
        refine DG.pas (d := 98) [88] (DSpu rfl rfl rfl rfl rfl rfl (okd rfl rfl)) rfl rfl ?_
        refine DG.pas (d := 99) [85] (DSp rfl rfl rfl rfl rfl rfl rfl (okd rfl rfl)) rfl rfl ?_
        refine DG.fr (d := 100) [85] (DS rfl fun ve h => OpT.pickT (A := .cel _ _) rfl rfl (okd rfl rfl) (D h rfl rfl rfl rfl) rfl Opd.bool rfl) rfl rfl ?_
        refine DG.nil ⟨by kernel_rfl, by kernel_rfl, ?_⟩
        refine AX.go ?_
        refine AW.cond (t := 100) rfl (by decide) (fun hc4 => ?_) (fun hc4 => ?_)
        ·
          try simp only [decide_eq_true_eq, decide_eq_false_iff_not, Bool.not_eq_true', Bool.not_eq_false'] at hc4
          have hc4' := hc4; try simp only [decide_eq_true_eq, decide_eq_false_iff_not, beq_iff_eq, beq_eq_false_iff_ne, bne_iff_ne, bne_eq_false_iff_eq, ne_eq, Bool.not_eq_true', Bool.not_eq_false', Bool.and_eq_true, Bool.or_eq_true, Bool.or_eq_false_iff, Bool.and_eq_false_iff, Bool.not_true, Bool.not_false] at hc4'
          have hno : ¬ (0 ≤ wt.1 ∧ wt.1 < (x.length : Int) ∧ (0 < y → wp.1 < wt.1)) := by omega
          refine AW.seq ?_
          refine AW.region ?_
          refine AWl.st rfl (OpT.move (A := .cel _ _) (.inr rfl) rfl (okd rfl rfl) (I rfl) rfl) rfl ?_
          refine AWl.st rfl (OpT.move (A := .cel _ _) (.inr rfl) rfl (okd rfl rfl) Opd.bool rfl) rfl ?_
          refine AWl.nil ?_
          refine AX.go ?_
          refine AW.ret ?_
          refine AX.ret_then ?_
          refine AX.ret_block ?_
          refine AX.ret_then ?_
          refine AX.ret_then ?_
          refine AX.ret_block ?_
          refine AX.ret_then ?_
          exact AX.rt (rs := [.tmp 4, .tmp 5]) (ts := [some 4, some 5]) (.inl rfl) rfl (ROs.cons (RO.tmp (At.self (by decide)) (Kv rfl (by first | rw [fltI_neg (flt_no1 (x := x) (v := v) (z := z) (by omega) (fun h => hno (hio.1 h)))] | rw [fltI_neg (flt_no2 (x := x) (v := v) (z := y) (by omega) (fun h => hno (hio.1 h)))] | rw [fltI_at (flt_at hI0.2 hI1.2 hI.2 (by omega) (fun h => Bool.false_ne_true ((hob.1 h).symm.trans hcF)))] | rw [fltI_end (flt_end hI0.2 hI1.2 hI.2 (by omega))])) rfl) <| ROs.cons (RO.tmp (At.self (by decide)) (Kv rfl (by first | rw [fltI_neg (flt_no1 (x := x) (v := v) (z := z) (by omega) (fun h => hno (hio.1 h)))] | rw [fltI_neg (flt_no2 (x := x) (v := v) (z := y) (by omega) (fun h => hno (hio.1 h)))] | rw [fltI_at (flt_at hI0.2 hI1.2 hI.2 (by omega) (fun h => Bool.false_ne_true ((hob.1 h).symm.trans hcF)))] | rw [fltI_end (flt_end hI0.2 hI1.2 hI.2 (by omega))])) rfl) <| ROs.nil) (by decide) OutsOK.nil
        ·
          try simp only [decide_eq_true_eq, decide_eq_false_iff_not, Bool.not_eq_true', Bool.not_eq_false'] at hc4
          have hc4' := hc4; try simp only [decide_eq_true_eq, decide_eq_false_iff_not, beq_iff_eq, beq_eq_false_iff_ne, bne_iff_ne, bne_eq_false_iff_eq, ne_eq, Bool.not_eq_true', Bool.not_eq_false', Bool.and_eq_true, Bool.or_eq_true, Bool.or_eq_false_iff, Bool.and_eq_false_iff, Bool.not_true, Bool.not_false] at hc4'
          exact absurd hc4 (by decide)
      ·
        have hd1' := hd1; try simp only [decide_eq_true_eq, decide_eq_false_iff_not, beq_iff_eq, beq_eq_false_iff_ne, bne_iff_ne, bne_eq_false_iff_eq, ne_eq, Bool.not_eq_true', Bool.not_eq_false', Bool.and_eq_true, Bool.or_eq_true, Bool.or_eq_false_iff, Bool.and_eq_false_iff, Bool.not_true, Bool.not_false] at hd1'
        rcases Bool.eq_false_or_eq_true (decide (wt.1 ≥ ((x).length : Int))) with hd2 | hd2
        ·
          have hd2' := hd2; try simp only [decide_eq_true_eq, decide_eq_false_iff_not, beq_iff_eq, beq_eq_false_iff_ne, bne_iff_ne, bne_eq_false_iff_eq, ne_eq, Bool.not_eq_true', Bool.not_eq_false', Bool.and_eq_true, Bool.or_eq_true, Bool.or_eq_false_iff, Bool.and_eq_false_iff, Bool.not_true, Bool.not_false] at hd2'
          refine AW.dg fomo ?_
          refine DG.fr (d := 75) [11] (DS rfl fun ve h => OpT.fieldAddrB rfl rfl (okd rfl rfl) (Root.self (t := 11) (by decide)) ((h _ (List.elem_iff.1 rfl)).trans rfl) (by decide) fd180_0 sz2 (by decide) sb180_0) rfl rfl ?_
          refine DG.fr (d := 76) [11, 75] (DS rfl fun ve h => OpT.loadP rfl rfl (okd rfl rfl) (D h rfl rfl rfl rfl) (.inl ⟨_, ((h _ (List.elem_iff.1 rfl)).trans rfl), rfl⟩) ag2 rfl) rfl rfl ?_
          refine DG.fr (d := 77) [76] (DS rfl fun ve h => OpT.lss rfl rfl (okd rfl rfl) (D h rfl rfl rfl rfl) (I rfl)) rfl rfl ?_
          refine DG.fr (d := 78) [77] (DS rfl fun ve h => OpT.move (A := .cel _ _) (.inl rfl) rfl (okd rfl rfl) (D h rfl rfl rfl rfl) rfl) rfl rfl ?_
          refine DG.fr (d := 79) [11, 78] (DSr rfl rfl rfl rfl rfl hd1 fun ve h => OpT.fieldAddrB rfl rfl (okd rfl rfl) (Root.self (t := 11) (by decide)) ((h _ (List.elem_iff.1 rfl)).trans rfl) (by decide) fd180_0 sz2 (by decide) sb180_0) rfl rfl ?_
          refine DG.fr (d := 80) [11, 78, 79] (DSr rfl rfl rfl rfl rfl hd1 fun ve h => OpT.loadP rfl rfl (okd rfl rfl) (D h rfl rfl rfl rfl) (.inl ⟨_, ((h _ (List.elem_iff.1 rfl)).trans rfl), rfl⟩) ag2 rfl) rfl rfl ?_
          refine DG.fr (d := 81) [0, 78] (DSr rfl rfl rfl rfl rfl hd1 fun ve h => OpT.move (A := .cel _ _) (.inl rfl) rfl (okd rfl rfl) (D h rfl rfl rfl rfl) rfl) rfl rfl ?_
          refine DG.fr (d := 82) [78, 81] (DSr rfl rfl rfl rfl rfl hd1 fun ve h => OpT.len rfl rfl (okd rfl rfl) (D h rfl rfl rfl rfl) el38) rfl rfl ?_
          refine DG.fr (d := 83) [78, 80, 82] (DSr rfl rfl rfl rfl rfl hd1 fun ve h => OpT.geq rfl rfl (okd rfl rfl) (D h rfl rfl rfl rfl) (D h rfl rfl rfl rfl)) rfl rfl ?_
          refine DG.fr (d := 84) [78, 83] (DS rfl fun ve h => OpT.pickF (A := .cel _ _) rfl rfl (okd rfl rfl) (D h rfl rfl rfl rfl) hd1 (D h rfl rfl rfl rfl) rfl) rfl rfl ?_
          refine DG.fr (d := 85) [84] (DS rfl fun ve h => OpT.move (A := .cel _ _) (.inl rfl) rfl (okd rfl rfl) (D h rfl rfl rfl rfl) rfl) rfl rfl ?_
          refine DG.pas (d := 86) [85] (DSp rfl rfl rfl rfl rfl hd2 rfl (okd rfl rfl)) rfl rfl ?_
          refine DG.pas (d := 87) [85] (DSp rfl rfl rfl rfl rfl hd2 rfl (okd rfl rfl)) rfl rfl ?_
          refine DG.fr (d := 88) [85] (DSq rfl rfl rfl rfl rfl hd2 rfl (okd rfl rfl)) rfl rfl ?_
          refine DG.pas (d := 89) [88] (DSpu rfl rfl rfl rfl rfl rfl (okd rfl rfl)) rfl rfl ?_
          refine DG.pas (d := 90) [88] (DSpu rfl rfl rfl rfl rfl rfl (okd rfl rfl)) rfl rfl ?_
          refine DG.pas (d := 91) [88] (DSpu rfl rfl rfl rfl rfl rfl (okd rfl rfl)) rfl rfl ?_
          refine DG.pas (d := 92) [88] (DSpu rfl rfl rfl rfl rfl rfl (okd rfl rfl)) rfl rfl ?_
          refine DG.pas (d := 93) [88] (DSpu rfl rfl rfl rfl rfl rfl (okd rfl rfl)) rfl rfl ?_
          refine DG.pas (d := 94) [88] (DSpu rfl rfl rfl rfl rfl rfl (okd rfl rfl)) rfl rfl ?_
          refine DG.pas (d := 95) [88] (DSpu rfl rfl rfl rfl rfl rfl (okd rfl rfl)) rfl rfl ?_
          refine DG.pas (d := 96) [88] (DSpu rfl rfl rfl rfl rfl rfl (okd rfl rfl)) rfl rfl ?_
          refine DG.pas (d := 97) [88] (DSpu rfl rfl rfl rfl rfl rfl (okd rfl rfl)) rfl rfl ?_
          refine DG.pas (d := 98) [88] (DSpu rfl rfl rfl rfl rfl rfl (okd rfl rfl)) rfl rfl ?_
          refine DG.pas (d := 99) [85] (DSp rfl rfl rfl rfl rfl hd2 rfl (okd rfl rfl)) rfl rfl ?_
          refine DG.fr (d := 100) [85] (DS rfl fun ve h => OpT.pickT (A := .cel _ _) rfl rfl (okd rfl rfl) (D h rfl rfl rfl rfl) hd2 Opd.bool rfl) rfl rfl ?_
          refine DG.nil ⟨by kernel_rfl, by kernel_rfl, ?_⟩
          refine AX.go ?_
          refine AW.cond (t := 100) rfl (by decide) (fun hc5 => ?_) (fun hc5 => ?_)
          ·
            try simp only [decide_eq_true_eq, decide_eq_false_iff_not, Bool.not_eq_true', Bool.not_eq_false'] at hc5
            have hc5' := hc5; try simp only [decide_eq_true_eq, decide_eq_false_iff_not, beq_iff_eq, beq_eq_false_iff_ne, bne_iff_ne, bne_eq_false_iff_eq, ne_eq, Bool.not_eq_true', Bool.not_eq_false', Bool.and_eq_true, Bool.or_eq_true, Bool.or_eq_false_iff, Bool.and_eq_false_iff, Bool.not_true, Bool.not_false] at hc5'
            have hno : ¬ (0 ≤ wt.1 ∧ wt.1 < (x.length : Int) ∧ (0 < y → wp.1 < wt.1)) := by omega
            refine AW.seq ?_
            refine AW.region ?_
            refine AWl.st rfl (OpT.move (A := .cel _ _) (.inr rfl) rfl (okd rfl rfl) (I rfl) rfl) rfl ?_
            refine AWl.st rfl (OpT.move (A := .cel _ _) (.inr rfl) rfl (okd rfl rfl) Opd.bool rfl) rfl ?_
            refine AWl.nil ?_
            refine AX.go ?_
            refine AW.ret ?_
            refine AX.ret_then ?_
            refine AX.ret_block ?_
            refine AX.ret_then ?_
            refine AX.ret_then ?_
            refine AX.ret_block ?_
            refine AX.ret_then ?_
            exact AX.rt (rs := [.tmp 4, .tmp 5]) (ts := [some 4, some 5]) (.inl rfl) rfl (ROs.cons (RO.tmp (At.self (by decide)) (Kv rfl (by first | rw [fltI_neg (flt_no1 (x := x) (v := v) (z := z) (by omega) (fun h => hno (hio.1 h)))] | rw [fltI_neg (flt_no2 (x := x) (v := v) (z := y) (by omega) (fun h => hno (hio.1 h)))] | rw [fltI_at (flt_at hI0.2 hI1.2 hI.2 (by omega) (fun h => Bool.false_ne_true ((hob.1 h).symm.trans hcF)))] | rw [fltI_end (flt_end hI0.2 hI1.2 hI.2 (by omega))])) rfl) <| ROs.cons (RO.tmp (At.self (by decide)) (Kv rfl (by first | rw [fltI_neg (flt_no1 (x := x) (v := v) (z := z) (by omega) (fun h => hno (hio.1 h)))] | rw [fltI_neg (flt_no2 (x := x) (v := v) (z := y) (by omega) (fun h => hno (hio.1 h)))] | rw [fltI_at (flt_at hI0.2 hI1.2 hI.2 (by omega) (fun h => Bool.false_ne_true ((hob.1 h).symm.trans hcF)))] | rw [fltI_end (flt_end hI0.2 hI1.2 hI.2 (by omega))])) rfl) <| ROs.nil) (by decide) OutsOK.nil
          ·
            try simp only [decide_eq_true_eq, decide_eq_false_iff_not, Bool.not_eq_true', Bool.not_eq_false'] at hc5
            have hc5' := hc5; try simp only [decide_eq_true_eq, decide_eq_false_iff_not, beq_iff_eq, beq_eq_false_iff_ne, bne_iff_ne, bne_eq_false_iff_eq, ne_eq, Bool.not_eq_true', Bool.not_eq_false', Bool.and_eq_true, Bool.or_eq_true, Bool.or_eq_false_iff, Bool.and_eq_false_iff, Bool.not_true, Bool.not_false] at hc5'
            exact absurd hc5 (by decide)
        ·
          have hd2' := hd2; try simp only [decide_eq_true_eq, decide_eq_false_iff_not, beq_iff_eq, beq_eq_false_iff_ne, bne_iff_ne, bne_eq_false_iff_eq, ne_eq, Bool.not_eq_true', Bool.not_eq_false', Bool.and_eq_true, Bool.or_eq_true, Bool.or_eq_false_iff, Bool.and_eq_false_iff, Bool.not_true, Bool.not_false] at hd2'
          rcases Bool.eq_false_or_eq_true (decide ((y : Int) > (0 : Int))) with hd3 | hd3
          ·
            have hd3' := hd3; try simp only [decide_eq_true_eq, decide_eq_false_iff_not, beq_iff_eq, beq_eq_false_iff_ne, bne_iff_ne, bne_eq_false_iff_eq, ne_eq, Bool.not_eq_true', Bool.not_eq_false', Bool.and_eq_true, Bool.or_eq_true, Bool.or_eq_false_iff, Bool.and_eq_false_iff, Bool.not_true, Bool.not_false] at hd3'
            have hwp1 := hwp (by omega)
            refine AW.dg fomo ?_
            refine DG.fr (d := 75) [11] (DS rfl fun ve h => OpT.fieldAddrB rfl rfl (okd rfl rfl) (Root.self (t := 11) (by decide)) ((h _ (List.elem_iff.1 rfl)).trans rfl) (by decide) fd180_0 sz2 (by decide) sb180_0) rfl rfl ?_
            refine DG.fr (d := 76) [11, 75] (DS rfl fun ve h => OpT.loadP rfl rfl (okd rfl rfl) (D h rfl rfl rfl rfl) (.inl ⟨_, ((h _ (List.elem_iff.1 rfl)).trans rfl), rfl⟩) ag2 rfl) rfl rfl ?_
            refine DG.fr (d := 77) [76] (DS rfl fun ve h => OpT.lss rfl rfl (okd rfl rfl) (D h rfl rfl rfl rfl) (I rfl)) rfl rfl ?_
            refine DG.fr (d := 78) [77] (DS rfl fun ve h => OpT.move (A := .cel _ _) (.inl rfl) rfl (okd rfl rfl) (D h rfl rfl rfl rfl) rfl) rfl rfl ?_
            refine DG.fr (d := 79) [11, 78] (DSr rfl rfl rfl rfl rfl hd1 fun ve h => OpT.fieldAddrB rfl rfl (okd rfl rfl) (Root.self (t := 11) (by decide)) ((h _ (List.elem_iff.1 rfl)).trans rfl) (by decide) fd180_0 sz2 (by decide) sb180_0) rfl rfl ?_
            refine DG.fr (d := 80) [11, 78, 79] (DSr rfl rfl rfl rfl rfl hd1 fun ve h => OpT.loadP rfl rfl (okd rfl rfl) (D h rfl rfl rfl rfl) (.inl ⟨_, ((h _ (List.elem_iff.1 rfl)).trans rfl), rfl⟩) ag2 rfl) rfl rfl ?_
            refine DG.fr (d := 81) [0, 78] (DSr rfl rfl rfl rfl rfl hd1 fun ve h => OpT.move (A := .cel _ _) (.inl rfl) rfl (okd rfl rfl) (D h rfl rfl rfl rfl) rfl) rfl rfl ?_
            refine DG.fr (d := 82) [78, 81] (DSr rfl rfl rfl rfl rfl hd1 fun ve h => OpT.len rfl rfl (okd rfl rfl) (D h rfl rfl rfl rfl) el38) rfl rfl ?_
            refine DG.fr (d := 83) [78, 80, 82] (DSr rfl rfl rfl rfl rfl hd1 fun ve h => OpT.geq rfl rfl (okd rfl rfl) (D h rfl rfl rfl rfl) (D h rfl rfl rfl rfl)) rfl rfl ?_
            refine DG.fr (d := 84) [78, 83] (DS rfl fun ve h => OpT.pickF (A := .cel _ _) rfl rfl (okd rfl rfl) (D h rfl rfl rfl rfl) hd1 (D h rfl rfl rfl rfl) rfl) rfl rfl ?_
            refine DG.fr (d := 85) [84] (DS rfl fun ve h => OpT.move (A := .cel _ _) (.inl rfl) rfl (okd rfl rfl) (D h rfl rfl rfl rfl) rfl) rfl rfl ?_
            refine DG.fr (d := 86) [10, 85] (DSr rfl rfl rfl rfl rfl hd2 fun ve h => OpT.move (A := .cel _ _) (.inl rfl) rfl (okd rfl rfl) (D h rfl rfl rfl rfl) rfl) rfl rfl ?_
            refine DG.fr (d := 87) [85, 86] (DSr rfl rfl rfl rfl rfl hd2 fun ve h => OpT.gtr rfl rfl (okd rfl rfl) (D h rfl rfl rfl rfl) (I rfl)) rfl rfl ?_
            refine DG.fr (d := 88) [85, 87] (DSr rfl rfl rfl rfl rfl hd2 fun ve h => OpT.move (A := .cel _ _) (.inl rfl) rfl (okd rfl rfl) (D h rfl rfl rfl rfl) rfl) rfl rfl ?_
            refine DG.fr (d := 89) [3, 88] (DSr rfl rfl rfl rfl rfl hd3 fun ve h => OpT.fieldAddr rfl rfl (okd rfl rfl) (D h rfl rfl rfl rfl) fd71_2 sz69 (by decide) sb71_2) rfl rfl ?_
            refine DG.fr (d := 90) [88, 89] (DSr rfl rfl rfl rfl rfl hd3 fun ve h => OpT.load rfl rfl (okd rfl rfl) (D h rfl rfl rfl rfl) ag69 rfl) rfl rfl ?_
            refine DG.fr (d := 91) [10, 88] (DSr rfl rfl rfl rfl rfl hd3 fun ve h => OpT.move (A := .cel _ _) (.inl rfl) rfl (okd rfl rfl) (D h rfl rfl rfl rfl) rfl) rfl rfl ?_
            refine DG.fr (d := 92) [88, 91] (DSr rfl rfl rfl rfl rfl hd3 fun ve h => OpT.sub rfl rfl (okd rfl rfl) (D h rfl rfl rfl rfl) (I rfl) (nw (by omega))) rfl rfl ?_
            refine DG.fr (d := 93) [88, 90, 92] (DSr rfl rfl rfl rfl rfl hd3 fun ve h => OpT.indexAddr rfl rfl (okd rfl rfl) (D h rfl rfl rfl rfl) (D h rfl rfl rfl rfl) el69 sz180 (by omega) (by assumption)) rfl rfl ?_
            refine DG.fr (d := 94) [88, 93] (DSr rfl rfl rfl rfl rfl hd3 fun ve h => OpT.fieldAddr rfl rfl (okd rfl rfl) (D h rfl rfl rfl rfl) fd180_0 sz2 (by decide) sb180_0) rfl rfl ?_
            refine DG.fr (d := 95) [88, 94] (DSr rfl rfl rfl rfl rfl hd3 fun ve h => OpT.load rfl rfl (okd rfl rfl) (D h rfl rfl rfl rfl) ag2 rfl) rfl rfl ?_
            refine DG.fr (d := 96) [11, 88] (DSr rfl rfl rfl rfl rfl hd3 fun ve h => OpT.fieldAddrB rfl rfl (okd rfl rfl) (Root.self (t := 11) (by decide)) ((h _ (List.elem_iff.1 rfl)).trans rfl) (by decide) fd180_0 sz2 (by decide) sb180_0) rfl rfl ?_
            refine DG.fr (d := 97) [11, 88, 96] (DSr rfl rfl rfl rfl rfl hd3 fun ve h => OpT.loadP rfl rfl (okd rfl rfl) (D h rfl rfl rfl rfl) (.inl ⟨_, ((h _ (List.elem_iff.1 rfl)).trans rfl), rfl⟩) ag2 rfl) rfl rfl ?_
            refine DG.fr (d := 98) [88, 95, 97] (DSr rfl rfl rfl rfl rfl hd3 fun ve h => OpT.geq rfl rfl (okd rfl rfl) (D h rfl rfl rfl rfl) (D h rfl rfl rfl rfl)) rfl rfl ?_
            refine DG.fr (d := 99) [85, 88, 98] (DSr rfl rfl rfl rfl rfl hd2 fun ve h => OpT.pickT (A := .cel _ _) rfl rfl (okd rfl rfl) (D h rfl rfl rfl rfl) hd3 (D h rfl rfl rfl rfl) rfl) rfl rfl ?_
            refine DG.fr (d := 100) [85, 99] (DS rfl fun ve h => OpT.pickF (A := .cel _ _) rfl rfl (okd rfl rfl) (D h rfl rfl rfl rfl) hd2 (D h rfl rfl rfl rfl) rfl) rfl rfl ?_
            refine DG.nil ⟨by kernel_rfl, by kernel_rfl, ?_⟩
            refine AX.go ?_
            refine AW.cond (t := 100) rfl (by decide) (fun hc6 => ?_) (fun hc6 => ?_)
            ·
              try simp only [decide_eq_true_eq, decide_eq_false_iff_not, Bool.not_eq_true', Bool.not_eq_false'] at hc6
              have hc6' := hc6; try simp only [decide_eq_true_eq, decide_eq_false_iff_not, beq_iff_eq, beq_eq_false_iff_ne, bne_iff_ne, bne_eq_false_iff_eq, ne_eq, Bool.not_eq_true', Bool.not_eq_false', Bool.and_eq_true, Bool.or_eq_true, Bool.or_eq_false_iff, Bool.and_eq_false_iff, Bool.not_true, Bool.not_false] at hc6'
              have hno : ¬ (0 ≤ wt.1 ∧ wt.1 < (x.length : Int) ∧ (0 < y → wp.1 < wt.1)) := by omega
              refine AW.seq ?_
              refine AW.region ?_
              refine AWl.st rfl (OpT.move (A := .cel _ _) (.inr rfl) rfl (okd rfl rfl) (I rfl) rfl) rfl ?_
              refine AWl.st rfl (OpT.move (A := .cel _ _) (.inr rfl) rfl (okd rfl rfl) Opd.bool rfl) rfl ?_
              refine AWl.nil ?_
              refine AX.go ?_
              refine AW.ret ?_
              refine AX.ret_then ?_
              refine AX.ret_block ?_
              refine AX.ret_then ?_
              refine AX.ret_then ?_
              refine AX.ret_block ?_
              refine AX.ret_then ?_
              exact AX.rt (rs := [.tmp 4, .tmp 5]) (ts := [some 4, some 5]) (.inl rfl) rfl (ROs.cons (RO.tmp (At.self (by decide)) (Kv rfl (by first | rw [fltI_neg (flt_no1 (x := x) (v := v) (z := z) (by omega) (fun h => hno (hio.1 h)))] | rw [fltI_neg (flt_no2 (x := x) (v := v) (z := y) (by omega) (fun h => hno (hio.1 h)))] | rw [fltI_at (flt_at hI0.2 hI1.2 hI.2 (by omega) (fun h => Bool.false_ne_true ((hob.1 h).symm.trans hcF)))] | rw [fltI_end (flt_end hI0.2 hI1.2 hI.2 (by omega))])) rfl) <| ROs.cons (RO.tmp (At.self (by decide)) (Kv rfl (by first | rw [fltI_neg (flt_no1 (x := x) (v := v) (z := z) (by omega) (fun h => hno (hio.1 h)))] | rw [fltI_neg (flt_no2 (x := x) (v := v) (z := y) (by omega) (fun h => hno (hio.1 h)))] | rw [fltI_at (flt_at hI0.2 hI1.2 hI.2 (by omega) (fun h => Bool.false_ne_true ((hob.1 h).symm.trans hcF)))] | rw [fltI_end (flt_end hI0.2 hI1.2 hI.2 (by omega))])) rfl) <| ROs.nil) (by decide) OutsOK.nil
            ·
              try simp only [decide_eq_true_eq, decide_eq_false_iff_not, Bool.not_eq_true', Bool.not_eq_false'] at hc6
              have hc6' := hc6; try simp only [decide_eq_true_eq, decide_eq_false_iff_not, beq_iff_eq, beq_eq_false_iff_ne, bne_iff_ne, bne_eq_false_iff_eq, ne_eq, Bool.not_eq_true', Bool.not_eq_false', Bool.and_eq_true, Bool.or_eq_true, Bool.or_eq_false_iff, Bool.and_eq_false_iff, Bool.not_true, Bool.not_false] at hc6'
              have hyes : 0 ≤ wt.1 ∧ wt.1 < (x.length : Int) ∧ (0 < y → wp.1 < wt.1) := by omega
              have hol : (v.2.1 ++ (v.2.2.map (·.1)).take y).length ≤ 2097152 := by (rw [List.length_append, List.length_take, List.length_map]; omega)
              obtain ⟨e, he⟩ := get_of_len (r := x) rfl (c := wt.1) (by omega)
              obtain ⟨cv, hcv, hcv1⟩ := cntL_in (b := 0) (a := wt.1) (n := x.length) (l := v.2.1 ++ (v.2.2.map (·.1)).take y) (by omega) (by omega)
              obtain ⟨rv, hrv⟩ := get_of_len (rtB_len v.1 x v.2.1 (v.2.2.take y)) (c := wt.1) (by omega)
              refine AW.skip ?_
              refine AX.go ?_
              refine AW.seq ?_
              refine AW.region ?_
              refine AWl.st rfl (OpT.alias rfl rfl (okd rfl rfl) (by decide) (by decide)) rfl ?_
              refine AWl.st rfl (OpT.fieldAddrB rfl rfl (okd rfl rfl) (Root.self (t := 11) (by decide)) rfl (by decide) fd180_0 sz2 (by decide) sb180_0) rfl ?_
              refine AWl.st rfl (OpT.loadP rfl rfl (okd rfl rfl) (Tm rfl rfl rfl) (.inl ⟨_, rfl, rfl⟩) ag2 rfl) rfl ?_
              refine AWl.st rfl (OpT.indexAddrO rfl rfl (okd rfl rfl) (Root.ali rfl (by decide) (by decide)) rfl (by decide) (Tm rfl rfl rfl) el176 sz3 (by omega) (by assumption)) rfl ?_
              refine AWl.st rfl (OpT.loadP rfl rfl (okd rfl rfl) (Tm rfl rfl rfl) (.inr ⟨_, _, rfl, (by assumption)⟩) ag3 rfl) rfl ?_
              refine AWl.st rfl (OpT.add rfl rfl (okd rfl rfl) (Tm rfl rfl rfl) (I rfl) (nw (by omega))) rfl ?_
              refine AWl.st rfl (OpT.indexAddrO rfl rfl (okd rfl rfl) (Root.ali rfl (by decide) (by decide)) rfl (by decide) (Tm rfl rfl rfl) el176 sz3 (by omega) (by assumption)) rfl ?_
              refine AWl.sg rfl (OpT.storeO rfl rfl (Tm rfl rfl rfl) rfl (by assumption) sz3 rfl (Tm rfl rfl rfl)) (Kc 107 (.pel _ _ _ _ _ _ _) rfl <| Kc 106 (.cel _ _) rfl <| Kc 105 (.cel _ _) rfl <| Kc 104 (.pel _ _ _ _ _ _ _) rfl <| Kc 103 (.cel _ _) rfl <| Kc 102 (.pel _ _ _ _ _ _ _) rfl <| Kc 101 (.ali _) rfl <| Kc 100 (.cel _ _) rfl <| Kc 99 (.cel _ _) rfl <| Kc 98 (.cel _ _) rfl <| Kc 97 (.cel _ _) rfl <| Kc 96 (.pel _ _ _ _ _ _ _) rfl <| Kc 95 (.cel _ _) rfl <| Kc 94 (.cel _ _) rfl <| Kc 93 (.cel _ _) rfl <| Kc 92 (.cel _ _) rfl <| Kc 91 (.cel _ _) rfl <| Kc 90 (.cel _ _) rfl <| Kc 89 (.cel _ _) rfl <| Kc 88 (.cel _ _) rfl <| Kc 87 (.cel _ _) rfl <| Kc 86 (.cel _ _) rfl <| Kc 85 (.cel _ _) rfl <| Kc 84 (.cel _ _) rfl <| Kc 83 (.cel _ _) rfl <| Kc 82 (.cel _ _) rfl <| Kc 81 (.cel _ _) rfl <| Kc 80 (.cel _ _) rfl <| Kc 79 (.pel _ _ _ _ _ _ _) rfl <| Kc 78 (.cel _ _) rfl <| Kc 77 (.cel _ _) rfl <| Kc 76 (.cel _ _) rfl <| Kc 75 (.pel _ _ _ _ _ _ _) rfl <| Kc 10 (.cel _ _) rfl <| Kc 11 (.box _ _ _) rfl <| Kc 74 (.agg _ _) rfl <| Kc 73 (.cel _ _) rfl <| Kc 72 (.cel _ _) rfl <| Kc 71 (.cel _ _) rfl <| Kc 0 (.cel _ _) rfl <| Kc 3 (.cel _ _) rfl <| Kc 6 (.own _ _ _) rfl <| Kc 7 (.own _ _ _) rfl <| Kc 68 (.cel _ _) rfl <| Kc 69 (.cel _ _) rfl <| Kc 70 (.cel _ _) rfl <| Kn) ?_
              refine AWl.nil ?_
              refine AX.go ?_
              rcases Bool.eq_false_or_eq_true (inb wt.2 0 95) with hd4 | hd4
              ·
                have hd4' := hd4; try simp only [decide_eq_true_eq, decide_eq_false_iff_not, beq_iff_eq, beq_eq_false_iff_ne, bne_iff_ne, bne_eq_false_iff_eq, ne_eq, Bool.not_eq_true', Bool.not_eq_false', Bool.and_eq_true, Bool.or_eq_true, Bool.or_eq_false_iff, Bool.and_eq_false_iff, Bool.not_true, Bool.not_false] at hd4'
                refine AW.dg fomo ?_
                refine DG.fr (d := 108) [] (DS rfl fun ve h => OpT.alias rfl rfl (okd rfl rfl) (by decide) (by decide)) rfl rfl ?_
                refine DG.fr (d := 109) [11] (DS rfl fun ve h => OpT.fieldAddrB rfl rfl (okd rfl rfl) (Root.self (t := 11) (by decide)) ((h _ (List.elem_iff.1 rfl)).trans rfl) (by decide) fd180_0 sz2 (by decide) sb180_0) rfl rfl ?_
                refine DG.fr (d := 110) [11, 109] (DS rfl fun ve h => OpT.loadP rfl rfl (okd rfl rfl) (D h rfl rfl rfl rfl) (.inl ⟨_, ((h _ (List.elem_iff.1 rfl)).trans rfl), rfl⟩) ag2 rfl) rfl rfl ?_
                refine DG.fr (d := 111) [11] (DS rfl fun ve h => OpT.fieldAddrB rfl rfl (okd rfl rfl) (Root.self (t := 11) (by decide)) ((h _ (List.elem_iff.1 rfl)).trans rfl) (by decide) fd180_1 sz51 (by decide) sb180_1) rfl rfl ?_
                refine DG.fr (d := 112) [11, 111] (DS rfl fun ve h => OpT.loadP rfl rfl (okd rfl rfl) (D h rfl rfl rfl rfl) (.inl ⟨_, ((h _ (List.elem_iff.1 rfl)).trans rfl), rfl⟩) ag51 rfl) rfl rfl ?_
                refine DG.fr (d := 113) [112] (DS rfl fun ve h => OpT.conv rfl rfl (okd rfl rfl) us51 Tryd.underlying2 (D h rfl rfl rfl rfl) (nw (by omega))) rfl rfl ?_
                refine DG.fr (d := 114) [113] (DS rfl fun ve h => OpT.c1 (ms := [.flat]) (c_impl_isHole _) rfl rfl (okd rfl rfl) (Af (D h rfl rfl rfl rfl) rfl rfl <| An) rfl rfl) rfl rfl ?_
                refine DG.fr (d := 115) [114] (DS rfl fun ve h => OpT.move (A := .cel _ _) (.inl rfl) rfl (okd rfl rfl) (D h rfl rfl rfl rfl) rfl) rfl rfl ?_
                refine DG.fr (d := 116) [3, 115] (DSr rfl rfl rfl rfl rfl hd4 fun ve h => OpT.fieldAddr rfl rfl (okd rfl rfl) (D h rfl rfl rfl rfl) fd71_0 sz68 (by decide) sb71_0) rfl rfl ?_
                refine DG.fr (d := 117) [115, 116] (DSr rfl rfl rfl rfl rfl hd4 fun ve h => OpT.loadA rfl rfl (okd rfl rfl) (D h rfl rfl rfl rfl) ag68 sz68) rfl rfl ?_
                refine DG.fr (d := 118) [0, 115] (DSr rfl rfl rfl rfl rfl hd4 fun ve h => OpT.move (A := .cel _ _) (.inl rfl) rfl (okd rfl rfl) (D h rfl rfl rfl rfl) rfl) rfl rfl ?_
                refine DG.fr (d := 119) [11, 115] (DSr rfl rfl rfl rfl rfl hd4 fun ve h => OpT.fieldAddrB rfl rfl (okd rfl rfl) (Root.self (t := 11) (by decide)) ((h _ (List.elem_iff.1 rfl)).trans rfl) (by decide) fd180_0 sz2 (by decide) sb180_0) rfl rfl ?_
                refine DG.fr (d := 120) [11, 115, 119] (DSr rfl rfl rfl rfl rfl hd4 fun ve h => OpT.loadP rfl rfl (okd rfl rfl) (D h rfl rfl rfl rfl) (.inl ⟨_, ((h _ (List.elem_iff.1 rfl)).trans rfl), rfl⟩) ag2 rfl) rfl rfl ?_
                refine DG.fr (d := 121) [115, 118, 120] (DSr rfl rfl rfl rfl rfl hd4 fun ve h => OpT.indexAddr rfl rfl (okd rfl rfl) (D h rfl rfl rfl rfl) (D h rfl rfl rfl rfl) el38 sz31 (by omega) (by assumption)) rfl rfl ?_
                refine DG.fr (d := 122) [115, 121] (DSr rfl rfl rfl rfl rfl hd4 fun ve h => OpT.fieldAddr rfl rfl (okd rfl rfl) (D h rfl rfl rfl rfl) fd31_1 sz29 (by decide) sb31_1) rfl rfl ?_
                refine DG.fr (d := 123) [115, 122] (DSr rfl rfl rfl rfl rfl hd4 fun ve h => OpT.loadA rfl rfl (okd rfl rfl) (D h rfl rfl rfl rfl) ag29 sz29) rfl rfl ?_
                refine DG.fr (d := 124) [11, 115] (DSr rfl rfl rfl rfl rfl hd4 fun ve h => OpT.fieldAddrB rfl rfl (okd rfl rfl) (Root.self (t := 11) (by decide)) ((h _ (List.elem_iff.1 rfl)).trans rfl) (by decide) fd180_1 sz51 (by decide) sb180_1) rfl rfl ?_
                refine DG.fr (d := 125) [11, 115, 124] (DSr rfl rfl rfl rfl rfl hd4 fun ve h => OpT.loadP rfl rfl (okd rfl rfl) (D h rfl rfl rfl rfl) (.inl ⟨_, ((h _ (List.elem_iff.1 rfl)).trans rfl), rfl⟩) ag51 rfl) rfl rfl ?_
                refine DG.fr (d := 126) [115, 125] (DSr rfl rfl rfl rfl rfl hd4 fun ve h => OpT.conv rfl rfl (okd rfl rfl) us51 Tryd.underlying2 (D h rfl rfl rfl rfl) (nw (by omega))) rfl rfl ?_
                refine DG.fr (d := 127) [115, 117, 123, 126] (DSr rfl rfl rfl rfl rfl hd4 fun ve h => OpT.c1 (ms := [.flat, .flat, .flat]) (c_impl_Query_isWitness _ _ _ (by have := hole_in (h := wt.2) (by assumption); omega)) rfl rfl (okd rfl rfl) (Af (D h rfl rfl rfl rfl) rfl rfl <| Af (D h rfl rfl rfl rfl) rfl rfl <| Af (D h rfl rfl rfl rfl) rfl rfl <| An) rfl rfl) rfl rfl ?_
                refine DG.fr (d := 128) [115, 127] (DS rfl fun ve h => OpT.pickT (A := .cel _ _) rfl rfl (okd rfl rfl) (D h rfl rfl rfl rfl) hd4 (D h rfl rfl rfl rfl) rfl) rfl rfl ?_
                refine DG.fr (d := 129) [7, 108, 110] (DS rfl fun ve h => OpT.indexAddrO rfl rfl (okd rfl rfl) (Root.ali ((h _ (List.elem_iff.1 rfl)).trans rfl) (by decide) (by decide)) ((h _ (List.elem_iff.1 rfl)).trans rfl) (by decide) (D h rfl rfl rfl rfl) el177 sz4 (by omega) (by assumption)) rfl rfl ?_
                refine DG.md (t := 7) [7, 128, 129] (DSm rfl fun ve h => OpT.storeO rfl rfl (D h rfl rfl rfl rfl) ((h _ (List.elem_iff.1 rfl)).trans rfl) (by assumption) sz4 rfl (D h rfl rfl rfl rfl)) ?_
                refine DG.nil ⟨by kernel_rfl, by kernel_rfl, ?_⟩
                refine AX.normal_block ?_
                refine AX.pr (Kc 7 (.own _ _ _) rfl <| Kc 129 (.pel _ _ _ _ _ _ _) rfl <| Kc 128 (.cel _ _) rfl <| Kc 127 (.cel _ _) rfl <| Kc 126 (.cel _ _) rfl <| Kc 125 (.cel _ _) rfl <| Kc 124 (.pel _ _ _ _ _ _ _) rfl <| Kc 123 (.agg _ _) rfl <| Kc 122 (.cel _ _) rfl <| Kc 121 (.cel _ _) rfl <| Kc 120 (.cel _ _) rfl <| Kc 119 (.pel _ _ _ _ _ _ _) rfl <| Kc 118 (.cel _ _) rfl <| Kc 117 (.agg _ _) rfl <| Kc 116 (.cel _ _) rfl <| Kc 115 (.cel _ _) rfl <| Kc 114 (.cel _ _) rfl <| Kc 113 (.cel _ _) rfl <| Kc 112 (.cel _ _) rfl <| Kc 111 (.pel _ _ _ _ _ _ _) rfl <| Kc 110 (.cel _ _) rfl <| Kc 109 (.pel _ _ _ _ _ _ _) rfl <| Kc 108 (.ali _) rfl <| Kc 107 (.pel _ _ _ _ _ _ _) rfl <| Kc 106 (.cel _ _) rfl <| Kc 105 (.cel _ _) rfl <| Kc 104 (.pel _ _ _ _ _ _ _) rfl <| Kc 103 (.cel _ _) rfl <| Kc 102 (.pel _ _ _ _ _ _ _) rfl <| Kc 101 (.ali _) rfl <| Kc 100 (.cel _ _) rfl <| Kc 99 (.cel _ _) rfl <| Kc 98 (.cel _ _) rfl <| Kc 97 (.cel _ _) rfl <| Kc 96 (.pel _ _ _ _ _ _ _) rfl <| Kc 95 (.cel _ _) rfl <| Kc 94 (.cel _ _) rfl <| Kc 93 (.cel _ _) rfl <| Kc 92 (.cel _ _) rfl <| Kc 91 (.cel _ _) rfl <| Kc 90 (.cel _ _) rfl <| Kc 89 (.cel _ _) rfl <| Kc 88 (.cel _ _) rfl <| Kc 87 (.cel _ _) rfl <| Kc 86 (.cel _ _) rfl <| Kc 85 (.cel _ _) rfl <| Kc 84 (.cel _ _) rfl <| Kc 83 (.cel _ _) rfl <| Kc 82 (.cel _ _) rfl <| Kc 81 (.cel _ _) rfl <| Kc 80 (.cel _ _) rfl <| Kc 79 (.pel _ _ _ _ _ _ _) rfl <| Kc 78 (.cel _ _) rfl <| Kc 77 (.cel _ _) rfl <| Kc 76 (.cel _ _) rfl <| Kc 75 (.pel _ _ _ _ _ _ _) rfl <| Kc 10 (.cel _ _) rfl <| Kc 11 (.box _ _ _) rfl <| Kc 74 (.agg _ _) rfl <| Kc 73 (.cel _ _) rfl <| Kc 72 (.cel _ _) rfl <| Kc 71 (.cel _ _) rfl <| Kc 0 (.cel _ _) rfl <| Kc 3 (.cel _ _) rfl <| Kc 6 (.own _ _ _) rfl <| Kc 68 (.cel _ _) rfl <| Kc 69 (.cel _ _) rfl <| Kc 70 (.cel _ _) rfl <| Kn) ?_
                refine AX.go ?_
                refine AW.region ?_
                refine AWl.st rfl (OpT.add rfl rfl (okd rfl rfl) (Tm rfl rfl rfl) (I rfl) (nw (by omega))) rfl ?_
                refine AWl.sg rfl (OpT.move (A := .cel _ _) (.inl rfl) rfl (okd rfl rfl) (Tm rfl rfl rfl) rfl) (Kc 70 (.cel _ _) rfl <| Kc 130 (.cel _ _) rfl <| Kc 7 (.own _ _ _) rfl <| Kc 129 (.pel _ _ _ _ _ _ _) rfl <| Kc 128 (.cel _ _) rfl <| Kc 127 (.cel _ _) rfl <| Kc 126 (.cel _ _) rfl <| Kc 125 (.cel _ _) rfl <| Kc 124 (.pel _ _ _ _ _ _ _) rfl <| Kc 123 (.agg _ _) rfl <| Kc 122 (.cel _ _) rfl <| Kc 121 (.cel _ _) rfl <| Kc 120 (.cel _ _) rfl <| Kc 119 (.pel _ _ _ _ _ _ _) rfl <| Kc 118 (.cel _ _) rfl <| Kc 117 (.agg _ _) rfl <| Kc 116 (.cel _ _) rfl <| Kc 115 (.cel _ _) rfl <| Kc 114 (.cel _ _) rfl <| Kc 113 (.cel _ _) rfl <| Kc 112 (.cel _ _) rfl <| Kc 111 (.pel _ _ _ _ _ _ _) rfl <| Kc 110 (.cel _ _) rfl <| Kc 109 (.pel _ _ _ _ _ _ _) rfl <| Kc 108 (.ali _) rfl <| Kc 107 (.pel _ _ _ _ _ _ _) rfl <| Kc 106 (.cel _ _) rfl <| Kc 105 (.cel _ _) rfl <| Kc 104 (.pel _ _ _ _ _ _ _) rfl <| Kc 103 (.cel _ _) rfl <| Kc 102 (.pel _ _ _ _ _ _ _) rfl <| Kc 101 (.ali _) rfl <| Kc 100 (.cel _ _) rfl <| Kc 99 (.cel _ _) rfl <| Kc 98 (.cel _ _) rfl <| Kc 97 (.cel _ _) rfl <| Kc 96 (.pel _ _ _ _ _ _ _) rfl <| Kc 95 (.cel _ _) rfl <| Kc 94 (.cel _ _) rfl <| Kc 93 (.cel _ _) rfl <| Kc 92 (.cel _ _) rfl <| Kc 91 (.cel _ _) rfl <| Kc 90 (.cel _ _) rfl <| Kc 89 (.cel _ _) rfl <| Kc 88 (.cel _ _) rfl <| Kc 87 (.cel _ _) rfl <| Kc 86 (.cel _ _) rfl <| Kc 85 (.cel _ _) rfl <| Kc 84 (.cel _ _) rfl <| Kc 83 (.cel _ _) rfl <| Kc 82 (.cel _ _) rfl <| Kc 81 (.cel _ _) rfl <| Kc 80 (.cel _ _) rfl <| Kc 79 (.pel _ _ _ _ _ _ _) rfl <| Kc 78 (.cel _ _) rfl <| Kc 77 (.cel _ _) rfl <| Kc 76 (.cel _ _) rfl <| Kc 75 (.pel _ _ _ _ _ _ _) rfl <| Kc 10 (.cel _ _) rfl <| Kc 11 (.box _ _ _) rfl <| Kc 74 (.agg _ _) rfl <| Kc 73 (.cel _ _) rfl <| Kc 72 (.cel _ _) rfl <| Kc 71 (.cel _ _) rfl <| Kc 0 (.cel _ _) rfl <| Kc 3 (.cel _ _) rfl <| Kc 6 (.own _ _ _) rfl <| Kc 68 (.cel _ _) rfl <| Kc 69 (.cel _ _) rfl <| Kn) ?_
                refine AWl.nil ?_
                exact AX.again (y + 1) ⟨by omega, all_step hI.2 (hio.2 hyes)⟩ (by omega) (Kc 0 _ (Kv rfl rfl) <| Kc 3 _ (Kv rfl rfl) <| Kc 6 _ (Ko rfl (cnt_next (map_next hwt) (by omega) hcv)) <| Kc 7 _ (Ko rfl (by first | exact rtB_no hwt (by assumption) | exact rtB_yes hwt he (by assumption))) <| Kc 68 _ (Kv rfl rfl) <| Kc 69 _ (Kv rfl rfl) <| Kc 70 _ (Kv rfl (by omega)) <| Kn)
              ·
                have hd4' := hd4; try simp only [decide_eq_true_eq, decide_eq_false_iff_not, beq_iff_eq, beq_eq_false_iff_ne, bne_iff_ne, bne_eq_false_iff_eq, ne_eq, Bool.not_eq_true', Bool.not_eq_false', Bool.and_eq_true, Bool.or_eq_true, Bool.or_eq_false_iff, Bool.and_eq_false_iff, Bool.not_true, Bool.not_false] at hd4'
                refine AW.dg fomo ?_
                refine DG.fr (d := 108) [] (DS rfl fun ve h => OpT.alias rfl rfl (okd rfl rfl) (by decide) (by decide)) rfl rfl ?_
                refine DG.fr (d := 109) [11] (DS rfl fun ve h => OpT.fieldAddrB rfl rfl (okd rfl rfl) (Root.self (t := 11) (by decide)) ((h _ (List.elem_iff.1 rfl)).trans rfl) (by decide) fd180_0 sz2 (by decide) sb180_0) rfl rfl ?_
                refine DG.fr (d := 110) [11, 109] (DS rfl fun ve h => OpT.loadP rfl rfl (okd rfl rfl) (D h rfl rfl rfl rfl) (.inl ⟨_, ((h _ (List.elem_iff.1 rfl)).trans rfl), rfl⟩) ag2 rfl) rfl rfl ?_
                refine DG.fr (d := 111) [11] (DS rfl fun ve h => OpT.fieldAddrB rfl rfl (okd rfl rfl) (Root.self (t := 11) (by decide)) ((h _ (List.elem_iff.1 rfl)).trans rfl) (by decide) fd180_1 sz51 (by decide) sb180_1) rfl rfl ?_
                refine DG.fr (d := 112) [11, 111] (DS rfl fun ve h => OpT.loadP rfl rfl (okd rfl rfl) (D h rfl rfl rfl rfl) (.inl ⟨_, ((h _ (List.elem_iff.1 rfl)).trans rfl), rfl⟩) ag51 rfl) rfl rfl ?_
                refine DG.fr (d := 113) [112] (DS rfl fun ve h => OpT.conv rfl rfl (okd rfl rfl) us51 Tryd.underlying2 (D h rfl rfl rfl rfl) (nw (by omega))) rfl rfl ?_
                refine DG.fr (d := 114) [113] (DS rfl fun ve h => OpT.c1 (ms := [.flat]) (c_impl_isHole _) rfl rfl (okd rfl rfl) (Af (D h rfl rfl rfl rfl) rfl rfl <| An) rfl rfl) rfl rfl ?_
                refine DG.fr (d := 115) [114] (DS rfl fun ve h => OpT.move (A := .cel _ _) (.inl rfl) rfl (okd rfl rfl) (D h rfl rfl rfl rfl) rfl) rfl rfl ?_
                refine DG.pas (d := 116) [115] (DSp rfl rfl rfl rfl rfl hd4 rfl (okd rfl rfl)) rfl rfl ?_
                refine DG.pas (d := 117) [115] (DSp rfl rfl rfl rfl rfl hd4 rfl (okd rfl rfl)) rfl rfl ?_
                refine DG.pas (d := 118) [115] (DSp rfl rfl rfl rfl rfl hd4 rfl (okd rfl rfl)) rfl rfl ?_
                refine DG.pas (d := 119) [115] (DSp rfl rfl rfl rfl rfl hd4 rfl (okd rfl rfl)) rfl rfl ?_
                refine DG.pas (d := 120) [115] (DSp rfl rfl rfl rfl rfl hd4 rfl (okd rfl rfl)) rfl rfl ?_
                refine DG.pas (d := 121) [115] (DSp rfl rfl rfl rfl rfl hd4 rfl (okd rfl rfl)) rfl rfl ?_
                refine DG.pas (d := 122) [115] (DSp rfl rfl rfl rfl rfl hd4 rfl (okd rfl rfl)) rfl rfl ?_
                refine DG.pas (d := 123) [115] (DSp rfl rfl rfl rfl rfl hd4 rfl (okd rfl rfl)) rfl rfl ?_
                refine DG.pas (d := 124) [115] (DSp rfl rfl rfl rfl rfl hd4 rfl (okd rfl rfl)) rfl rfl ?_
                refine DG.pas (d := 125) [115] (DSp rfl rfl rfl rfl rfl hd4 rfl (okd rfl rfl)) rfl rfl ?_
                refine DG.pas (d := 126) [115] (DSp rfl rfl rfl rfl rfl hd4 rfl (okd rfl rfl)) rfl rfl ?_
                refine DG.pas (d := 127) [115] (DSp rfl rfl rfl rfl rfl hd4 rfl (okd rfl rfl)) rfl rfl ?_
                refine DG.fr (d := 128) [115] (DS rfl fun ve h => OpT.pickF (A := .cel _ _) rfl rfl (okd rfl rfl) (D h rfl rfl rfl rfl) hd4 Opd.bool rfl) rfl rfl ?_
                refine DG.fr (d := 129) [7, 108, 110] (DS rfl fun ve h => OpT.indexAddrO rfl rfl (okd rfl rfl) (Root.ali ((h _ (List.elem_iff.1 rfl)).trans rfl) (by decide) (by decide)) ((h _ (List.elem_iff.1 rfl)).trans rfl) (by decide) (D h rfl rfl rfl rfl) el177 sz4 (by omega) (by assumption)) rfl rfl ?_
                refine DG.md (t := 7) [7, 128, 129] (DSm rfl fun ve h => OpT.storeO rfl rfl (D h rfl rfl rfl rfl) ((h _ (List.elem_iff.1 rfl)).trans rfl) (by assumption) sz4 rfl (D h rfl rfl rfl rfl)) ?_
                refine DG.nil ⟨by kernel_rfl, by kernel_rfl, ?_⟩
                refine AX.normal_block ?_
                refine AX.pr (Kc 7 (.own _ _ _) rfl <| Kc 129 (.pel _ _ _ _ _ _ _) rfl <| Kc 128 (.cel _ _) rfl <| Kc 115 (.cel _ _) rfl <| Kc 114 (.cel _ _) rfl <| Kc 113 (.cel _ _) rfl <| Kc 112 (.cel _ _) rfl <| Kc 111 (.pel _ _ _ _ _ _ _) rfl <| Kc 110 (.cel _ _) rfl <| Kc 109 (.pel _ _ _ _ _ _ _) rfl <| Kc 108 (.ali _) rfl <| Kc 107 (.pel _ _ _ _ _ _ _) rfl <| Kc 106 (.cel _ _) rfl <| Kc 105 (.cel _ _) rfl <| Kc 104 (.pel _ _ _ _ _ _ _) rfl <| Kc 103 (.cel _ _) rfl <| Kc 102 (.pel _ _ _ _ _ _ _) rfl <| Kc 101 (.ali _) rfl <| Kc 100 (.cel _ _) rfl <| Kc 99 (.cel _ _) rfl <| Kc 98 (.cel _ _) rfl <| Kc 97 (.cel _ _) rfl <| Kc 96 (.pel _ _ _ _ _ _ _) rfl <| Kc 95 (.cel _ _) rfl <| Kc 94 (.cel _ _) rfl <| Kc 93 (.cel _ _) rfl <| Kc 92 (.cel _ _) rfl <| Kc 91 (.cel _ _) rfl <| Kc 90 (.cel _ _) rfl <| Kc 89 (.cel _ _) rfl <| Kc 88 (.cel _ _) rfl <| Kc 87 (.cel _ _) rfl <| Kc 86 (.cel _ _) rfl <| Kc 85 (.cel _ _) rfl <| Kc 84 (.cel _ _) rfl <| Kc 83 (.cel _ _) rfl <| Kc 82 (.cel _ _) rfl <| Kc 81 (.cel _ _) rfl <| Kc 80 (.cel _ _) rfl <| Kc 79 (.pel _ _ _ _ _ _ _) rfl <| Kc 78 (.cel _ _) rfl <| Kc 77 (.cel _ _) rfl <| Kc 76 (.cel _ _) rfl <| Kc 75 (.pel _ _ _ _ _ _ _) rfl <| Kc 10 (.cel _ _) rfl <| Kc 11 (.box _ _ _) rfl <| Kc 74 (.agg _ _) rfl <| Kc 73 (.cel _ _) rfl <| Kc 72 (.cel _ _) rfl <| Kc 71 (.cel _ _) rfl <| Kc 0 (.cel _ _) rfl <| Kc 3 (.cel _ _) rfl <| Kc 6 (.own _ _ _) rfl <| Kc 68 (.cel _ _) rfl <| Kc 69 (.cel _ _) rfl <| Kc 70 (.cel _ _) rfl <| Kn) ?_
                refine AX.go ?_
                refine AW.region ?_
                refine AWl.st rfl (OpT.add rfl rfl (okd rfl rfl) (Tm rfl rfl rfl) (I rfl) (nw (by omega))) rfl ?_
                refine AWl.sg rfl (OpT.move (A := .cel _ _) (.inl rfl) rfl (okd rfl rfl) (Tm rfl rfl rfl) rfl) (Kc 70 (.cel _ _) rfl <| Kc 130 (.cel _ _) rfl <| Kc 7 (.own _ _ _) rfl <| Kc 129 (.pel _ _ _ _ _ _ _) rfl <| Kc 128 (.cel _ _) rfl <| Kc 115 (.cel _ _) rfl <| Kc 114 (.cel _ _) rfl <| Kc 113 (.cel _ _) rfl <| Kc 112 (.cel _ _) rfl <| Kc 111 (.pel _ _ _ _ _ _ _) rfl <| Kc 110 (.cel _ _) rfl <| Kc 109 (.pel _ _ _ _ _ _ _) rfl <| Kc 108 (.ali _) rfl <| Kc 107 (.pel _ _ _ _ _ _ _) rfl <| Kc 106 (.cel _ _) rfl <| Kc 105 (.cel _ _) rfl <| Kc 104 (.pel _ _ _ _ _ _ _) rfl <| Kc 103 (.cel _ _) rfl <| Kc 102 (.pel _ _ _ _ _ _ _) rfl <| Kc 101 (.ali _) rfl <| Kc 100 (.cel _ _) rfl <| Kc 99 (.cel _ _) rfl <| Kc 98 (.cel _ _) rfl <| Kc 97 (.cel _ _) rfl <| Kc 96 (.pel _ _ _ _ _ _ _) rfl <| Kc 95 (.cel _ _) rfl <| Kc 94 (.cel _ _) rfl <| Kc 93 (.cel _ _) rfl <| Kc 92 (.cel _ _) rfl <| Kc 91 (.cel _ _) rfl <| Kc 90 (.cel _ _) rfl <| Kc 89 (.cel _ _) rfl <| Kc 88 (.cel _ _) rfl <| Kc 87 (.cel _ _) rfl <| Kc 86 (.cel _ _) rfl <| Kc 85 (.cel _ _) rfl <| Kc 84 (.cel _ _) rfl <| Kc 83 (.cel _ _) rfl <| Kc 82 (.cel _ _) rfl <| Kc 81 (.cel _ _) rfl <| Kc 80 (.cel _ _) rfl <| Kc 79 (.pel _ _ _ _ _ _ _) rfl <| Kc 78 (.cel _ _) rfl <| Kc 77 (.cel _ _) rfl <| Kc 76 (.cel _ _) rfl <| Kc 75 (.pel _ _ _ _ _ _ _) rfl <| Kc 10 (.cel _ _) rfl <| Kc 11 (.box _ _ _) rfl <| Kc 74 (.agg _ _) rfl <| Kc 73 (.cel _ _) rfl <| Kc 72 (.cel _ _) rfl <| Kc 71 (.cel _ _) rfl <| Kc 0 (.cel _ _) rfl <| Kc 3 (.cel _ _) rfl <| Kc 6 (.own _ _ _) rfl <| Kc 68 (.cel _ _) rfl <| Kc 69 (.cel _ _) rfl <| Kn) ?_
                refine AWl.nil ?_
                exact AX.again (y + 1) ⟨by omega, all_step hI.2 (hio.2 hyes)⟩ (by omega) (Kc 0 _ (Kv rfl rfl) <| Kc 3 _ (Kv rfl rfl) <| Kc 6 _ (Ko rfl (cnt_next (map_next hwt) (by omega) hcv)) <| Kc 7 _ (Ko rfl (by first | exact rtB_no hwt (by assumption) | exact rtB_yes hwt he (by assumption))) <| Kc 68 _ (Kv rfl rfl) <| Kc 69 _ (Kv rfl rfl) <| Kc 70 _ (Kv rfl (by omega)) <| Kn)
          ·
            have hd3' := hd3; try simp only [decide_eq_true_eq, decide_eq_false_iff_not, beq_iff_eq, beq_eq_false_iff_ne, bne_iff_ne, bne_eq_false_iff_eq, ne_eq, Bool.not_eq_true', Bool.not_eq_false', Bool.and_eq_true, Bool.or_eq_true, Bool.or_eq_false_iff, Bool.and_eq_false_iff, Bool.not_true, Bool.not_false] at hd3'
            refine AW.dg fomo ?_
            refine DG.fr (d := 75) [11] (DS rfl fun ve h => OpT.fieldAddrB rfl rfl (okd rfl rfl) (Root.self (t := 11) (by decide)) ((h _ (List.elem_iff.1 rfl)).trans rfl) (by decide) fd180_0 sz2 (by decide) sb180_0) rfl rfl ?_
            refine DG.fr (d := 76) [11, 75] (DS rfl fun ve h => OpT.loadP rfl rfl (okd rfl rfl) (D h rfl rfl rfl rfl) (.inl ⟨_, ((h _ (List.elem_iff.1 rfl)).trans rfl), rfl⟩) ag2 rfl) rfl rfl ?_
            refine DG.fr (d := 77) [76] (DS rfl fun ve h => OpT.lss rfl rfl (okd rfl rfl) (D h rfl rfl rfl rfl) (I rfl)) rfl rfl ?_
            refine DG.fr (d := 78) [77] (DS rfl fun ve h => OpT.move (A := .cel _ _) (.inl rfl) rfl (okd rfl rfl) (D h rfl rfl rfl rfl) rfl) rfl rfl ?_
            refine DG.fr (d := 79) [11, 78] (DSr rfl rfl rfl rfl rfl hd1 fun ve h => OpT.fieldAddrB rfl rfl (okd rfl rfl) (Root.self (t := 11) (by decide)) ((h _ (List.elem_iff.1 rfl)).trans rfl) (by decide) fd180_0 sz2 (by decide) sb180_0) rfl rfl ?_
            refine DG.fr (d := 80) [11, 78, 79] (DSr rfl rfl rfl rfl rfl hd1 fun ve h => OpT.loadP rfl rfl (okd rfl rfl) (D h rfl rfl rfl rfl) (.inl ⟨_, ((h _ (List.elem_iff.1 rfl)).trans rfl), rfl⟩) ag2 rfl) rfl rfl ?_
            refine DG.fr (d := 81) [0, 78] (DSr rfl rfl rfl rfl rfl hd1 fun ve h => OpT.move (A := .cel _ _) (.inl rfl) rfl (okd rfl rfl) (D h rfl rfl rfl rfl) rfl) rfl rfl ?_
            refine DG.fr (d := 82) [78, 81] (DSr rfl rfl rfl rfl rfl hd1 fun ve h => OpT.len rfl rfl (okd rfl rfl) (D h rfl rfl rfl rfl) el38) rfl rfl ?_
            refine DG.fr (d := 83) [78, 80, 82] (DSr rfl rfl rfl rfl rfl hd1 fun ve h => OpT.geq rfl rfl (okd rfl rfl) (D h rfl rfl rfl rfl) (D h rfl rfl rfl rfl)) rfl rfl ?_
            refine DG.fr (d := 84) [78, 83] (DS rfl fun ve h => OpT.pickF (A := .cel _ _) rfl rfl (okd rfl rfl) (D h rfl rfl rfl rfl) hd1 (D h rfl rfl rfl rfl) rfl) rfl rfl ?_
            refine DG.fr (d := 85) [84] (DS rfl fun ve h => OpT.move (A := .cel _ _) (.inl rfl) rfl (okd rfl rfl) (D h rfl rfl rfl rfl) rfl) rfl rfl ?_
            refine DG.fr (d := 86) [10, 85] (DSr rfl rfl rfl rfl rfl hd2 fun ve h => OpT.move (A := .cel _ _) (.inl rfl) rfl (okd rfl rfl) (D h rfl rfl rfl rfl) rfl) rfl rfl ?_
            refine DG.fr (d := 87) [85, 86] (DSr rfl rfl rfl rfl rfl hd2 fun ve h => OpT.gtr rfl rfl (okd rfl rfl) (D h rfl rfl rfl rfl) (I rfl)) rfl rfl ?_
            refine DG.fr (d := 88) [85, 87] (DSr rfl rfl rfl rfl rfl hd2 fun ve h => OpT.move (A := .cel _ _) (.inl rfl) rfl (okd rfl rfl) (D h rfl rfl rfl rfl) rfl) rfl rfl ?_
            refine DG.pas (d := 89) [88] (DSp rfl rfl rfl rfl rfl hd3 rfl (okd rfl rfl)) rfl rfl ?_
            refine DG.pas (d := 90) [88] (DSp rfl rfl rfl rfl rfl hd3 rfl (okd rfl rfl)) rfl rfl ?_
            refine DG.pas (d := 91) [88] (DSp rfl rfl rfl rfl rfl hd3 rfl (okd rfl rfl)) rfl rfl ?_
            refine DG.pas (d := 92) [88] (DSp rfl rfl rfl rfl rfl hd3 rfl (okd rfl rfl)) rfl rfl ?_
            refine DG.pas (d := 93) [88] (DSp rfl rfl rfl rfl rfl hd3 rfl (okd rfl rfl)) rfl rfl ?_
            refine DG.pas (d := 94) [88] (DSp rfl rfl rfl rfl rfl hd3 rfl (okd rfl rfl)) rfl rfl ?_
            refine DG.pas (d := 95) [88] (DSp rfl rfl rfl rfl rfl hd3 rfl (okd rfl rfl)) rfl rfl ?_
            refine DG.pas (d := 96) [88] (DSp rfl rfl rfl rfl rfl hd3 rfl (okd rfl rfl)) rfl rfl ?_
            refine DG.pas (d := 97) [88] (DSp rfl rfl rfl rfl rfl hd3 rfl (okd rfl rfl)) rfl rfl ?_
            refine DG.pas (d := 98) [88] (DSp rfl rfl rfl rfl rfl hd3 rfl (okd rfl rfl)) rfl rfl ?_
            refine DG.fr (d := 99) [85, 88] (DSr rfl rfl rfl rfl rfl hd2 fun ve h => OpT.pickF (A := .cel _ _) rfl rfl (okd rfl rfl) (D h rfl rfl rfl rfl) hd3 Opd.bool rfl) rfl rfl ?_
            refine DG.fr (d := 100) [85, 99] (DS rfl fun ve h => OpT.pickF (A := .cel _ _) rfl rfl (okd rfl rfl) (D h rfl rfl rfl rfl) hd2 (D h rfl rfl rfl rfl) rfl) rfl rfl ?_
            refine DG.nil ⟨by kernel_rfl, by kernel_rfl, ?_⟩
            refine AX.go ?_
            refine AW.cond (t := 100) rfl (by decide) (fun hc7 => ?_) (fun hc7 => ?_)
            ·
              try simp only [decide_eq_true_eq, decide_eq_false_iff_not, Bool.not_eq_true', Bool.not_eq_false'] at hc7
              have hc7' := hc7; try simp only [decide_eq_true_eq, decide_eq_false_iff_not, beq_iff_eq, beq_eq_false_iff_ne, bne_iff_ne, bne_eq_false_iff_eq, ne_eq, Bool.not_eq_true', Bool.not_eq_false', Bool.and_eq_true, Bool.or_eq_true, Bool.or_eq_false_iff, Bool.and_eq_false_iff, Bool.not_true, Bool.not_false] at hc7'
              exact absurd hc7 (by decide)
            ·
              try simp only [decide_eq_true_eq, decide_eq_false_iff_not, Bool.not_eq_true', Bool.not_eq_false'] at hc7
              have hc7' := hc7; try simp only [decide_eq_true_eq, decide_eq_false_iff_not, beq_iff_eq, beq_eq_false_iff_ne, bne_iff_ne, bne_eq_false_iff_eq, ne_eq, Bool.not_eq_true', Bool.not_eq_false', Bool.and_eq_true, Bool.or_eq_true, Bool.or_eq_false_iff, Bool.and_eq_false_iff, Bool.not_true, Bool.not_false] at hc7'
              have hyes : 0 ≤ wt.1 ∧ wt.1 < (x.length : Int) ∧ (0 < y → wp.1 < wt.1) := by omega
              have hol : (v.2.1 ++ (v.2.2.map (·.1)).take y).length ≤ 2097152 := by (rw [List.length_append, List.length_take, List.length_map]; omega)
              obtain ⟨e, he⟩ := get_of_len (r := x) rfl (c := wt.1) (by omega)
              obtain ⟨cv, hcv, hcv1⟩ := cntL_in (b := 0) (a := wt.1) (n := x.length) (l := v.2.1 ++ (v.2.2.map (·.1)).take y) (by omega) (by omega)
              obtain ⟨rv, hrv⟩ := get_of_len (rtB_len v.1 x v.2.1 (v.2.2.take y)) (c := wt.1) (by omega)
              refine AW.skip ?_
              refine AX.go ?_
              refine AW.seq ?_
              refine AW.region ?_
              refine AWl.st rfl (OpT.alias rfl rfl (okd rfl rfl) (by decide) (by decide)) rfl ?_
              refine AWl.st rfl (OpT.fieldAddrB rfl rfl (okd rfl rfl) (Root.self (t := 11) (by decide)) rfl (by decide) fd180_0 sz2 (by decide) sb180_0) rfl ?_
              refine AWl.st rfl (OpT.loadP rfl rfl (okd rfl rfl) (Tm rfl rfl rfl) (.inl ⟨_, rfl, rfl⟩) ag2 rfl) rfl ?_
              refine AWl.st rfl (OpT.indexAddrO rfl rfl (okd rfl rfl) (Root.ali rfl (by decide) (by decide)) rfl (by decide) (Tm rfl rfl rfl) el176 sz3 (by omega) (by assumption)) rfl ?_
              refine AWl.st rfl (OpT.loadP rfl rfl (okd rfl rfl) (Tm rfl rfl rfl) (.inr ⟨_, _, rfl, (by assumption)⟩) ag3 rfl) rfl ?_
              refine AWl.st rfl (OpT.add rfl rfl (okd rfl rfl) (Tm rfl rfl rfl) (I rfl) (nw (by omega))) rfl ?_
              refine AWl.st rfl (OpT.indexAddrO rfl rfl (okd rfl rfl) (Root.ali rfl (by decide) (by decide)) rfl (by decide) (Tm rfl rfl rfl) el176 sz3 (by omega) (by assumption)) rfl ?_
              refine AWl.sg rfl (OpT.storeO rfl rfl (Tm rfl rfl rfl) rfl (by assumption) sz3 rfl (Tm rfl rfl rfl)) (Kc 107 (.pel _ _ _ _ _ _ _) rfl <| Kc 106 (.cel _ _) rfl <| Kc 105 (.cel _ _) rfl <| Kc 104 (.pel _ _ _ _ _ _ _) rfl <| Kc 103 (.cel _ _) rfl <| Kc 102 (.pel _ _ _ _ _ _ _) rfl <| Kc 101 (.ali _) rfl <| Kc 100 (.cel _ _) rfl <| Kc 99 (.cel _ _) rfl <| Kc 88 (.cel _ _) rfl <| Kc 87 (.cel _ _) rfl <| Kc 86 (.cel _ _) rfl <| Kc 85 (.cel _ _) rfl <| Kc 84 (.cel _ _) rfl <| Kc 83 (.cel _ _) rfl <| Kc 82 (.cel _ _) rfl <| Kc 81 (.cel _ _) rfl <| Kc 80 (.cel _ _) rfl <| Kc 79 (.pel _ _ _ _ _ _ _) rfl <| Kc 78 (.cel _ _) rfl <| Kc 77 (.cel _ _) rfl <| Kc 76 (.cel _ _) rfl <| Kc 75 (.pel _ _ _ _ _ _ _) rfl <| Kc 10 (.cel _ _) rfl <| Kc 11 (.box _ _ _) rfl <| Kc 74 (.agg _ _) rfl <| Kc 73 (.cel _ _) rfl <| Kc 72 (.cel _ _) rfl <| Kc 71 (.cel _ _) rfl <| Kc 0 (.cel _ _) rfl <| Kc 3 (.cel _ _) rfl <| Kc 6 (.own _ _ _) rfl <| Kc 7 (.own _ _ _) rfl <| Kc 68 (.cel _ _) rfl <| Kc 69 (.cel _ _) rfl <| Kc 70 (.cel _ _) rfl <| Kn) ?_
              refine AWl.nil ?_
              refine AX.go ?_
              rcases Bool.eq_false_or_eq_true (inb wt.2 0 95) with hd5 | hd5
              ·
                have hd5' := hd5; try simp only [decide_eq_true_eq, decide_eq_false_iff_not, beq_iff_eq, beq_eq_false_iff_ne, bne_iff_ne, bne_eq_false_iff_eq, ne_eq, Bool.not_eq_true', Bool.not_eq_false', Bool.and_eq_true, Bool.or_eq_true, Bool.or_eq_false_iff, Bool.and_eq_false_iff, Bool.not_true, Bool.not_false] at hd5'
                refine AW.dg fomo ?_
                refine DG.fr (d := 108) [] (DS rfl fun ve h => OpT.alias rfl rfl (okd rfl rfl) (by decide) (by decide)) rfl rfl ?_
                refine DG.fr (d := 109) [11] (DS rfl fun ve h => OpT.fieldAddrB rfl rfl (okd rfl rfl) (Root.self (t := 11) (by decide)) ((h _ (List.elem_iff.1 rfl)).trans rfl) (by decide) fd180_0 sz2 (by decide) sb180_0) rfl rfl ?_
                refine DG.fr (d := 110) [11, 109] (DS rfl fun ve h => OpT.loadP rfl rfl (okd rfl rfl) (D h rfl rfl rfl rfl) (.inl ⟨_, ((h _ (List.elem_iff.1 rfl)).trans rfl), rfl⟩) ag2 rfl) rfl rfl ?_
                refine DG.fr (d := 111) [11] (DS rfl fun ve h => OpT.fieldAddrB rfl rfl (okd rfl rfl) (Root.self (t := 11) (by decide)) ((h _ (List.elem_iff.1 rfl)).trans rfl) (by decide) fd180_1 sz51 (by decide) sb180_1) rfl rfl ?_
                refine DG.fr (d := 112) [11, 111] (DS rfl fun ve h => OpT.loadP rfl rfl (okd rfl rfl) (D h rfl rfl rfl rfl) (.inl ⟨_, ((h _ (List.elem_iff.1 rfl)).trans rfl), rfl⟩) ag51 rfl) rfl rfl ?_
                refine DG.fr (d := 113) [112] (DS rfl fun ve h => OpT.conv rfl rfl (okd rfl rfl) us51 Tryd.underlying2 (D h rfl rfl rfl rfl) (nw (by omega))) rfl rfl ?_
                refine DG.fr (d := 114) [113] (DS rfl fun ve h => OpT.c1 (ms := [.flat]) (c_impl_isHole _) rfl rfl (okd rfl rfl) (Af (D h rfl rfl rfl rfl) rfl rfl <| An) rfl rfl) rfl rfl ?_
                refine DG.fr (d := 115) [114] (DS rfl fun ve h => OpT.move (A := .cel _ _) (.inl rfl) rfl (okd rfl rfl) (D h rfl rfl rfl rfl) rfl) rfl rfl ?_
                refine DG.fr (d := 116) [3, 115] (DSr rfl rfl rfl rfl rfl hd5 fun ve h => OpT.fieldAddr rfl rfl (okd rfl rfl) (D h rfl rfl rfl rfl) fd71_0 sz68 (by decide) sb71_0) rfl rfl ?_
                refine DG.fr (d := 117) [115, 116] (DSr rfl rfl rfl rfl rfl hd5 fun ve h => OpT.loadA rfl rfl (okd rfl rfl) (D h rfl rfl rfl rfl) ag68 sz68) rfl rfl ?_
                refine DG.fr (d := 118) [0, 115] (DSr rfl rfl rfl rfl rfl hd5 fun ve h => OpT.move (A := .cel _ _) (.inl rfl) rfl (okd rfl rfl) (D h rfl rfl rfl rfl) rfl) rfl rfl ?_
                refine DG.fr (d := 119) [11, 115] (DSr rfl rfl rfl rfl rfl hd5 fun ve h => OpT.fieldAddrB rfl rfl (okd rfl rfl) (Root.self (t := 11) (by decide)) ((h _ (List.elem_iff.1 rfl)).trans rfl) (by decide) fd180_0 sz2 (by decide) sb180_0) rfl rfl ?_
                refine DG.fr (d := 120) [11, 115, 119] (DSr rfl rfl rfl rfl rfl hd5 fun ve h => OpT.loadP rfl rfl (okd rfl rfl) (D h rfl rfl rfl rfl) (.inl ⟨_, ((h _ (List.elem_iff.1 rfl)).trans rfl), rfl⟩) ag2 rfl) rfl rfl ?_
                refine DG.fr (d := 121) [115, 118, 120] (DSr rfl rfl rfl rfl rfl hd5 fun ve h => OpT.indexAddr rfl rfl (okd rfl rfl) (D h rfl rfl rfl rfl) (D h rfl rfl rfl rfl) el38 sz31 (by omega) (by assumption)) rfl rfl ?_
                refine DG.fr (d := 122) [115, 121] (DSr rfl rfl rfl rfl rfl hd5 fun ve h => OpT.fieldAddr rfl rfl (okd rfl rfl) (D h rfl rfl rfl rfl) fd31_1 sz29 (by decide) sb31_1) rfl rfl ?_
                refine DG.fr (d := 123) [115, 122] (DSr rfl rfl rfl rfl rfl hd5 fun ve h => OpT.loadA rfl rfl (okd rfl rfl) (D h rfl rfl rfl rfl) ag29 sz29) rfl rfl ?_
                refine DG.fr (d := 124) [11, 115] (DSr rfl rfl rfl rfl rfl hd5 fun ve h => OpT.fieldAddrB rfl rfl (okd rfl rfl) (Root.self (t := 11) (by decide)) ((h _ (List.elem_iff.1 rfl)).trans rfl) (by decide) fd180_1 sz51 (by decide) sb180_1) rfl rfl ?_
                refine DG.fr (d := 125) [11, 115, 124] (DSr rfl rfl rfl rfl rfl hd5 fun ve h => OpT.loadP rfl rfl (okd rfl rfl) (D h rfl rfl rfl rfl) (.inl ⟨_, ((h _ (List.elem_iff.1 rfl)).trans rfl), rfl⟩) ag51 rfl) rfl rfl ?_
                refine DG.fr (d := 126) [115, 125] (DSr rfl rfl rfl rfl rfl hd5 fun ve h => OpT.conv rfl rfl (okd rfl rfl) us51 Tryd.underlying2 (D h rfl rfl rfl rfl) (nw (by omega))) rfl rfl ?_
                refine DG.fr (d := 127) [115, 117, 123, 126] (DSr rfl rfl rfl rfl rfl hd5 fun ve h => OpT.c1 (ms := [.flat, .flat, .flat]) (c_impl_Query_isWitness _ _ _ (by have := hole_in (h := wt.2) (by assumption); omega)) rfl rfl (okd rfl rfl) (Af (D h rfl rfl rfl rfl) rfl rfl <| Af (D h rfl rfl rfl rfl) rfl rfl <| Af (D h rfl rfl rfl rfl) rfl rfl <| An) rfl rfl) rfl rfl ?_
                refine DG.fr (d := 128) [115, 127] (DS rfl fun ve h => OpT.pickT (A := .cel _ _) rfl rfl (okd rfl rfl) (D h rfl rfl rfl rfl) hd5 (D h rfl rfl rfl rfl) rfl) rfl rfl ?_
                refine DG.fr (d := 129) [7, 108, 110] (DS rfl fun ve h => OpT.indexAddrO rfl rfl (okd rfl rfl) (Root.ali ((h _ (List.elem_iff.1 rfl)).trans rfl) (by decide) (by decide)) ((h _ (List.elem_iff.1 rfl)).trans rfl) (by decide) (D h rfl rfl rfl rfl) el177 sz4 (by omega) (by assumption)) rfl rfl ?_
                refine DG.md (t := 7) [7, 128, 129] (DSm rfl fun ve h => OpT.storeO rfl rfl (D h rfl rfl rfl rfl) ((h _ (List.elem_iff.1 rfl)).trans rfl) (by assumption) sz4 rfl (D h rfl rfl rfl rfl)) ?_
                refine DG.nil ⟨by kernel_rfl, by kernel_rfl, ?_⟩
                refine AX.normal_block ?_
                refine AX.pr (Kc 7 (.own _ _ _) rfl <| Kc 129 (.pel _ _ _ _ _ _ _) rfl <| Kc 128 (.cel _ _) rfl <| Kc 127 (.cel _ _) rfl <| Kc 126 (.cel _ _) rfl <| Kc 125 (.cel _ _) rfl <| Kc 124 (.pel _ _ _ _ _ _ _) rfl <| Kc 123 (.agg _ _) rfl <| Kc 122 (.cel _ _) rfl <| Kc 121 (.cel _ _) rfl <| Kc 120 (.cel _ _) rfl <| Kc 119 (.pel _ _ _ _ _ _ _) rfl <| Kc 118 (.cel _ _) rfl <| Kc 117 (.agg _ _) rfl <| Kc 116 (.cel _ _) rfl <| Kc 115 (.cel _ _) rfl <| Kc 114 (.cel _ _) rfl <| Kc 113 (.cel _ _) rfl <| Kc 112 (.cel _ _) rfl <| Kc 111 (.pel _ _ _ _ _ _ _) rfl <| Kc 110 (.cel _ _) rfl <| Kc 109 (.pel _ _ _ _ _ _ _) rfl <| Kc 108 (.ali _) rfl <| Kc 107 (.pel _ _ _ _ _ _ _) rfl <| Kc 106 (.cel _ _) rfl <| Kc 105 (.cel _ _) rfl <| Kc 104 (.pel _ _ _ _ _ _ _) rfl <| Kc 103 (.cel _ _) rfl <| Kc 102 (.pel _ _ _ _ _ _ _) rfl <| Kc 101 (.ali _) rfl <| Kc 100 (.cel _ _) rfl <| Kc 99 (.cel _ _) rfl <| Kc 88 (.cel _ _) rfl <| Kc 87 (.cel _ _) rfl <| Kc 86 (.cel _ _) rfl <| Kc 85 (.cel _ _) rfl <| Kc 84 (.cel _ _) rfl <| Kc 83 (.cel _ _) rfl <| Kc 82 (.cel _ _) rfl <| Kc 81 (.cel _ _) rfl <| Kc 80 (.cel _ _) rfl <| Kc 79 (.pel _ _ _ _ _ _ _) rfl <| Kc 78 (.cel _ _) rfl <| Kc 77 (.cel _ _) rfl <| Kc 76 (.cel _ _) rfl <| Kc 75 (.pel _ _ _ _ _ _ _) rfl <| Kc 10 (.cel _ _) rfl <| Kc 11 (.box _ _ _) rfl <| Kc 74 (.agg _ _) rfl <| Kc 73 (.cel _ _) rfl <| Kc 72 (.cel _ _) rfl <| Kc 71 (.cel _ _) rfl <| Kc 0 (.cel _ _) rfl <| Kc 3 (.cel _ _) rfl <| Kc 6 (.own _ _ _) rfl <| Kc 68 (.cel _ _) rfl <| Kc 69 (.cel _ _) rfl <| Kc 70 (.cel _ _) rfl <| Kn) ?_
                refine AX.go ?_
                refine AW.region ?_
                refine AWl.st rfl (OpT.add rfl rfl (okd rfl rfl) (Tm rfl rfl rfl) (I rfl) (nw (by omega))) rfl ?_
                refine AWl.sg rfl (OpT.move (A := .cel _ _) (.inl rfl) rfl (okd rfl rfl) (Tm rfl rfl rfl) rfl) (Kc 70 (.cel _ _) rfl <| Kc 130 (.cel _ _) rfl <| Kc 7 (.own _ _ _) rfl <| Kc 129 (.pel _ _ _ _ _ _ _) rfl <| Kc 128 (.cel _ _) rfl <| Kc 127 (.cel _ _) rfl <| Kc 126 (.cel _ _) rfl <| Kc 125 (.cel _ _) rfl <| Kc 124 (.pel _ _ _ _ _ _ _) rfl <| Kc 123 (.agg _ _) rfl <| Kc 122 (.cel _ _) rfl <| Kc 121 (.cel _ _) rfl <| Kc 120 (.cel _ _) rfl <| Kc 119 (.pel _ _ _ _ _ _ _) rfl <| Kc 118 (.cel _ _) rfl <| Kc 117 (.agg _ _) rfl <| Kc 116 (.cel _ _) rfl <| Kc 115 (.cel _ _) rfl <| Kc 114 (.cel _ _) rfl <| Kc 113 (.cel _ _) rfl <| Kc 112 (.cel _ _) rfl <| Kc 111 (.pel _ _ _ _ _ _ _) rfl <| Kc 110 (.cel _ _) rfl <| Kc 109 (.pel _ _ _ _ _ _ _) rfl <| Kc 108 (.ali _) rfl <| Kc 107 (.pel _ _ _ _ _ _ _) rfl <| Kc 106 (.cel _ _) rfl <| Kc 105 (.cel _ _) rfl <| Kc 104 (.pel _ _ _ _ _ _ _) rfl <| Kc 103 (.cel _ _) rfl <| Kc 102 (.pel _ _ _ _ _ _ _) rfl <| Kc 101 (.ali _) rfl <| Kc 100 (.cel _ _) rfl <| Kc 99 (.cel _ _) rfl <| Kc 88 (.cel _ _) rfl <| Kc 87 (.cel _ _) rfl <| Kc 86 (.cel _ _) rfl <| Kc 85 (.cel _ _) rfl <| Kc 84 (.cel _ _) rfl <| Kc 83 (.cel _ _) rfl <| Kc 82 (.cel _ _) rfl <| Kc 81 (.cel _ _) rfl <| Kc 80 (.cel _ _) rfl <| Kc 79 (.pel _ _ _ _ _ _ _) rfl <| Kc 78 (.cel _ _) rfl <| Kc 77 (.cel _ _) rfl <| Kc 76 (.cel _ _) rfl <| Kc 75 (.pel _ _ _ _ _ _ _) rfl <| Kc 10 (.cel _ _) rfl <| Kc 11 (.box _ _ _) rfl <| Kc 74 (.agg _ _) rfl <| Kc 73 (.cel _ _) rfl <| Kc 72 (.cel _ _) rfl <| Kc 71 (.cel _ _) rfl <| Kc 0 (.cel _ _) rfl <| Kc 3 (.cel _ _) rfl <| Kc 6 (.own _ _ _) rfl <| Kc 68 (.cel _ _) rfl <| Kc 69 (.cel _ _) rfl <| Kn) ?_
                refine AWl.nil ?_
                exact AX.again (y + 1) ⟨by omega, all_step hI.2 (hio.2 hyes)⟩ (by omega) (Kc 0 _ (Kv rfl rfl) <| Kc 3 _ (Kv rfl rfl) <| Kc 6 _ (Ko rfl (cnt_next (map_next hwt) (by omega) hcv)) <| Kc 7 _ (Ko rfl (by first | exact rtB_no hwt (by assumption) | exact rtB_yes hwt he (by assumption))) <| Kc 68 _ (Kv rfl rfl) <| Kc 69 _ (Kv rfl rfl) <| Kc 70 _ (Kv rfl (by omega)) <| Kn)
              ·
                have hd5' := hd5; try simp only [decide_eq_true_eq, decide_eq_false_iff_not, beq_iff_eq, beq_eq_false_iff_ne, bne_iff_ne, bne_eq_false_iff_eq, ne_eq, Bool.not_eq_true', Bool.not_eq_false', Bool.and_eq_true, Bool.or_eq_true, Bool.or_eq_false_iff, Bool.and_eq_false_iff, Bool.not_true, Bool.not_false] at hd5'
                refine AW.dg fomo ?_
                refine DG.fr (d := 108) [] (DS rfl fun ve h => OpT.alias rfl rfl (okd rfl rfl) (by decide) (by decide)) rfl rfl ?_
                refine DG.fr (d := 109) [11] (DS rfl fun ve h => OpT.fieldAddrB rfl rfl (okd rfl rfl) (Root.self (t := 11) (by decide)) ((h _ (List.elem_iff.1 rfl)).trans rfl) (by decide) fd180_0 sz2 (by decide) sb180_0) rfl rfl ?_
                refine DG.fr (d := 110) [11, 109] (DS rfl fun ve h => OpT.loadP rfl rfl (okd rfl rfl) (D h rfl rfl rfl rfl) (.inl ⟨_, ((h _ (List.elem_iff.1 rfl)).trans rfl), rfl⟩) ag2 rfl) rfl rfl ?_
                refine DG.fr (d := 111) [11] (DS rfl fun ve h => OpT.fieldAddrB rfl rfl (okd rfl rfl) (Root.self (t := 11) (by decide)) ((h _ (List.elem_iff.1 rfl)).trans rfl) (by decide) fd180_1 sz51 (by decide) sb180_1) rfl rfl ?_
                refine DG.fr (d := 112) [11, 111] (DS rfl fun ve h => OpT.loadP rfl rfl (okd rfl rfl) (D h rfl rfl rfl rfl) (.inl ⟨_, ((h _ (List.elem_iff.1 rfl)).trans rfl), rfl⟩) ag51 rfl) rfl rfl ?_
                refine DG.fr (d := 113) [112] (DS rfl fun ve h => OpT.conv rfl rfl (okd rfl rfl) us51 Tryd.underlying2 (D h rfl rfl rfl rfl) (nw (by omega))) rfl rfl ?_
                refine DG.fr (d := 114) [113] (DS rfl fun ve h => OpT.c1 (ms := [.flat]) (c_impl_isHole _) rfl rfl (okd rfl rfl) (Af (D h rfl rfl rfl rfl) rfl rfl <| An) rfl rfl) rfl rfl ?_
                refine DG.fr (d := 115) [114] (DS rfl fun ve h => OpT.move (A := .cel _ _) (.inl rfl) rfl (okd rfl rfl) (D h rfl rfl rfl rfl) rfl) rfl rfl ?_
                refine DG.pas (d := 116) [115] (DSp rfl rfl rfl rfl rfl hd5 rfl (okd rfl rfl)) rfl rfl ?_
                refine DG.pas (d := 117) [115] (DSp rfl rfl rfl rfl rfl hd5 rfl (okd rfl rfl)) rfl rfl ?_
                refine DG.pas (d := 118) [115] (DSp rfl rfl rfl rfl rfl hd5 rfl (okd rfl rfl)) rfl rfl ?_
                refine DG.pas (d := 119) [115] (DSp rfl rfl rfl rfl rfl hd5 rfl (okd rfl rfl)) rfl rfl ?_
                refine DG.pas (d := 120) [115] (DSp rfl rfl rfl rfl rfl hd5 rfl (okd rfl rfl)) rfl rfl ?_
                refine DG.pas (d := 121) [115] (DSp rfl rfl rfl rfl rfl hd5 rfl (okd rfl rfl)) rfl rfl ?_
                refine DG.pas (d := 122) [115] (DSp rfl rfl rfl rfl rfl hd5 rfl (okd rfl rfl)) rfl rfl ?_
                refine DG.pas (d := 123) [115] (DSp rfl rfl rfl rfl rfl hd5 rfl (okd rfl rfl)) rfl rfl ?_
                refine DG.pas (d := 124) [115] (DSp rfl rfl rfl rfl rfl hd5 rfl (okd rfl rfl)) rfl rfl ?_
                refine DG.pas (d := 125) [115] (DSp rfl rfl rfl rfl rfl hd5 rfl (okd rfl rfl)) rfl rfl ?_
                refine DG.pas (d := 126) [115] (DSp rfl rfl rfl rfl rfl hd5 rfl (okd rfl rfl)) rfl rfl ?_
                refine DG.pas (d := 127) [115] (DSp rfl rfl rfl rfl rfl hd5 rfl (okd rfl rfl)) rfl rfl ?_
                refine DG.fr (d := 128) [115] (DS rfl fun ve h => OpT.pickF (A := .cel _ _) rfl rfl (okd rfl rfl) (D h rfl rfl rfl rfl) hd5 Opd.bool rfl) rfl rfl ?_
                refine DG.fr (d := 129) [7, 108, 110] (DS rfl fun ve h => OpT.indexAddrO rfl rfl (okd rfl rfl) (Root.ali ((h _ (List.elem_iff.1 rfl)).trans rfl) (by decide) (by decide)) ((h _ (List.elem_iff.1 rfl)).trans rfl) (by decide) (D h rfl rfl rfl rfl) el177 sz4 (by omega) (by assumption)) rfl rfl ?_
                refine DG.md (t := 7) [7, 128, 129] (DSm rfl fun ve h => OpT.storeO rfl rfl (D h rfl rfl rfl rfl) ((h _ (List.elem_iff.1 rfl)).trans rfl) (by assumption) sz4 rfl (D h rfl rfl rfl rfl)) ?_
                refine DG.nil ⟨by kernel_rfl, by kernel_rfl, ?_⟩
                refine AX.normal_block ?_
                refine AX.pr (Kc 7 (.own _ _ _) rfl <| Kc 129 (.pel _ _ _ _ _ _ _) rfl <| Kc 128 (.cel _ _) rfl <| Kc 115 (.cel _ _) rfl <| Kc 114 (.cel _ _) rfl <| Kc 113 (.cel _ _) rfl <| Kc 112 (.cel _ _) rfl <| Kc 111 (.pel _ _ _ _ _ _ _) rfl <| Kc 110 (.cel _ _) rfl <| Kc 109 (.pel _ _ _ _ _ _ _) rfl <| Kc 108 (.ali _) rfl <| Kc 107 (.pel _ _ _ _ _ _ _) rfl <| Kc 106 (.cel _ _) rfl <| Kc 105 (.cel _ _) rfl <| Kc 104 (.pel _ _ _ _ _ _ _) rfl <| Kc 103 (.cel _ _) rfl <| Kc 102 (.pel _ _ _ _ _ _ _) rfl <| Kc 101 (.ali _) rfl <| Kc 100 (.cel _ _) rfl <| Kc 99 (.cel _ _) rfl <| Kc 88 (.cel _ _) rfl <| Kc 87 (.cel _ _) rfl <| Kc 86 (.cel _ _) rfl <| Kc 85 (.cel _ _) rfl <| Kc 84 (.cel _ _) rfl <| Kc 83 (.cel _ _) rfl <| Kc 82 (.cel _ _) rfl <| Kc 81 (.cel _ _) rfl <| Kc 80 (.cel _ _) rfl <| Kc 79 (.pel _ _ _ _ _ _ _) rfl <| Kc 78 (.cel _ _) rfl <| Kc 77 (.cel _ _) rfl <| Kc 76 (.cel _ _) rfl <| Kc 75 (.pel _ _ _ _ _ _ _) rfl <| Kc 10 (.cel _ _) rfl <| Kc 11 (.box _ _ _) rfl <| Kc 74 (.agg _ _) rfl <| Kc 73 (.cel _ _) rfl <| Kc 72 (.cel _ _) rfl <| Kc 71 (.cel _ _) rfl <| Kc 0 (.cel _ _) rfl <| Kc 3 (.cel _ _) rfl <| Kc 6 (.own _ _ _) rfl <| Kc 68 (.cel _ _) rfl <| Kc 69 (.cel _ _) rfl <| Kc 70 (.cel _ _) rfl <| Kn) ?_
                refine AX.go ?_
                refine AW.region ?_
                refine AWl.st rfl (OpT.add rfl rfl (okd rfl rfl) (Tm rfl rfl rfl) (I rfl) (nw (by omega))) rfl ?_
                refine AWl.sg rfl (OpT.move (A := .cel _ _) (.inl rfl) rfl (okd rfl rfl) (Tm rfl rfl rfl) rfl) (Kc 70 (.cel _ _) rfl <| Kc 130 (.cel _ _) rfl <| Kc 7 (.own _ _ _) rfl <| Kc 129 (.pel _ _ _ _ _ _ _) rfl <| Kc 128 (.cel _ _) rfl <| Kc 115 (.cel _ _) rfl <| Kc 114 (.cel _ _) rfl <| Kc 113 (.cel _ _) rfl <| Kc 112 (.cel _ _) rfl <| Kc 111 (.pel _ _ _ _ _ _ _) rfl <| Kc 110 (.cel _ _) rfl <| Kc 109 (.pel _ _ _ _ _ _ _) rfl <| Kc 108 (.ali _) rfl <| Kc 107 (.pel _ _ _ _ _ _ _) rfl <| Kc 106 (.cel _ _) rfl <| Kc 105 (.cel _ _) rfl <| Kc 104 (.pel _ _ _ _ _ _ _) rfl <| Kc 103 (.cel _ _) rfl <| Kc 102 (.pel _ _ _ _ _ _ _) rfl <| Kc 101 (.ali _) rfl <| Kc 100 (.cel _ _) rfl <| Kc 99 (.cel _ _) rfl <| Kc 88 (.cel _ _) rfl <| Kc 87 (.cel _ _) rfl <| Kc 86 (.cel _ _) rfl <| Kc 85 (.cel _ _) rfl <| Kc 84 (.cel _ _) rfl <| Kc 83 (.cel _ _) rfl <| Kc 82 (.cel _ _) rfl <| Kc 81 (.cel _ _) rfl <| Kc 80 (.cel _ _) rfl <| Kc 79 (.pel _ _ _ _ _ _ _) rfl <| Kc 78 (.cel _ _) rfl <| Kc 77 (.cel _ _) rfl <| Kc 76 (.cel _ _) rfl <| Kc 75 (.pel _ _ _ _ _ _ _) rfl <| Kc 10 (.cel _ _) rfl <| Kc 11 (.box _ _ _) rfl <| Kc 74 (.agg _ _) rfl <| Kc 73 (.cel _ _) rfl <| Kc 72 (.cel _ _) rfl <| Kc 71 (.cel _ _) rfl <| Kc 0 (.cel _ _) rfl <| Kc 3 (.cel _ _) rfl <| Kc 6 (.own _ _ _) rfl <| Kc 68 (.cel _ _) rfl <| Kc 69 (.cel _ _) rfl <| Kn) ?_
                refine AWl.nil ?_
                exact AX.again (y + 1) ⟨by omega, all_step hI.2 (hio.2 hyes)⟩ (by omega) (Kc 0 _ (Kv rfl rfl) <| Kc 3 _ (Kv rfl rfl) <| Kc 6 _ (Ko rfl (cnt_next (map_next hwt) (by omega) hcv)) <| Kc 7 _ (Ko rfl (by first | exact rtB_no hwt (by assumption) | exact rtB_yes hwt he (by assumption))) <| Kc 68 _ (Kv rfl rfl) <| Kc 69 _ (Kv rfl rfl) <| Kc 70 _ (Kv rfl (by omega)) <| Kn)
    ·
      try simp only [decide_eq_true_eq, decide_eq_false_iff_not, Bool.not_eq_true', Bool.not_eq_false'] at hc3
      have hc3' := hc3; try simp only [decide_eq_true_eq, decide_eq_false_iff_not, beq_iff_eq, beq_eq_false_iff_ne, bne_iff_ne, bne_eq_false_iff_eq, ne_eq, Bool.not_eq_true', Bool.not_eq_false', Bool.and_eq_true, Bool.or_eq_true, Bool.or_eq_false_iff, Bool.and_eq_false_iff, Bool.not_true, Bool.not_false] at hc3'
      refine AW.exit ?_
      refine AX.exit_then ?_
      refine AX.exit_then ?_
      refine AX.exit_hit ?_
      refine AX.pr (Kc 0 (.cel _ _) rfl <| Kc 6 (.own _ _ _) rfl <| Kc 7 (.own _ _ _) rfl <| Kn) ?_
      refine AX.go ?_
      refine AW.seq ?_
      refine AW.seq ?_
      refine AW.region ?_
      refine AWl.st rfl (OpT.move (A := .cel _ _) (.inl rfl) rfl (okd rfl rfl) (Tm rfl rfl rfl) rfl) rfl ?_
      refine AWl.st rfl (OpT.len rfl rfl (okd rfl rfl) (Tm rfl rfl rfl) el38) rfl ?_
      refine AWl.st rfl (OpT.move (A := .cel _ _) (.inl rfl) rfl (okd rfl rfl) (I rfl) rfl) rfl ?_
      refine AWl.nil ?_
      refine AX.pr (Kc 133 (.cel _ _) rfl <| Kc 132 (.cel _ _) rfl <| Kc 6 (.own _ _ _) rfl <| Kc 7 (.own _ _ _) rfl <| Kn) ?_
      refine AX.go ?_
      refine AW.block ?_
      obtain rfl : y = v.2.2.length := by omega
      have hI1 := hI
      refine AW.loop (fun u : Nat => u ≤ x.length ∧ ∀ i, i < u → onceI x v i) (fun u : Nat => keep [(6, .own 3 (Kd.int .i64) (tmS x v.2.1 v.2.2)), (7, .own 4 Kd.bool (rtB v.1 x v.2.1 v.2.2)), (132, .cel (Kd.int .i64) (x.length : Int)), (133, .cel (Kd.int .i64) (u : Int))]) (fun u : Nat => x.length - u) (0) ⟨Nat.zero_le _, all_none⟩ (Kc 6 _ (Ko rfl (by rw [List.take_of_length_le (by rw [List.length_map]; exact Nat.le_refl _)]; rfl)) <| Kc 7 _ (Ko rfl (by rw [List.take_length])) <| Kc 132 _ (Kv rfl rfl) <| Kc 133 _ (Kv rfl rfl) <| Kn) ?_
      intro u hI
      refine AW.seq ?_
      refine AW.region ?_
      refine AWl.st rfl (OpT.lss rfl rfl (okd rfl rfl) (Tm rfl rfl rfl) (Tm rfl rfl rfl)) rfl ?_
      refine AWl.nil ?_
      refine AX.go ?_
      refine AW.seq ?_
      refine AW.cond (t := 134) rfl (by decide) (fun hc8 => ?_) (fun hc8 => ?_)
      ·
        try simp only [decide_eq_true_eq, decide_eq_false_iff_not, Bool.not_eq_true', Bool.not_eq_false'] at hc8
        have hc8' := hc8; try simp only [decide_eq_true_eq, decide_eq_false_iff_not, beq_iff_eq, beq_eq_false_iff_ne, bne_iff_ne, bne_eq_false_iff_eq, ne_eq, Bool.not_eq_true', Bool.not_eq_false', Bool.and_eq_true, Bool.or_eq_true, Bool.or_eq_false_iff, Bool.and_eq_false_iff, Bool.not_true, Bool.not_false] at hc8'
        obtain ⟨t, ht⟩ := get_of_len (r := tmS x v.2.1 v.2.2) (by (unfold tmS; rw [cntL_len])) (c := (u : Int)) (by omega)
        obtain ⟨r, hr⟩ := get_of_len (rtB_len v.1 x v.2.1 v.2.2) (c := (u : Int)) (by omega)
        have hob := once_bool ht hr
        refine AW.skip ?_
        refine AX.go ?_
        refine AW.seq ?_
        refine AW.block ?_
        refine AW.seq ?_
        refine AW.region ?_
        refine AWl.st rfl (OpT.move (A := .cel _ _) (.inl rfl) rfl (okd rfl rfl) (Tm rfl rfl rfl) rfl) rfl ?_
        refine AWl.st rfl (OpT.move (A := .cel _ _) (.inr rfl) rfl (okd rfl rfl) (Tm rfl rfl rfl) rfl) rfl ?_
        refine AWl.nil ?_
        refine AX.go ?_
        refine AW.seq ?_
        refine AW.region ?_
        refine AWl.st rfl (OpT.alias rfl rfl (okd rfl rfl) (by decide) (by decide)) rfl ?_
        refine AWl.st rfl (OpT.move (A := .cel _ _) (.inl rfl) rfl (okd rfl rfl) (Tm rfl rfl rfl) rfl) rfl ?_
        refine AWl.st rfl (OpT.indexAddrO rfl rfl (okd rfl rfl) (Root.ali rfl (by decide) (by decide)) rfl (by decide) (Tm rfl rfl rfl) el176 sz3 (by omega) (by assumption)) rfl ?_
        refine AWl.st rfl (OpT.loadP rfl rfl (okd rfl rfl) (Tm rfl rfl rfl) (.inr ⟨_, _, rfl, (by assumption)⟩) ag3 rfl) rfl ?_
        refine AWl.st rfl (OpT.neq rfl rfl (okd rfl rfl) (Tm rfl rfl rfl) (I rfl)) rfl ?_
        refine AWl.st rfl (OpT.move (A := .cel _ _) (.inl rfl) rfl (okd rfl rfl) (Tm rfl rfl rfl) rfl) rfl ?_
        apply AWl.or (d := 147) (t := 141) rfl
        · intro hb4 Q1 k1
          have hb4' := hb4; try simp only [decide_eq_true_eq, decide_eq_false_iff_not, beq_iff_eq, beq_eq_false_iff_ne, bne_iff_ne, bne_eq_false_iff_eq, ne_eq, Bool.not_eq_true', Bool.not_eq_false', Bool.and_eq_true, Bool.or_eq_true, Bool.or_eq_false_iff, Bool.and_eq_false_iff, Bool.not_true, Bool.not_false] at hb4'
          refine AWl.rs rfl rfl rfl rfl hb4 (OpT.alias rfl rfl (okd rfl rfl) (by decide) (by decide)) rfl ?_
          refine AWl.rs rfl rfl rfl rfl hb4 (OpT.move (A := .cel _ _) (.inl rfl) rfl (okd rfl rfl) (Tm rfl rfl rfl) rfl) rfl ?_
          refine AWl.rs rfl rfl rfl rfl hb4 (OpT.indexAddrO rfl rfl (okd rfl rfl) (Root.ali rfl (by decide) (by decide)) rfl (by decide) (Tm rfl rfl rfl) el177 sz4 (by omega) (by assumption)) rfl ?_
          refine AWl.rs rfl rfl rfl rfl hb4 (OpT.loadP rfl rfl (okd rfl rfl) (Tm rfl rfl rfl) (.inr ⟨_, _, rfl, (by assumption)⟩) ag4 rfl) rfl ?_
          refine AWl.rs rfl rfl rfl rfl hb4 (OpT.not rfl rfl (okd rfl rfl) (Tm rfl rfl rfl)) rfl ?_
          refine AWl.st rfl (OpT.pickF (A := .cel _ _) rfl rfl (okd rfl rfl) (Tm rfl rfl rfl) hb4 (Tm rfl rfl rfl) rfl) rfl ?_
          exact AWl.to (junk 5 rfl) k1
        · intro hb4 Q1 k1
          refine AWl.pas rfl rfl rfl rfl hb4 rfl (okd rfl rfl) rfl ?_
          refine AWl.pas rfl rfl rfl rfl hb4 rfl (okd rfl rfl) rfl ?_
          refine AWl.pas rfl rfl rfl rfl hb4 rfl (okd rfl rfl) rfl ?_
          refine AWl.pas rfl rfl rfl rfl hb4 rfl (okd rfl rfl) rfl ?_
          refine AWl.pas rfl rfl rfl rfl hb4 rfl (okd rfl rfl) rfl ?_
          refine AWl.st rfl (OpT.pickT (A := .cel _ _) rfl rfl (okd rfl rfl) (Tm rfl rfl rfl) hb4 Opd.bool rfl) rfl ?_
          exact k1
        refine AWl.nil ?_
        refine AX.go ?_
        refine AW.cond (t := 147) rfl (by decide) (fun hc9 => ?_) (fun hc9 => ?_)
        ·
          try simp only [decide_eq_true_eq, decide_eq_false_iff_not, Bool.not_eq_true', Bool.not_eq_false'] at hc9
          have hc9' := hc9; try simp only [decide_eq_true_eq, decide_eq_false_iff_not, beq_iff_eq, beq_eq_false_iff_ne, bne_iff_ne, bne_eq_false_iff_eq, ne_eq, Bool.not_eq_true', Bool.not_eq_false', Bool.and_eq_true, Bool.or_eq_true, Bool.or_eq_false_iff, Bool.and_eq_false_iff, Bool.not_true, Bool.not_false] at hc9'
          have hcF := hc9
          refine AW.seq ?_
          refine AW.region ?_
          refine AWl.st rfl (OpT.move (A := .cel _ _) (.inl rfl) rfl (okd rfl rfl) (Tm rfl rfl rfl) rfl) rfl ?_
          refine AWl.st rfl (OpT.move (A := .cel _ _) (.inr rfl) rfl (okd rfl rfl) (Tm rfl rfl rfl) rfl) rfl ?_
          refine AWl.st rfl (OpT.move (A := .cel _ _) (.inr rfl) rfl (okd rfl rfl) Opd.bool rfl) rfl ?_
          refine AWl.nil ?_
          refine AX.go ?_
          refine AW.ret ?_
          refine AX.ret_block ?_
          refine AX.ret_then ?_
          refine AX.ret_then ?_
          refine AX.ret_block ?_
          refine AX.ret_then ?_
          exact AX.rt (rs := [.tmp 4, .tmp 5]) (ts := [some 4, some 5]) (.inl rfl) rfl (ROs.cons (RO.tmp (At.self (by decide)) (Kv rfl (by first | rw [fltI_neg (flt_no1 (x := x) (v := v) (z := z) (by omega) (fun h => hno (hio.1 h)))] | rw [fltI_neg (flt_no2 (x := x) (v := v) (z := y) (by omega) (fun h => hno (hio.1 h)))] | rw [fltI_at (flt_at hI0.2 hI1.2 hI.2 (by omega) (fun h => Bool.false_ne_true ((hob.1 h).symm.trans hcF)))] | rw [fltI_end (flt_end hI0.2 hI1.2 hI.2 (by omega))])) rfl) <| ROs.cons (RO.tmp (At.self (by decide)) (Kv rfl (by first | rw [fltI_neg (flt_no1 (x := x) (v := v) (z := z) (by omega) (fun h => hno (hio.1 h)))] | rw [fltI_neg (flt_no2 (x := x) (v := v) (z := y) (by omega) (fun h => hno (hio.1 h)))] | rw [fltI_at (flt_at hI0.2 hI1.2 hI.2 (by omega) (fun h => Bool.false_ne_true ((hob.1 h).symm.trans hcF)))] | rw [fltI_end (flt_end hI0.2 hI1.2 hI.2 (by omega))])) rfl) <| ROs.nil) (by decide) OutsOK.nil
        ·
          try simp only [decide_eq_true_eq, decide_eq_false_iff_not, Bool.not_eq_true', Bool.not_eq_false'] at hc9
          have hc9' := hc9; try simp only [decide_eq_true_eq, decide_eq_false_iff_not, beq_iff_eq, beq_eq_false_iff_ne, bne_iff_ne, bne_eq_false_iff_eq, ne_eq, Bool.not_eq_true', Bool.not_eq_false', Bool.and_eq_true, Bool.or_eq_true, Bool.or_eq_false_iff, Bool.and_eq_false_iff, Bool.not_true, Bool.not_false] at hc9'
          have hcF := hc9
          refine AW.skip ?_
          refine AX.normal_block ?_
          refine AX.go ?_
          refine AW.region ?_
          refine AWl.st rfl (OpT.add rfl rfl (okd rfl rfl) (Tm rfl rfl rfl) (I rfl) (nw (by omega))) rfl ?_
          refine AWl.sg rfl (OpT.move (A := .cel _ _) (.inl rfl) rfl (okd rfl rfl) (Tm rfl rfl rfl) rfl) (Kc 133 (.cel _ _) rfl <| Kc 149 (.cel _ _) rfl <| Kc 147 (.cel _ _) rfl <| Kc 141 (.cel _ _) rfl <| Kc 140 (.cel _ _) rfl <| Kc 139 (.cel _ _) rfl <| Kc 138 (.pel _ _ _ _ _ _ _) rfl <| Kc 137 (.cel _ _) rfl <| Kc 136 (.ali _) rfl <| Kc 12 (.cel _ _) rfl <| Kc 135 (.cel _ _) rfl <| Kc 134 (.cel _ _) rfl <| Kc 6 (.own _ _ _) rfl <| Kc 7 (.own _ _ _) rfl <| Kc 132 (.cel _ _) rfl <| Kn) ?_
          refine AWl.nil ?_
          exact AX.again (u + 1) ⟨by omega, all_step hI.2 (hob.2 hcF)⟩ (by omega) (Kc 6 _ (Ko rfl rfl) <| Kc 7 _ (Ko rfl rfl) <| Kc 132 _ (Kv rfl rfl) <| Kc 133 _ (Kv rfl (by omega)) <| Kn)
      ·
        try simp only [decide_eq_true_eq, decide_eq_false_iff_not, Bool.not_eq_true', Bool.not_eq_false'] at hc8
        have hc8' := hc8; try simp only [decide_eq_true_eq, decide_eq_false_iff_not, beq_iff_eq, beq_eq_false_iff_ne, bne_iff_ne, bne_eq_false_iff_eq, ne_eq, Bool.not_eq_true', Bool.not_eq_false', Bool.and_eq_true, Bool.or_eq_true, Bool.or_eq_false_iff, Bool.and_eq_false_iff, Bool.not_true, Bool.not_false] at hc8'
        refine AW.exit ?_
        refine AX.exit_then ?_
        refine AX.exit_then ?_
        refine AX.exit_hit ?_
        refine AX.pr (Kn) ?_
        refine AX.go ?_
        refine AW.seq ?_
        refine AW.region ?_
        refine AWl.st rfl (OpT.move (A := .cel _ _) (.inr rfl) rfl (okd rfl rfl) (I rfl) rfl) rfl ?_
        refine AWl.st rfl (OpT.move (A := .cel _ _) (.inr rfl) rfl (okd rfl rfl) Opd.bool rfl) rfl ?_
        refine AWl.nil ?_
        refine AX.go ?_
        refine AW.ret ?_
        exact AX.rt (rs := [.tmp 4, .tmp 5]) (ts := [some 4, some 5]) (.inl rfl) rfl (ROs.cons (RO.tmp (At.self (by decide)) (Kv rfl (by first | rw [fltI_neg (flt_no1 (x := x) (v := v) (z := z) (by omega) (fun h => hno (hio.1 h)))] | rw [fltI_neg (flt_no2 (x := x) (v := v) (z := y) (by omega) (fun h => hno (hio.1 h)))] | rw [fltI_at (flt_at hI0.2 hI1.2 hI.2 (by omega) (fun h => Bool.false_ne_true ((hob.1 h).symm.trans hcF)))] | rw [fltI_end (flt_end hI0.2 hI1.2 hI.2 (by omega))])) rfl) <| ROs.cons (RO.tmp (At.self (by decide)) (Kv rfl (by first | rw [fltI_neg (flt_no1 (x := x) (v := v) (z := z) (by omega) (fun h => hno (hio.1 h)))] | rw [fltI_neg (flt_no2 (x := x) (v := v) (z := y) (by omega) (fun h => hno (hio.1 h)))] | rw [fltI_at (flt_at hI0.2 hI1.2 hI.2 (by omega) (fun h => Bool.false_ne_true ((hob.1 h).symm.trans hcF)))] | rw [fltI_end (flt_end hI0.2 hI1.2 hI.2 (by omega))])) rfl) <| ROs.nil) (by decide) OutsOK.nil

/-- spec.CheckAnswer -/
theorem c_spec_CheckAnswer (x : List DCard) (v : DAns') (hn : v.2.1.length ≤ 1048576 ∧ v.2.2.length ≤ 1048576) : AC Tryd.prog 36 [.cel (Kd.slice kCard) x, .agg kAns v] [.cel Kd.bool (checkA x v).1, .cel (Kd.int .i64) (checkA x v).2] [] := by
  refine ⟨ACall.intro (N := 17) Tryd.func36 (c := _) (rfl : Func.body _ = some _) rfl (Nat.le_of_ble_eq_true rfl) (Nat.le_of_ble_eq_true rfl) rfl (Nat.le_of_ble_eq_true rfl) fun w0 hd s0 ar har => ?_, _, Tryd.func36, rfl, by decide⟩
  refine AW.to (Kc 0 (.cel _ _) rfl <| Kc 1 (.agg _ _) rfl <| Kn) ?_
  refine AW.fact (fun a w hr => (ok_slice (R_ok (t := 0) rfl hr)).2) (fun hl0 => ?_)
  refine AW.seq ?_
  refine AW.region ?_
  refine AWl.st rfl (OpT.frz (OpT.boxA (E := 71) rfl rfl (okd rfl rfl) (Tm rfl rfl rfl))) rfl ?_
  refine AWl.st rfl (OpT.move (A := .cel _ _) (.inr rfl) rfl (okd rfl rfl) Opd.bool rfl) rfl ?_
  refine AWl.st rfl (OpT.move (A := .cel _ _) (.inr rfl) rfl (okd rfl rfl) (I rfl) rfl) rfl ?_
  refine AWl.nil ?_
  refine AX.pr (Kc 5 (.cel _ _) rfl <| Kc 4 (.cel _ _) rfl <| Kc 3 (.cel _ _) rfl <| Kc 0 (.cel _ _) rfl <| Kn) ?_
  refine AX.go ?_
  refine AW.seq ?_
  refine AW.seq ?_
  refine AW.region ?_
  refine AWl.st rfl (OpT.move (A := .cel _ _) (.inl rfl) rfl (okd rfl rfl) (Tm rfl rfl rfl) rfl) rfl ?_
  refine AWl.st rfl (OpT.c1 (ms := [.flat]) (c_spec_l02Ok _) rfl rfl (okd rfl rfl) (Af (Tm rfl rfl rfl) rfl rfl <| An) rfl rfl) rfl ?_
  refine AWl.st rfl (OpT.not rfl rfl (okd rfl rfl) (Tm rfl rfl rfl)) rfl ?_
  refine AWl.st rfl (OpT.move (A := .cel _ _) (.inl rfl) rfl (okd rfl rfl) (Tm rfl rfl rfl) rfl) rfl ?_
  apply AWl.or (d := 13) (t := 9) rfl
  · intro hb1 Q1 k1
    refine AWl.rs rfl rfl rfl rfl hb1 (OpT.fieldAddr rfl rfl (okd rfl rfl) (Tm rfl rfl rfl) fd71_0 sz68 (by decide) sb71_0) rfl ?_
    refine AWl.rs rfl rfl rfl rfl hb1 (OpT.c1 (ms := [.flat]) (c_spec_l02Query _) rfl rfl (okd rfl rfl) (Af (Tm rfl rfl rfl) rfl rfl <| An) rfl rfl) rfl ?_
    refine AWl.rs rfl rfl rfl rfl hb1 (OpT.not rfl rfl (okd rfl rfl) (Tm rfl rfl rfl)) rfl ?_
    refine AWl.st rfl (OpT.pickF (A := .cel _ _) rfl rfl (okd rfl rfl) (Tm rfl rfl rfl) hb1 (Tm rfl rfl rfl) rfl) rfl ?_
    exact AWl.to (junk 3 rfl) k1
  · intro hb1 Q1 k1
    refine AWl.pas rfl rfl rfl rfl hb1 rfl (okd rfl rfl) rfl ?_
    refine AWl.pas rfl rfl rfl rfl hb1 rfl (okd rfl rfl) rfl ?_
    refine AWl.pas rfl rfl rfl rfl hb1 rfl (okd rfl rfl) rfl ?_
    refine AWl.st rfl (OpT.pickT (A := .cel _ _) rfl rfl (okd rfl rfl) (Tm rfl rfl rfl) hb1 Opd.bool rfl) rfl ?_
    exact k1
  refine AWl.nil ?_
  refine AX.pr (Kc 13 (.cel _ _) rfl <| Kc 5 (.cel _ _) rfl <| Kc 4 (.cel _ _) rfl <| Kc 3 (.cel _ _) rfl <| Kc 0 (.cel _ _) rfl <| Kn) ?_
  refine AX.go ?_
  refine AW.cond (t := 13) rfl (by decide) (fun hc1 => ?_) (fun hc1 => ?_)
  ·
    try simp only [decide_eq_true_eq, decide_eq_false_iff_not, Bool.not_eq_true', Bool.not_eq_false'] at hc1
    refine AW.seq ?_
    refine AW.region ?_
    refine AWl.sg rfl (OpT.move (A := .cel _ _) (.inr rfl) rfl (okd rfl rfl) Opd.bool rfl) (Kc 4 (.cel _ _) rfl <| Kc 13 (.cel _ _) rfl <| Kc 5 (.cel _ _) rfl <| Kc 3 (.cel _ _) rfl <| Kc 0 (.cel _ _) rfl <| Kn) ?_
    refine AWl.sg rfl (OpT.move (A := .cel _ _) (.inr rfl) rfl (okd rfl rfl) (I rfl) rfl) (Kc 5 (.cel _ _) rfl <| Kc 4 (.cel _ _) rfl <| Kc 13 (.cel _ _) rfl <| Kc 3 (.cel _ _) rfl <| Kc 0 (.cel _ _) rfl <| Kn) ?_
    refine AWl.nil ?_
    refine AX.pr (Kc 5 (.cel _ _) rfl <| Kc 4 (.cel _ _) rfl <| Kc 3 (.cel _ _) rfl <| Kc 0 (.cel _ _) rfl <| Kn) ?_
    refine AX.go ?_
    refine AW.ret ?_
    refine AX.ret_then ?_
    exact AX.rt (rs := [.tmp 4, .tmp 5]) (ts := [some 4, some 5]) (.inl rfl) rfl (ROs.cons (RO.tmp (At.self (by decide)) (Kv rfl (by first | (rw [checkA_no hc1]; done) | (rw [checkA_yes hc1]; done))) rfl) <| ROs.cons (RO.tmp (At.self (by decide)) (Kv rfl (by first | (rw [checkA_no hc1]; done) | (rw [checkA_yes hc1]; done))) rfl) <| ROs.nil) (by decide) OutsOK.nil
  ·
    try simp only [decide_eq_true_eq, decide_eq_false_iff_not, Bool.not_eq_true', Bool.not_eq_false'] at hc1
    have hdk := deck_bad hc1
    refine AW.skip ?_
    refine AX.pr (Kc 5 (.cel _ _) rfl <| Kc 4 (.cel _ _) rfl <| Kc 3 (.cel _ _) rfl <| Kc 0 (.cel _ _) rfl <| Kn) ?_
    refine AX.go ?_
    refine AW.seq ?_
    refine AW.region ?_
    refine AWl.st rfl (OpT.move (A := .cel _ _) (.inl rfl) rfl (okd rfl rfl) (Tm rfl rfl rfl) rfl) rfl ?_
    refine AWl.st rfl (OpT.c1 (ms := [.flat, .flat]) (c_spec_l07Fault x v hdk hn) rfl rfl (okd rfl rfl) (Af (Tm rfl rfl rfl) rfl rfl <| Af (Tm rfl rfl rfl) rfl rfl <| An) rfl rfl) rfl ?_
    refine AWl.st rfl (OpT.eql rfl rfl (okd rfl rfl) (Tm rfl rfl rfl) (I rfl)) rfl ?_
    refine AWl.sg rfl (OpT.move (A := .cel _ _) (.inr rfl) rfl (okd rfl rfl) (Tm rfl rfl rfl) rfl) (Kc 4 (.cel _ _) rfl <| Kc 16 (.cel _ _) rfl <| Kc 15 (.cel _ _) rfl <| Kc 14 (.cel _ _) rfl <| Kc 5 (.cel _ _) rfl <| Kc 3 (.cel _ _) rfl <| Kc 0 (.cel _ _) rfl <| Kn) ?_
    refine AWl.sg rfl (OpT.move (A := .cel _ _) (.inr rfl) rfl (okd rfl rfl) (I rfl) rfl) (Kc 5 (.cel _ _) rfl <| Kc 4 (.cel _ _) rfl <| Kc 16 (.cel _ _) rfl <| Kc 15 (.cel _ _) rfl <| Kc 14 (.cel _ _) rfl <| Kc 3 (.cel _ _) rfl <| Kc 0 (.cel _ _) rfl <| Kn) ?_
    refine AWl.nil ?_
    refine AX.pr (Kc 5 (.cel _ _) rfl <| Kc 4 (.cel _ _) rfl <| Kn) ?_
    refine AX.go ?_
    refine AW.ret ?_
    exact AX.rt (rs := [.tmp 4, .tmp 5]) (ts := [some 4, some 5]) (.inl rfl) rfl (ROs.cons (RO.tmp (At.self (by decide)) (Kv rfl (by first | (rw [checkA_no hc1]; done) | (rw [checkA_yes hc1]; done))) rfl) <| ROs.cons (RO.tmp (At.self (by decide)) (Kv rfl (by first | (rw [checkA_no hc1]; done) | (rw [checkA_yes hc1]; done))) rfl) <| ROs.nil) (by decide) OutsOK.nil

/-- impl.CheckAnswer -/
theorem c_impl_CheckAnswer (x : List DCard) (v : DAns') (hn : v.2.1.length ≤ 1048576 ∧ v.2.2.length ≤ 1048576) : AC Tryd.prog 38 [.cel (Kd.slice kCard) x, .agg kAns v] [.cel Kd.bool (checkA x v).1, .cel (Kd.int .i64) (checkA x v).2] [] := by
  refine ⟨ACall.intro (N := 24) Tryd.func38 (c := _) (rfl : Func.body _ = some _) rfl (Nat.le_of_ble_eq_true rfl) (Nat.le_of_ble_eq_true rfl) rfl (Nat.le_of_ble_eq_true rfl) fun w0 hd s0 ar har => ?_, _, Tryd.func38, rfl, by decide⟩
  refine AW.to (Kc 0 (.cel _ _) rfl <| Kc 1 (.agg _ _) rfl <| Kn) ?_
  refine AW.fact (fun a w hr => (ok_slice (R_ok (t := 0) rfl hr)).2) (fun hl0 => ?_)
  refine AW.seq ?_
  refine AW.region ?_
  refine AWl.st rfl (OpT.frz (OpT.boxA (E := 71) rfl rfl (okd rfl rfl) (Tm rfl rfl rfl))) rfl ?_
  refine AWl.st rfl (OpT.move (A := .cel _ _) (.inr rfl) rfl (okd rfl rfl) Opd.bool rfl) rfl ?_
  refine AWl.st rfl (OpT.move (A := .cel _ _) (.inr rfl) rfl (okd rfl rfl) (I rfl) rfl) rfl ?_
  refine AWl.nil ?_
  refine AX.pr (Kc 5 (.cel _ _) rfl <| Kc 4 (.cel _ _) rfl <| Kc 3 (.cel _ _) rfl <| Kc 0 (.cel _ _) rfl <| Kn) ?_
  refine AX.go ?_
  refine AW.seq ?_
  refine AW.seq ?_
  refine AW.region ?_
  refine AWl.st rfl (OpT.move (A := .cel _ _) (.inl rfl) rfl (okd rfl rfl) (Tm rfl rfl rfl) rfl) rfl ?_
  refine AWl.st rfl (OpT.c1 (ms := [.flat]) (c_impl_isDeck _) rfl rfl (okd rfl rfl) (Af (Tm rfl rfl rfl) rfl rfl <| An) rfl rfl) rfl ?_
  refine AWl.st rfl (OpT.not rfl rfl (okd rfl rfl) (Tm rfl rfl rfl)) rfl ?_
  refine AWl.st rfl (OpT.move (A := .cel _ _) (.inl rfl) rfl (okd rfl rfl) (Tm rfl rfl rfl) rfl) rfl ?_
  apply AWl.or (d := 16) (t := 11) rfl
  · intro hb1 Q1 k1
    refine AWl.rs rfl rfl rfl rfl hb1 (OpT.fieldAddr rfl rfl (okd rfl rfl) (Tm rfl rfl rfl) fd71_0 sz68 (by decide) sb71_0) rfl ?_
    refine AWl.rs rfl rfl rfl rfl hb1 (OpT.loadA rfl rfl (okd rfl rfl) (Tm rfl rfl rfl) ag68 sz68) rfl ?_
    refine AWl.rs rfl rfl rfl rfl hb1 (OpT.c1 (ms := [.flat]) (c_impl_isQuery _) rfl rfl (okd rfl rfl) (Af (Tm rfl rfl rfl) rfl rfl <| An) rfl rfl) rfl ?_
    refine AWl.rs rfl rfl rfl rfl hb1 (OpT.not rfl rfl (okd rfl rfl) (Tm rfl rfl rfl)) rfl ?_
    refine AWl.st rfl (OpT.pickF (A := .cel _ _) rfl rfl (okd rfl rfl) (Tm rfl rfl rfl) hb1 (Tm rfl rfl rfl) rfl) rfl ?_
    exact AWl.to (junk 4 rfl) k1
  · intro hb1 Q1 k1
    refine AWl.pas rfl rfl rfl rfl hb1 rfl (okd rfl rfl) rfl ?_
    refine AWl.pas rfl rfl rfl rfl hb1 rfl (okd rfl rfl) rfl ?_
    refine AWl.pas rfl rfl rfl rfl hb1 rfl (okd rfl rfl) rfl ?_
    refine AWl.pas rfl rfl rfl rfl hb1 rfl (okd rfl rfl) rfl ?_
    refine AWl.st rfl (OpT.pickT (A := .cel _ _) rfl rfl (okd rfl rfl) (Tm rfl rfl rfl) hb1 Opd.bool rfl) rfl ?_
    exact k1
  refine AWl.nil ?_
  refine AX.pr (Kc 16 (.cel _ _) rfl <| Kc 5 (.cel _ _) rfl <| Kc 4 (.cel _ _) rfl <| Kc 3 (.cel _ _) rfl <| Kc 0 (.cel _ _) rfl <| Kn) ?_
  refine AX.go ?_
  refine AW.cond (t := 16) rfl (by decide) (fun hc1 => ?_) (fun hc1 => ?_)
  ·
    try simp only [decide_eq_true_eq, decide_eq_false_iff_not, Bool.not_eq_true', Bool.not_eq_false'] at hc1
    refine AW.seq ?_
    refine AW.region ?_
    refine AWl.sg rfl (OpT.move (A := .cel _ _) (.inr rfl) rfl (okd rfl rfl) Opd.bool rfl) (Kc 4 (.cel _ _) rfl <| Kc 16 (.cel _ _) rfl <| Kc 5 (.cel _ _) rfl <| Kc 3 (.cel _ _) rfl <| Kc 0 (.cel _ _) rfl <| Kn) ?_
    refine AWl.sg rfl (OpT.move (A := .cel _ _) (.inr rfl) rfl (okd rfl rfl) (I rfl) rfl) (Kc 5 (.cel _ _) rfl <| Kc 4 (.cel _ _) rfl <| Kc 16 (.cel _ _) rfl <| Kc 3 (.cel _ _) rfl <| Kc 0 (.cel _ _) rfl <| Kn) ?_
    refine AWl.nil ?_
    refine AX.pr (Kc 5 (.cel _ _) rfl <| Kc 4 (.cel _ _) rfl <| Kc 3 (.cel _ _) rfl <| Kc 0 (.cel _ _) rfl <| Kn) ?_
    refine AX.go ?_
    refine AW.ret ?_
    refine AX.ret_then ?_
    exact AX.rt (rs := [.tmp 4, .tmp 5]) (ts := [some 4, some 5]) (.inl rfl) rfl (ROs.cons (RO.tmp (At.self (by decide)) (Kv rfl (by first | (rw [checkA_no hc1]; done) | (rw [checkA_yes' hc1]; done))) rfl) <| ROs.cons (RO.tmp (At.self (by decide)) (Kv rfl (by first | (rw [checkA_no hc1]; done) | (rw [checkA_yes' hc1]; done))) rfl) <| ROs.nil) (by decide) OutsOK.nil
  ·
    try simp only [decide_eq_true_eq, decide_eq_false_iff_not, Bool.not_eq_true', Bool.not_eq_false'] at hc1
    have hdk := deck_bad hc1
    refine AW.skip ?_
    refine AX.pr (Kc 5 (.cel _ _) rfl <| Kc 4 (.cel _ _) rfl <| Kc 3 (.cel _ _) rfl <| Kc 0 (.cel _ _) rfl <| Kn) ?_
    refine AX.go ?_
    refine AW.seq ?_
    refine AW.region ?_
    refine AWl.st rfl (OpT.move (A := .cel _ _) (.inl rfl) rfl (okd rfl rfl) (Tm rfl rfl rfl) rfl) rfl ?_
    refine AWl.st rfl (OpT.loadA rfl rfl (okd rfl rfl) (Tm rfl rfl rfl) ag71 sz71) rfl ?_
    refine AWl.st2 rfl (OpT.c2 (ms := [.flat, .flat]) (c_impl_firstFault x v hdk hn) rfl rfl (okd rfl rfl) (Af (Tm rfl rfl rfl) rfl rfl <| Af (Tm rfl rfl rfl) rfl rfl <| An) rfl rfl rfl) rfl rfl ?_
    refine AWl.st rfl (OpT.alias rfl rfl (okd rfl rfl) (by decide) (by decide)) rfl ?_
    refine AWl.st rfl (OpT.extractV (m := 10020) rfl rfl (okd rfl rfl) rfl rfl rfl rfl rfl rfl rfl) rfl ?_
    refine AWl.st rfl (OpT.extractV (m := 20020) rfl rfl (okd rfl rfl) rfl rfl rfl rfl rfl rfl rfl) rfl ?_
    refine AWl.st rfl (OpT.move (A := .cel _ _) (.inr rfl) rfl (okd rfl rfl) (Tm rfl rfl rfl) rfl) rfl ?_
    refine AWl.st rfl (OpT.move (A := .cel _ _) (.inr rfl) rfl (okd rfl rfl) (Tm rfl rfl rfl) rfl) rfl ?_
    refine AWl.nil ?_
    refine AX.pr (Kc 7 (.cel _ _) rfl <| Kc 5 (.cel _ _) rfl <| Kc 4 (.cel _ _) rfl <| Kn) ?_
    refine AX.go ?_
    refine AW.seq ?_
    refine AW.region ?_
    refine AWl.st rfl (OpT.move (A := .cel _ _) (.inl rfl) rfl (okd rfl rfl) (Tm rfl rfl rfl) rfl) rfl ?_
    refine AWl.sg rfl (OpT.move (A := .cel _ _) (.inr rfl) rfl (okd rfl rfl) (Tm rfl rfl rfl) rfl) (Kc 4 (.cel _ _) rfl <| Kc 23 (.cel _ _) rfl <| Kc 7 (.cel _ _) rfl <| Kc 5 (.cel _ _) rfl <| Kn) ?_
    refine AWl.sg rfl (OpT.move (A := .cel _ _) (.inr rfl) rfl (okd rfl rfl) (I rfl) rfl) (Kc 5 (.cel _ _) rfl <| Kc 4 (.cel _ _) rfl <| Kc 23 (.cel _ _) rfl <| Kc 7 (.cel _ _) rfl <| Kn) ?_
    refine AWl.nil ?_
    refine AX.pr (Kc 5 (.cel _ _) rfl <| Kc 4 (.cel _ _) rfl <| Kn) ?_
    refine AX.go ?_
    refine AW.ret ?_
    exact AX.rt (rs := [.tmp 4, .tmp 5]) (ts := [some 4, some 5]) (.inl rfl) rfl (ROs.cons (RO.tmp (At.self (by decide)) (Kv rfl (by first | (rw [checkA_no hc1]; done) | (rw [checkA_yes' hc1]; done))) rfl) <| ROs.cons (RO.tmp (At.self (by decide)) (Kv rfl (by first | (rw [checkA_no hc1]; done) | (rw [checkA_yes' hc1]; done))) rfl) <| ROs.nil) (by decide) OutsOK.nil

/-- spec.FirstFault -/
theorem c_spec_FirstFault (x : List DCard) (v : DAns') (hn : v.2.1.length ≤ 1048576 ∧ v.2.2.length ≤ 1048576) : AC Tryd.prog 40 [.cel (Kd.slice kCard) x, .agg kAns v] [.cel (Kd.int .i64) (firstA x v).1, .cel (Kd.int .i64) (firstA x v).2] [] := by
  refine ⟨ACall.intro (N := 20) Tryd.func40 (c := _) (rfl : Func.body _ = some _) rfl (Nat.le_of_ble_eq_true rfl) (Nat.le_of_ble_eq_true rfl) rfl (Nat.le_of_ble_eq_true rfl) fun w0 hd s0 ar har => ?_, _, Tryd.func40, rfl, by decide⟩
  refine AW.to (Kc 0 (.cel _ _) rfl <| Kc 1 (.agg _ _) rfl <| Kn) ?_
  refine AW.fact (fun a w hr => (ok_slice (R_ok (t := 0) rfl hr)).2) (fun hl0 => ?_)
  refine AW.seq ?_
  refine AW.region ?_
  refine AWl.st rfl (OpT.frz (OpT.boxA (E := 71) rfl rfl (okd rfl rfl) (Tm rfl rfl rfl))) rfl ?_
  refine AWl.st rfl (OpT.move (A := .cel _ _) (.inr rfl) rfl (okd rfl rfl) (I rfl) rfl) rfl ?_
  refine AWl.st rfl (OpT.move (A := .cel _ _) (.inr rfl) rfl (okd rfl rfl) (I rfl) rfl) rfl ?_
  refine AWl.nil ?_
  refine AX.pr (Kc 5 (.cel _ _) rfl <| Kc 4 (.cel _ _) rfl <| Kc 3 (.cel _ _) rfl <| Kc 0 (.cel _ _) rfl <| Kn) ?_
  refine AX.go ?_
  refine AW.seq ?_
  refine AW.seq ?_
  refine AW.region ?_
  refine AWl.st rfl (OpT.move (A := .cel _ _) (.inl rfl) rfl (okd rfl rfl) (Tm rfl rfl rfl) rfl) rfl ?_
  refine AWl.st rfl (OpT.c1 (ms := [.flat]) (c_spec_l02Ok _) rfl rfl (okd rfl rfl) (Af (Tm rfl rfl rfl) rfl rfl <| An) rfl rfl) rfl ?_
  refine AWl.st rfl (OpT.not rfl rfl (okd rfl rfl) (Tm rfl rfl rfl)) rfl ?_
  refine AWl.st rfl (OpT.move (A := .cel _ _) (.inl rfl) rfl (okd rfl rfl) (Tm rfl rfl rfl) rfl) rfl ?_
  apply AWl.or (d := 14) (t := 10) rfl
  · intro hb1 Q1 k1
    refine AWl.rs rfl rfl rfl rfl hb1 (OpT.fieldAddr rfl rfl (okd rfl rfl) (Tm rfl rfl rfl) fd71_0 sz68 (by decide) sb71_0) rfl ?_
    refine AWl.rs rfl rfl rfl rfl hb1 (OpT.c1 (ms := [.flat]) (c_spec_l02Query _) rfl rfl (okd rfl rfl) (Af (Tm rfl rfl rfl) rfl rfl <| An) rfl rfl) rfl ?_
    refine AWl.rs rfl rfl rfl rfl hb1 (OpT.not rfl rfl (okd rfl rfl) (Tm rfl rfl rfl)) rfl ?_
    refine AWl.st rfl (OpT.pickF (A := .cel _ _) rfl rfl (okd rfl rfl) (Tm rfl rfl rfl) hb1 (Tm rfl rfl rfl) rfl) rfl ?_
    exact AWl.to (junk 3 rfl) k1
  · intro hb1 Q1 k1
    refine AWl.pas rfl rfl rfl rfl hb1 rfl (okd rfl rfl) rfl ?_
    refine AWl.pas rfl rfl rfl rfl hb1 rfl (okd rfl rfl) rfl ?_
    refine AWl.pas rfl rfl rfl rfl hb1 rfl (okd rfl rfl) rfl ?_
    refine AWl.st rfl (OpT.pickT (A := .cel _ _) rfl rfl (okd rfl rfl) (Tm rfl rfl rfl) hb1 Opd.bool rfl) rfl ?_
    exact k1
  refine AWl.nil ?_
  refine AX.pr (Kc 14 (.cel _ _) rfl <| Kc 5 (.cel _ _) rfl <| Kc 4 (.cel _ _) rfl <| Kc 3 (.cel _ _) rfl <| Kc 0 (.cel _ _) rfl <| Kn) ?_
  refine AX.go ?_
  refine AW.cond (t := 14) rfl (by decide) (fun hc1 => ?_) (fun hc1 => ?_)
  ·
    try simp only [decide_eq_true_eq, decide_eq_false_iff_not, Bool.not_eq_true', Bool.not_eq_false'] at hc1
    refine AW.seq ?_
    refine AW.region ?_
    refine AWl.sg rfl (OpT.move (A := .cel _ _) (.inr rfl) rfl (okd rfl rfl) (I rfl) rfl) (Kc 4 (.cel _ _) rfl <| Kc 14 (.cel _ _) rfl <| Kc 5 (.cel _ _) rfl <| Kc 3 (.cel _ _) rfl <| Kc 0 (.cel _ _) rfl <| Kn) ?_
    refine AWl.sg rfl (OpT.move (A := .cel _ _) (.inr rfl) rfl (okd rfl rfl) (I rfl) rfl) (Kc 5 (.cel _ _) rfl <| Kc 4 (.cel _ _) rfl <| Kc 14 (.cel _ _) rfl <| Kc 3 (.cel _ _) rfl <| Kc 0 (.cel _ _) rfl <| Kn) ?_
    refine AWl.nil ?_
    refine AX.pr (Kc 5 (.cel _ _) rfl <| Kc 4 (.cel _ _) rfl <| Kc 3 (.cel _ _) rfl <| Kc 0 (.cel _ _) rfl <| Kn) ?_
    refine AX.go ?_
    refine AW.ret ?_
    refine AX.ret_then ?_
    exact AX.rt (rs := [.tmp 4, .tmp 5]) (ts := [some 4, some 5]) (.inl rfl) rfl (ROs.cons (RO.tmp (At.self (by decide)) (Kv rfl (by first | (rw [firstA_no hc1]; done) | (rw [firstA_all hc1 (by simpa using hc2)]; done) | (rw [firstA_yes hc1 (by simpa using hc2)]; done))) rfl) <| ROs.cons (RO.tmp (At.self (by decide)) (Kv rfl (by first | (rw [firstA_no hc1]; done) | (rw [firstA_all hc1 (by simpa using hc2)]; done) | (rw [firstA_yes hc1 (by simpa using hc2)]; done))) rfl) <| ROs.nil) (by decide) OutsOK.nil
  ·
    try simp only [decide_eq_true_eq, decide_eq_false_iff_not, Bool.not_eq_true', Bool.not_eq_false'] at hc1
    have hdk := deck_bad hc1
    refine AW.skip ?_
    refine AX.pr (Kc 5 (.cel _ _) rfl <| Kc 4 (.cel _ _) rfl <| Kc 3 (.cel _ _) rfl <| Kc 0 (.cel _ _) rfl <| Kn) ?_
    refine AX.go ?_
    refine AW.seq ?_
    refine AW.region ?_
    refine AWl.st rfl (OpT.move (A := .cel _ _) (.inl rfl) rfl (okd rfl rfl) (Tm rfl rfl rfl) rfl) rfl ?_
    refine AWl.st rfl (OpT.c1 (ms := [.flat, .flat]) (c_spec_l07Fault x v hdk hn) rfl rfl (okd rfl rfl) (Af (Tm rfl rfl rfl) rfl rfl <| Af (Tm rfl rfl rfl) rfl rfl <| An) rfl rfl) rfl ?_
    refine AWl.st rfl (OpT.move (A := .cel _ _) (.inr rfl) rfl (okd rfl rfl) (Tm rfl rfl rfl) rfl) rfl ?_
    refine AWl.nil ?_
    refine AX.pr (Kc 6 (.cel _ _) rfl <| Kc 5 (.cel _ _) rfl <| Kc 4 (.cel _ _) rfl <| Kn) ?_
    refine AX.go ?_
    refine AW.seq ?_
    refine AW.seq ?_
    refine AW.region ?_
    refine AWl.st rfl (OpT.move (A := .cel _ _) (.inl rfl) rfl (okd rfl rfl) (Tm rfl rfl rfl) rfl) rfl ?_
    refine AWl.st rfl (OpT.eql rfl rfl (okd rfl rfl) (Tm rfl rfl rfl) (I rfl)) rfl ?_
    refine AWl.nil ?_
    refine AX.pr (Kc 18 (.cel _ _) rfl <| Kc 6 (.cel _ _) rfl <| Kc 5 (.cel _ _) rfl <| Kc 4 (.cel _ _) rfl <| Kn) ?_
    refine AX.go ?_
    refine AW.cond (t := 18) rfl (by decide) (fun hc2 => ?_) (fun hc2 => ?_)
    ·
      try simp only [decide_eq_true_eq, decide_eq_false_iff_not, Bool.not_eq_true', Bool.not_eq_false'] at hc2
      refine AW.seq ?_
      refine AW.region ?_
      refine AWl.sg rfl (OpT.move (A := .cel _ _) (.inr rfl) rfl (okd rfl rfl) (I rfl) rfl) (Kc 4 (.cel _ _) rfl <| Kc 18 (.cel _ _) rfl <| Kc 6 (.cel _ _) rfl <| Kc 5 (.cel _ _) rfl <| Kn) ?_
      refine AWl.sg rfl (OpT.move (A := .cel _ _) (.inr rfl) rfl (okd rfl rfl) (I rfl) rfl) (Kc 5 (.cel _ _) rfl <| Kc 4 (.cel _ _) rfl <| Kc 18 (.cel _ _) rfl <| Kc 6 (.cel _ _) rfl <| Kn) ?_
      refine AWl.nil ?_
      refine AX.pr (Kc 5 (.cel _ _) rfl <| Kc 4 (.cel _ _) rfl <| Kc 6 (.cel _ _) rfl <| Kn) ?_
      refine AX.go ?_
      refine AW.ret ?_
      refine AX.ret_then ?_
      exact AX.rt (rs := [.tmp 4, .tmp 5]) (ts := [some 4, some 5]) (.inl rfl) rfl (ROs.cons (RO.tmp (At.self (by decide)) (Kv rfl (by first | (rw [firstA_no hc1]; done) | (rw [firstA_all hc1 (by simpa using hc2)]; done) | (rw [firstA_yes hc1 (by simpa using hc2)]; done))) rfl) <| ROs.cons (RO.tmp (At.self (by decide)) (Kv rfl (by first | (rw [firstA_no hc1]; done) | (rw [firstA_all hc1 (by simpa using hc2)]; done) | (rw [firstA_yes hc1 (by simpa using hc2)]; done))) rfl) <| ROs.nil) (by decide) OutsOK.nil
    ·
      try simp only [decide_eq_true_eq, decide_eq_false_iff_not, Bool.not_eq_true', Bool.not_eq_false'] at hc2
      refine AW.skip ?_
      refine AX.pr (Kc 6 (.cel _ _) rfl <| Kc 5 (.cel _ _) rfl <| Kc 4 (.cel _ _) rfl <| Kn) ?_
      refine AX.go ?_
      refine AW.seq ?_
      refine AW.region ?_
      refine AWl.st rfl (OpT.move (A := .cel _ _) (.inl rfl) rfl (okd rfl rfl) (Tm rfl rfl rfl) rfl) rfl ?_
      refine AWl.sg rfl (OpT.move (A := .cel _ _) (.inr rfl) rfl (okd rfl rfl) (Tm rfl rfl rfl) rfl) (Kc 4 (.cel _ _) rfl <| Kc 19 (.cel _ _) rfl <| Kc 6 (.cel _ _) rfl <| Kc 5 (.cel _ _) rfl <| Kn) ?_
      refine AWl.sg rfl (OpT.move (A := .cel _ _) (.inr rfl) rfl (okd rfl rfl) (I rfl) rfl) (Kc 5 (.cel _ _) rfl <| Kc 4 (.cel _ _) rfl <| Kc 19 (.cel _ _) rfl <| Kc 6 (.cel _ _) rfl <| Kn) ?_
      refine AWl.nil ?_
      refine AX.pr (Kc 5 (.cel _ _) rfl <| Kc 4 (.cel _ _) rfl <| Kn) ?_
      refine AX.go ?_
      refine AW.ret ?_
      exact AX.rt (rs := [.tmp 4, .tmp 5]) (ts := [some 4, some 5]) (.inl rfl) rfl (ROs.cons (RO.tmp (At.self (by decide)) (Kv rfl (by first | (rw [firstA_no hc1]; done) | (rw [firstA_all hc1 (by simpa using hc2)]; done) | (rw [firstA_yes hc1 (by simpa using hc2)]; done))) rfl) <| ROs.cons (RO.tmp (At.self (by decide)) (Kv rfl (by first | (rw [firstA_no hc1]; done) | (rw [firstA_all hc1 (by simpa using hc2)]; done) | (rw [firstA_yes hc1 (by simpa using hc2)]; done))) rfl) <| ROs.nil) (by decide) OutsOK.nil

/-- impl.FirstFault -/
theorem c_impl_FirstFault (x : List DCard) (v : DAns') (hn : v.2.1.length ≤ 1048576 ∧ v.2.2.length ≤ 1048576) : AC Tryd.prog 41 [.cel (Kd.slice kCard) x, .agg kAns v] [.cel (Kd.int .i64) (firstA x v).1, .cel (Kd.int .i64) (firstA x v).2] [] := by
  refine ⟨ACall.intro (N := 25) Tryd.func41 (c := _) (rfl : Func.body _ = some _) rfl (Nat.le_of_ble_eq_true rfl) (Nat.le_of_ble_eq_true rfl) rfl (Nat.le_of_ble_eq_true rfl) fun w0 hd s0 ar har => ?_, _, Tryd.func41, rfl, by decide⟩
  refine AW.to (Kc 0 (.cel _ _) rfl <| Kc 1 (.agg _ _) rfl <| Kn) ?_
  refine AW.fact (fun a w hr => (ok_slice (R_ok (t := 0) rfl hr)).2) (fun hl0 => ?_)
  refine AW.seq ?_
  refine AW.region ?_
  refine AWl.st rfl (OpT.frz (OpT.boxA (E := 71) rfl rfl (okd rfl rfl) (Tm rfl rfl rfl))) rfl ?_
  refine AWl.st rfl (OpT.move (A := .cel _ _) (.inr rfl) rfl (okd rfl rfl) (I rfl) rfl) rfl ?_
  refine AWl.st rfl (OpT.move (A := .cel _ _) (.inr rfl) rfl (okd rfl rfl) (I rfl) rfl) rfl ?_
  refine AWl.nil ?_
  refine AX.pr (Kc 5 (.cel _ _) rfl <| Kc 4 (.cel _ _) rfl <| Kc 3 (.cel _ _) rfl <| Kc 0 (.cel _ _) rfl <| Kn) ?_
  refine AX.go ?_
  refine AW.seq ?_
  refine AW.seq ?_
  refine AW.region ?_
  refine AWl.st rfl (OpT.move (A := .cel _ _) (.inl rfl) rfl (okd rfl rfl) (Tm rfl rfl rfl) rfl) rfl ?_
  refine AWl.st rfl (OpT.c1 (ms := [.flat]) (c_impl_isDeck _) rfl rfl (okd rfl rfl) (Af (Tm rfl rfl rfl) rfl rfl <| An) rfl rfl) rfl ?_
  refine AWl.st rfl (OpT.not rfl rfl (okd rfl rfl) (Tm rfl rfl rfl)) rfl ?_
  refine AWl.st rfl (OpT.move (A := .cel _ _) (.inl rfl) rfl (okd rfl rfl) (Tm rfl rfl rfl) rfl) rfl ?_
  apply AWl.or (d := 16) (t := 11) rfl
  · intro hb1 Q1 k1
    refine AWl.rs rfl rfl rfl rfl hb1 (OpT.fieldAddr rfl rfl (okd rfl rfl) (Tm rfl rfl rfl) fd71_0 sz68 (by decide) sb71_0) rfl ?_
    refine AWl.rs rfl rfl rfl rfl hb1 (OpT.loadA rfl rfl (okd rfl rfl) (Tm rfl rfl rfl) ag68 sz68) rfl ?_
    refine AWl.rs rfl rfl rfl rfl hb1 (OpT.c1 (ms := [.flat]) (c_impl_isQuery _) rfl rfl (okd rfl rfl) (Af (Tm rfl rfl rfl) rfl rfl <| An) rfl rfl) rfl ?_
    refine AWl.rs rfl rfl rfl rfl hb1 (OpT.not rfl rfl (okd rfl rfl) (Tm rfl rfl rfl)) rfl ?_
    refine AWl.st rfl (OpT.pickF (A := .cel _ _) rfl rfl (okd rfl rfl) (Tm rfl rfl rfl) hb1 (Tm rfl rfl rfl) rfl) rfl ?_
    exact AWl.to (junk 4 rfl) k1
  · intro hb1 Q1 k1
    refine AWl.pas rfl rfl rfl rfl hb1 rfl (okd rfl rfl) rfl ?_
    refine AWl.pas rfl rfl rfl rfl hb1 rfl (okd rfl rfl) rfl ?_
    refine AWl.pas rfl rfl rfl rfl hb1 rfl (okd rfl rfl) rfl ?_
    refine AWl.pas rfl rfl rfl rfl hb1 rfl (okd rfl rfl) rfl ?_
    refine AWl.st rfl (OpT.pickT (A := .cel _ _) rfl rfl (okd rfl rfl) (Tm rfl rfl rfl) hb1 Opd.bool rfl) rfl ?_
    exact k1
  refine AWl.nil ?_
  refine AX.pr (Kc 16 (.cel _ _) rfl <| Kc 5 (.cel _ _) rfl <| Kc 4 (.cel _ _) rfl <| Kc 3 (.cel _ _) rfl <| Kc 0 (.cel _ _) rfl <| Kn) ?_
  refine AX.go ?_
  refine AW.cond (t := 16) rfl (by decide) (fun hc1 => ?_) (fun hc1 => ?_)
  ·
    try simp only [decide_eq_true_eq, decide_eq_false_iff_not, Bool.not_eq_true', Bool.not_eq_false'] at hc1
    refine AW.seq ?_
    refine AW.region ?_
    refine AWl.sg rfl (OpT.move (A := .cel _ _) (.inr rfl) rfl (okd rfl rfl) (I rfl) rfl) (Kc 4 (.cel _ _) rfl <| Kc 16 (.cel _ _) rfl <| Kc 5 (.cel _ _) rfl <| Kc 3 (.cel _ _) rfl <| Kc 0 (.cel _ _) rfl <| Kn) ?_
    refine AWl.sg rfl (OpT.move (A := .cel _ _) (.inr rfl) rfl (okd rfl rfl) (I rfl) rfl) (Kc 5 (.cel _ _) rfl <| Kc 4 (.cel _ _) rfl <| Kc 16 (.cel _ _) rfl <| Kc 3 (.cel _ _) rfl <| Kc 0 (.cel _ _) rfl <| Kn) ?_
    refine AWl.nil ?_
    refine AX.pr (Kc 5 (.cel _ _) rfl <| Kc 4 (.cel _ _) rfl <| Kc 3 (.cel _ _) rfl <| Kc 0 (.cel _ _) rfl <| Kn) ?_
    refine AX.go ?_
    refine AW.ret ?_
    refine AX.ret_then ?_
    exact AX.rt (rs := [.tmp 4, .tmp 5]) (ts := [some 4, some 5]) (.inl rfl) rfl (ROs.cons (RO.tmp (At.self (by decide)) (Kv rfl (by first | (rw [firstA_no hc1]; done) | (rw [firstA_all hc1 (flt_two hc2)]; done) | (rw [firstA_yes hc1 (flt_not hc2)]; first | done | exact fltI_ne hc2))) rfl) <| ROs.cons (RO.tmp (At.self (by decide)) (Kv rfl (by first | (rw [firstA_no hc1]; done) | (rw [firstA_all hc1 (flt_two hc2)]; done) | (rw [firstA_yes hc1 (flt_not hc2)]; first | done | exact fltI_ne hc2))) rfl) <| ROs.nil) (by decide) OutsOK.nil
  ·
    try simp only [decide_eq_true_eq, decide_eq_false_iff_not, Bool.not_eq_true', Bool.not_eq_false'] at hc1
    have hdk := deck_bad hc1
    refine AW.skip ?_
    refine AX.pr (Kc 5 (.cel _ _) rfl <| Kc 4 (.cel _ _) rfl <| Kc 3 (.cel _ _) rfl <| Kc 0 (.cel _ _) rfl <| Kn) ?_
    refine AX.go ?_
    refine AW.seq ?_
    refine AW.region ?_
    refine AWl.st rfl (OpT.move (A := .cel _ _) (.inl rfl) rfl (okd rfl rfl) (Tm rfl rfl rfl) rfl) rfl ?_
    refine AWl.st rfl (OpT.loadA rfl rfl (okd rfl rfl) (Tm rfl rfl rfl) ag71 sz71) rfl ?_
    refine AWl.st2 rfl (OpT.c2 (ms := [.flat, .flat]) (c_impl_firstFault x v hdk hn) rfl rfl (okd rfl rfl) (Af (Tm rfl rfl rfl) rfl rfl <| Af (Tm rfl rfl rfl) rfl rfl <| An) rfl rfl rfl) rfl rfl ?_
    refine AWl.st rfl (OpT.alias rfl rfl (okd rfl rfl) (by decide) (by decide)) rfl ?_
    refine AWl.st rfl (OpT.extractV (m := 10020) rfl rfl (okd rfl rfl) rfl rfl rfl rfl rfl rfl rfl) rfl ?_
    refine AWl.st rfl (OpT.extractV (m := 20020) rfl rfl (okd rfl rfl) rfl rfl rfl rfl rfl rfl rfl) rfl ?_
    refine AWl.st rfl (OpT.move (A := .cel _ _) (.inr rfl) rfl (okd rfl rfl) (Tm rfl rfl rfl) rfl) rfl ?_
    refine AWl.st rfl (OpT.move (A := .cel _ _) (.inr rfl) rfl (okd rfl rfl) (Tm rfl rfl rfl) rfl) rfl ?_
    refine AWl.nil ?_
    refine AX.pr (Kc 7 (.cel _ _) rfl <| Kc 6 (.cel _ _) rfl <| Kc 5 (.cel _ _) rfl <| Kc 4 (.cel _ _) rfl <| Kn) ?_
    refine AX.go ?_
    refine AW.seq ?_
    refine AW.seq ?_
    refine AW.region ?_
    refine AWl.st rfl (OpT.move (A := .cel _ _) (.inl rfl) rfl (okd rfl rfl) (Tm rfl rfl rfl) rfl) rfl ?_
    refine AWl.nil ?_
    refine AX.pr (Kc 23 (.cel _ _) rfl <| Kc 6 (.cel _ _) rfl <| Kc 5 (.cel _ _) rfl <| Kc 4 (.cel _ _) rfl <| Kn) ?_
    refine AX.go ?_
    refine AW.cond (t := 23) rfl (by decide) (fun hc2 => ?_) (fun hc2 => ?_)
    ·
      try simp only [decide_eq_true_eq, decide_eq_false_iff_not, Bool.not_eq_true', Bool.not_eq_false'] at hc2
      refine AW.seq ?_
      refine AW.region ?_
      refine AWl.sg rfl (OpT.move (A := .cel _ _) (.inr rfl) rfl (okd rfl rfl) (I rfl) rfl) (Kc 4 (.cel _ _) rfl <| Kc 23 (.cel _ _) rfl <| Kc 6 (.cel _ _) rfl <| Kc 5 (.cel _ _) rfl <| Kn) ?_
      refine AWl.sg rfl (OpT.move (A := .cel _ _) (.inr rfl) rfl (okd rfl rfl) (I rfl) rfl) (Kc 5 (.cel _ _) rfl <| Kc 4 (.cel _ _) rfl <| Kc 23 (.cel _ _) rfl <| Kc 6 (.cel _ _) rfl <| Kn) ?_
      refine AWl.nil ?_
      refine AX.pr (Kc 5 (.cel _ _) rfl <| Kc 4 (.cel _ _) rfl <| Kc 6 (.cel _ _) rfl <| Kn) ?_
      refine AX.go ?_
      refine AW.ret ?_
      refine AX.ret_then ?_
      exact AX.rt (rs := [.tmp 4, .tmp 5]) (ts := [some 4, some 5]) (.inl rfl) rfl (ROs.cons (RO.tmp (At.self (by decide)) (Kv rfl (by first | (rw [firstA_no hc1]; done) | (rw [firstA_all hc1 (flt_two hc2)]; done) | (rw [firstA_yes hc1 (flt_not hc2)]; first | done | exact fltI_ne hc2))) rfl) <| ROs.cons (RO.tmp (At.self (by decide)) (Kv rfl (by first | (rw [firstA_no hc1]; done) | (rw [firstA_all hc1 (flt_two hc2)]; done) | (rw [firstA_yes hc1 (flt_not hc2)]; first | done | exact fltI_ne hc2))) rfl) <| ROs.nil) (by decide) OutsOK.nil
    ·
      try simp only [decide_eq_true_eq, decide_eq_false_iff_not, Bool.not_eq_true', Bool.not_eq_false'] at hc2
      refine AW.skip ?_
      refine AX.pr (Kc 6 (.cel _ _) rfl <| Kc 5 (.cel _ _) rfl <| Kc 4 (.cel _ _) rfl <| Kn) ?_
      refine AX.go ?_
      refine AW.seq ?_
      refine AW.region ?_
      refine AWl.st rfl (OpT.move (A := .cel _ _) (.inl rfl) rfl (okd rfl rfl) (Tm rfl rfl rfl) rfl) rfl ?_
      refine AWl.sg rfl (OpT.move (A := .cel _ _) (.inr rfl) rfl (okd rfl rfl) (Tm rfl rfl rfl) rfl) (Kc 4 (.cel _ _) rfl <| Kc 24 (.cel _ _) rfl <| Kc 6 (.cel _ _) rfl <| Kc 5 (.cel _ _) rfl <| Kn) ?_
      refine AWl.sg rfl (OpT.move (A := .cel _ _) (.inr rfl) rfl (okd rfl rfl) (I rfl) rfl) (Kc 5 (.cel _ _) rfl <| Kc 4 (.cel _ _) rfl <| Kc 24 (.cel _ _) rfl <| Kc 6 (.cel _ _) rfl <| Kn) ?_
      refine AWl.nil ?_
      refine AX.pr (Kc 5 (.cel _ _) rfl <| Kc 4 (.cel _ _) rfl <| Kn) ?_
      refine AX.go ?_
      refine AW.ret ?_
      exact AX.rt (rs := [.tmp 4, .tmp 5]) (ts := [some 4, some 5]) (.inl rfl) rfl (ROs.cons (RO.tmp (At.self (by decide)) (Kv rfl (by first | (rw [firstA_no hc1]; done) | (rw [firstA_all hc1 (flt_two hc2)]; done) | (rw [firstA_yes hc1 (flt_not hc2)]; first | done | exact fltI_ne hc2))) rfl) <| ROs.cons (RO.tmp (At.self (by decide)) (Kv rfl (by first | (rw [firstA_no hc1]; done) | (rw [firstA_all hc1 (flt_two hc2)]; done) | (rw [firstA_yes hc1 (flt_not hc2)]; first | done | exact fltI_ne hc2))) rfl) <| ROs.nil) (by decide) OutsOK.nil

set_option maxHeartbeats 4000000 in
/-- laws.FnExactCheckAnswer -/
theorem c_laws_FnExactCheckAnswer (x : List DCard) (v : DAns') : AC Tryd.prog 9 [.cel (Kd.slice kCard) x, .agg kAns v] [.cel Kd.bool true] [] := by
  refine ⟨ACall.intro (N := 58) Tryd.func9 (c := _) (rfl : Func.body _ = some _) rfl (Nat.le_of_ble_eq_true rfl) (Nat.le_of_ble_eq_true rfl) rfl (Nat.le_of_ble_eq_true rfl) fun w0 hd s0 ar har => ?_, _, Tryd.func9, rfl, by decide⟩
  refine AW.to (Kc 0 (.cel _ _) rfl <| Kc 1 (.agg _ _) rfl <| Kn) ?_
  refine AW.seq ?_
  refine AW.region ?_
  refine AWl.st rfl (OpT.frz (OpT.boxA (E := 64) rfl rfl (okd rfl rfl) (Tm rfl rfl rfl))) rfl ?_
  refine AWl.st rfl (OpT.move (A := .cel _ _) (.inr rfl) rfl (okd rfl rfl) Opd.bool rfl) rfl ?_
  refine AWl.nil ?_
  refine AX.pr (Kc 4 (.cel _ _) rfl <| Kc 3 (.cel _ _) rfl <| Kc 0 (.cel _ _) rfl <| Kn) ?_
  refine AX.go ?_
  refine AW.seq ?_
  refine AW.region ?_
  refine AWl.st rfl (OpT.move (A := .cel _ _) (.inr rfl) rfl (okd rfl rfl) (I rfl) rfl) rfl ?_
  refine AWl.nil ?_
  refine AX.go ?_
  refine AW.seq ?_
  refine AW.region ?_
  refine AWl.st rfl (OpT.move (A := .cel _ _) (.inl rfl) rfl (okd rfl rfl) (Tm rfl rfl rfl) rfl) rfl ?_
  refine AWl.st rfl (OpT.move (A := .cel _ _) (.inl rfl) rfl (okd rfl rfl) (Tm rfl rfl rfl) rfl) rfl ?_
  refine AWl.st rfl (OpT.c1 (ms := [.flat, .flat]) (c_laws_szCardS _ _ (by omega)) rfl rfl (okd rfl rfl) (Af (Tm rfl rfl rfl) rfl rfl <| Af (Tm rfl rfl rfl) rfl rfl <| An) rfl rfl) rfl ?_
  refine AWl.sg rfl (OpT.move (A := .cel _ _) (.inr rfl) rfl (okd rfl rfl) (Tm rfl rfl rfl) rfl) (Kc 5 (.cel _ _) rfl <| Kc 14 (.cel _ _) rfl <| Kc 13 (.cel _ _) rfl <| Kc 12 (.cel _ _) rfl <| Kc 4 (.cel _ _) rfl <| Kc 3 (.cel _ _) rfl <| Kc 0 (.cel _ _) rfl <| Kn) ?_
  refine AWl.nil ?_
  refine AX.pr (Kc 5 (.cel _ _) rfl <| Kc 4 (.cel _ _) rfl <| Kc 3 (.cel _ _) rfl <| Kc 0 (.cel _ _) rfl <| Kn) ?_
  refine AX.go ?_
  refine AW.seq ?_
  refine AW.seq ?_
  refine AW.region ?_
  refine AWl.st rfl (OpT.move (A := .cel _ _) (.inl rfl) rfl (okd rfl rfl) (Tm rfl rfl rfl) rfl) rfl ?_
  refine AWl.st rfl (OpT.lss rfl rfl (okd rfl rfl) (Tm rfl rfl rfl) (I rfl)) rfl ?_
  refine AWl.nil ?_
  refine AX.pr (Kc 16 (.cel _ _) rfl <| Kc 5 (.cel _ _) rfl <| Kc 4 (.cel _ _) rfl <| Kc 3 (.cel _ _) rfl <| Kc 0 (.cel _ _) rfl <| Kn) ?_
  refine AX.go ?_
  refine AW.cond (t := 16) rfl (by decide) (fun hc1 => ?_) (fun hc1 => ?_)
  ·
    try simp only [decide_eq_true_eq, decide_eq_false_iff_not, Bool.not_eq_true', Bool.not_eq_false'] at hc1
    refine AW.seq ?_
    refine AW.region ?_
    refine AWl.sg rfl (OpT.move (A := .cel _ _) (.inr rfl) rfl (okd rfl rfl) Opd.bool rfl) (Kc 4 (.cel _ _) rfl <| Kc 16 (.cel _ _) rfl <| Kc 5 (.cel _ _) rfl <| Kc 3 (.cel _ _) rfl <| Kc 0 (.cel _ _) rfl <| Kn) ?_
    refine AWl.nil ?_
    refine AX.pr (Kc 4 (.cel _ _) rfl <| Kc 5 (.cel _ _) rfl <| Kc 3 (.cel _ _) rfl <| Kc 0 (.cel _ _) rfl <| Kn) ?_
    refine AX.go ?_
    refine AW.ret ?_
    refine AX.ret_then ?_
    exact AX.rt (rs := [.tmp 4]) (ts := [some 4]) (.inl rfl) rfl (ROs.cons (RO.tmp (At.self (by decide)) (Kv rfl (by simp_all [eqv_self])) rfl) <| ROs.nil) (by decide) OutsOK.nil
  ·
    try simp only [decide_eq_true_eq, decide_eq_false_iff_not, Bool.not_eq_true', Bool.not_eq_false'] at hc1
    have k0 := okSz_list okSzC x 1048576 (by omega)
    have k1 := k0.2.2 (by omega)
    refine AW.skip ?_
    refine AX.pr (Kc 5 (.cel _ _) rfl <| Kc 4 (.cel _ _) rfl <| Kc 3 (.cel _ _) rfl <| Kc 0 (.cel _ _) rfl <| Kn) ?_
    refine AX.go ?_
    refine AW.seq ?_
    refine AW.region ?_
    refine AWl.st rfl (OpT.loadA rfl rfl (okd rfl rfl) (Tm rfl rfl rfl) ag64 sz64) rfl ?_
    refine AWl.st rfl (OpT.move (A := .cel _ _) (.inl rfl) rfl (okd rfl rfl) (Tm rfl rfl rfl) rfl) rfl ?_
    refine AWl.st rfl (OpT.c1 (ms := [.flat, .flat]) (c_laws_szAnswer _ _ (by omega)) rfl rfl (okd rfl rfl) (Af (Tm rfl rfl rfl) rfl rfl <| Af (Tm rfl rfl rfl) rfl rfl <| An) rfl rfl) rfl ?_
    refine AWl.sg rfl (OpT.move (A := .cel _ _) (.inr rfl) rfl (okd rfl rfl) (Tm rfl rfl rfl) rfl) (Kc 5 (.cel _ _) rfl <| Kc 19 (.cel _ _) rfl <| Kc 18 (.cel _ _) rfl <| Kc 17 (.agg _ _) rfl <| Kc 4 (.cel _ _) rfl <| Kc 3 (.cel _ _) rfl <| Kc 0 (.cel _ _) rfl <| Kn) ?_
    refine AWl.nil ?_
    refine AX.pr (Kc 5 (.cel _ _) rfl <| Kc 4 (.cel _ _) rfl <| Kc 3 (.cel _ _) rfl <| Kc 0 (.cel _ _) rfl <| Kn) ?_
    refine AX.go ?_
    refine AW.seq ?_
    refine AW.seq ?_
    refine AW.region ?_
    refine AWl.st rfl (OpT.move (A := .cel _ _) (.inl rfl) rfl (okd rfl rfl) (Tm rfl rfl rfl) rfl) rfl ?_
    refine AWl.st rfl (OpT.lss rfl rfl (okd rfl rfl) (Tm rfl rfl rfl) (I rfl)) rfl ?_
    refine AWl.nil ?_
    refine AX.pr (Kc 21 (.cel _ _) rfl <| Kc 4 (.cel _ _) rfl <| Kc 3 (.cel _ _) rfl <| Kc 0 (.cel _ _) rfl <| Kn) ?_
    refine AX.go ?_
    refine AW.cond (t := 21) rfl (by decide) (fun hc2 => ?_) (fun hc2 => ?_)
    ·
      try simp only [decide_eq_true_eq, decide_eq_false_iff_not, Bool.not_eq_true', Bool.not_eq_false'] at hc2
      refine AW.seq ?_
      refine AW.region ?_
      refine AWl.sg rfl (OpT.move (A := .cel _ _) (.inr rfl) rfl (okd rfl rfl) Opd.bool rfl) (Kc 4 (.cel _ _) rfl <| Kc 21 (.cel _ _) rfl <| Kc 3 (.cel _ _) rfl <| Kc 0 (.cel _ _) rfl <| Kn) ?_
      refine AWl.nil ?_
      refine AX.pr (Kc 4 (.cel _ _) rfl <| Kc 3 (.cel _ _) rfl <| Kc 0 (.cel _ _) rfl <| Kn) ?_
      refine AX.go ?_
      refine AW.ret ?_
      refine AX.ret_then ?_
      exact AX.rt (rs := [.tmp 4]) (ts := [some 4]) (.inl rfl) rfl (ROs.cons (RO.tmp (At.self (by decide)) (Kv rfl (by simp_all [eqv_self])) rfl) <| ROs.nil) (by decide) OutsOK.nil
    ·
      try simp only [decide_eq_true_eq, decide_eq_false_iff_not, Bool.not_eq_true', Bool.not_eq_false'] at hc2
      have k3 := (szA_in v (l := szSS szC x 1048576) (by omega)).2.2 (by omega)
      have k4 : v.2.1.length ≤ 1048576 ∧ v.2.2.length ≤ 1048576 := szA_small (x := v) (l := szSS szC x 1048576) (by omega) (by omega)
      refine AW.skip ?_
      refine AX.pr (Kc 4 (.cel _ _) rfl <| Kc 3 (.cel _ _) rfl <| Kc 0 (.cel _ _) rfl <| Kn) ?_
      refine AX.go ?_
      refine AW.seq ?_
      refine AW.dg fomo ?_
      refine DG.fr (d := 23) [0] (DS rfl fun ve h => OpT.move (A := .cel _ _) (.inl rfl) rfl (okd rfl rfl) (D h rfl rfl rfl rfl) rfl) rfl rfl ?_
      refine DG.fr (d := 24) [23] (DS rfl fun ve h => OpT.c1 (ms := [.flat]) (c_laws_toCardS x (by omega)) rfl rfl (okd rfl rfl) (Af (D h rfl rfl rfl rfl) rfl rfl <| An) rfl rfl) rfl rfl ?_
      refine DG.fr (d := 25) [3] (DS rfl fun ve h => OpT.loadA rfl rfl (okd rfl rfl) (D h rfl rfl rfl rfl) ag64 sz64) rfl rfl ?_
      refine DG.fr (d := 26) [25] (DS rfl fun ve h => OpT.c1 (ms := [.flat]) (c_laws_toAnswer v (by omega)) rfl rfl (okd rfl rfl) (Af (D h rfl rfl rfl rfl) rfl rfl <| An) rfl rfl) rfl rfl ?_
      refine DG.two (d := 27) [24, 26] (DS2 rfl fun ve h => OpT.c2 (ms := [.flat, .flat]) (c_spec_CheckAnswer x v k4) rfl rfl (okd rfl rfl) (Af (D h rfl rfl rfl rfl) rfl rfl <| Af (D h rfl rfl rfl rfl) rfl rfl <| An) rfl rfl rfl) rfl rfl ?_
      refine DG.fr (d := 22) [] (DS rfl fun ve h => OpT.alias rfl rfl (okd rfl rfl) (by decide) (by decide)) rfl rfl ?_
      refine DG.fr (d := 28) [22, 10027] (DS rfl fun ve h => OpT.extractV (m := 10027) rfl rfl (okd rfl rfl) ((h _ (List.elem_iff.1 rfl)).trans rfl) rfl rfl rfl ((h _ (List.elem_iff.1 rfl)).trans rfl) rfl rfl) rfl rfl ?_
      refine DG.fr (d := 29) [22, 20027] (DS rfl fun ve h => OpT.extractV (m := 20027) rfl rfl (okd rfl rfl) ((h _ (List.elem_iff.1 rfl)).trans rfl) rfl rfl rfl ((h _ (List.elem_iff.1 rfl)).trans rfl) rfl rfl) rfl rfl ?_
      refine DG.fr (d := 6) [28] (DS rfl fun ve h => OpT.move (A := .cel _ _) (.inr rfl) rfl (okd rfl rfl) (D h rfl rfl rfl rfl) rfl) rfl rfl ?_
      refine DG.fr (d := 7) [29] (DS rfl fun ve h => OpT.move (A := .cel _ _) (.inr rfl) rfl (okd rfl rfl) (D h rfl rfl rfl rfl) rfl) rfl rfl ?_
      refine DG.nil ⟨by kernel_rfl, by kernel_rfl, ?_⟩
      refine AX.pr (Kc 7 (.cel _ _) rfl <| Kc 6 (.cel _ _) rfl <| Kc 4 (.cel _ _) rfl <| Kc 3 (.cel _ _) rfl <| Kc 0 (.cel _ _) rfl <| Kn) ?_
      refine AX.go ?_
      refine AW.seq ?_
      refine AW.region ?_
      refine AWl.st rfl (OpT.move (A := .cel _ _) (.inl rfl) rfl (okd rfl rfl) (Tm rfl rfl rfl) rfl) rfl ?_
      refine AWl.st rfl (OpT.c1 (ms := [.flat]) (c_laws_toCardS x (by omega)) rfl rfl (okd rfl rfl) (Af (Tm rfl rfl rfl) rfl rfl <| An) rfl rfl) rfl ?_
      refine AWl.st rfl (OpT.move (A := .cel _ _) (.inr rfl) rfl (okd rfl rfl) (Tm rfl rfl rfl) rfl) rfl ?_
      refine AWl.nil ?_
      refine AX.pr (Kc 8 (.cel _ _) rfl <| Kc 7 (.cel _ _) rfl <| Kc 6 (.cel _ _) rfl <| Kc 4 (.cel _ _) rfl <| Kc 3 (.cel _ _) rfl <| Kc 0 (.cel _ _) rfl <| Kn) ?_
      refine AX.go ?_
      refine AW.seq ?_
      refine AW.region ?_
      refine AWl.st rfl (OpT.loadA rfl rfl (okd rfl rfl) (Tm rfl rfl rfl) ag64 sz64) rfl ?_
      refine AWl.st rfl (OpT.c1 (ms := [.flat]) (c_laws_toAnswer v (by omega)) rfl rfl (okd rfl rfl) (Af (Tm rfl rfl rfl) rfl rfl <| An) rfl rfl) rfl ?_
      refine AWl.st rfl (OpT.alloc rfl rfl (okd rfl rfl) zr71 zk71) rfl ?_
      refine AWl.sg rfl (OpT.storeBA rfl rfl (Opd.whole (Root.self (t := 9) (by decide)) rfl) rfl sz71 (by decide) (Tm rfl rfl rfl)) (Kc 9 (.box _ _ _) rfl <| Kc 33 (.agg _ _) rfl <| Kc 32 (.agg _ _) rfl <| Kc 8 (.cel _ _) rfl <| Kc 7 (.cel _ _) rfl <| Kc 6 (.cel _ _) rfl <| Kc 4 (.cel _ _) rfl <| Kc 3 (.cel _ _) rfl <| Kc 0 (.cel _ _) rfl <| Kn) ?_
      refine AWl.nil ?_
      refine AX.pr (Kc 9 (.box _ _ _) rfl <| Kc 8 (.cel _ _) rfl <| Kc 7 (.cel _ _) rfl <| Kc 6 (.cel _ _) rfl <| Kc 4 (.cel _ _) rfl <| Kc 3 (.cel _ _) rfl <| Kc 0 (.cel _ _) rfl <| Kn) ?_
      refine AX.go ?_
      refine AW.seq ?_
      refine AW.region ?_
      refine AWl.st rfl (OpT.move (A := .cel _ _) (.inl rfl) rfl (okd rfl rfl) (Tm rfl rfl rfl) rfl) rfl ?_
      refine AWl.st rfl (OpT.loadB rfl rfl (okd rfl rfl) (Root.self (t := 9) (by decide)) rfl ag71 sz71) rfl ?_
      refine AWl.st2 rfl (OpT.c2 (ms := [.flat, .flat]) (c_impl_CheckAnswer x v k4) rfl rfl (okd rfl rfl) (Af (Tm rfl rfl rfl) rfl rfl <| Af (Tm rfl rfl rfl) rfl rfl <| An) rfl rfl rfl) rfl rfl ?_
      refine AWl.st rfl (OpT.alias rfl rfl (okd rfl rfl) (by decide) (by decide)) rfl ?_
      refine AWl.st rfl (OpT.extractV (m := 10037) rfl rfl (okd rfl rfl) rfl rfl rfl rfl rfl rfl rfl) rfl ?_
      refine AWl.st rfl (OpT.extractV (m := 20037) rfl rfl (okd rfl rfl) rfl rfl rfl rfl rfl rfl rfl) rfl ?_
      refine AWl.st rfl (OpT.move (A := .cel _ _) (.inr rfl) rfl (okd rfl rfl) (Tm rfl rfl rfl) rfl) rfl ?_
      refine AWl.st rfl (OpT.move (A := .cel _ _) (.inr rfl) rfl (okd rfl rfl) (Tm rfl rfl rfl) rfl) rfl ?_
      refine AWl.nil ?_
      refine AX.pr (Kc 11 (.cel _ _) rfl <| Kc 10 (.cel _ _) rfl <| Kc 9 (.box _ _ _) rfl <| Kc 8 (.cel _ _) rfl <| Kc 7 (.cel _ _) rfl <| Kc 6 (.cel _ _) rfl <| Kc 4 (.cel _ _) rfl <| Kc 3 (.cel _ _) rfl <| Kc 0 (.cel _ _) rfl <| Kn) ?_
      refine AX.go ?_
      refine AW.seq ?_
      refine AW.seq ?_
      refine AW.region ?_
      refine AWl.st rfl (OpT.move (A := .cel _ _) (.inl rfl) rfl (okd rfl rfl) (Tm rfl rfl rfl) rfl) rfl ?_
      refine AWl.st rfl (OpT.move (A := .cel _ _) (.inl rfl) rfl (okd rfl rfl) (Tm rfl rfl rfl) rfl) rfl ?_
      refine AWl.st rfl (OpT.bneq rfl rfl (okd rfl rfl) Tryd.underlying4 (Tm rfl rfl rfl) (Tm rfl rfl rfl)) rfl ?_
      refine AWl.st rfl (OpT.move (A := .cel _ _) (.inl rfl) rfl (okd rfl rfl) (Tm rfl rfl rfl) rfl) rfl ?_
      apply AWl.or (d := 47) (t := 43) rfl
      · intro hb1 Q1 k1
        refine AWl.rs rfl rfl rfl rfl hb1 (OpT.move (A := .cel _ _) (.inl rfl) rfl (okd rfl rfl) (Tm rfl rfl rfl) rfl) rfl ?_
        refine AWl.rs rfl rfl rfl rfl hb1 (OpT.move (A := .cel _ _) (.inl rfl) rfl (okd rfl rfl) (Tm rfl rfl rfl) rfl) rfl ?_
        refine AWl.rs rfl rfl rfl rfl hb1 (OpT.neq rfl rfl (okd rfl rfl) (Tm rfl rfl rfl) (Tm rfl rfl rfl)) rfl ?_
        refine AWl.st rfl (OpT.pickF (A := .cel _ _) rfl rfl (okd rfl rfl) (Tm rfl rfl rfl) hb1 (Tm rfl rfl rfl) rfl) rfl ?_
        exact AWl.to (junk 3 rfl) k1
      · intro hb1 Q1 k1
        refine AWl.pas rfl rfl rfl rfl hb1 rfl (okd rfl rfl) rfl ?_
        refine AWl.pas rfl rfl rfl rfl hb1 rfl (okd rfl rfl) rfl ?_
        refine AWl.pas rfl rfl rfl rfl hb1 rfl (okd rfl rfl) rfl ?_
        refine AWl.st rfl (OpT.pickT (A := .cel _ _) rfl rfl (okd rfl rfl) (Tm rfl rfl rfl) hb1 Opd.bool rfl) rfl ?_
        exact k1
      refine AWl.nil ?_
      refine AX.pr (Kc 47 (.cel _ _) rfl <| Kc 9 (.box _ _ _) rfl <| Kc 8 (.cel _ _) rfl <| Kc 4 (.cel _ _) rfl <| Kc 3 (.cel _ _) rfl <| Kc 0 (.cel _ _) rfl <| Kn) ?_
      refine AX.go ?_
      refine AW.cond (t := 47) rfl (by decide) (fun hc3 => ?_) (fun hc3 => ?_)
      ·
        try simp only [decide_eq_true_eq, decide_eq_false_iff_not, Bool.not_eq_true', Bool.not_eq_false'] at hc3
        refine AW.seq ?_
        refine AW.region ?_
        refine AWl.sg rfl (OpT.move (A := .cel _ _) (.inr rfl) rfl (okd rfl rfl) Opd.bool rfl) (Kc 4 (.cel _ _) rfl <| Kc 47 (.cel _ _) rfl <| Kc 9 (.box _ _ _) rfl <| Kc 8 (.cel _ _) rfl <| Kc 3 (.cel _ _) rfl <| Kc 0 (.cel _ _) rfl <| Kn) ?_
        refine AWl.nil ?_
        refine AX.pr (Kc 4 (.cel _ _) rfl <| Kc 9 (.box _ _ _) rfl <| Kc 8 (.cel _ _) rfl <| Kc 3 (.cel _ _) rfl <| Kc 0 (.cel _ _) rfl <| Kn) ?_
        refine AX.go ?_
        refine AW.ret ?_
        refine AX.ret_then ?_
        exact AX.rt (rs := [.tmp 4]) (ts := [some 4]) (.inl rfl) rfl (ROs.cons (RO.tmp (At.self (by decide)) (Kv rfl (by simp_all [eqv_self])) rfl) <| ROs.nil) (by decide) OutsOK.nil
      ·
        try simp only [decide_eq_true_eq, decide_eq_false_iff_not, Bool.not_eq_true', Bool.not_eq_false'] at hc3
        refine AW.skip ?_
        refine AX.pr (Kc 9 (.box _ _ _) rfl <| Kc 8 (.cel _ _) rfl <| Kc 4 (.cel _ _) rfl <| Kc 3 (.cel _ _) rfl <| Kc 0 (.cel _ _) rfl <| Kn) ?_
        refine AX.go ?_
        refine AW.seq ?_
        refine AW.seq ?_
        refine AW.region ?_
        refine AWl.st rfl (OpT.move (A := .cel _ _) (.inl rfl) rfl (okd rfl rfl) (Tm rfl rfl rfl) rfl) rfl ?_
        refine AWl.st rfl (OpT.move (A := .cel _ _) (.inl rfl) rfl (okd rfl rfl) (Tm rfl rfl rfl) rfl) rfl ?_
        refine AWl.st rfl (OpT.c1 (ms := [.flat]) (c_laws_toCardS x (by omega)) rfl rfl (okd rfl rfl) (Af (Tm rfl rfl rfl) rfl rfl <| An) rfl rfl) rfl ?_
        refine AWl.st rfl (OpT.c1 (ms := [.flat, .flat]) (c_laws_eqCardS _ _) rfl rfl (okd rfl rfl) (Af (Tm rfl rfl rfl) rfl rfl <| Af (Tm rfl rfl rfl) rfl rfl <| An) rfl rfl) rfl ?_
        refine AWl.st rfl (OpT.not rfl rfl (okd rfl rfl) (Tm rfl rfl rfl)) rfl ?_
        refine AWl.nil ?_
        refine AX.pr (Kc 52 (.cel _ _) rfl <| Kc 9 (.box _ _ _) rfl <| Kc 4 (.cel _ _) rfl <| Kc 3 (.cel _ _) rfl <| Kn) ?_
        refine AX.go ?_
        refine AW.cond (t := 52) rfl (by decide) (fun hc4 => ?_) (fun hc4 => ?_)
        ·
          try simp only [decide_eq_true_eq, decide_eq_false_iff_not, Bool.not_eq_true', Bool.not_eq_false'] at hc4
          refine AW.seq ?_
          refine AW.region ?_
          refine AWl.sg rfl (OpT.move (A := .cel _ _) (.inr rfl) rfl (okd rfl rfl) Opd.bool rfl) (Kc 4 (.cel _ _) rfl <| Kc 52 (.cel _ _) rfl <| Kc 9 (.box _ _ _) rfl <| Kc 3 (.cel _ _) rfl <| Kn) ?_
          refine AWl.nil ?_
          refine AX.pr (Kc 4 (.cel _ _) rfl <| Kc 9 (.box _ _ _) rfl <| Kc 3 (.cel _ _) rfl <| Kn) ?_
          refine AX.go ?_
          refine AW.ret ?_
          refine AX.ret_then ?_
          exact AX.rt (rs := [.tmp 4]) (ts := [some 4]) (.inl rfl) rfl (ROs.cons (RO.tmp (At.self (by decide)) (Kv rfl (by simp_all [eqv_self])) rfl) <| ROs.nil) (by decide) OutsOK.nil
        ·
          try simp only [decide_eq_true_eq, decide_eq_false_iff_not, Bool.not_eq_true', Bool.not_eq_false'] at hc4
          refine AW.skip ?_
          refine AX.pr (Kc 9 (.box _ _ _) rfl <| Kc 4 (.cel _ _) rfl <| Kc 3 (.cel _ _) rfl <| Kn) ?_
          refine AX.go ?_
          refine AW.seq ?_
          refine AW.seq ?_
          refine AW.dg fomo ?_
          refine DG.fr (d := 53) [9] (DS rfl fun ve h => OpT.loadB rfl rfl (okd rfl rfl) (Root.self (t := 9) (by decide)) ((h _ (List.elem_iff.1 rfl)).trans rfl) ag71 sz71) rfl rfl ?_
          refine DG.fr (d := 54) [3] (DS rfl fun ve h => OpT.loadA rfl rfl (okd rfl rfl) (D h rfl rfl rfl rfl) ag64 sz64) rfl rfl ?_
          refine DG.fr (d := 55) [54] (DS rfl fun ve h => OpT.c1 (ms := [.flat]) (c_laws_toAnswer v (by omega)) rfl rfl (okd rfl rfl) (Af (D h rfl rfl rfl rfl) rfl rfl <| An) rfl rfl) rfl rfl ?_
          refine DG.fr (d := 56) [53, 55] (DS rfl fun ve h => OpT.c1 (ms := [.flat, .flat]) (c_laws_eqAnswer _ _) rfl rfl (okd rfl rfl) (Af (D h rfl rfl rfl rfl) rfl rfl <| Af (D h rfl rfl rfl rfl) rfl rfl <| An) rfl rfl) rfl rfl ?_
          refine DG.fr (d := 57) [56] (DS rfl fun ve h => OpT.not rfl rfl (okd rfl rfl) (D h rfl rfl rfl rfl)) rfl rfl ?_
          refine DG.nil ⟨by kernel_rfl, by kernel_rfl, ?_⟩
          refine AX.pr (Kc 57 (.cel _ _) rfl <| Kc 4 (.cel _ _) rfl <| Kn) ?_
          refine AX.go ?_
          refine AW.cond (t := 57) rfl (by decide) (fun hc5 => ?_) (fun hc5 => ?_)
          ·
            try simp only [decide_eq_true_eq, decide_eq_false_iff_not, Bool.not_eq_true', Bool.not_eq_false'] at hc5
            refine AW.seq ?_
            refine AW.region ?_
            refine AWl.sg rfl (OpT.move (A := .cel _ _) (.inr rfl) rfl (okd rfl rfl) Opd.bool rfl) (Kc 4 (.cel _ _) rfl <| Kc 57 (.cel _ _) rfl <| Kn) ?_
            refine AWl.nil ?_
            refine AX.pr (Kc 4 (.cel _ _) rfl <| Kn) ?_
            refine AX.go ?_
            refine AW.ret ?_
            refine AX.ret_then ?_
            exact AX.rt (rs := [.tmp 4]) (ts := [some 4]) (.inl rfl) rfl (ROs.cons (RO.tmp (At.self (by decide)) (Kv rfl (by simp_all [eqv_self])) rfl) <| ROs.nil) (by decide) OutsOK.nil
          ·
            try simp only [decide_eq_true_eq, decide_eq_false_iff_not, Bool.not_eq_true', Bool.not_eq_false'] at hc5
            refine AW.skip ?_
            refine AX.pr (Kc 4 (.cel _ _) rfl <| Kn) ?_
            refine AX.go ?_
            refine AW.seq ?_
            refine AW.region ?_
            refine AWl.sg rfl (OpT.move (A := .cel _ _) (.inr rfl) rfl (okd rfl rfl) Opd.bool rfl) (Kc 4 (.cel _ _) rfl <| Kn) ?_
            refine AWl.nil ?_
            refine AX.go ?_
            refine AW.ret ?_
            exact AX.rt (rs := [.tmp 4]) (ts := [some 4]) (.inl rfl) rfl (ROs.cons (RO.tmp (At.self (by decide)) (Kv rfl (by simp_all [eqv_self])) rfl) <| ROs.nil) (by decide) OutsOK.nil

set_option maxHeartbeats 4000000 in
/-- laws.FnExactFirstFault -/
theorem c_laws_FnExactFirstFault (x : List DCard) (v : DAns') : AC Tryd.prog 10 [.cel (Kd.slice kCard) x, .agg kAns v] [.cel Kd.bool true] [] := by
  refine ⟨ACall.intro (N := 58) Tryd.func10 (c := _) (rfl : Func.body _ = some _) rfl (Nat.le_of_ble_eq_true rfl) (Nat.le_of_ble_eq_true rfl) rfl (Nat.le_of_ble_eq_true rfl) fun w0 hd s0 ar har => ?_, _, Tryd.func10, rfl, by decide⟩
  refine AW.to (Kc 0 (.cel _ _) rfl <| Kc 1 (.agg _ _) rfl <| Kn) ?_
  refine AW.seq ?_
  refine AW.region ?_
  refine AWl.st rfl (OpT.frz (OpT.boxA (E := 64) rfl rfl (okd rfl rfl) (Tm rfl rfl rfl))) rfl ?_
  refine AWl.st rfl (OpT.move (A := .cel _ _) (.inr rfl) rfl (okd rfl rfl) Opd.bool rfl) rfl ?_
  refine AWl.nil ?_
  refine AX.pr (Kc 4 (.cel _ _) rfl <| Kc 3 (.cel _ _) rfl <| Kc 0 (.cel _ _) rfl <| Kn) ?_
  refine AX.go ?_
  refine AW.seq ?_
  refine AW.region ?_
  refine AWl.st rfl (OpT.move (A := .cel _ _) (.inr rfl) rfl (okd rfl rfl) (I rfl) rfl) rfl ?_
  refine AWl.nil ?_
  refine AX.go ?_
  refine AW.seq ?_
  refine AW.region ?_
  refine AWl.st rfl (OpT.move (A := .cel _ _) (.inl rfl) rfl (okd rfl rfl) (Tm rfl rfl rfl) rfl) rfl ?_
  refine AWl.st rfl (OpT.move (A := .cel _ _) (.inl rfl) rfl (okd rfl rfl) (Tm rfl rfl rfl) rfl) rfl ?_
  refine AWl.st rfl (OpT.c1 (ms := [.flat, .flat]) (c_laws_szCardS _ _ (by omega)) rfl rfl (okd rfl rfl) (Af (Tm rfl rfl rfl) rfl rfl <| Af (Tm rfl rfl rfl) rfl rfl <| An) rfl rfl) rfl ?_
  refine AWl.sg rfl (OpT.move (A := .cel _ _) (.inr rfl) rfl (okd rfl rfl) (Tm rfl rfl rfl) rfl) (Kc 5 (.cel _ _) rfl <| Kc 14 (.cel _ _) rfl <| Kc 13 (.cel _ _) rfl <| Kc 12 (.cel _ _) rfl <| Kc 4 (.cel _ _) rfl <| Kc 3 (.cel _ _) rfl <| Kc 0 (.cel _ _) rfl <| Kn) ?_
  refine AWl.nil ?_
  refine AX.pr (Kc 5 (.cel _ _) rfl <| Kc 4 (.cel _ _) rfl <| Kc 3 (.cel _ _) rfl <| Kc 0 (.cel _ _) rfl <| Kn) ?_
  refine AX.go ?_
  refine AW.seq ?_
  refine AW.seq ?_
  refine AW.region ?_
  refine AWl.st rfl (OpT.move (A := .cel _ _) (.inl rfl) rfl (okd rfl rfl) (Tm rfl rfl rfl) rfl) rfl ?_
  refine AWl.st rfl (OpT.lss rfl rfl (okd rfl rfl) (Tm rfl rfl rfl) (I rfl)) rfl ?_
  refine AWl.nil ?_
  refine AX.pr (Kc 16 (.cel _ _) rfl <| Kc 5 (.cel _ _) rfl <| Kc 4 (.cel _ _) rfl <| Kc 3 (.cel _ _) rfl <| Kc 0 (.cel _ _) rfl <| Kn) ?_
  refine AX.go ?_
  refine AW.cond (t := 16) rfl (by decide) (fun hc1 => ?_) (fun hc1 => ?_)
  ·
    try simp only [decide_eq_true_eq, decide_eq_false_iff_not, Bool.not_eq_true', Bool.not_eq_false'] at hc1
    refine AW.seq ?_
    refine AW.region ?_
    refine AWl.sg rfl (OpT.move (A := .cel _ _) (.inr rfl) rfl (okd rfl rfl) Opd.bool rfl) (Kc 4 (.cel _ _) rfl <| Kc 16 (.cel _ _) rfl <| Kc 5 (.cel _ _) rfl <| Kc 3 (.cel _ _) rfl <| Kc 0 (.cel _ _) rfl <| Kn) ?_
    refine AWl.nil ?_
    refine AX.pr (Kc 4 (.cel _ _) rfl <| Kc 5 (.cel _ _) rfl <| Kc 3 (.cel _ _) rfl <| Kc 0 (.cel _ _) rfl <| Kn) ?_
    refine AX.go ?_
    refine AW.ret ?_
    refine AX.ret_then ?_
    exact AX.rt (rs := [.tmp 4]) (ts := [some 4]) (.inl rfl) rfl (ROs.cons (RO.tmp (At.self (by decide)) (Kv rfl (by simp_all [eqv_self])) rfl) <| ROs.nil) (by decide) OutsOK.nil
  ·
    try simp only [decide_eq_true_eq, decide_eq_false_iff_not, Bool.not_eq_true', Bool.not_eq_false'] at hc1
    have k0 := okSz_list okSzC x 1048576 (by omega)
    have k1 := k0.2.2 (by omega)
    refine AW.skip ?_
    refine AX.pr (Kc 5 (.cel _ _) rfl <| Kc 4 (.cel _ _) rfl <| Kc 3 (.cel _ _) rfl <| Kc 0 (.cel _ _) rfl <| Kn) ?_
    refine AX.go ?_
    refine AW.seq ?_
    refine AW.region ?_
    refine AWl.st rfl (OpT.loadA rfl rfl (okd rfl rfl) (Tm rfl rfl rfl) ag64 sz64) rfl ?_
    refine AWl.st rfl (OpT.move (A := .cel _ _) (.inl rfl) rfl (okd rfl rfl) (Tm rfl rfl rfl) rfl) rfl ?_
    refine AWl.st rfl (OpT.c1 (ms := [.flat, .flat]) (c_laws_szAnswer _ _ (by omega)) rfl rfl (okd rfl rfl) (Af (Tm rfl rfl rfl) rfl rfl <| Af (Tm rfl rfl rfl) rfl rfl <| An) rfl rfl) rfl ?_
    refine AWl.sg rfl (OpT.move (A := .cel _ _) (.inr rfl) rfl (okd rfl rfl) (Tm rfl rfl rfl) rfl) (Kc 5 (.cel _ _) rfl <| Kc 19 (.cel _ _) rfl <| Kc 18 (.cel _ _) rfl <| Kc 17 (.agg _ _) rfl <| Kc 4 (.cel _ _) rfl <| Kc 3 (.cel _ _) rfl <| Kc 0 (.cel _ _) rfl <| Kn) ?_
    refine AWl.nil ?_
    refine AX.pr (Kc 5 (.cel _ _) rfl <| Kc 4 (.cel _ _) rfl <| Kc 3 (.cel _ _) rfl <| Kc 0 (.cel _ _) rfl <| Kn) ?_
    refine AX.go ?_
    refine AW.seq ?_
    refine AW.seq ?_
    refine AW.region ?_
    refine AWl.st rfl (OpT.move (A := .cel _ _) (.inl rfl) rfl (okd rfl rfl) (Tm rfl rfl rfl) rfl) rfl ?_
    refine AWl.st rfl (OpT.lss rfl rfl (okd rfl rfl) (Tm rfl rfl rfl) (I rfl)) rfl ?_
    refine AWl.nil ?_
    refine AX.pr (Kc 21 (.cel _ _) rfl <| Kc 4 (.cel _ _) rfl <| Kc 3 (.cel _ _) rfl <| Kc 0 (.cel _ _) rfl <| Kn) ?_
    refine AX.go ?_
    refine AW.cond (t := 21) rfl (by decide) (fun hc2 => ?_) (fun hc2 => ?_)
    ·
      try simp only [decide_eq_true_eq, decide_eq_false_iff_not, Bool.not_eq_true', Bool.not_eq_false'] at hc2
      refine AW.seq ?_
      refine AW.region ?_
      refine AWl.sg rfl (OpT.move (A := .cel _ _) (.inr rfl) rfl (okd rfl rfl) Opd.bool rfl) (Kc 4 (.cel _ _) rfl <| Kc 21 (.cel _ _) rfl <| Kc 3 (.cel _ _) rfl <| Kc 0 (.cel _ _) rfl <| Kn) ?_
      refine AWl.nil ?_
      refine AX.pr (Kc 4 (.cel _ _) rfl <| Kc 3 (.cel _ _) rfl <| Kc 0 (.cel _ _) rfl <| Kn) ?_
      refine AX.go ?_
      refine AW.ret ?_
      refine AX.ret_then ?_
      exact AX.rt (rs := [.tmp 4]) (ts := [some 4]) (.inl rfl) rfl (ROs.cons (RO.tmp (At.self (by decide)) (Kv rfl (by simp_all [eqv_self])) rfl) <| ROs.nil) (by decide) OutsOK.nil
    ·
      try simp only [decide_eq_true_eq, decide_eq_false_iff_not, Bool.not_eq_true', Bool.not_eq_false'] at hc2
      have k3 := (szA_in v (l := szSS szC x 1048576) (by omega)).2.2 (by omega)
      have k4 : v.2.1.length ≤ 1048576 ∧ v.2.2.length ≤ 1048576 := szA_small (x := v) (l := szSS szC x 1048576) (by omega) (by omega)
      refine AW.skip ?_
      refine AX.pr (Kc 4 (.cel _ _) rfl <| Kc 3 (.cel _ _) rfl <| Kc 0 (.cel _ _) rfl <| Kn) ?_
      refine AX.go ?_
      refine AW.seq ?_
      refine AW.dg fomo ?_
      refine DG.fr (d := 23) [0] (DS rfl fun ve h => OpT.move (A := .cel _ _) (.inl rfl) rfl (okd rfl rfl) (D h rfl rfl rfl rfl) rfl) rfl rfl ?_
      refine DG.fr (d := 24) [23] (DS rfl fun ve h => OpT.c1 (ms := [.flat]) (c_laws_toCardS x (by omega)) rfl rfl (okd rfl rfl) (Af (D h rfl rfl rfl rfl) rfl rfl <| An) rfl rfl) rfl rfl ?_
      refine DG.fr (d := 25) [3] (DS rfl fun ve h => OpT.loadA rfl rfl (okd rfl rfl) (D h rfl rfl rfl rfl) ag64 sz64) rfl rfl ?_
      refine DG.fr (d := 26) [25] (DS rfl fun ve h => OpT.c1 (ms := [.flat]) (c_laws_toAnswer v (by omega)) rfl rfl (okd rfl rfl) (Af (D h rfl rfl rfl rfl) rfl rfl <| An) rfl rfl) rfl rfl ?_
      refine DG.two (d := 27) [24, 26] (DS2 rfl fun ve h => OpT.c2 (ms := [.flat, .flat]) (c_spec_FirstFault x v k4) rfl rfl (okd rfl rfl) (Af (D h rfl rfl rfl rfl) rfl rfl <| Af (D h rfl rfl rfl rfl) rfl rfl <| An) rfl rfl rfl) rfl rfl ?_
      refine DG.fr (d := 22) [] (DS rfl fun ve h => OpT.alias rfl rfl (okd rfl rfl) (by decide) (by decide)) rfl rfl ?_
      refine DG.fr (d := 28) [22, 10027] (DS rfl fun ve h => OpT.extractV (m := 10027) rfl rfl (okd rfl rfl) ((h _ (List.elem_iff.1 rfl)).trans rfl) rfl rfl rfl ((h _ (List.elem_iff.1 rfl)).trans rfl) rfl rfl) rfl rfl ?_
      refine DG.fr (d := 29) [22, 20027] (DS rfl fun ve h => OpT.extractV (m := 20027) rfl rfl (okd rfl rfl) ((h _ (List.elem_iff.1 rfl)).trans rfl) rfl rfl rfl ((h _ (List.elem_iff.1 rfl)).trans rfl) rfl rfl) rfl rfl ?_
      refine DG.fr (d := 6) [28] (DS rfl fun ve h => OpT.move (A := .cel _ _) (.inr rfl) rfl (okd rfl rfl) (D h rfl rfl rfl rfl) rfl) rfl rfl ?_
      refine DG.fr (d := 7) [29] (DS rfl fun ve h => OpT.move (A := .cel _ _) (.inr rfl) rfl (okd rfl rfl) (D h rfl rfl rfl rfl) rfl) rfl rfl ?_
      refine DG.nil ⟨by kernel_rfl, by kernel_rfl, ?_⟩
      refine AX.pr (Kc 7 (.cel _ _) rfl <| Kc 6 (.cel _ _) rfl <| Kc 4 (.cel _ _) rfl <| Kc 3 (.cel _ _) rfl <| Kc 0 (.cel _ _) rfl <| Kn) ?_
      refine AX.go ?_
      refine AW.seq ?_
      refine AW.region ?_
      refine AWl.st rfl (OpT.move (A := .cel _ _) (.inl rfl) rfl (okd rfl rfl) (Tm rfl rfl rfl) rfl) rfl ?_
      refine AWl.st rfl (OpT.c1 (ms := [.flat]) (c_laws_toCardS x (by omega)) rfl rfl (okd rfl rfl) (Af (Tm rfl rfl rfl) rfl rfl <| An) rfl rfl) rfl ?_
      refine AWl.st rfl (OpT.move (A := .cel _ _) (.inr rfl) rfl (okd rfl rfl) (Tm rfl rfl rfl) rfl) rfl ?_
      refine AWl.nil ?_
      refine AX.pr (Kc 8 (.cel _ _) rfl <| Kc 7 (.cel _ _) rfl <| Kc 6 (.cel _ _) rfl <| Kc 4 (.cel _ _) rfl <| Kc 3 (.cel _ _) rfl <| Kc 0 (.cel _ _) rfl <| Kn) ?_
      refine AX.go ?_
      refine AW.seq ?_
      refine AW.region ?_
      refine AWl.st rfl (OpT.loadA rfl rfl (okd rfl rfl) (Tm rfl rfl rfl) ag64 sz64) rfl ?_
      refine AWl.st rfl (OpT.c1 (ms := [.flat]) (c_laws_toAnswer v (by omega)) rfl rfl (okd rfl rfl) (Af (Tm rfl rfl rfl) rfl rfl <| An) rfl rfl) rfl ?_
      refine AWl.st rfl (OpT.alloc rfl rfl (okd rfl rfl) zr71 zk71) rfl ?_
      refine AWl.sg rfl (OpT.storeBA rfl rfl (Opd.whole (Root.self (t := 9) (by decide)) rfl) rfl sz71 (by decide) (Tm rfl rfl rfl)) (Kc 9 (.box _ _ _) rfl <| Kc 33 (.agg _ _) rfl <| Kc 32 (.agg _ _) rfl <| Kc 8 (.cel _ _) rfl <| Kc 7 (.cel _ _) rfl <| Kc 6 (.cel _ _) rfl <| Kc 4 (.cel _ _) rfl <| Kc 3 (.cel _ _) rfl <| Kc 0 (.cel _ _) rfl <| Kn) ?_
      refine AWl.nil ?_
      refine AX.pr (Kc 9 (.box _ _ _) rfl <| Kc 8 (.cel _ _) rfl <| Kc 7 (.cel _ _) rfl <| Kc 6 (.cel _ _) rfl <| Kc 4 (.cel _ _) rfl <| Kc 3 (.cel _ _) rfl <| Kc 0 (.cel _ _) rfl <| Kn) ?_
      refine AX.go ?_
      refine AW.seq ?_
      refine AW.region ?_
      refine AWl.st rfl (OpT.move (A := .cel _ _) (.inl rfl) rfl (okd rfl rfl) (Tm rfl rfl rfl) rfl) rfl ?_
      refine AWl.st rfl (OpT.loadB rfl rfl (okd rfl rfl) (Root.self (t := 9) (by decide)) rfl ag71 sz71) rfl ?_
      refine AWl.st2 rfl (OpT.c2 (ms := [.flat, .flat]) (c_impl_FirstFault x v k4) rfl rfl (okd rfl rfl) (Af (Tm rfl rfl rfl) rfl rfl <| Af (Tm rfl rfl rfl) rfl rfl <| An) rfl rfl rfl) rfl rfl ?_
      refine AWl.st rfl (OpT.alias rfl rfl (okd rfl rfl) (by decide) (by decide)) rfl ?_
      refine AWl.st rfl (OpT.extractV (m := 10037) rfl rfl (okd rfl rfl) rfl rfl rfl rfl rfl rfl rfl) rfl ?_
      refine AWl.st rfl (OpT.extractV (m := 20037) rfl rfl (okd rfl rfl) rfl rfl rfl rfl rfl rfl rfl) rfl ?_
      refine AWl.st rfl (OpT.move (A := .cel _ _) (.inr rfl) rfl (okd rfl rfl) (Tm rfl rfl rfl) rfl) rfl ?_
      refine AWl.st rfl (OpT.move (A := .cel _ _) (.inr rfl) rfl (okd rfl rfl) (Tm rfl rfl rfl) rfl) rfl ?_
      refine AWl.nil ?_
      refine AX.pr (Kc 11 (.cel _ _) rfl <| Kc 10 (.cel _ _) rfl <| Kc 9 (.box _ _ _) rfl <| Kc 8 (.cel _ _) rfl <| Kc 7 (.cel _ _) rfl <| Kc 6 (.cel _ _) rfl <| Kc 4 (.cel _ _) rfl <| Kc 3 (.cel _ _) rfl <| Kc 0 (.cel _ _) rfl <| Kn) ?_
      refine AX.go ?_
      refine AW.seq ?_
      refine AW.seq ?_
      refine AW.region ?_
      refine AWl.st rfl (OpT.move (A := .cel _ _) (.inl rfl) rfl (okd rfl rfl) (Tm rfl rfl rfl) rfl) rfl ?_
      refine AWl.st rfl (OpT.move (A := .cel _ _) (.inl rfl) rfl (okd rfl rfl) (Tm rfl rfl rfl) rfl) rfl ?_
      refine AWl.st rfl (OpT.neq rfl rfl (okd rfl rfl) (Tm rfl rfl rfl) (Tm rfl rfl rfl)) rfl ?_
      refine AWl.st rfl (OpT.move (A := .cel _ _) (.inl rfl) rfl (okd rfl rfl) (Tm rfl rfl rfl) rfl) rfl ?_
      apply AWl.or (d := 47) (t := 43) rfl
      · intro hb1 Q1 k1
        refine AWl.rs rfl rfl rfl rfl hb1 (OpT.move (A := .cel _ _) (.inl rfl) rfl (okd rfl rfl) (Tm rfl rfl rfl) rfl) rfl ?_
        refine AWl.rs rfl rfl rfl rfl hb1 (OpT.move (A := .cel _ _) (.inl rfl) rfl (okd rfl rfl) (Tm rfl rfl rfl) rfl) rfl ?_
        refine AWl.rs rfl rfl rfl rfl hb1 (OpT.neq rfl rfl (okd rfl rfl) (Tm rfl rfl rfl) (Tm rfl rfl rfl)) rfl ?_
        refine AWl.st rfl (OpT.pickF (A := .cel _ _) rfl rfl (okd rfl rfl) (Tm rfl rfl rfl) hb1 (Tm rfl rfl rfl) rfl) rfl ?_
        exact AWl.to (junk 3 rfl) k1
      · intro hb1 Q1 k1
        refine AWl.pas rfl rfl rfl rfl hb1 rfl (okd rfl rfl) rfl ?_
        refine AWl.pas rfl rfl rfl rfl hb1 rfl (okd rfl rfl) rfl ?_
        refine AWl.pas rfl rfl rfl rfl hb1 rfl (okd rfl rfl) rfl ?_
        refine AWl.st rfl (OpT.pickT (A := .cel _ _) rfl rfl (okd rfl rfl) (Tm rfl rfl rfl) hb1 Opd.bool rfl) rfl ?_
        exact k1
      refine AWl.nil ?_
      refine AX.pr (Kc 47 (.cel _ _) rfl <| Kc 9 (.box _ _ _) rfl <| Kc 8 (.cel _ _) rfl <| Kc 4 (.cel _ _) rfl <| Kc 3 (.cel _ _) rfl <| Kc 0 (.cel _ _) rfl <| Kn) ?_
      refine AX.go ?_
      refine AW.cond (t := 47) rfl (by decide) (fun hc3 => ?_) (fun hc3 => ?_)
      ·
        try simp only [decide_eq_true_eq, decide_eq_false_iff_not, Bool.not_eq_true', Bool.not_eq_false'] at hc3
        refine AW.seq ?_
        refine AW.region ?_
        refine AWl.sg rfl (OpT.move (A := .cel _ _) (.inr rfl) rfl (okd rfl rfl) Opd.bool rfl) (Kc 4 (.cel _ _) rfl <| Kc 47 (.cel _ _) rfl <| Kc 9 (.box _ _ _) rfl <| Kc 8 (.cel _ _) rfl <| Kc 3 (.cel _ _) rfl <| Kc 0 (.cel _ _) rfl <| Kn) ?_
        refine AWl.nil ?_
        refine AX.pr (Kc 4 (.cel _ _) rfl <| Kc 9 (.box _ _ _) rfl <| Kc 8 (.cel _ _) rfl <| Kc 3 (.cel _ _) rfl <| Kc 0 (.cel _ _) rfl <| Kn) ?_
        refine AX.go ?_
        refine AW.ret ?_
        refine AX.ret_then ?_
        exact AX.rt (rs := [.tmp 4]) (ts := [some 4]) (.inl rfl) rfl (ROs.cons (RO.tmp (At.self (by decide)) (Kv rfl (by simp_all [eqv_self])) rfl) <| ROs.nil) (by decide) OutsOK.nil
      ·
        try simp only [decide_eq_true_eq, decide_eq_false_iff_not, Bool.not_eq_true', Bool.not_eq_false'] at hc3
        refine AW.skip ?_
        refine AX.pr (Kc 9 (.box _ _ _) rfl <| Kc 8 (.cel _ _) rfl <| Kc 4 (.cel _ _) rfl <| Kc 3 (.cel _ _) rfl <| Kc 0 (.cel _ _) rfl <| Kn) ?_
        refine AX.go ?_
        refine AW.seq ?_
        refine AW.seq ?_
        refine AW.region ?_
        refine AWl.st rfl (OpT.move (A := .cel _ _) (.inl rfl) rfl (okd rfl rfl) (Tm rfl rfl rfl) rfl) rfl ?_
        refine AWl.st rfl (OpT.move (A := .cel _ _) (.inl rfl) rfl (okd rfl rfl) (Tm rfl rfl rfl) rfl) rfl ?_
        refine AWl.st rfl (OpT.c1 (ms := [.flat]) (c_laws_toCardS x (by omega)) rfl rfl (okd rfl rfl) (Af (Tm rfl rfl rfl) rfl rfl <| An) rfl rfl) rfl ?_
        refine AWl.st rfl (OpT.c1 (ms := [.flat, .flat]) (c_laws_eqCardS _ _) rfl rfl (okd rfl rfl) (Af (Tm rfl rfl rfl) rfl rfl <| Af (Tm rfl rfl rfl) rfl rfl <| An) rfl rfl) rfl ?_
        refine AWl.st rfl (OpT.not rfl rfl (okd rfl rfl) (Tm rfl rfl rfl)) rfl ?_
        refine AWl.nil ?_
        refine AX.pr (Kc 52 (.cel _ _) rfl <| Kc 9 (.box _ _ _) rfl <| Kc 4 (.cel _ _) rfl <| Kc 3 (.cel _ _) rfl <| Kn) ?_
        refine AX.go ?_
        refine AW.cond (t := 52) rfl (by decide) (fun hc4 => ?_) (fun hc4 => ?_)
        ·
          try simp only [decide_eq_true_eq, decide_eq_false_iff_not, Bool.not_eq_true', Bool.not_eq_false'] at hc4
          refine AW.seq ?_
          refine AW.region ?_
          refine AWl.sg rfl (OpT.move (A := .cel _ _) (.inr rfl) rfl (okd rfl rfl) Opd.bool rfl) (Kc 4 (.cel _ _) rfl <| Kc 52 (.cel _ _) rfl <| Kc 9 (.box _ _ _) rfl <| Kc 3 (.cel _ _) rfl <| Kn) ?_
          refine AWl.nil ?_
          refine AX.pr (Kc 4 (.cel _ _) rfl <| Kc 9 (.box _ _ _) rfl <| Kc 3 (.cel _ _) rfl <| Kn) ?_
          refine AX.go ?_
          refine AW.ret ?_
          refine AX.ret_then ?_
          exact AX.rt (rs := [.tmp 4]) (ts := [some 4]) (.inl rfl) rfl (ROs.cons (RO.tmp (At.self (by decide)) (Kv rfl (by simp_all [eqv_self])) rfl) <| ROs.nil) (by decide) OutsOK.nil
        ·
          try simp only [decide_eq_true_eq, decide_eq_false_iff_not, Bool.not_eq_true', Bool.not_eq_false'] at hc4
          refine AW.skip ?_
          refine AX.pr (Kc 9 (.box _ _ _) rfl <| Kc 4 (.cel _ _) rfl <| Kc 3 (.cel _ _) rfl <| Kn) ?_
          refine AX.go ?_
          refine AW.seq ?_
          refine AW.seq ?_
          refine AW.dg fomo ?_
          refine DG.fr (d := 53) [9] (DS rfl fun ve h => OpT.loadB rfl rfl (okd rfl rfl) (Root.self (t := 9) (by decide)) ((h _ (List.elem_iff.1 rfl)).trans rfl) ag71 sz71) rfl rfl ?_
          refine DG.fr (d := 54) [3] (DS rfl fun ve h => OpT.loadA rfl rfl (okd rfl rfl) (D h rfl rfl rfl rfl) ag64 sz64) rfl rfl ?_
          refine DG.fr (d := 55) [54] (DS rfl fun ve h => OpT.c1 (ms := [.flat]) (c_laws_toAnswer v (by omega)) rfl rfl (okd rfl rfl) (Af (D h rfl rfl rfl rfl) rfl rfl <| An) rfl rfl) rfl rfl ?_
          refine DG.fr (d := 56) [53, 55] (DS rfl fun ve h => OpT.c1 (ms := [.flat, .flat]) (c_laws_eqAnswer _ _) rfl rfl (okd rfl rfl) (Af (D h rfl rfl rfl rfl) rfl rfl <| Af (D h rfl rfl rfl rfl) rfl rfl <| An) rfl rfl) rfl rfl ?_
          refine DG.fr (d := 57) [56] (DS rfl fun ve h => OpT.not rfl rfl (okd rfl rfl) (D h rfl rfl rfl rfl)) rfl rfl ?_
          refine DG.nil ⟨by kernel_rfl, by kernel_rfl, ?_⟩
          refine AX.pr (Kc 57 (.cel _ _) rfl <| Kc 4 (.cel _ _) rfl <| Kn) ?_
          refine AX.go ?_
          refine AW.cond (t := 57) rfl (by decide) (fun hc5 => ?_) (fun hc5 => ?_)
          ·
            try simp only [decide_eq_true_eq, decide_eq_false_iff_not, Bool.not_eq_true', Bool.not_eq_false'] at hc5
            refine AW.seq ?_
            refine AW.region ?_
            refine AWl.sg rfl (OpT.move (A := .cel _ _) (.inr rfl) rfl (okd rfl rfl) Opd.bool rfl) (Kc 4 (.cel _ _) rfl <| Kc 57 (.cel _ _) rfl <| Kn) ?_
            refine AWl.nil ?_
            refine AX.pr (Kc 4 (.cel _ _) rfl <| Kn) ?_
            refine AX.go ?_
            refine AW.ret ?_
            refine AX.ret_then ?_
            exact AX.rt (rs := [.tmp 4]) (ts := [some 4]) (.inl rfl) rfl (ROs.cons (RO.tmp (At.self (by decide)) (Kv rfl (by simp_all [eqv_self])) rfl) <| ROs.nil) (by decide) OutsOK.nil
          ·
            try simp only [decide_eq_true_eq, decide_eq_false_iff_not, Bool.not_eq_true', Bool.not_eq_false'] at hc5
            refine AW.skip ?_
            refine AX.pr (Kc 4 (.cel _ _) rfl <| Kn) ?_
            refine AX.go ?_
            refine AW.seq ?_
            refine AW.region ?_
            refine AWl.sg rfl (OpT.move (A := .cel _ _) (.inr rfl) rfl (okd rfl rfl) Opd.bool rfl) (Kc 4 (.cel _ _) rfl <| Kn) ?_
            refine AWl.nil ?_
            refine AX.go ?_
            refine AW.ret ?_
            exact AX.rt (rs := [.tmp 4]) (ts := [some 4]) (.inl rfl) rfl (ROs.cons (RO.tmp (At.self (by decide)) (Kv rfl (by simp_all [eqv_self])) rfl) <| ROs.nil) (by decide) OutsOK.nil
end Go.Proofs.YtcaeabgfgofefaaDoor.VL
