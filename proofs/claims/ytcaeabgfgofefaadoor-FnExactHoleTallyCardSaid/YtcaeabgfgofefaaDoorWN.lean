/- Proved here: what some functions of the program take and give: walks with the words of VA..VQ. Printed by program. -/
import Derived.Test.YtcaeabgfgofefaaDoorWT
import Derived.Test.YtcaeabgfgofefaaDoorPI
import Derived.Test.YtcaeabgfgofefaaDoorWA
import Derived.Test.YtcaeabgfgofefaaDoorWB
import Derived.Test.YtcaeabgfgofefaaDoorWL
import Derived.Test.YtcaeabgfgofefaaDoorWD
set_option linter.unusedVariables false
set_option linter.unusedSimpArgs false
set_option maxRecDepth 4000
namespace Go.Proofs.YtcaeabgfgofefaaDoor.VL
open Go
/-- spec.l01Has -/
theorem c_spec_l01Has (m : BitVec 64 × BitVec 64) (i : Int) (h : 0 ≤ i ∧ i < 128) : AC Tryd.prog 75 [.agg kMask m, .cel (Kd.int .i64) i] [.cel Kd.bool (hasM m i)] [] := by
 refine acI (N := 15) Tryd.func75 (Nat.le_of_ble_eq_true rfl) rfl fun w0 hd s0 ar => ?_
 refine AW.to (ka 0 rfl <| kc 1 rfl <| Kn) ?_
 have hd64 := div64 h
 have hm64 := mod64 h.1
 refine sr ?_
 refine st (OpT.frz (OpT.boxA (E := 29) (H rfl) (T1 rfl))) rfl ?_
 refine st (asB rfl) rfl ?_
 refine ng ?_
 refine sr ?_
 refine st (mvT rfl) rfl ?_
 refine st (OpT.quo (H rfl) (T1 rfl) (I rfl) (by omega) (nw (by omega))) rfl ?_
 refine st (OpT.indexAddrP (H rfl) (T1 rfl) (T1 rfl) ar29 sz22 (by omega) (Sub.two (by omega) rfl)) rfl ?_
 refine st (OpT.load (H rfl) (T1 rfl) ag22 rfl) rfl ?_
 refine st (mvT rfl) rfl ?_
 refine st (OpT.rem (H rfl) (T1 rfl) (I rfl) (by omega)) rfl ?_
 refine st (OpT.convu (H rfl) us2 Tryd.underlying22 (T1 rfl)) rfl ?_
 refine st (OpT.shr (H rfl) (T1 rfl) (Opd.asInt (T1 rfl)) (Int.natCast_nonneg _)) rfl ?_
 refine st (OpT.urem (H rfl) (T1 rfl) (U2 2 rfl rfl) (by decide)) rfl ?_
 refine st (OpT.ueql (H rfl) (T1 rfl) (U2 1 rfl rfl)) rfl ?_
 refine st (asT rfl) rfl ?_
 refine AWl.to (kc 4 rfl <| Kn) ?_
 refine ng ?_
 refine AW.ret ?_
 exact rt1 rfl (.inl rfl) (by unfold hasM limb; rw [rem64 h.1]; rfl)

/-- impl.Mask).has -/
theorem c_impl_Mask_has (m : BitVec 64 × BitVec 64) (i : Int) (h : 0 ≤ i ∧ i < 128) : AC Tryd.prog 78 [.agg kMask m, .cel (Kd.int .i64) i] [.cel Kd.bool (hasM m i)] [] := by
 refine acI (N := 14) Tryd.func78 (Nat.le_of_ble_eq_true rfl) rfl fun w0 hd s0 ar => ?_
 refine AW.to (ka 0 rfl <| kc 1 rfl <| Kn) ?_
 have hd64 := div64 h
 have hm64 := mod64 h.1
 refine sr ?_
 refine st (OpT.frz (OpT.boxA (E := 29) (H rfl) (T1 rfl))) rfl ?_
 refine st (asB rfl) rfl ?_
 refine ng ?_
 refine sr ?_
 refine st (mvT rfl) rfl ?_
 refine st (OpT.quo (H rfl) (T1 rfl) (I rfl) (by omega) (nw (by omega))) rfl ?_
 refine st (OpT.indexAddrP (H rfl) (T1 rfl) (T1 rfl) ar29 sz22 (by omega) (Sub.two (by omega) rfl)) rfl ?_
 refine st (OpT.load (H rfl) (T1 rfl) ag22 rfl) rfl ?_
 refine st (mvT rfl) rfl ?_
 refine st (OpT.rem (H rfl) (T1 rfl) (I rfl) (by omega)) rfl ?_
 refine st (OpT.shr (H rfl) (T1 rfl) (T1 rfl) (by omega)) rfl ?_
 refine st (OpT.band (H rfl) (T1 rfl) (U2 1 rfl rfl)) rfl ?_
 refine st (OpT.ueql (H rfl) (T1 rfl) (U2 1 rfl rfl)) rfl ?_
 refine st (asT rfl) rfl ?_
 refine AWl.to (kc 4 rfl <| Kn) ?_
 refine ng ?_
 refine AW.ret ?_
 exact rt1 rfl (.inl rfl) (by unfold hasM limb; rw [and_one])

/-- spec.l01Meet -/
theorem c_spec_l01Meet (x y : BitVec 64 × BitVec 64) : AC Tryd.prog 136 [.agg kMask x, .agg kMask y] [.agg kMask (meetM x y)] [] := by
 refine acI (N := 16) Tryd.func136 (Nat.le_of_ble_eq_true rfl) rfl fun w0 hd s0 ar => ?_
 refine AW.to (ka 0 rfl <| ka 1 rfl <| Kn) ?_
 refine sr ?_
 refine st (OpT.frz (OpT.boxA (E := 29) (H rfl) (T1 rfl))) rfl ?_
 refine st (OpT.frz (OpT.boxA (E := 29) (H rfl) (T1 rfl))) rfl ?_
 refine st (OpT.alloc (H rfl) zr29 zk29) rfl ?_
 refine ng ?_
 refine sr ?_
 refine st (OpT.indexAddrP (H rfl) (T1 rfl) (I rfl) ar29 sz22 (by decide) sx29_0) rfl ?_
 refine st (OpT.load (H rfl) (T1 rfl) ag22 rfl) rfl ?_
 refine st (OpT.indexAddrP (H rfl) (T1 rfl) (I rfl) ar29 sz22 (by decide) sx29_0) rfl ?_
 refine st (OpT.load (H rfl) (T1 rfl) ag22 rfl) rfl ?_
 refine st (OpT.band (H rfl) (T1 rfl) (T1 rfl)) rfl ?_
 refine st (OpT.indexAddrP (H rfl) (T1 rfl) (I rfl) ar29 sz22 (by decide) sx29_1) rfl ?_
 refine st (OpT.load (H rfl) (T1 rfl) ag22 rfl) rfl ?_
 refine st (OpT.indexAddrP (H rfl) (T1 rfl) (I rfl) ar29 sz22 (by decide) sx29_1) rfl ?_
 refine st (OpT.load (H rfl) (T1 rfl) ag22 rfl) rfl ?_
 refine st (OpT.band (H rfl) (T1 rfl) (T1 rfl)) rfl ?_
 refine st (OpT.buildA (H rfl) ar29 sz22 zr29 zk29 (Built.cel (T1 rfl) rfl rfl sx29_0 (Built.cel (T1 rfl) rfl rfl sx29_1 (Built.nil _)))) rfl ?_
 refine sk (OpT.storeBA rfl rfl (Opd.whole (Root.self (t := 4) (by decide)) rfl) rfl sz29 (by decide) (T1 rfl)) rfl ?_
 refine AWl.to (kb 4 rfl <| Kn) ?_
 refine ng ?_
 refine AW.ret ?_
 exact AX.rt (rs := [.cell 4 29]) (ts := [none]) (.inl rfl) rfl (ROs.cons (RO.cellA (by decide) (Kb rfl rfl) ag29 sz29) <| ROs.nil) (by decide) OutsOK.nil

/-- impl.MeetMasks -/
theorem c_impl_MeetMasks (x y : BitVec 64 × BitVec 64) : AC Tryd.prog 140 [.agg kMask x, .agg kMask y] [.agg kMask (meetM x y)] [] := by
 refine acI (N := 16) Tryd.func140 (Nat.le_of_ble_eq_true rfl) rfl fun w0 hd s0 ar => ?_
 refine AW.to (ka 0 rfl <| ka 1 rfl <| Kn) ?_
 refine sr ?_
 refine st (OpT.frz (OpT.boxA (E := 29) (H rfl) (T1 rfl))) rfl ?_
 refine st (OpT.frz (OpT.boxA (E := 29) (H rfl) (T1 rfl))) rfl ?_
 refine st (OpT.alloc (H rfl) zr29 zk29) rfl ?_
 refine ng ?_
 refine sr ?_
 refine st (OpT.indexAddrP (H rfl) (T1 rfl) (I rfl) ar29 sz22 (by decide) sx29_0) rfl ?_
 refine st (OpT.load (H rfl) (T1 rfl) ag22 rfl) rfl ?_
 refine st (OpT.indexAddrP (H rfl) (T1 rfl) (I rfl) ar29 sz22 (by decide) sx29_0) rfl ?_
 refine st (OpT.load (H rfl) (T1 rfl) ag22 rfl) rfl ?_
 refine st (OpT.band (H rfl) (T1 rfl) (T1 rfl)) rfl ?_
 refine st (OpT.indexAddrP (H rfl) (T1 rfl) (I rfl) ar29 sz22 (by decide) sx29_1) rfl ?_
 refine st (OpT.load (H rfl) (T1 rfl) ag22 rfl) rfl ?_
 refine st (OpT.indexAddrP (H rfl) (T1 rfl) (I rfl) ar29 sz22 (by decide) sx29_1) rfl ?_
 refine st (OpT.load (H rfl) (T1 rfl) ag22 rfl) rfl ?_
 refine st (OpT.band (H rfl) (T1 rfl) (T1 rfl)) rfl ?_
 refine st (OpT.buildA (H rfl) ar29 sz22 zr29 zk29 (Built.cel (T1 rfl) rfl rfl sx29_0 (Built.cel (T1 rfl) rfl rfl sx29_1 (Built.nil _)))) rfl ?_
 refine sk (OpT.storeBA rfl rfl (Opd.whole (Root.self (t := 4) (by decide)) rfl) rfl sz29 (by decide) (T1 rfl)) rfl ?_
 refine AWl.to (kb 4 rfl <| Kn) ?_
 refine ng ?_
 refine AW.ret ?_
 exact AX.rt (rs := [.cell 4 29]) (ts := [none]) (.inl rfl) rfl (ROs.cons (RO.cellA (by decide) (Kb rfl rfl) ag29 sz29) <| ROs.nil) (by decide) OutsOK.nil

end Go.Proofs.YtcaeabgfgofefaaDoor.VL
