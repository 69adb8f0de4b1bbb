/- Proved here: what some functions of the program take and give: walks with the words of VA..VQ. Printed by program. -/
import Derived.Test.YtkgboidjghcegaaGreatDoorWT
import Derived.Test.YtkgboidjghcegaaGreatDoorBpa
set_option linter.unusedVariables false
set_option linter.unusedSimpArgs false
set_option maxRecDepth 4000
namespace Go.Proofs.YtkgboidjghcegaaGreatDoor.VL
open Go
/-- spec.l01Meet -/
theorem c_spec_l01Meet (x y : BitVec 64 × BitVec 64) : AC Tryz.prog 78 [.agg kMask x, .agg kMask y] [.agg kMask (meetM x y)] [] := by
 refine acI (N := 16) Tryz.func78 (Nat.le_of_ble_eq_true rfl) rfl fun w0 hd s0 ar => ?_
 refine AW.to (ka 0 rfl <| ka 1 rfl <| Kn) ?_
 refine sr ?_
 refine st (OpT.frz (OpT.boxA (E := 84) (H rfl) (T1 rfl))) rfl ?_
 refine st (OpT.frz (OpT.boxA (E := 84) (H rfl) (T1 rfl))) rfl ?_
 refine st (OpT.alloc (H rfl) zr84 zk84) rfl ?_
 refine ng ?_
 refine sr ?_
 refine st (OpT.indexAddrP (H rfl) (T1 rfl) (I rfl) ar84 sz73 (by decide) sx84_0) rfl ?_
 refine st (OpT.load (H rfl) (T1 rfl) ag73 rfl) rfl ?_
 refine st (OpT.indexAddrP (H rfl) (T1 rfl) (I rfl) ar84 sz73 (by decide) sx84_0) rfl ?_
 refine st (OpT.load (H rfl) (T1 rfl) ag73 rfl) rfl ?_
 refine st (OpT.band (H rfl) (T1 rfl) (T1 rfl)) rfl ?_
 refine st (OpT.indexAddrP (H rfl) (T1 rfl) (I rfl) ar84 sz73 (by decide) sx84_1) rfl ?_
 refine st (OpT.load (H rfl) (T1 rfl) ag73 rfl) rfl ?_
 refine st (OpT.indexAddrP (H rfl) (T1 rfl) (I rfl) ar84 sz73 (by decide) sx84_1) rfl ?_
 refine st (OpT.load (H rfl) (T1 rfl) ag73 rfl) rfl ?_
 refine st (OpT.band (H rfl) (T1 rfl) (T1 rfl)) rfl ?_
 refine st (OpT.buildA (H rfl) ar84 sz73 zr84 zk84 (Built.cel (T1 rfl) rfl rfl sx84_0 (Built.cel (T1 rfl) rfl rfl sx84_1 (Built.nil _)))) rfl ?_
 refine sk (OpT.storeBA rfl rfl (Opd.whole (Root.self (t := 4) (by decide)) rfl) rfl sz84 (by decide) (T1 rfl)) rfl ?_
 refine AWl.to (kb 4 rfl <| Kn) ?_
 refine ng ?_
 refine AW.ret ?_
 exact AX.rt (rs := [.cell 4 84]) (ts := [none]) (.inl rfl) rfl (ROs.cons (RO.cellA (by decide) (Kb rfl rfl) ag84 sz84) <| ROs.nil) (by decide) OutsOK.nil

/-- impl.MeetMasks -/
theorem c_impl_MeetMasks (x y : BitVec 64 × BitVec 64) : AC Tryz.prog 83 [.agg kMask x, .agg kMask y] [.agg kMask (meetM x y)] [] := by
 refine acI (N := 16) Tryz.func83 (Nat.le_of_ble_eq_true rfl) rfl fun w0 hd s0 ar => ?_
 refine AW.to (ka 0 rfl <| ka 1 rfl <| Kn) ?_
 refine sr ?_
 refine st (OpT.frz (OpT.boxA (E := 84) (H rfl) (T1 rfl))) rfl ?_
 refine st (OpT.frz (OpT.boxA (E := 84) (H rfl) (T1 rfl))) rfl ?_
 refine st (OpT.alloc (H rfl) zr84 zk84) rfl ?_
 refine ng ?_
 refine sr ?_
 refine st (OpT.indexAddrP (H rfl) (T1 rfl) (I rfl) ar84 sz73 (by decide) sx84_0) rfl ?_
 refine st (OpT.load (H rfl) (T1 rfl) ag73 rfl) rfl ?_
 refine st (OpT.indexAddrP (H rfl) (T1 rfl) (I rfl) ar84 sz73 (by decide) sx84_0) rfl ?_
 refine st (OpT.load (H rfl) (T1 rfl) ag73 rfl) rfl ?_
 refine st (OpT.band (H rfl) (T1 rfl) (T1 rfl)) rfl ?_
 refine st (OpT.indexAddrP (H rfl) (T1 rfl) (I rfl) ar84 sz73 (by decide) sx84_1) rfl ?_
 refine st (OpT.load (H rfl) (T1 rfl) ag73 rfl) rfl ?_
 refine st (OpT.indexAddrP (H rfl) (T1 rfl) (I rfl) ar84 sz73 (by decide) sx84_1) rfl ?_
 refine st (OpT.load (H rfl) (T1 rfl) ag73 rfl) rfl ?_
 refine st (OpT.band (H rfl) (T1 rfl) (T1 rfl)) rfl ?_
 refine st (OpT.buildA (H rfl) ar84 sz73 zr84 zk84 (Built.cel (T1 rfl) rfl rfl sx84_0 (Built.cel (T1 rfl) rfl rfl sx84_1 (Built.nil _)))) rfl ?_
 refine sk (OpT.storeBA rfl rfl (Opd.whole (Root.self (t := 4) (by decide)) rfl) rfl sz84 (by decide) (T1 rfl)) rfl ?_
 refine AWl.to (kb 4 rfl <| Kn) ?_
 refine ng ?_
 refine AW.ret ?_
 exact AX.rt (rs := [.cell 4 84]) (ts := [none]) (.inl rfl) rfl (ROs.cons (RO.cellA (by decide) (Kb rfl rfl) ag84 sz84) <| ROs.nil) (by decide) OutsOK.nil
end Go.Proofs.YtkgboidjghcegaaGreatDoor.VL
