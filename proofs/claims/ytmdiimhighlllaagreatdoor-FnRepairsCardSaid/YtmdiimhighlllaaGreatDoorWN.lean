/- Proved here: what some functions of the program take and give: walks with the words of VA..VQ. Printed by program. -/
import Derived.Test.YtmdiimhighlllaaGreatDoorWT
import Derived.Test.YtmdiimhighlllaaGreatDoorBpa
import Derived.Test.YtmdiimhighlllaaGreatDoorWB
import Derived.Test.YtmdiimhighlllaaGreatDoorWL
set_option linter.unusedVariables false
set_option linter.unusedSimpArgs false
set_option maxRecDepth 4000
namespace Go.Proofs.YtmdiimhighlllaaGreatDoor.VL
open Go
/-- spec.l01Meet -/
theorem c_spec_l01Meet (x y : BitVec 64 × BitVec 64) : AC Tryz.prog 114 [.agg kMask x, .agg kMask y] [.agg kMask (meetM x y)] [] := by
 refine acI (N := 16) Tryz.func114 (Nat.le_of_ble_eq_true rfl) rfl fun w0 hd s0 ar => ?_
 refine AW.to (ka 0 rfl <| ka 1 rfl <| Kn) ?_
 refine sr ?_
 refine st (OpT.frz (OpT.boxA (E := 34) (H rfl) (T1 rfl))) rfl ?_
 refine st (OpT.frz (OpT.boxA (E := 34) (H rfl) (T1 rfl))) rfl ?_
 refine st (OpT.alloc (H rfl) zr34 zk34) rfl ?_
 refine ng ?_
 refine sr ?_
 refine st (OpT.indexAddrP (H rfl) (T1 rfl) (I rfl) ar34 sz32 (by decide) sx34_0) rfl ?_
 refine st (OpT.load (H rfl) (T1 rfl) ag32 rfl) rfl ?_
 refine st (OpT.indexAddrP (H rfl) (T1 rfl) (I rfl) ar34 sz32 (by decide) sx34_0) rfl ?_
 refine st (OpT.load (H rfl) (T1 rfl) ag32 rfl) rfl ?_
 refine st (OpT.band (H rfl) (T1 rfl) (T1 rfl)) rfl ?_
 refine st (OpT.indexAddrP (H rfl) (T1 rfl) (I rfl) ar34 sz32 (by decide) sx34_1) rfl ?_
 refine st (OpT.load (H rfl) (T1 rfl) ag32 rfl) rfl ?_
 refine st (OpT.indexAddrP (H rfl) (T1 rfl) (I rfl) ar34 sz32 (by decide) sx34_1) rfl ?_
 refine st (OpT.load (H rfl) (T1 rfl) ag32 rfl) rfl ?_
 refine st (OpT.band (H rfl) (T1 rfl) (T1 rfl)) rfl ?_
 refine st (OpT.buildA (H rfl) ar34 sz32 zr34 zk34 (Built.cel (T1 rfl) rfl rfl sx34_0 (Built.cel (T1 rfl) rfl rfl sx34_1 (Built.nil _)))) rfl ?_
 refine sk (OpT.storeBA rfl rfl (Opd.whole (Root.self (t := 4) (by decide)) rfl) rfl sz34 (by decide) (T1 rfl)) rfl ?_
 refine AWl.to (kb 4 rfl <| Kn) ?_
 refine ng ?_
 refine AW.ret ?_
 exact AX.rt (rs := [.cell 4 34]) (ts := [none]) (.inl rfl) rfl (ROs.cons (RO.cellA (by decide) (Kb rfl rfl) ag34 sz34) <| ROs.nil) (by decide) OutsOK.nil

/-- impl.MeetMasks -/
theorem c_impl_MeetMasks (x y : BitVec 64 × BitVec 64) : AC Tryz.prog 110 [.agg kMask x, .agg kMask y] [.agg kMask (meetM x y)] [] := by
 refine acI (N := 16) Tryz.func110 (Nat.le_of_ble_eq_true rfl) rfl fun w0 hd s0 ar => ?_
 refine AW.to (ka 0 rfl <| ka 1 rfl <| Kn) ?_
 refine sr ?_
 refine st (OpT.frz (OpT.boxA (E := 34) (H rfl) (T1 rfl))) rfl ?_
 refine st (OpT.frz (OpT.boxA (E := 34) (H rfl) (T1 rfl))) rfl ?_
 refine st (OpT.alloc (H rfl) zr34 zk34) rfl ?_
 refine ng ?_
 refine sr ?_
 refine st (OpT.indexAddrP (H rfl) (T1 rfl) (I rfl) ar34 sz32 (by decide) sx34_0) rfl ?_
 refine st (OpT.load (H rfl) (T1 rfl) ag32 rfl) rfl ?_
 refine st (OpT.indexAddrP (H rfl) (T1 rfl) (I rfl) ar34 sz32 (by decide) sx34_0) rfl ?_
 refine st (OpT.load (H rfl) (T1 rfl) ag32 rfl) rfl ?_
 refine st (OpT.band (H rfl) (T1 rfl) (T1 rfl)) rfl ?_
 refine st (OpT.indexAddrP (H rfl) (T1 rfl) (I rfl) ar34 sz32 (by decide) sx34_1) rfl ?_
 refine st (OpT.load (H rfl) (T1 rfl) ag32 rfl) rfl ?_
 refine st (OpT.indexAddrP (H rfl) (T1 rfl) (I rfl) ar34 sz32 (by decide) sx34_1) rfl ?_
 refine st (OpT.load (H rfl) (T1 rfl) ag32 rfl) rfl ?_
 refine st (OpT.band (H rfl) (T1 rfl) (T1 rfl)) rfl ?_
 refine st (OpT.buildA (H rfl) ar34 sz32 zr34 zk34 (Built.cel (T1 rfl) rfl rfl sx34_0 (Built.cel (T1 rfl) rfl rfl sx34_1 (Built.nil _)))) rfl ?_
 refine sk (OpT.storeBA rfl rfl (Opd.whole (Root.self (t := 4) (by decide)) rfl) rfl sz34 (by decide) (T1 rfl)) rfl ?_
 refine AWl.to (kb 4 rfl <| Kn) ?_
 refine ng ?_
 refine AW.ret ?_
 exact AX.rt (rs := [.cell 4 34]) (ts := [none]) (.inl rfl) rfl (ROs.cons (RO.cellA (by decide) (Kb rfl rfl) ag34 sz34) <| ROs.nil) (by decide) OutsOK.nil

end Go.Proofs.YtmdiimhighlllaaGreatDoor.VL
