/- Proved here: what some functions of the program take and give: walks with the words of VA..VQ. Printed by program. -/
import Derived.Test.YtmmjcpiikdcldaaGreatDoorWT
set_option linter.unusedVariables false
set_option linter.unusedSimpArgs false
set_option maxRecDepth 4000
namespace Go.Proofs.YtmmjcpiikdcldaaGreatDoor.VL
open Go
/-- spec.l01Mask -/
theorem c_spec_l01Mask (x : BitVec 64 × BitVec 64) : AC Tryz.prog 131 [.agg kMask x] [.cel Kd.bool (okM x)] [] := by
 refine acI (N := 7) Tryz.func131 (Nat.le_of_ble_eq_true rfl) rfl fun w0 hd s0 ar => ?_
 refine AW.to (ka 0 rfl <| Kn) ?_
 refine sr ?_
 refine st (OpT.frz (OpT.boxA (E := 38) (H rfl) (T1 rfl))) rfl ?_
 refine st (asB rfl) rfl ?_
 refine ng ?_
 refine sr ?_
 refine st (OpT.indexAddrP (H rfl) (T1 rfl) (I rfl) ar38 sz36 (by decide) sx38_1) rfl ?_
 refine st (OpT.load (H rfl) (T1 rfl) ag36 rfl) rfl ?_
 refine st (OpT.shr (H rfl) (T1 rfl) (I rfl) (by decide)) rfl ?_
 refine st (OpT.ueql (H rfl) (T1 rfl) (U2 0 rfl rfl)) rfl ?_
 refine st (asT rfl) rfl ?_
 refine ng ?_
 refine AW.ret ?_
 exact rt1 rfl (.inl rfl) rfl

/-- impl.isMask -/
theorem c_impl_isMask (x : BitVec 64 × BitVec 64) : AC Tryz.prog 47 [.agg kMask x] [.cel Kd.bool (okM x)] [] := by
 refine acI (N := 7) Tryz.func47 (Nat.le_of_ble_eq_true rfl) rfl fun w0 hd s0 ar => ?_
 refine AW.to (ka 0 rfl <| Kn) ?_
 refine sr ?_
 refine st (OpT.frz (OpT.boxA (E := 38) (H rfl) (T1 rfl))) rfl ?_
 refine st (asB rfl) rfl ?_
 refine ng ?_
 refine sr ?_
 refine st (OpT.indexAddrP (H rfl) (T1 rfl) (I rfl) ar38 sz36 (by decide) sx38_1) rfl ?_
 refine st (OpT.load (H rfl) (T1 rfl) ag36 rfl) rfl ?_
 refine st (OpT.shr (H rfl) (T1 rfl) (I rfl) (by decide)) rfl ?_
 refine st (OpT.ueql (H rfl) (T1 rfl) (U2 0 rfl rfl)) rfl ?_
 refine st (asT rfl) rfl ?_
 refine ng ?_
 refine AW.ret ?_
 exact rt1 rfl (.inl rfl) rfl

end Go.Proofs.YtmmjcpiikdcldaaGreatDoor.VL
