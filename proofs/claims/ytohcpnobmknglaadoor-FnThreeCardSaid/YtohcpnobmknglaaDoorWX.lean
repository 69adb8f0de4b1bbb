/- Proved here: what some functions of the program take and give: walks with the words of VA..VQ. Printed by program. -/
import Derived.Test.YtohcpnobmknglaaDoorWT
import Derived.Test.YtohcpnobmknglaaDoorBpa
import Derived.Test.YtohcpnobmknglaaDoorWL
set_option linter.unusedVariables false
set_option linter.unusedSimpArgs false
set_option maxRecDepth 4000
namespace Go.Proofs.YtohcpnobmknglaaDoor.VL
open Go
/-- impl.placeOf$1 -/
theorem c_impl_placeOf_1 (b : DCard) (s : ByteArray) : AC Tryd.prog 138 [.agg kCard b, .cel (Kd.ptr Kd.str) s] [.cel Kd.bool (eqv b.1 s)] [] := by
 refine acI (N := 8) Tryd.func138 (Nat.le_of_ble_eq_true rfl) rfl fun w0 hd s0 ar => ?_
 refine AW.to (ka 0 rfl <| kc 1 rfl <| Kn) ?_
 refine sr ?_
 refine st (OpT.frz (OpT.boxA (E := 42) (H rfl) (T1 rfl))) rfl ?_
 refine st (asB rfl) rfl ?_
 refine ng ?_
 refine sr ?_
 refine st (OpT.fieldAddr (H rfl) (T1 rfl) fd42_0 sz9 (by decide) sb42_0) rfl ?_
 refine st (OpT.load (H rfl) (T1 rfl) ag9 rfl) rfl ?_
 refine st (OpT.load (H rfl) (T1 rfl) ag9 rfl) rfl ?_
 refine st (OpT.seqv (H rfl) (T1 rfl) (T1 rfl)) rfl ?_
 refine st (asT rfl) rfl ?_
 refine ng ?_
 refine AW.ret ?_
 exact rt1 rfl (.inl rfl) rfl

/-- impl.placeOf -/
theorem c_impl_placeOf (x : List DCard) (s : ByteArray) : AC Tryd.prog 76 [.cel (Kd.slice kCard) x, .cel Kd.str s] [.cel (Kd.int .i64) (findC s x)] [] := by
 refine acI (N := 8) Tryd.func76 (Nat.le_of_ble_eq_true rfl) rfl fun w0 hd s0 ar => ?_
 refine AW.to (kc2 0 1 rfl <| Kn) ?_
 refine sr ?_
 refine st (OpT.frz (OpT.box (E := 9) (H rfl) (T1 rfl))) rfl ?_
 refine st (asI rfl) rfl ?_
 refine ng ?_
 refine sr ?_
 refine st (mvT rfl) rfl ?_
 refine st (OpT.mkF1 (H rfl) (T1 rfl)) rfl ?_
 refine st (OpT.c1 (ms := [.flat, .flat]) (c_slices_IndexFunc_impl_Card_impl_Card (fun b => eqv b.1 s) (CloArgs.ptr _ _) (fun b => c_impl_placeOf_1 b s) _) (H rfl) (Af (T1 rfl) rfl rfl <| Af (T1 rfl) rfl rfl <| An) rfl rfl) rfl ?_
 refine st (asT rfl) rfl ?_
 refine ng ?_
 refine AW.ret ?_
 exact rt1 rfl (.inl rfl) rfl
end Go.Proofs.YtohcpnobmknglaaDoor.VL
