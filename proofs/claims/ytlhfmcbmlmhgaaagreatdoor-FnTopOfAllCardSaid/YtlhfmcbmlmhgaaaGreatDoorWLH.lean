/- Proved here: what some functions of the program take and give: walks with the words of VA..VQ. Printed by program. -/
import Derived.Test.YtlhfmcbmlmhgaaaGreatDoorWT
import Derived.Test.YtlhfmcbmlmhgaaaGreatDoorPZN
import Derived.Test.YtlhfmcbmlmhgaaaGreatDoorBpa
import Derived.Test.YtlhfmcbmlmhgaaaGreatDoorWD
set_option linter.unusedVariables false
set_option linter.unusedSimpArgs false
set_option maxRecDepth 4000
namespace Go.Proofs.YtlhfmcbmlmhgaaaGreatDoor.VL
open Go
theorem c_spec_A2Same (x y : List Int) : AC Tryz.prog 7 [.cel (Kd.slice (Kd.int .i64)) x, .cel (Kd.slice (Kd.int .i64)) y] [.cel Kd.bool (eqv x y)] [] := by
 refine acI (N := 8) Tryz.func7 (Nat.le_of_ble_eq_true rfl) rfl fun w0 hd s0 ar => ?_
 refine AW.to (kc2 0 1 rfl <| Kn) ?_
 refine sr ?_
 refine st (asB rfl) rfl ?_
 refine ng ?_
 refine sr ?_
 refine st (mvT rfl) rfl ?_
 refine st (mvT rfl) rfl ?_
 refine st (OpT.c1 (ms := [.flat, .flat]) (c_spec_l00Same _ _) (H rfl) (Af (T1 rfl) rfl rfl <| Af (T1 rfl) rfl rfl <| An) rfl rfl) rfl ?_
 refine st (asT rfl) rfl ?_
 refine ng ?_
 refine AW.ret ?_
 exact rt1 rfl (.inl rfl) rfl
end Go.Proofs.YtlhfmcbmlmhgaaaGreatDoor.VL
