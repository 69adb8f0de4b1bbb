/- Proved here: what some functions of the program take and give: walks with the words of VA..VQ. Printed by program. -/
import Derived.Test.YtkgboidjghcegaaGreatDoorWT
import Derived.Test.YtkgboidjghcegaaGreatDoorPXH
import Derived.Test.YtkgboidjghcegaaGreatDoorPXF
import Derived.Test.YtkgboidjghcegaaGreatDoorWNM
import Derived.Test.YtkgboidjghcegaaGreatDoorWC
set_option linter.unusedVariables false
set_option linter.unusedSimpArgs false
set_option maxRecDepth 4000
namespace Go.Proofs.YtkgboidjghcegaaGreatDoor.VL
open Go
/-- impl.CrossOf$1 -/
theorem c_impl_CrossOf_1 (x y : DCell) : AC Tryz.prog 41 [.agg (Kd.pair (Kd.int .i64) (Kd.pair (Kd.int .i64) (Kd.int .i64))) x, .agg (Kd.pair (Kd.int .i64) (Kd.pair (Kd.int .i64) (Kd.int .i64))) y] [.cel (Kd.int .i64) (cfC x y)] [] := by
 refine acI (N := 17) Tryz.func41 (Nat.le_of_ble_eq_true rfl) rfl fun w0 hd s0 ar => ?_
 refine AW.to (ka 0 rfl <| ka 1 rfl <| Kn) ?_
 refine sr ?_
 refine st (OpT.frz (OpT.boxA (E := 52) (H rfl) (T1 rfl))) rfl ?_
 refine st (OpT.frz (OpT.boxA (E := 52) (H rfl) (T1 rfl))) rfl ?_
 refine st (asI rfl) rfl ?_
 refine AWl.to (kc3 4 3 2 rfl <| Kn) ?_
 refine ng ?_
 refine AW.seq ?_
 refine dhm [0, 1, 0, 4, 15, 0, 32, 0, 128, 511, 1023, 2047, 4095] [] fomo ?_
 refine d1 [2] (fun ve h => OpT.fieldAddr (H rfl) (D1 h rfl) fd52_0 sz2 (by decide) sb52_0) rfl ?_
 refine d1 [5] (fun ve h => OpT.load (H rfl) (D1 h rfl) ag2 rfl) rfl ?_
 refine d1 [3] (fun ve h => OpT.fieldAddr (H rfl) (D1 h rfl) fd52_0 sz2 (by decide) sb52_0) rfl ?_
 refine d1 [7] (fun ve h => OpT.load (H rfl) (D1 h rfl) ag2 rfl) rfl ?_
 refine d1 [6, 8] (fun ve h => OpT.c1 (ms := [.flat, .flat]) (c_cmp_Compare_int64 _ _) (H rfl) (Af (D1 h rfl) rfl rfl <| Af (D1 h rfl) rfl rfl <| An) rfl rfl) rfl ?_
 refine d1 [2] (fun ve h => OpT.fieldAddr (H rfl) (D1 h rfl) fd52_1 sz2 (by decide) sb52_1) rfl ?_
 refine d1 [10] (fun ve h => OpT.load (H rfl) (D1 h rfl) ag2 rfl) rfl ?_
 refine d1 [3] (fun ve h => OpT.fieldAddr (H rfl) (D1 h rfl) fd52_1 sz2 (by decide) sb52_1) rfl ?_
 refine d1 [12] (fun ve h => OpT.load (H rfl) (D1 h rfl) ag2 rfl) rfl ?_
 refine d1 [11, 13] (fun ve h => OpT.c1 (ms := [.flat, .flat]) (c_cmp_Compare_int64 _ _) (H rfl) (Af (D1 h rfl) rfl rfl <| Af (D1 h rfl) rfl rfl <| An) rfl rfl) rfl ?_
 refine d1 [9, 14] (fun ve h => OpT.buildSlice (H rfl) el121 zr3 sz3 rfl (by decide) zk3 (by decide) (Built.cel (D1 h rfl) rfl rfl (sub_arr (by decide) (0 : Int)) (Built.cel (D1 h rfl) rfl rfl (sub_arr (by decide) (0 : Int)) (Built.nil _)))) rfl ?_
 refine d1 [15] (fun ve h => cb1 (ms := [.bor 15]) (c_cmp_Or_int _) (H rfl) (Ab (Root.self (t := 15) (by decide)) ((h _ (List.elem_iff.1 rfl)).trans rfl) <| An) rfl (indC fun _ _ _ _ h => h)) rfl ?_
 refine d1 [16] (fun ve h => OpT.move (A := .cel _ _) (.inr rfl) rfl (ok' rfl) (D1 h rfl) rfl) rfl ?_
 refine dn ⟨by kernel_rfl, by kernel_rfl, ?_⟩
 refine AX.pr (kc 4 rfl <| Kn) ?_
 refine AX.go ?_
 refine AW.ret ?_
 exact rt1 rfl (.inl rfl) (show orL [cmpI x.1 y.1, cmpI x.2.1 y.2.1] = cfC x y from (orL_two _ _).trans rfl)
end Go.Proofs.YtkgboidjghcegaaGreatDoor.VL
