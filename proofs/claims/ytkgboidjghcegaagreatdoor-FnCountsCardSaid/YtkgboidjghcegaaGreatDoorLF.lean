/- Proved here: closed facts of the program that all laws of the seat share. -/
import Derived.Test.YtkgboidjghcegaaGreatDoorRows
import Derived.Test.YtkgboidjghcegaaGreatDoorBvb
import Derived.LaidMore
import Derived.Lay
import Derived.SevenTiedAt
import Derived.Stop.Joined
set_option linter.unusedVariables false
set_option maxRecDepth 100000
namespace Go.Proofs.YtkgboidjghcegaaGreatDoor.VL
open Go
theorem own_seat : ownKnob Tryz.prog.godebug = none := by kernel_rfl
theorem may_seat : Tryz.prog.mayEnter = true := by kernel_rfl
theorem lift_seat : (Rows.fnExactCrossOfRow.lifted == Tryz.prog.liftsFinal) = true := by kernel_rfl
theorem make_seat : (Tryz.prog.make == some Rows.fnExactCrossOfRow.make) = true := by kernel_rfl
theorem shaped_seat (os : Os) (args : Array Value) : ((World.laidAll Tryz.prog os Rows.fnExactCrossOfRow.laid).forCall (fun _ _ => 0) ⟨#[], args, []⟩).Shaped Tryz.prog := World.shaped_of_ZipB (by kernel_rfl) (by kernel_rfl)
theorem laid_seat (os : Os) (args : Array Value) : laidMetH Tryz.prog Rows.fnExactCrossOfRow.laid ((World.laidAll Tryz.prog os Rows.fnExactCrossOfRow.laid).forCall (fun _ _ => 0) ⟨#[], args, []⟩).memory := by rw [MakeChecks.laidMetH_plain _ _ _ (by kernel_rfl)]; exact laidMet_laidAll _ (by kernel_rfl) (by kernel_rfl)
theorem main_seat : Tryz.prog.mainIs = some (true, ("9856475878e8d5f77b411eb633d4a7cc4f43ce5350ce5f2fb4a5a242e5bfb599").toList) := by kernel_rfl
theorem looks_seat : false = Tryz.prog.looks [] := by kernel_rfl
end Go.Proofs.YtkgboidjghcegaaGreatDoor.VL
