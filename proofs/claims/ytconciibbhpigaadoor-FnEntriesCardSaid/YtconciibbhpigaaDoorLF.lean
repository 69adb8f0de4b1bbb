/- Proved here: closed facts of the program that all laws of the seat share. -/
import Derived.Test.YtconciibbhpigaaDoorRows
import Derived.Test.YtconciibbhpigaaDoorBvb
import Derived.LaidMore
import Derived.Lay
import Derived.SevenTiedAt
import Derived.Stop.Joined
set_option linter.unusedVariables false
set_option maxRecDepth 100000
namespace Go.Proofs.YtconciibbhpigaaDoor.VL
open Go
theorem own_seat : ownKnob Tryd.prog.godebug = none := by kernel_rfl
theorem may_seat : Tryd.prog.mayEnter = true := by kernel_rfl
theorem lift_seat : (Rows.fnEntriesRow.lifted == Tryd.prog.liftsFinal) = true := by kernel_rfl
theorem make_seat : (Tryd.prog.make == some Rows.fnEntriesRow.make) = true := by kernel_rfl
theorem shaped_seat (os : Os) (args : Array Value) : ((World.laidAll Tryd.prog os Rows.fnEntriesRow.laid).forCall (fun _ _ => 0) ⟨#[], args, []⟩).Shaped Tryd.prog := World.shaped_of_ZipB (by kernel_rfl) (by kernel_rfl)
theorem laid_seat (os : Os) (args : Array Value) : laidMetH Tryd.prog Rows.fnEntriesRow.laid ((World.laidAll Tryd.prog os Rows.fnEntriesRow.laid).forCall (fun _ _ => 0) ⟨#[], args, []⟩).memory := by rw [MakeChecks.laidMetH_plain _ _ _ (by kernel_rfl)]; exact laidMet_laidAll _ (by kernel_rfl) (by kernel_rfl)
theorem main_seat : Tryd.prog.mainIs = some (true, ("9e49adb38975630ca422f5764fd9388099d478357848782d196855eac118f9bc").toList) := by kernel_rfl
theorem looks_seat : false = Tryd.prog.looks [] := by kernel_rfl
end Go.Proofs.YtconciibbhpigaaDoor.VL
