/- Proved here: closed facts of the program that all laws of the seat share. -/
import Derived.Test.YtohcpnobmknglaaDoorRows
import Derived.Test.YtohcpnobmknglaaDoorBvc
import Derived.LaidMore
import Derived.Lay
import Derived.SevenTiedAt
import Derived.Stop.Joined
set_option linter.unusedVariables false
set_option maxRecDepth 100000
namespace Go.Proofs.YtohcpnobmknglaaDoor.VL
open Go
theorem own_seat : ownKnob Tryd.prog.godebug = none := by kernel_rfl
theorem may_seat : Tryd.prog.mayEnter = true := by kernel_rfl
theorem lift_seat : (Rows.fnNearRow.lifted == Tryd.prog.liftsFinal) = true := by kernel_rfl
theorem make_seat : (Tryd.prog.make == some Rows.fnNearRow.make) = true := by kernel_rfl
theorem shaped_seat (os : Os) (args : Array Value) : ((World.laidAll Tryd.prog os Rows.fnNearRow.laid).forCall (fun _ _ => 0) ⟨#[], args, []⟩).Shaped Tryd.prog := World.shaped_of_ZipB (by kernel_rfl) (by kernel_rfl)
theorem laid_seat (os : Os) (args : Array Value) : laidMetH Tryd.prog Rows.fnNearRow.laid ((World.laidAll Tryd.prog os Rows.fnNearRow.laid).forCall (fun _ _ => 0) ⟨#[], args, []⟩).memory := by rw [MakeChecks.laidMetH_plain _ _ _ (by kernel_rfl)]; exact laidMet_laidAll _ (by kernel_rfl) (by kernel_rfl)
theorem main_seat : Tryd.prog.mainIs = some (true, ("7c5a936455e09dc7de3c96bb8bee1906508b6741c99463d0da82f3263e08c8e6").toList) := by kernel_rfl
theorem looks_seat : false = Tryd.prog.looks [] := by kernel_rfl
end Go.Proofs.YtohcpnobmknglaaDoor.VL
