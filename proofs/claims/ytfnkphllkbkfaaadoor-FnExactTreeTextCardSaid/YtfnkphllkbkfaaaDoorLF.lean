/- Proved here: closed facts of the program that all laws of the seat share. -/
import Derived.Test.YtfnkphllkbkfaaaDoorRows
import Derived.Test.YtfnkphllkbkfaaaDoorBvc
import Derived.LaidMore
import Derived.Lay
import Derived.SevenTiedAt
import Derived.Stop.Joined
set_option linter.unusedVariables false
set_option maxRecDepth 100000
namespace Go.Proofs.YtfnkphllkbkfaaaDoor.VL
open Go
theorem own_seat : ownKnob Tryd.prog.godebug = none := by kernel_rfl
theorem may_seat : Tryd.prog.mayEnter = true := by kernel_rfl
theorem lift_seat : (Rows.fnExactUndoEditsRow.lifted == Tryd.prog.liftsFinal) = true := by kernel_rfl
theorem make_seat : (Tryd.prog.make == some Rows.fnExactUndoEditsRow.make) = true := by kernel_rfl
theorem main_seat : Tryd.prog.mainIs = some (true, ("4dc1a625074d2aa0a8c3d26eaed0d73b4cd06da793638868688bacf935ab753c").toList) := by kernel_rfl
theorem looks_seat : false = Tryd.prog.looks [] := by kernel_rfl
end Go.Proofs.YtfnkphllkbkfaaaDoor.VL
