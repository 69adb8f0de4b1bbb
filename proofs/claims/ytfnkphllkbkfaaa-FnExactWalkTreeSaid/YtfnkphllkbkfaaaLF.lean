/- Proved here: closed facts of the program that all laws of the seat share. -/
import Derived.Test.YtfnkphllkbkfaaaRows
import Derived.Test.YtfnkphllkbkfaaaBvb
set_option linter.unusedVariables false
set_option maxRecDepth 100000
namespace Go.Proofs.Ytfnkphllkbkfaaa.VL
open Go
theorem own_seat : ownKnob Try.prog.godebug = none := by kernel_rfl
theorem may_seat : Try.prog.mayEnter = true := by kernel_rfl
theorem lift_seat : (Rows.fnExactWalkTreeRow.lifted == Try.prog.liftsFinal) = true := by kernel_rfl
theorem make_seat : (Try.prog.make == some Rows.fnExactWalkTreeRow.make) = true := by kernel_rfl
end Go.Proofs.Ytfnkphllkbkfaaa.VL
