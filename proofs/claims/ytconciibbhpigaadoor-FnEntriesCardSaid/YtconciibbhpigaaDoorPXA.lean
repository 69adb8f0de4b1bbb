/- Proved here: what the walks of a stable sort ask at each step. Plain Lean. -/
import Derived.Test.YtconciibbhpigaaDoorPXM
import Derived.Test.YtconciibbhpigaaDoorBpa
set_option linter.unusedVariables false
set_option linter.unusedSimpArgs false
namespace Go.Proofs.YtconciibbhpigaaDoor.VL
open Go
section
variable {α : Type} {q : α → α → Int} {p : α → Prop} {xs : List α}
/-! ### Insertion, step by step -/
/-! ### Halving -/
/-! ### Merges -/
end
end Go.Proofs.YtconciibbhpigaaDoor.VL
