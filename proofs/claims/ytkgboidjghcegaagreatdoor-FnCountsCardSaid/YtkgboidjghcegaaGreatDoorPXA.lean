/- Proved here: what the walks of a stable sort ask at each step. Plain Lean. -/
import Derived.Test.YtkgboidjghcegaaGreatDoorPXM
import Derived.Test.YtkgboidjghcegaaGreatDoorBpa
set_option linter.unusedVariables false
set_option linter.unusedSimpArgs false
namespace Go.Proofs.YtkgboidjghcegaaGreatDoor.VL
open Go
section
variable {α : Type} {q : α → α → Int} {p : α → Prop} {xs : List α}
/-! ### Insertion, step by step -/
/-! ### Halving -/
/-! ### Merges -/
end
end Go.Proofs.YtkgboidjghcegaaGreatDoor.VL
