/- Proved here: stable sorting by insertion, by symmetric merges and by rotations within a row. Plain Lean. -/
import Derived.Test.YtkgboidjghcegaaGreatDoorBpa
set_option linter.unusedVariables false
set_option linter.unusedSimpArgs false
namespace Go.Proofs.YtkgboidjghcegaaGreatDoor.VL
open Go
section
variable {α : Type}
/-! ### Swaps and rotations -/
end
end Go.Proofs.YtkgboidjghcegaaGreatDoor.VL
