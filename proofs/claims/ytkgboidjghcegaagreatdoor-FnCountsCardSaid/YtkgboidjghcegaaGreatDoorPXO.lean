/- Proved here: names compared word by word, as they are filed. Plain Lean. -/
import Derived.Test.YtkgboidjghcegaaGreatDoorPXL
import Derived.Test.YtkgboidjghcegaaGreatDoorPXT
import Derived.Lib.Small
set_option linter.unusedVariables false
set_option linter.unusedSimpArgs false
namespace Go.Proofs.YtkgboidjghcegaaGreatDoor.VL
open Go
/-! ### Bytes -/
def or2 (x y : Int) : Int := if x ≠ 0 then x else y
/-! ### Rows compared -/
/-! ### Names -/
/-! ### The other way -/
end Go.Proofs.YtkgboidjghcegaaGreatDoor.VL
