/- Proved here: functions of the library in this program are those of which the kit has proved contracts. Laid by the kit. -/
import Derived.Shelf.SlLaysM
import Derived.Test.YtkgboidjghcegaaGreatDoorProg
set_option linter.unusedVariables false
set_option maxRecDepth 100000
namespace Go.Proofs
open Go.Shelf
end Go.Proofs
