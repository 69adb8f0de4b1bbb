/- Proved here: budgets and equality of knots. Plain Lean, no program. -/
import Derived.Test.YtfnkphllkbkfaaaDoorPC
set_option linter.unusedVariables false
set_option linter.unusedSimpArgs false
namespace Go.Proofs.YtfnkphllkbkfaaaDoor.VL
open Go
abbrev DKnot := Int × List Int × List Int × List Int
section
variable {x : List DKnot} {l : Int} {p : Nat × Int} {a : DKnot}
theorem drop_getI {α : Type} {x : List α} {z : Nat} {a : α} (ha : x[Int.toNat ((z : Nat) : Int)]? = some a) : x.drop z = a :: x.drop (z + 1) := by
  rw [toN] at ha
  obtain ⟨h, rfl⟩ := List.getElem?_eq_some_iff.1 ha
  exact List.drop_eq_getElem_cons h
theorem mem_getI {α : Type} {x : List α} {z : Int} {a : α} (ha : x[Int.toNat z]? = some a) : a ∈ x := List.mem_of_getElem? ha
end
end Go.Proofs.YtfnkphllkbkfaaaDoor.VL
