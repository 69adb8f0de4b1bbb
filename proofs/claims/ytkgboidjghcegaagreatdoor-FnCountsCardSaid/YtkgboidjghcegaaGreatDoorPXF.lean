/- Proved here: names in the order in which they are filed, guides and drawers. Plain Lean. -/
import Derived.Test.YtkgboidjghcegaaGreatDoorPXU
import Derived.Test.YtkgboidjghcegaaGreatDoorPXA
set_option linter.unusedVariables false
set_option linter.unusedSimpArgs false
namespace Go.Proofs.YtkgboidjghcegaaGreatDoor.VL
open Go
/-! ### The first that is not zero -/
def orL : List Int → Int
  | [] => 0
  | a :: l => if a ≠ 0 then a else orL l
theorem orL_two (a b : Int) : orL [a, b] = or2 a b := by simp only [orL, or2]; split <;> (try split) <;> omega
theorem orL_step {l : List Int} {z : Nat} {a : Int} (ha : l[Int.toNat ((z : Nat) : Int)]? = some a) (h : orL l = orL (l.drop z)) (h0 : ¬ a ≠ 0) : orL l = orL (l.drop (z + 1)) := by
  rw [toN] at ha
  obtain ⟨hz, rfl⟩ := List.getElem?_eq_some_iff.1 ha
  rw [h, List.drop_eq_getElem_cons hz, orL, if_neg h0]
theorem orL_at {l : List Int} {z : Nat} {a : Int} (ha : l[Int.toNat ((z : Nat) : Int)]? = some a) (h : orL l = orL (l.drop z)) (h0 : a ≠ 0) : a = orL l := by
  rw [toN] at ha
  obtain ⟨hz, rfl⟩ := List.getElem?_eq_some_iff.1 ha
  rw [h, List.drop_eq_getElem_cons hz, orL, if_pos h0]
theorem orL_end {l : List Int} {z : Nat} (h : orL l = orL (l.drop z)) (hz : l.length ≤ z) : 0 = orL l := by rw [h, List.drop_eq_nil_of_le hz]; rfl
/-! ### Comparing, as the other side does -/
/-! ### Names by their indices -/
/-! ### Codes -/
/-! ### Guides -/
/-! ### Drawers -/
end Go.Proofs.YtkgboidjghcegaaGreatDoor.VL
