/- Proved here: the order of names is one, and equal names alone are equal in it. Plain Lean. -/
import Derived.Test.YtkgboidjghcegaaGreatDoorPXO
import Derived.Test.YtkgboidjghcegaaGreatDoorPXM
set_option linter.unusedVariables false
set_option linter.unusedSimpArgs false
namespace Go.Proofs.YtkgboidjghcegaaGreatDoor.VL
open Go
/-- What a comparison keeps to. -/
structure CmpP {α : Type} (c : α → α → Int) : Prop where
  anti : ∀ x y, c y x = - c x y
  tr : ∀ x y z, c x y ≤ 0 → c y z ≤ 0 → c x z ≤ 0
section
variable {α : Type} {c d : α → α → Int}
theorem CmpP.eq (h : CmpP c) {x y z : α} (h1 : c x y = 0) (h2 : c y z = 0) : c x z = 0 := by
  have a1 := h.tr x y z (by omega) (by omega)
  have a2 := h.anti x y
  have a3 := h.anti y z
  have a4 := h.tr z y x (by omega) (by omega)
  have a5 := h.anti x z
  omega
/-- A comparison gives an order to sort by. -/
theorem CmpP.pre (h : CmpP c) (p : α → Prop) : TPre c p := by
  refine ⟨fun {x y} _ _ h1 => ?_, fun {x y z} _ _ _ h1 h2 => ?_⟩
  · have := h.anti x y; omega
  · have a1 := h.anti x y
    have a2 := h.anti y z
    have a3 := h.anti x z
    have := h.tr x y z (by omega) (by omega)
    omega
end
end Go.Proofs.YtkgboidjghcegaaGreatDoor.VL
