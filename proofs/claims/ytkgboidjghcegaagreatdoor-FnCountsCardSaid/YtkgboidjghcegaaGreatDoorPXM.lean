/- Proved here: insertion and symmetric merges sort a row stably. Plain Lean. -/
import Derived.Test.YtkgboidjghcegaaGreatDoorPXR
set_option linter.unusedVariables false
set_option linter.unusedSimpArgs false
namespace Go.Proofs.YtkgboidjghcegaaGreatDoor.VL
open Go
section
variable {α : Type}
/-! ### Insertion -/
variable {q : α → α → Int} {p : α → Prop}
/-- What a comparison must keep to on what is compared. -/
structure TPre (q : α → α → Int) (p : α → Prop) : Prop where
  tot : ∀ {x y}, p x → p y → q x y < 0 → ¬ q y x < 0
  tr : ∀ {x y z}, p x → p y → p z → ¬ q y x < 0 → ¬ q z y < 0 → ¬ q z x < 0
/-! ### Merges -/
/-! ### Parts of a row merged -/
/-! ### Blocks -/
end
end Go.Proofs.YtkgboidjghcegaaGreatDoor.VL
