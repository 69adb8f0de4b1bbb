/- Proved here: edits of decks. Plain Lean, no program. -/
import Derived.Test.YtfnkphllkbkfaaaDoorPN
import Derived.Test.YtfnkphllkbkfaaaDoorPR
import Derived.Test.YtfnkphllkbkfaaaDoorVY
import Derived.Test.YtfnkphllkbkfaaaDoorPO
set_option linter.unusedVariables false
set_option linter.unusedSimpArgs false
namespace Go.Proofs.YtfnkphllkbkfaaaDoor.VL
open Go
abbrev DEdit := Int × ByteArray × Int × DMask
theorem okEdit {e : DEdit} (h : (kEdit).ok e) : (-128 ≤ e.1 ∧ e.1 ≤ 127) ∧ (-32768 ≤ e.2.2.1 ∧ e.2.2.1 ≤ 32767) := ⟨ok_i8 (ok_pair h).1, ok_i16 (ok_pair (ok_pair (ok_pair h).2).2).1⟩

noncomputable def editB (e : DEdit) : Bool := tt (nameOK e.2.1) && (if e.1 = 1 ∨ e.1 = 2 then e.2.2.1 == 0 && okM e.2.2.2 else if e.1 = 3 ∨ e.1 = 4 then inb e.2.2.1 0 95 && eqv e.2.2.2 zM else false)
section
variable {e : DEdit}
theorem edit_no (h : tt (nameOK e.2.1) = false) : false = editB e := by rw [editB, h]; rfl
theorem edit_12 (h : tt (nameOK e.2.1) = true) (h1 : e.1 = 1 ∨ e.1 = 2) : (e.2.2.1 == 0 && okM e.2.2.2) = editB e := by rw [editB, h, if_pos h1]; rfl
theorem edit_34 (h : tt (nameOK e.2.1) = true) (h1 : ¬ (e.1 = 1 ∨ e.1 = 2)) (h2 : e.1 = 3 ∨ e.1 = 4) : (inb e.2.2.1 0 95 && eqv e.2.2.2 zM) = editB e := by rw [editB, h, if_neg h1, if_pos h2]; rfl
theorem edit_else (h1 : ¬ (e.1 = 1 ∨ e.1 = 2)) (h2 : ¬ (e.1 = 3 ∨ e.1 = 4)) : false = editB e := by rw [editB, if_neg h1, if_neg h2, Bool.and_false]
theorem edit_12' (h1 : e.1 = 1 ∨ e.1 = 2) : ((tt (nameOK e.2.1) && (e.2.2.1 == 0)) && okM e.2.2.2) = editB e := by rw [editB, if_pos h1, Bool.and_assoc]
theorem edit_34' (h1 : ¬ (e.1 = 1 ∨ e.1 = 2)) (h2 : e.1 = 3 ∨ e.1 = 4) : ((tt (nameOK e.2.1) && inb e.2.2.1 0 95) && eqv e.2.2.2 zM) = editB e := by rw [editB, if_neg h1, if_pos h2, Bool.and_assoc]
theorem edit_kind (h : editB e = true) : 1 ≤ e.1 ∧ e.1 ≤ 4 := by
  unfold editB at h
  by_cases h1 : e.1 = 1 ∨ e.1 = 2
  · omega
  · by_cases h2 : e.1 = 3 ∨ e.1 = 4
    · omega
    · rw [if_neg h1, if_neg h2, Bool.and_false] at h; cases h
end
section
variable {x : List DCard} {e : DEdit} {a : DCard}
end
section
variable {c : BitVec 64} {x : List DCard} {e : DEdit}
end
end Go.Proofs.YtfnkphllkbkfaaaDoor.VL
