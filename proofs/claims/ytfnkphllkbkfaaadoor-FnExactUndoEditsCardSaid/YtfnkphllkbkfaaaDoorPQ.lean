/- Proved here: rows of edits, and decks that are merged. Plain Lean, no program. -/
import Derived.Test.YtfnkphllkbkfaaaDoorPP
set_option linter.unusedVariables false
set_option linter.unusedSimpArgs false
namespace Go.Proofs.YtfnkphllkbkfaaaDoor.VL
open Go
/-! ### All of a row -/
section
variable {α : Type} {q : α → Bool} {x : List α} {z : Nat} {a : α}
def qI (q : α → Bool) (x : List α) (i : Nat) : Prop := ∃ b, x[i]? = some b ∧ q b = true
theorem qI_iff (ha : x[Int.toNat ((z : Nat) : Int)]? = some a) : qI q x z ↔ q a = true := by
  rw [toN] at ha
  constructor
  · rintro ⟨b, h1, h2⟩
    rw [ha] at h1; obtain rfl := Option.some.inj h1; exact h2
  · exact fun h => ⟨a, ha, h⟩
theorem all_qI : x.all q = true ↔ ∀ i, i < x.length → qI q x i := by
  rw [List.all_eq_true]
  constructor
  · intro h i hi
    exact ⟨x[i], List.getElem?_eq_getElem hi, h _ (List.getElem_mem hi)⟩
  · intro h b hb
    obtain ⟨i, hi, rfl⟩ := List.mem_iff_getElem.1 hb
    obtain ⟨c, h1, h2⟩ := h i hi
    rw [List.getElem?_eq_getElem hi] at h1
    rw [Option.some.inj h1]; exact h2
theorem all_yes (h : ∀ i, i < z → qI q x i) (hz : x.length ≤ z) : true = x.all q := (all_qI.2 (fun i hi => h i (by omega))).symm
theorem all_no (ha : x[Int.toNat ((z : Nat) : Int)]? = some a) (h : q a = false) : false = x.all q := by
  cases hq : x.all q with
  | false => rfl
  | true =>
    have := (List.all_eq_true.1 hq) a (List.mem_of_getElem? ha)
    rw [h] at this; cases this
theorem any_not : (!(x.any fun a => !(q a))) = x.all q := by
  induction x with
  | nil => rfl
  | cons a x ih => rw [List.any_cons, List.all_cons, Bool.not_or, Bool.not_not, ih]
/-- From behind. -/
theorem rev_next {β : Type} {f : α → β} (hz : z < x.length) (ha : x[Int.toNat ((x.length : Int) - 1 - (z : Int))]? = some a) : (x.reverse.take z).map f ++ [f a] = (x.reverse.take (z + 1)).map f := by
  have h1 : Int.toNat ((x.length : Int) - 1 - (z : Int)) = x.length - 1 - z := by omega
  rw [h1] at ha
  rw [List.take_add_one, List.getElem?_reverse hz, ha, List.map_append]; rfl
end
/-! ### Undoing -/
def szE (e : DEdit) (l : Int) : Int := szB e.2.1 l
theorem okSzE : okSz szE (fun e => e.2.1.size ≤ 1048576) := fun e l hl => szB_in e.2.1 l hl
def oppK (k : Int) : Int := if k = 1 then 2 else if k = 2 then 1 else if k = 3 then 4 else 3
def opp (e : DEdit) : DEdit := (oppK e.1, e.2)
def oppL : List Int := [0, 2, 1, 4, 3]
theorem opp_get {k : Int} (h : 1 ≤ k ∧ k ≤ 4) : oppL.getD k.toNat 0 = oppK k := by
  rcases (by omega : k = 1 ∨ k = 2 ∨ k = 3 ∨ k = 4) with rfl | rfl | rfl | rfl <;> rfl
noncomputable def undoS (l : List DEdit) : List DEdit × Int := if l.all editB = true then (if l.length ≤ 200 then (l.reverse.map opp, 0) else ([], 3)) else ([], 1)
section
variable {l : List DEdit} {z : Nat} {e : DEdit}
theorem undo_bad (h : l.all editB = false) : undoS l = ([], 1) := by rw [undoS, if_neg (by rw [h]; decide)]
theorem undo_many (h : l.all editB = true) (h1 : ¬ l.length ≤ 200) : undoS l = ([], 3) := by rw [undoS, if_pos h, if_neg h1]
theorem undo_ok (h : l.all editB = true) (h1 : l.length ≤ 200) : undoS l = (l.reverse.map opp, 0) := by rw [undoS, if_pos h, if_pos h1]
theorem undo_len (l : List DEdit) : (undoS l).1.length ≤ 200 := by
  unfold undoS
  (repeat' split) <;> simp
  omega
theorem rev_end {β : Type} {f : DEdit → β} (hz : l.length ≤ z) : (l.reverse.take z).map f = l.reverse.map f := by
  rw [List.take_of_length_le (by rw [List.length_reverse]; exact hz)]
theorem opp_1 (h : e.1 = 1) : ((2, e.2) : DEdit) = opp e := by rw [opp, oppK, if_pos h]
theorem opp_2 (h : e.1 = 2) : ((1, e.2) : DEdit) = opp e := by rw [opp, oppK, if_neg (by omega), if_pos h]
theorem opp_3 (h : e.1 = 3) : ((4, e.2) : DEdit) = opp e := by rw [opp, oppK, if_neg (by omega), if_neg (by omega), if_pos h]
theorem opp_4 (h1 : ¬ e.1 = 1) (h2 : ¬ e.1 = 2) (h : ¬ e.1 = 3) : ((3, e.2) : DEdit) = opp e := by rw [opp, oppK, if_neg h1, if_neg h2, if_neg h]
end
/-! ### One edit behind another -/
section
variable {x y : List DCard} {l : List DEdit}
end
/-! ### Edits between decks -/
section
variable {a b : List DCard}
end
/-! ### Names of several decks -/
/-! ### States -/
section
variable {base a b : List DCard}
end
section
variable {base a b : List DCard} {s : ByteArray}
end
end Go.Proofs.YtfnkphllkbkfaaaDoor.VL
