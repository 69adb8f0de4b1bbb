/- Proved here: rows of edits, and decks that are merged. Plain Lean, no program. -/
import Derived.Test.YtfnkphllkbkfaaaDoorPP
set_option linter.unusedVariables false
set_option linter.unusedSimpArgs false
namespace Go.Proofs.YtfnkphllkbkfaaaDoor.VL
open Go
/-! ### All of a row -/
section
variable {α : Type} {q : α → Bool} {x : List α} {z : Nat} {a : α}
def qI (q : α → Bool) (x : List α) (i : Nat) : Prop := ∃ b, x[i]? = some b ∧ q b = true
theorem qI_iff (ha : x[Int.toNat ((z : Nat) : Int)]? = some a) : qI q x z ↔ q a = true := by
  rw [toN] at ha
  constructor
  · rintro ⟨b, h1, h2⟩
    rw [ha] at h1; obtain rfl := Option.some.inj h1; exact h2
  · exact fun h => ⟨a, ha, h⟩
theorem all_qI : x.all q = true ↔ ∀ i, i < x.length → qI q x i := by
  rw [List.all_eq_true]
  constructor
  · intro h i hi
    exact ⟨x[i], List.getElem?_eq_getElem hi, h _ (List.getElem_mem hi)⟩
  · intro h b hb
    obtain ⟨i, hi, rfl⟩ := List.mem_iff_getElem.1 hb
    obtain ⟨c, h1, h2⟩ := h i hi
    rw [List.getElem?_eq_getElem hi] at h1
    rw [Option.some.inj h1]; exact h2
theorem all_yes (h : ∀ i, i < z → qI q x i) (hz : x.length ≤ z) : true = x.all q := (all_qI.2 (fun i hi => h i (by omega))).symm
theorem all_no (ha : x[Int.toNat ((z : Nat) : Int)]? = some a) (h : q a = false) : false = x.all q := by
  cases hq : x.all q with
  | false => rfl
  | true =>
    have := (List.all_eq_true.1 hq) a (List.mem_of_getElem? ha)
    rw [h] at this; cases this
theorem any_not : (!(x.any fun a => !(q a))) = x.all q := by
  induction x with
  | nil => rfl
  | cons a x ih => rw [List.any_cons, List.all_cons, Bool.not_or, Bool.not_not, ih]
theorem all_get (h : x.all q = true) (ha : x[Int.toNat ((z : Nat) : Int)]? = some a) : q a = true := List.all_eq_true.1 h a (List.mem_of_getElem? ha)
end
/-! ### Undoing -/
def szE (e : DEdit) (l : Int) : Int := szB e.2.1 l
theorem okSzE : okSz szE (fun e => e.2.1.size ≤ 1048576) := fun e l hl => szB_in e.2.1 l hl
section
variable {l : List DEdit} {z : Nat} {e : DEdit}
end
/-! ### One edit behind another -/
noncomputable def amS : List DCard → List DEdit → List DCard × Int
  | x, [] => (x, 0)
  | x, e :: r => if (applyS x e).2 = 0 then amS (applyS x e).1 r else ([], (applyS x e).2)
theorem drop_more {α : Type} {x : List α} {z : Nat} {a : α} (ha : x[Int.toNat ((z : Nat) : Int)]? = some a) : x.drop z = a :: x.drop (z + 1) := drop_getI ha
theorem am_next {x y : List DCard} {l : List DEdit} {z : Nat} {e : DEdit} (he : l[Int.toNat ((z : Nat) : Int)]? = some e) (h : amS y (l.drop z) = amS x l) (h1 : (applyS y e).2 = 0) : amS (applyS y e).1 (l.drop (z + 1)) = amS x l := by
  rw [← h, drop_more he, amS, if_pos h1]
theorem am_code {x y : List DCard} {l : List DEdit} {z : Nat} {e : DEdit} (he : l[Int.toNat ((z : Nat) : Int)]? = some e) (h : amS y (l.drop z) = amS x l) (h1 : ¬ (applyS y e).2 = 0) : amS x l = ([], (applyS y e).2) := by
  rw [← h, drop_more he, amS, if_neg h1]
theorem am_end {x y : List DCard} {l : List DEdit} {z : Nat} (h : amS y (l.drop z) = amS x l) (hz : l.length ≤ z) : amS x l = (y, 0) := by
  rw [← h, List.drop_of_length_le hz, amS]
noncomputable def manyS (x : List DCard) (l : List DEdit) : List DCard × Int × Int :=
  if (!(tt (deckOK x)) || !(l.all editB)) = true then ([], 0, 1) else if ¬ l.length ≤ 200 then ([], 0, 3) else if (amS x l).2 = 0 then ((amS x l).1, (l.length : Int), 0) else ([], 0, (amS x l).2)
section
variable {x y : List DCard} {l : List DEdit}
theorem many_bad (h : (!(tt (deckOK x)) || !(l.all editB)) = true) : manyS x l = ([], 0, 1) := by rw [manyS, if_pos h]
theorem many_long (h : (!(tt (deckOK x)) || !(l.all editB)) = false) (h1 : ¬ l.length ≤ 200) : manyS x l = ([], 0, 3) := by rw [manyS, if_neg (by rw [h]; decide), if_pos h1]
theorem many_code (h : (!(tt (deckOK x)) || !(l.all editB)) = false) (h1 : l.length ≤ 200) {c : Int} (hc : ¬ c = 0) (h2 : amS x l = ([], c)) : manyS x l = ([], 0, c) := by
  rw [manyS, if_neg (by rw [h]; decide), if_neg (by omega), h2, if_neg hc]
theorem many_ok (h : (!(tt (deckOK x)) || !(l.all editB)) = false) (h1 : l.length ≤ 200) (h2 : amS x l = (y, 0)) : manyS x l = (y, (l.length : Int), 0) := by
  rw [manyS, if_neg (by rw [h]; decide), if_neg (by omega), h2, if_pos rfl]
theorem deck_edits (h : (!(tt (deckOK x)) || !(l.all editB)) = false) : x.length ≤ 80 ∧ l.all editB = true := by
  refine ⟨deck_bad h, ?_⟩
  rw [Bool.or_eq_false_iff, Bool.not_eq_false'] at h
  simpa using h.2
theorem am_len : ∀ (l : List DEdit) (x : List DCard), (amS x l).1.length ≤ x.length + l.length
  | [], x => by simp [amS]
  | e :: r, x => by
    rw [amS]
    split
    · have h1 := am_len r (applyS x e).1
      have h2 := applyS_len x e
      simp only [List.length_cons]; omega
    · simp
theorem many_len (x : List DCard) (l : List DEdit) : (manyS x l).1.length ≤ 280 := by
  unfold manyS
  split
  · simp
  · rename_i h
    split
    · simp
    · split
      · have h1 := am_len l x
        have h2 := (deck_edits (Bool.eq_false_iff.2 h)).1
        simp only []; omega
      · simp
end
/-! ### Edits between decks -/
section
variable {a b : List DCard}
end
/-! ### Names of several decks -/
/-! ### States -/
section
variable {base a b : List DCard}
end
section
variable {base a b : List DCard} {s : ByteArray}
end
end Go.Proofs.YtfnkphllkbkfaaaDoor.VL
