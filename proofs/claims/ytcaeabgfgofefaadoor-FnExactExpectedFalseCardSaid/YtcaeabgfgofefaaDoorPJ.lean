/- Proved here: lists of words, lots, and how many false drops are expected of them. Plain Lean, no program. -/
import Derived.Test.YtcaeabgfgofefaaDoorPI
set_option linter.unusedVariables false
set_option linter.unusedSimpArgs false
namespace Go.Proofs.YtcaeabgfgofefaaDoor.VL
open Go
theorem szB_eq {s : ByteArray} {l : Int} (h : ¬ l - s.size < 0) : l - s.size = szB s l := by rw [szB, if_neg h]
theorem szB_ne {s : ByteArray} {l : Int} (h : l - s.size < 0) : szB s l < 0 := by rw [szB, if_pos h]; decide
theorem szB_no {s : ByteArray} {l : Int} (h : ¬ l - s.size < 0) : ¬ szB s l < 0 := by rw [szB, if_neg h]; exact h
/-- A list whose elements all fit. -/
def allI {α : Type} (q : α → Prop) (x : List α) (i : Nat) : Prop := ∃ a, x[i]? = some a ∧ q a
section
variable {α : Type} {q : α → Prop} {x : List α} {z : Nat} {a : α}
theorem allI_iff (ha : x[Int.toNat ((z : Nat) : Int)]? = some a) : allI q x z ↔ q a := by
  rw [toN] at ha
  constructor
  · rintro ⟨b, h1, h2⟩
    rw [ha] at h1; obtain rfl := Option.some.inj h1; exact h2
  · exact fun h => ⟨a, ha, h⟩
def allL (q : α → Prop) (x : List α) : Prop := ∀ i, i < x.length → allI q x i
theorem allL_mem (h : allL q x) (ha : a ∈ x) : q a := by
  obtain ⟨i, hi⟩ := List.mem_iff_getElem?.1 ha
  have h2 := h i (List.getElem?_eq_some_iff.1 hi).1
  exact (allI_iff (z := i) (by rw [toN]; exact hi)).1 h2
theorem allL_any : (!(x.any fun a => !(tt (q a)))) = tt (allL q x) := by
  refine tt_eq ?_
  rw [Bool.not_eq_true', any_iff]
  unfold allL
  refine forall_congr' fun i => forall_congr' fun hi => ?_
  have ha := List.getElem?_eq_getElem hi
  rw [allI_iff (by rw [toN]; exact ha), nI_iff (by rw [toN]; exact ha), Bool.not_eq_false', tt_iff]
end
def wordsOK (m : Int) (l : List ByteArray) : Prop := (l.length : Int) ≤ m ∧ allL nameOK l
def lotOK (x : List (List ByteArray)) : Prop := x.length ≤ 60 ∧ allL (wordsOK 12) x
noncomputable def err2 (p : Prop) : Int := if tt p = true then 0 else 2
theorem err2_no {p : Prop} (h : ¬ p) : 2 = err2 p := by rw [err2, tt_false.2 h]; rfl
theorem err2_yes {p : Prop} (h : p) : 0 = err2 p := by rw [err2, tt_iff.2 h]; rfl
theorem err2_zero {p : Prop} (h : err2 p = 0) : p := by
  unfold err2 at h
  split at h
  · rename_i h1; exact tt_iff.1 h1
  · cases h
theorem err2_two {p : Prop} (h : err2 p ≠ 0) : ¬ p ∧ err2 p = 2 := by
  unfold err2 at h ⊢
  split
  · rename_i h1; rw [if_pos h1] at h; exact absurd rfl h
  · rename_i h1; exact ⟨fun hp => h1 (tt_iff.2 hp), rfl⟩
theorem word_end {s : ByteArray} {z : Nat} (h : ∀ i, i < z → lowI s i) (hz : s.size ≤ z) : ((!(eqv s ByteArray.empty)) && decide ((s.size : Int) ≤ 16)) = tt (nameOK s) := by
  refine tt_eq ?_
  rw [Bool.and_eq_true, Bool.not_eq_true', eqv_false_iff, decide_eq_true_eq, ne_eq, size_zero]
  exact ⟨fun h' => ⟨all_end h hz, by omega, by omega⟩, fun h' => ⟨by have := h'.2.1; omega, by have := h'.2.2; omega⟩⟩
theorem words_and {l : List ByteArray} {m : Int} : (decide ((l.length : Int) ≤ m) && !(l.any fun a => !(tt (nameOK a)))) = tt (wordsOK m l) := by
  refine tt_eq ?_
  rw [allL_any, Bool.and_eq_true, decide_eq_true_eq, tt_iff]; rfl
theorem lot_and {x : List (List ByteArray)} : (decide ((x.length : Int) ≤ 60) && !(x.any fun a => !(tt (wordsOK 12 a)))) = tt (lotOK x) := by
  refine tt_eq ?_
  rw [allL_any, Bool.and_eq_true, decide_eq_true_eq, tt_iff]
  exact and_congr (by omega) Iff.rfl
/-! ### Expected false drops -/
def fE (mx : Int × Int × Int) (m : Int) (s : Int) (k : List ByteArray) : Int := s + chance mx.2.1 mx.2.2 k.length m
def sumE (mx : Int × Int × Int) (m : Int) (x : List (List ByteArray)) : Int := x.foldl (fE mx m) 0
theorem chance_in (a b n m : Int) (h : 0 < a ∧ a ≤ 96 ∧ 0 ≤ b ∧ b ≤ a) : 0 ≤ chance a b n m ∧ chance a b n m ≤ 1000000000 := hit_in (miss_in h _) _
theorem fE_in {mx : Int × Int × Int} {m : Int} (h : 0 < mx.2.1 ∧ mx.2.1 ≤ 96 ∧ 0 ≤ mx.2.2 ∧ mx.2.2 ≤ mx.2.1) : ∀ (x : List (List ByteArray)) (s : Int), s ≤ x.foldl (fE mx m) s ∧ x.foldl (fE mx m) s ≤ s + x.length * 1000000000
  | [], s => by simp
  | k :: x, s => by
    have h1 := chance_in mx.2.1 mx.2.2 k.length m h
    have h2 := fE_in (m := m) h x (fE mx m s k)
    rw [List.foldl_cons, List.length_cons]
    unfold fE at h2 ⊢
    constructor <;> omega
theorem sumE_in {mx : Int × Int × Int} {m : Int} (h : 0 < mx.2.1 ∧ mx.2.1 ≤ 96 ∧ 0 ≤ mx.2.2 ∧ mx.2.2 ≤ mx.2.1) (x : List (List ByteArray)) (z : Nat) : 0 ≤ sumE mx m (x.take z) ∧ sumE mx m (x.take z) ≤ z * 1000000000 := by
  have h1 := fE_in (m := m) h (x.take z) 0
  have h2 : (x.take z).length ≤ z := by rw [List.length_take]; omega
  unfold sumE
  omega
theorem sumE_next {mx : Int × Int × Int} {m : Int} {x : List (List ByteArray)} {z : Nat} {k : List ByteArray} (hk : x[Int.toNat ((z : Nat) : Int)]? = some k) :
    sumE mx m (x.take z) + chance mx.2.1 mx.2.2 k.length m = sumE mx m (x.take (z + 1)) := foldl_next (f := fE mx m) hk
noncomputable def expS (mx : Int × Int × Int) (x : List (List ByteArray)) (m : Int) : Int × Int :=
  if mixS mx = true then (@ite _ (lotOK x ∧ 0 ≤ m ∧ m ≤ 12) (Classical.propDecidable _) (sumE mx m x, 0) (0, 2)) else (0, 1)
section
variable {mx : Int × Int × Int} {x : List (List ByteArray)} {m : Int}
theorem expS_mix (h : mixS mx = false) : expS mx x m = (0, 1) := by rw [expS, if_neg (by rw [h]; decide)]
theorem expS_no (h : mixS mx = true) (h2 : ¬ (lotOK x ∧ 0 ≤ m ∧ m ≤ 12)) : expS mx x m = (0, 2) := by rw [expS, if_pos h, if_neg h2]
theorem expS_yes (h : mixS mx = true) (h2 : lotOK x ∧ 0 ≤ m ∧ m ≤ 12) : expS mx x m = (sumE mx m x, 0) := by rw [expS, if_pos h, if_pos h2]
theorem mix_ab (h : mixS mx = true) : 0 < mx.2.1 ∧ mx.2.1 ≤ 96 ∧ 0 ≤ mx.2.2 ∧ mx.2.2 ≤ mx.2.1 := by have := mixS_in h; omega
theorem lot_len {z : Nat} {k : List ByteArray} (h : lotOK x) (hk : x[Int.toNat ((z : Nat) : Int)]? = some k) : (k.length : Int) ≤ 12 := (allL_mem h.2 (mem_getI hk)).1
end
end Go.Proofs.YtcaeabgfgofefaaDoor.VL
