/- Proved here: fields and schemes, and tables of cards. Plain Lean, no program. -/
import Derived.Test.YtcaeabgfgofefaaDoorPJ
set_option linter.unusedVariables false
set_option linter.unusedSimpArgs false
namespace Go.Proofs.YtcaeabgfgofefaaDoor.VL
open Go
/-! ### Masks that are made -/
def zM : DMask := (0#64, 0#64)
def joinM (x y : DMask) : DMask := (x.1 ||| y.1, x.2 ||| y.2)
def bitM (i : Int) : DMask := if Int.toNat (i.tdiv 64) = 0 then (1#64 <<< Int.toNat (i.tmod 64), 0#64) else (0#64, 1#64 <<< Int.toNat (i.tmod 64))
theorem bit_of {i : Int} (h : 0 ≤ i) : (if Int.toNat (i.tdiv 64) = 0 then (1#64 <<< Int.toNat ((BitVec.ofInt 64 (i.tmod 64)).toNat : Int), (0#64, 0#64).2) else ((0#64, 0#64).1, 1#64 <<< Int.toNat ((BitVec.ofInt 64 (i.tmod 64)).toNat : Int))) = bitM i := by
  rw [rem64 h]; rfl
def withM (m : DMask) (l : List Int) : DMask := l.foldl (fun m h => joinM m (bitM h)) m
theorem with_step {m : DMask} {l : List Int} {z : Nat} {h : Int} (hh : l[Int.toNat ((z : Nat) : Int)]? = some h) :
    (if Int.toNat (h.tdiv 64) = 0 then ((if Int.toNat (h.tdiv 64) = 0 then (withM m (l.take z)).1 else (withM m (l.take z)).2) ||| 1#64 <<< Int.toNat (h.tmod 64), (withM m (l.take z)).2) else ((withM m (l.take z)).1, (if Int.toNat (h.tdiv 64) = 0 then (withM m (l.take z)).1 else (withM m (l.take z)).2) ||| 1#64 <<< Int.toNat (h.tmod 64))) = withM m (l.take (z + 1)) := by
  have e : withM m (l.take (z + 1)) = joinM (withM m (l.take z)) (bitM h) := (foldl_next (f := fun m h => joinM m (bitM h)) hh).symm
  rw [e, joinM, bitM]
  split <;> simp
def rngM (a : Int) : Nat → DMask
  | 0 => zM
  | k + 1 => joinM (rngM a k) (bitM (a + k))
/-! ### Fields -/
abbrev DField := ByteArray × Int × Int × Int
def widthF (f : DField) : Int := if f.2.1 = 1 then 4 * f.2.2.2 else if f.2.1 = 2 then 5 * f.2.2.2 else if f.2.1 = 3 then f.2.2.2 + 1 else f.2.2.2
def mostF (c : Int) : Int := if c = 0 then 24 else if c = 1 then 4 else if c = 2 then 4 else if c = 3 then 12 else 0
def partF (f : DField) : DMask := rngM f.2.2.1 (Int.toNat (widthF f))
def fieldOK (f : DField) : Prop := nameOK f.1 ∧ 0 ≤ f.2.1 ∧ f.2.1 ≤ 3 ∧ 1 ≤ f.2.2.2 ∧ f.2.2.2 ≤ mostF f.2.1 ∧ 0 ≤ f.2.2.1 ∧ f.2.2.1 + widthF f ≤ 96
theorem okField {f : DField} (h : (kField).ok f) : (-128 ≤ f.2.1 ∧ f.2.1 ≤ 127) ∧ (-32768 ≤ f.2.2.1 ∧ f.2.2.1 ≤ 32767) ∧ (-32768 ≤ f.2.2.2 ∧ f.2.2.2 ≤ 32767) := by
  obtain ⟨h1, h2⟩ := ok_pair h
  obtain ⟨h2, h3⟩ := ok_pair h2
  obtain ⟨h3, h4⟩ := ok_pair h3
  exact ⟨ok_int h2, ok_i16 h3, ok_i16 h4⟩
theorem width_in {f : DField} (h : (-128 ≤ f.2.1 ∧ f.2.1 ≤ 127) ∧ (-32768 ≤ f.2.2.1 ∧ f.2.2.1 ≤ 32767) ∧ (-32768 ≤ f.2.2.2 ∧ f.2.2.2 ≤ 32767)) : -200000 ≤ widthF f ∧ widthF f ≤ 200000 := by
  unfold widthF; (repeat' split) <;> omega
theorem mostF_in (c : Int) : 0 ≤ mostF c ∧ mostF c ≤ 24 ∧ (mostF c ≠ 0 → 0 ≤ c ∧ c ≤ 3) := by unfold mostF; (repeat' split) <;> omega
theorem field_width {f : DField} (h : fieldOK f) : 1 ≤ widthF f ∧ widthF f ≤ 96 := by
  obtain ⟨h1, h2, h3, h4, h5, h6, h7⟩ := h
  constructor
  · unfold widthF; (repeat' split) <;> omega
  · omega
section
variable {f : DField} {M : Int}
theorem field_name (h : tt (nameOK f.1) = false) : false = tt (fieldOK f) := tt_no fun h' => tt_false.1 h h'.1
theorem field_most (h : inb f.2.2.2 1 M = false) (hm : mostF f.2.1 = M) : false = tt (fieldOK f) := tt_no fun h' => by
  simp only [inb, Bool.and_eq_false_iff, decide_eq_false_iff_not] at h
  have := h'.2.2.2
  omega
theorem field_last (h : inb f.2.2.2 1 M = true) (hn : tt (nameOK f.1) = true) (hm : mostF f.2.1 = M) : inb f.2.2.1 0 (96 - widthF f) = tt (fieldOK f) := by
  refine tt_eq ?_
  simp only [inb, Bool.and_eq_true, decide_eq_true_eq] at h ⊢
  have := mostF_in f.2.1
  exact ⟨fun h' => ⟨tt_iff.1 hn, by omega, by omega, by omega, by omega, by omega, by omega⟩, fun h' => by have := h'.2.2.2.2.2; omega⟩
def mostL : List Int := [24, 4, 4, 12]
theorem mostL_get {c : Int} (h : 0 ≤ c ∧ c ≤ 3) : mostL.getD (Int.toNat c) 0 = mostF c := by
  rcases (by omega : c = 0 ∨ c = 1 ∨ c = 2 ∨ c = 3) with rfl | rfl | rfl | rfl <;> rfl
theorem fieldI_no (h : (!(tt (nameOK f.1)) || decide (f.2.1 < 0) || decide (f.2.1 > 3) || decide (f.2.2.1 < 0) || decide (f.2.2.2 < 1)) = true) : false = tt (fieldOK f) := tt_no fun h' => by
  simp only [Bool.or_eq_true, Bool.not_eq_true', decide_eq_true_eq] at h
  obtain ⟨h1, h2, h3, h4, h5, h6, h7⟩ := h'
  rcases h with (((h | h) | h) | h) | h
  · exact tt_false.1 h h1
  all_goals omega
theorem fieldI_yes (h : (!(tt (nameOK f.1)) || decide (f.2.1 < 0) || decide (f.2.1 > 3) || decide (f.2.2.1 < 0) || decide (f.2.2.2 < 1)) = false) : nameOK f.1 ∧ (0 ≤ f.2.1 ∧ f.2.1 ≤ 3) ∧ 0 ≤ f.2.2.1 ∧ 1 ≤ f.2.2.2 := by
  simp only [Bool.or_eq_false_iff, Bool.not_eq_false', decide_eq_false_iff_not] at h
  exact ⟨tt_iff.1 h.1.1.1.1, by omega, by omega, by omega⟩
theorem fieldI_most (hy : nameOK f.1 ∧ (0 ≤ f.2.1 ∧ f.2.1 ≤ 3) ∧ 0 ≤ f.2.2.1 ∧ 1 ≤ f.2.2.2) (h : decide (f.2.2.2 ≤ mostL.getD (Int.toNat f.2.1) 0) = false) : false = tt (fieldOK f) := tt_no fun h' => by
  have := of_decide_eq_false h
  rw [mostL_get hy.2.1] at this
  exact this h'.2.2.2.2.1
theorem fieldI_last (hy : nameOK f.1 ∧ (0 ≤ f.2.1 ∧ f.2.1 ≤ 3) ∧ 0 ≤ f.2.2.1 ∧ 1 ≤ f.2.2.2) (h : decide (f.2.2.2 ≤ mostL.getD (Int.toNat f.2.1) 0) = true) : decide (f.2.2.1 + widthF f ≤ 96) = tt (fieldOK f) := by
  refine tt_eq ?_
  have := of_decide_eq_true h
  rw [mostL_get hy.2.1] at this
  rw [decide_eq_true_eq]
  exact ⟨fun h' => ⟨hy.1, by omega, by omega, by omega, this, by omega, h'⟩, fun h' => h'.2.2.2.2.2.2⟩
end
/-! ### Schemes -/
section
variable {x : List DField} {z : Nat} {f : DField}
end
/-! ### Tables -/
section
variable {s : List DField} {x : List DCard} {l : List Int}
end
/-! ### Counting cards -/
section
variable {α : Type} {q : α → Bool} {x : List α} {z : Nat} {a : α}
end
section
variable {x : List DCard} {a b : Int}
end
end Go.Proofs.YtcaeabgfgofefaaDoor.VL
