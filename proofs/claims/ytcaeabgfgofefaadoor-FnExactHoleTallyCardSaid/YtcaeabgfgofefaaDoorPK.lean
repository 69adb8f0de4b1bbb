/- Proved here: fields and schemes, and tables of cards. Plain Lean, no program. -/
import Derived.Test.YtcaeabgfgofefaaDoorPJ
set_option linter.unusedVariables false
set_option linter.unusedSimpArgs false
namespace Go.Proofs.YtcaeabgfgofefaaDoor.VL
open Go
/-! ### Masks that are made -/
def zM : DMask := (0#64, 0#64)
def joinM (x y : DMask) : DMask := (x.1 ||| y.1, x.2 ||| y.2)
def bitM (i : Int) : DMask := if Int.toNat (i.tdiv 64) = 0 then (1#64 <<< Int.toNat (i.tmod 64), 0#64) else (0#64, 1#64 <<< Int.toNat (i.tmod 64))
theorem bit_of {i : Int} (h : 0 ≤ i) : (if Int.toNat (i.tdiv 64) = 0 then (1#64 <<< Int.toNat ((BitVec.ofInt 64 (i.tmod 64)).toNat : Int), (0#64, 0#64).2) else ((0#64, 0#64).1, 1#64 <<< Int.toNat ((BitVec.ofInt 64 (i.tmod 64)).toNat : Int))) = bitM i := by
  rw [rem64 h]; rfl
def withM (m : DMask) (l : List Int) : DMask := l.foldl (fun m h => joinM m (bitM h)) m
theorem with_step {m : DMask} {l : List Int} {z : Nat} {h : Int} (hh : l[Int.toNat ((z : Nat) : Int)]? = some h) :
    (if Int.toNat (h.tdiv 64) = 0 then ((if Int.toNat (h.tdiv 64) = 0 then (withM m (l.take z)).1 else (withM m (l.take z)).2) ||| 1#64 <<< Int.toNat (h.tmod 64), (withM m (l.take z)).2) else ((withM m (l.take z)).1, (if Int.toNat (h.tdiv 64) = 0 then (withM m (l.take z)).1 else (withM m (l.take z)).2) ||| 1#64 <<< Int.toNat (h.tmod 64))) = withM m (l.take (z + 1)) := by
  have e : withM m (l.take (z + 1)) = joinM (withM m (l.take z)) (bitM h) := (foldl_next (f := fun m h => joinM m (bitM h)) hh).symm
  rw [e, joinM, bitM]
  split <;> simp
def rngM (a : Int) : Nat → DMask
  | 0 => zM
  | k + 1 => joinM (rngM a k) (bitM (a + k))
/-! ### Fields -/
abbrev DField := ByteArray × Int × Int × Int
def widthF (f : DField) : Int := if f.2.1 = 1 then 4 * f.2.2.2 else if f.2.1 = 2 then 5 * f.2.2.2 else if f.2.1 = 3 then f.2.2.2 + 1 else f.2.2.2
def mostF (c : Int) : Int := if c = 0 then 24 else if c = 1 then 4 else if c = 2 then 4 else if c = 3 then 12 else 0
def partF (f : DField) : DMask := rngM f.2.2.1 (Int.toNat (widthF f))
def fieldOK (f : DField) : Prop := nameOK f.1 ∧ 0 ≤ f.2.1 ∧ f.2.1 ≤ 3 ∧ 1 ≤ f.2.2.2 ∧ f.2.2.2 ≤ mostF f.2.1 ∧ 0 ≤ f.2.2.1 ∧ f.2.2.1 + widthF f ≤ 96
theorem okField {f : DField} (h : (kField).ok f) : (-128 ≤ f.2.1 ∧ f.2.1 ≤ 127) ∧ (-32768 ≤ f.2.2.1 ∧ f.2.2.1 ≤ 32767) ∧ (-32768 ≤ f.2.2.2 ∧ f.2.2.2 ≤ 32767) := by
  obtain ⟨h1, h2⟩ := ok_pair h
  obtain ⟨h2, h3⟩ := ok_pair h2
  obtain ⟨h3, h4⟩ := ok_pair h3
  exact ⟨ok_int h2, ok_i16 h3, ok_i16 h4⟩
theorem width_in {f : DField} (h : (-128 ≤ f.2.1 ∧ f.2.1 ≤ 127) ∧ (-32768 ≤ f.2.2.1 ∧ f.2.2.1 ≤ 32767) ∧ (-32768 ≤ f.2.2.2 ∧ f.2.2.2 ≤ 32767)) : -200000 ≤ widthF f ∧ widthF f ≤ 200000 := by
  unfold widthF; (repeat' split) <;> omega
theorem mostF_in (c : Int) : 0 ≤ mostF c ∧ mostF c ≤ 24 ∧ (mostF c ≠ 0 → 0 ≤ c ∧ c ≤ 3) := by unfold mostF; (repeat' split) <;> omega
theorem field_width {f : DField} (h : fieldOK f) : 1 ≤ widthF f ∧ widthF f ≤ 96 := by
  obtain ⟨h1, h2, h3, h4, h5, h6, h7⟩ := h
  constructor
  · unfold widthF; (repeat' split) <;> omega
  · omega
section
variable {f : DField} {M : Int}
theorem field_name (h : tt (nameOK f.1) = false) : false = tt (fieldOK f) := tt_no fun h' => tt_false.1 h h'.1
theorem field_most (h : inb f.2.2.2 1 M = false) (hm : mostF f.2.1 = M) : false = tt (fieldOK f) := tt_no fun h' => by
  simp only [inb, Bool.and_eq_false_iff, decide_eq_false_iff_not] at h
  have := h'.2.2.2
  omega
theorem field_last (h : inb f.2.2.2 1 M = true) (hn : tt (nameOK f.1) = true) (hm : mostF f.2.1 = M) : inb f.2.2.1 0 (96 - widthF f) = tt (fieldOK f) := by
  refine tt_eq ?_
  simp only [inb, Bool.and_eq_true, decide_eq_true_eq] at h ⊢
  have := mostF_in f.2.1
  exact ⟨fun h' => ⟨tt_iff.1 hn, by omega, by omega, by omega, by omega, by omega, by omega⟩, fun h' => by have := h'.2.2.2.2.2; omega⟩
def mostL : List Int := [24, 4, 4, 12]
theorem mostL_get {c : Int} (h : 0 ≤ c ∧ c ≤ 3) : mostL.getD (Int.toNat c) 0 = mostF c := by
  rcases (by omega : c = 0 ∨ c = 1 ∨ c = 2 ∨ c = 3) with rfl | rfl | rfl | rfl <;> rfl
theorem fieldI_no (h : (!(tt (nameOK f.1)) || decide (f.2.1 < 0) || decide (f.2.1 > 3) || decide (f.2.2.1 < 0) || decide (f.2.2.2 < 1)) = true) : false = tt (fieldOK f) := tt_no fun h' => by
  simp only [Bool.or_eq_true, Bool.not_eq_true', decide_eq_true_eq] at h
  obtain ⟨h1, h2, h3, h4, h5, h6, h7⟩ := h'
  rcases h with (((h | h) | h) | h) | h
  · exact tt_false.1 h h1
  all_goals omega
theorem fieldI_yes (h : (!(tt (nameOK f.1)) || decide (f.2.1 < 0) || decide (f.2.1 > 3) || decide (f.2.2.1 < 0) || decide (f.2.2.2 < 1)) = false) : nameOK f.1 ∧ (0 ≤ f.2.1 ∧ f.2.1 ≤ 3) ∧ 0 ≤ f.2.2.1 ∧ 1 ≤ f.2.2.2 := by
  simp only [Bool.or_eq_false_iff, Bool.not_eq_false', decide_eq_false_iff_not] at h
  exact ⟨tt_iff.1 h.1.1.1.1, by omega, by omega, by omega⟩
theorem fieldI_most (hy : nameOK f.1 ∧ (0 ≤ f.2.1 ∧ f.2.1 ≤ 3) ∧ 0 ≤ f.2.2.1 ∧ 1 ≤ f.2.2.2) (h : decide (f.2.2.2 ≤ mostL.getD (Int.toNat f.2.1) 0) = false) : false = tt (fieldOK f) := tt_no fun h' => by
  have := of_decide_eq_false h
  rw [mostL_get hy.2.1] at this
  exact this h'.2.2.2.2.1
theorem fieldI_last (hy : nameOK f.1 ∧ (0 ≤ f.2.1 ∧ f.2.1 ≤ 3) ∧ 0 ≤ f.2.2.1 ∧ 1 ≤ f.2.2.2) (h : decide (f.2.2.2 ≤ mostL.getD (Int.toNat f.2.1) 0) = true) : decide (f.2.2.1 + widthF f ≤ 96) = tt (fieldOK f) := by
  refine tt_eq ?_
  have := of_decide_eq_true h
  rw [mostL_get hy.2.1] at this
  rw [decide_eq_true_eq]
  exact ⟨fun h' => ⟨hy.1, by omega, by omega, by omega, this, by omega, h'⟩, fun h' => h'.2.2.2.2.2.2⟩
end
/-! ### Schemes -/
def jp (x : List DField) : DMask := x.foldl (fun m f => joinM m (partF f)) zM
theorem jp_next {x : List DField} {z : Nat} {f : DField} (hf : x[Int.toNat ((z : Nat) : Int)]? = some f) : joinM (jp (x.take z)) (partF f) = jp (x.take (z + 1)) := foldl_next (f := fun m f => joinM m (partF f)) hf
def schI (x : List DField) (i : Nat) : Prop := ∃ f, x[i]? = some f ∧ fieldOK f ∧ meetM (jp (x.take i)) (partF f) = zM ∧ ∀ k, k < i → nI (fun b => eqv b.1 f.1) x k
def schemeOK (x : List DField) : Prop := x.length ≤ 12 ∧ ∀ i, i < x.length → schI x i
section
variable {x : List DField} {z : Nat} {f : DField}
theorem schI_iff (hf : x[Int.toNat ((z : Nat) : Int)]? = some f) : schI x z ↔ fieldOK f ∧ meetM (jp (x.take z)) (partF f) = zM ∧ ∀ k, k < z → nI (fun b => eqv b.1 f.1) x k := by
  rw [toN] at hf
  constructor
  · rintro ⟨c, h1, h2⟩
    rw [hf] at h1; obtain rfl := Option.some.inj h1; exact h2
  · exact fun h => ⟨f, hf, h⟩
theorem sch_no (hz : z < x.length) (h : ¬ schI x z) : false = tt (schemeOK x) := tt_no fun h' => h (h'.2 z hz)
theorem sch_len (h : 12 < x.length) : false = tt (schemeOK x) := tt_no fun h' => absurd h'.1 (by omega)
theorem sch_yes (h : x.length ≤ 12) (hI : ∀ i, i < z → schI x i) (hz : x.length ≤ z) : true = tt (schemeOK x) := tt_yes ⟨h, all_end hI hz⟩
end
/-! ### Tables -/
noncomputable def tabE (s : List DField) (x : List DCard) : Int := if (!(tt (schemeOK s)) || !(tt (allL cardOK x))) = true then 1 else if 60 < x.length then 2 else 0
def inI (n : Nat) (c : Int) : Prop := 0 ≤ c ∧ c < n
noncomputable def tabF (s : List DField) (x : List DCard) (l : List Int) : Int := if tabE s x = 0 then err2 (allL (inI s.length) l) else tabE s x
section
variable {s : List DField} {x : List DCard} {l : List Int}
theorem tabE_one (h : (!(tt (schemeOK s)) || !(tt (allL cardOK x))) = true) : 1 = tabE s x := by rw [tabE, if_pos h]
theorem tabE_two (h : (!(tt (schemeOK s)) || !(tt (allL cardOK x))) = false) (h2 : 60 < x.length) : 2 = tabE s x := by rw [tabE, if_neg (by rw [h]; decide), if_pos h2]
theorem tabE_zero (h : (!(tt (schemeOK s)) || !(tt (allL cardOK x))) = false) (h2 : x.length ≤ 60) : 0 = tabE s x := by rw [tabE, if_neg (by rw [h]; decide), if_neg (by omega)]
theorem tabE_ok (h : tabE s x = 0) : schemeOK s ∧ allL cardOK x ∧ x.length ≤ 60 := by
  unfold tabE at h
  split at h
  · cases h
  · rename_i h1
    rw [Bool.not_eq_true, Bool.or_eq_false_iff, Bool.not_eq_false', Bool.not_eq_false', tt_iff, tt_iff] at h1
    split at h
    · cases h
    · exact ⟨h1.1, h1.2, by omega⟩
theorem tabF_of (h : 0 = tabE s x) : tabF s x l = err2 (allL (inI s.length) l) := by rw [tabF, if_pos h.symm]
theorem tabF_not {e : Int} (h : e = tabE s x) (he : e ≠ 0) : e = tabF s x l := by rw [tabF, if_neg (by omega)]; exact h
theorem tabF_nil : tabF s x [] = tabE s x := by
  unfold tabF
  split
  · rename_i h; rw [h]; exact (err2_yes (fun i hi => absurd hi (Nat.not_lt_zero i))).symm
  · rfl
end
/-! ### Counting cards -/
section
variable {α : Type} {q : α → Bool} {x : List α} {z : Nat} {a : α}
def cntQ (q : α → Bool) (x : List α) : Int := x.foldl (fun n c => if q c = true then n + 1 else n) 0
theorem cntQ_next (ha : x[Int.toNat ((z : Nat) : Int)]? = some a) : (if q a = true then cntQ q (x.take z) + 1 else cntQ q (x.take z)) = cntQ q (x.take (z + 1)) := foldl_next (f := fun n c => if q c = true then n + 1 else n) ha
theorem cntQ_yes (ha : x[Int.toNat ((z : Nat) : Int)]? = some a) (h : q a = true) : cntQ q (x.take z) + 1 = cntQ q (x.take (z + 1)) := by rw [← cntQ_next ha, if_pos h]
theorem cntQ_no (ha : x[Int.toNat ((z : Nat) : Int)]? = some a) (h : q a = false) : cntQ q (x.take z) = cntQ q (x.take (z + 1)) := by rw [← cntQ_next ha, if_neg (by rw [h]; decide)]
theorem cntQ_fold : ∀ (x : List α) (n : Int), n ≤ x.foldl (fun n c => if q c = true then n + 1 else n) n ∧ x.foldl (fun n c => if q c = true then n + 1 else n) n ≤ n + x.length
  | [], n => by simp
  | a :: x, n => by
    have h := cntQ_fold x (if q a = true then n + 1 else n)
    rw [List.foldl_cons, List.length_cons]
    split at h <;> (split <;> first | omega | contradiction)
theorem cntQ_in (q : α → Bool) (x : List α) : 0 ≤ cntQ q x ∧ cntQ q x ≤ x.length := by
  have := cntQ_fold (q := q) x 0
  unfold cntQ
  omega
end
section
variable {x : List DCard} {a b : Int}
end
end Go.Proofs.YtcaeabgfgofefaaDoor.VL
