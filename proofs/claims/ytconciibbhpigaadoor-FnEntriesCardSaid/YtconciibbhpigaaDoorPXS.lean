/- Proved here: what it is to split a text at each of one byte. Plain Lean. -/
import Derived.Test.YtconciibbhpigaaDoorBpa
import Derived.Lib.Bytealg
set_option linter.unusedVariables false
set_option linter.unusedSimpArgs false
namespace Go.Proofs.YtconciibbhpigaaDoor.VL
open Go
def bL (x : ByteArray) : List UInt8 := x.data.toList
theorem bL_len (x : ByteArray) : (bL x).length = x.size := by show x.data.toList.length = x.data.size; simp
theorem bL_ext {x y : ByteArray} (h : bL x = bL y) : x = y := by
  have h1 : x.data = y.data := Array.toList_inj.1 h
  exact ByteArray.ext h1
theorem bL_app (x y : ByteArray) : bL (x ++ y) = bL x ++ bL y := by simp [bL]
theorem bL_cut (x : ByteArray) (a b : Nat) : bL (x.extract a b) = ((bL x).drop a).take (b - a) := by
  simp [bL, ByteArray.data_extract, Array.toList_extract, List.extract_eq_take_drop]
def cnB (c : UInt8) (x : ByteArray) : Nat := Lib.countByte x.data.toList c
def ixB (c : UInt8) (x : ByteArray) : Int := Lib.indexByte x.data.toList c
theorem ix_none {l : List UInt8} {c : UInt8} (h : c ∉ l) : Lib.indexByte l c = -1 := by
  induction l with
  | nil => rfl
  | cons b l ih =>
    have h1 : b ≠ c := fun e => h (by simp [e])
    have h2 : c ∉ l := fun e => h (by simp [e])
    unfold Lib.indexByte
    rw [if_neg (by simpa using h1), ih h2]; rfl
theorem ix_at {a r : List UInt8} {c : UInt8} (h : c ∉ a) : Lib.indexByte (a ++ c :: r) c = a.length := by
  induction a with
  | nil => simp [Lib.indexByte]
  | cons b l ih =>
    have h1 : b ≠ c := fun e => h (by simp [e])
    have h2 : c ∉ l := fun e => h (by simp [e])
    rw [List.cons_append]
    unfold Lib.indexByte
    rw [if_neg (by simpa using h1), ih h2]
    rw [if_neg (by simp <;> omega)]
    simp
theorem split_at {l : List UInt8} {c : UInt8} (h : c ∈ l) : ∃ a r, l = a ++ c :: r ∧ c ∉ a := by
  induction l with
  | nil => cases h
  | cons b l ih =>
    by_cases h1 : b = c
    · exact ⟨[], l, by simp [h1], by simp⟩
    · obtain ⟨a, r, h2, h3⟩ := ih (by cases h with | head => exact absurd rfl h1 | tail _ h => exact h)
      refine ⟨b :: a, r, by simp [h2], ?_⟩
      intro h4
      cases h4 with
      | head => exact h1 rfl
      | tail _ h => exact h3 h
/-- What is left behind `z` of the bytes. -/
def rstB (c : UInt8) (x : ByteArray) : Nat → ByteArray
  | 0 => x
  | z + 1 => (rstB c x z).extract (ixB c (rstB c x z) + 1).toNat (rstB c x z).size
/-- The pieces, of which `k + 1` are taken. -/
def splF (c : UInt8) : Nat → ByteArray → List ByteArray
  | 0, x => [x]
  | k + 1, x => x.extract 0 (ixB c x).toNat :: splF c k (x.extract (ixB c x + 1).toNat x.size)
def splB (c : UInt8) (x : ByteArray) : List ByteArray := splF c (cnB c x) x
theorem splF_len (c : UInt8) : ∀ (k : Nat) (x : ByteArray), (splF c k x).length = k + 1
  | 0, x => rfl
  | k + 1, x => by rw [splF, List.length_cons, splF_len c k]
theorem splB_len (c : UInt8) (x : ByteArray) : (splB c x).length = cnB c x + 1 := splF_len c _ x
theorem cnB_le (c : UInt8) (x : ByteArray) : cnB c x ≤ x.size := by rw [cnB, Lib.countByte, ← bL_len]; exact List.count_le_length
/-- Where there is one more of the bytes. -/
theorem ix_ok {c : UInt8} {x : ByteArray} (h : 1 ≤ cnB c x) : 0 ≤ ixB c x ∧ ixB c x + 1 ≤ x.size ∧ cnB c (x.extract (ixB c x + 1).toNat x.size) + 1 = cnB c x ∧ bL x = bL (x.extract 0 (ixB c x).toNat) ++ c :: bL (x.extract (ixB c x + 1).toNat x.size) ∧ c ∉ bL (x.extract 0 (ixB c x).toNat) := by
  have h1 : c ∈ x.data.toList := List.count_pos_iff.1 h
  obtain ⟨a, r, h2, h3⟩ := split_at h1
  have h4 : ixB c x = a.length := by rw [ixB, h2]; exact ix_at h3
  have h5 : x.size = a.length + r.length + 1 := by rw [← bL_len, bL, h2]; simp; omega
  have h6 : bL (x.extract 0 (ixB c x).toNat) = a := by rw [bL_cut, h4, bL, h2]; simp
  have h7 : bL (x.extract (ixB c x + 1).toNat x.size) = r := by
    rw [bL_cut, h4, bL, h2, h5]
    have e : ((a.length : Int) + 1).toNat = (a ++ [c]).length := by simp
    rw [e, show a ++ c :: r = (a ++ [c]) ++ r by simp, List.drop_left]
    apply List.take_of_length_le
    simp <;> omega
  refine ⟨by omega, by omega, ?_, by rw [h6, h7]; exact h2, by rw [h6]; exact h3⟩
  show Lib.countByte (bL _) c + 1 = Lib.countByte x.data.toList c
  rw [h7, h2]
  simp [Lib.countByte, List.count_eq_zero.2 h3]
theorem ix_pos {c : UInt8} {x : ByteArray} (h : 0 ≤ ixB c x) : 1 ≤ cnB c x := by
  by_cases h1 : c ∈ x.data.toList
  · exact List.count_pos_iff.2 h1
  · have : ixB c x = -1 := ix_none h1
    omega
theorem rst_cn {c : UInt8} {x : ByteArray} : ∀ {z : Nat}, z ≤ cnB c x → cnB c (rstB c x z) = cnB c x - z
  | 0, _ => rfl
  | z + 1, h => by
    have h1 := rst_cn (c := c) (x := x) (z := z) (by omega)
    have h2 := ix_ok (c := c) (x := rstB c x z) (by omega)
    rw [rstB]; omega
theorem splF_shift (c : UInt8) (x : ByteArray) : ∀ z k, splF c (k + z) x = (splF c (k + z) x).take z ++ splF c k (rstB c x z)
  | 0, k => by simp [rstB]
  | z + 1, k => by
    have h1 := splF_shift c x z (k + 1)
    have e : k + (z + 1) = k + 1 + z := by omega
    rw [e]
    have h2 : splF c (k + 1) (rstB c x z) = (rstB c x z).extract 0 (ixB c (rstB c x z)).toNat :: splF c k (rstB c x (z + 1)) := rfl
    rw [h2] at h1
    have h3 : ((splF c (k + 1 + z) x).take z).length = z := by rw [List.length_take, splF_len]; omega
    have h4 : (splF c (k + 1 + z) x).take (z + 1) = (splF c (k + 1 + z) x).take z ++ [(rstB c x z).extract 0 (ixB c (rstB c x z)).toNat] := by
      conv => lhs; rw [h1]
      rw [List.take_append, h3, List.take_of_length_le (by rw [h3]; omega)]
      simp
    rw [h4, List.append_assoc]
    exact h1
/-- The row behind `z` rounds. -/
def splR (c : UInt8) (x : ByteArray) (z : Nat) : List ByteArray := (splB c x).take z ++ List.replicate (cnB c x + 1 - z) .empty
theorem splR_zero (c : UInt8) (x : ByteArray) : List.replicate (cnB c x + 1) ByteArray.empty = splR c x 0 := by simp [splR]
theorem splR_len {c : UInt8} {x : ByteArray} {z : Nat} (h : z ≤ cnB c x + 1) : (splR c x z).length = cnB c x + 1 := by
  rw [splR, List.length_append, List.length_take, splB_len, List.length_replicate]; omega
theorem set_row {l m : List ByteArray} {z n : Nat} {v : ByteArray} (h : l[z]? = some v) (hz : z < n) (hl : l.length = n) : (l.take z ++ List.replicate (n - z) ByteArray.empty).set z v = l.take (z + 1) ++ List.replicate (n - (z + 1)) ByteArray.empty := by
  have h1 : (l.take z).length = z := by rw [List.length_take]; omega
  rw [show n - z = (n - (z + 1)) + 1 by omega, List.replicate_succ]
  rw [List.set_append_right _ _ (by omega), h1, Nat.sub_self, List.set_cons_zero]
  rw [List.take_add_one, h]
  simp
theorem splB_at {c : UInt8} {x : ByteArray} {z : Nat} (h : z < cnB c x) : (splB c x)[z]? = some ((rstB c x z).extract 0 (ixB c (rstB c x z)).toNat) := by
  have h1 := splF_shift c x z (cnB c x - z - 1 + 1)
  rw [show cnB c x - z - 1 + 1 + z = cnB c x by omega] at h1
  rw [splB, h1, List.getElem?_append_right (by rw [List.length_take, splF_len]; omega), List.length_take, splF_len, show z - min z (cnB c x + 1) = 0 by omega]
  rfl
theorem splB_last {c : UInt8} {x : ByteArray} : (splB c x)[cnB c x]? = some (rstB c x (cnB c x)) := by
  have h1 := splF_shift c x (cnB c x) 0
  rw [Nat.zero_add] at h1
  rw [splB, h1, List.getElem?_append_right (by rw [List.length_take, splF_len]; omega), List.length_take, splF_len, show cnB c x - min (cnB c x) (cnB c x + 1) = 0 by omega]
  rfl
theorem splR_set {c : UInt8} {x : ByteArray} {z : Nat} (h : z < cnB c x) : (splR c x z).set z ((rstB c x z).extract 0 (ixB c (rstB c x z)).toNat) = splR c x (z + 1) := set_row (m := []) (splB_at h) (by omega) (splB_len c x)
theorem splR_get {c : UInt8} {x : ByteArray} {z : Nat} (h : z ≤ cnB c x) : (splR c x z)[Int.toNat (z : Int)]? = some ByteArray.empty := by
  rw [Int.toNat_natCast, splR, List.getElem?_append_right (by rw [List.length_take]; omega), List.length_take, splB_len, List.getElem?_replicate, if_pos (by omega)]
theorem splR_end {c : UInt8} {x : ByteArray} : (splR c x (cnB c x)).set (cnB c x) (rstB c x (cnB c x)) = splB c x := by
  rw [splR, set_row (m := []) splB_last (by omega) (splB_len c x)]
  rw [List.take_of_length_le (by rw [splB_len]; omega)]
  simp
theorem splR_fin {c : UInt8} {x : ByteArray} {z : Nat} (h : z = cnB c x) : ((splR c x z).set (Int.toNat (z : Int)) (rstB c x z)).take (Int.toNat ((z : Int) + 1)) = splB c x := by
  subst h
  rw [Int.toNat_natCast, splR_end, List.take_of_length_le]
  rw [splB_len]; omega
theorem rst_le (c : UInt8) (x : ByteArray) : ∀ z, (rstB c x z).size ≤ x.size
  | 0 => Nat.le_refl _
  | z + 1 => by
    have := rst_le c x z
    rw [rstB, ByteArray.size_extract]; omega
/-- The bytes of the pieces. -/
theorem splF_one {c : UInt8} {x : ByteArray} (h : c ∉ bL x) : splB c x = [x] := by
  have : cnB c x = 0 := List.count_eq_zero.2 h
  rw [splB, this]; rfl
theorem spl_cons {c : UInt8} {x y : ByteArray} (h : c ∉ bL x) : splB c (x ++ (⟨#[c]⟩ ++ y)) = x :: splB c y := by
  have e : bL (x ++ (⟨#[c]⟩ ++ y)) = bL x ++ c :: bL y := by rw [bL_app, bL_app]; rfl
  have h1 : cnB c (x ++ (⟨#[c]⟩ ++ y)) = cnB c y + 1 := by
    show List.count c (bL _) = _
    rw [e, List.count_append, List.count_eq_zero.2 h, List.count_cons_self, Nat.zero_add]; rfl
  have h2 : ixB c (x ++ (⟨#[c]⟩ ++ y)) = x.size := by
    show Lib.indexByte (bL _) c = _
    rw [e, ix_at h, bL_len]
  rw [splB, h1, splF, h2]
  have h3 : (x ++ (⟨#[c]⟩ ++ y)).extract 0 (x.size : Int).toNat = x := bL_ext (by rw [bL_cut, e, ← bL_len]; simp)
  have h4 : (x ++ (⟨#[c]⟩ ++ y)).extract ((x.size : Int) + 1).toNat (x ++ (⟨#[c]⟩ ++ y)).size = y := bL_ext (by
    rw [bL_cut, ← bL_len (x ++ _), e, show ((x.size : Int) + 1).toNat = (bL x ++ [c]).length by rw [List.length_append, bL_len]; simp, show bL x ++ c :: bL y = (bL x ++ [c]) ++ bL y by simp, List.drop_left]
    apply List.take_of_length_le
    simp; omega)
  rw [h3, h4]; rfl
theorem splF_size {c : UInt8} : ∀ (k : Nat) (x : ByteArray), ∀ p ∈ splF c k x, p.size ≤ x.size
  | 0, x, p, hp => by simp only [splF, List.mem_singleton] at hp; rw [hp]; exact Nat.le_refl _
  | k + 1, x, p, hp => by
    rw [splF, List.mem_cons] at hp
    rcases hp with rfl | hp
    · rw [ByteArray.size_extract]; omega
    · have := splF_size k _ p hp
      rw [ByteArray.size_extract] at this; omega
theorem splB_size {c : UInt8} {x p : ByteArray} (h : p ∈ splB c x) : p.size ≤ x.size := splF_size _ _ _ h
/-- A text that ends with a newline. -/
noncomputable def endB (c : UInt8) (x : ByteArray) : Bool := decide (1 ≤ x.size) && eqv (x.extract (x.size - 1) x.size) ⟨#[c]⟩
noncomputable def cutB (c : UInt8) (x : ByteArray) : ByteArray := if endB c x then x.extract 0 (x.size - 1) else x
noncomputable def linS (x : ByteArray) : List ByteArray × Bool := if x = .empty then ([], true) else (splB 10 (cutB 10 x), endB 10 x)
theorem end_go (c : UInt8) (x : ByteArray) : (decide ((x.size : Int) ≥ ((⟨#[c]⟩ : ByteArray).size : Int)) && eqv (x.extract ((x.size : Int) - ((⟨#[c]⟩ : ByteArray).size : Int)).toNat x.size) ⟨#[c]⟩) = endB c x := by
  have h1 : (⟨#[c]⟩ : ByteArray).size = 1 := rfl
  have h2 : decide ((x.size : Int) ≥ ((⟨#[c]⟩ : ByteArray).size : Int)) = decide (1 ≤ x.size) := by
    rw [h1]; apply Bool.eq_iff_iff.2; simp only [decide_eq_true_eq]; omega
  have h3 : ((x.size : Int) - ((⟨#[c]⟩ : ByteArray).size : Int)).toNat = x.size - 1 := by rw [h1]; omega
  rw [h2, h3]; rfl
theorem cut_go {c : UInt8} {x : ByteArray} (h4 : endB c x = true) : x.extract 0 ((x.size : Int) - ((⟨#[c]⟩ : ByteArray).size : Int)).toNat = cutB c x ∧ true = endB c x ∧ 1 ≤ x.size := by
  have h3 : ((x.size : Int) - ((⟨#[c]⟩ : ByteArray).size : Int)).toNat = x.size - 1 := by
    have h1 : (⟨#[c]⟩ : ByteArray).size = 1 := rfl
    rw [h1]; omega
  refine ⟨by rw [h3, cutB, if_pos h4], h4.symm, ?_⟩
  rw [endB, Bool.and_eq_true] at h4
  exact of_decide_eq_true h4.1
theorem cut_no {c : UInt8} {x : ByteArray} (h4 : endB c x = false) : x = cutB c x ∧ false = endB c x := by
  exact ⟨by rw [cutB, h4]; rfl, h4.symm⟩
theorem cut_le (c : UInt8) (x : ByteArray) : (cutB c x).size ≤ x.size := by
  rw [cutB]
  split
  · rw [ByteArray.size_extract]; omega
  · exact Nat.le_refl _
theorem lin_nil {x : ByteArray} (h : x = .empty) : linS x = ([], true) := by rw [linS, if_pos h]
theorem lin_yes {x : ByteArray} (h : ¬ x = .empty) : linS x = (splB 10 (cutB 10 x), endB 10 x) := by rw [linS, if_neg h]
theorem end_app (c : UInt8) (x : ByteArray) : endB c (x ++ ⟨#[c]⟩) = true ∧ cutB c (x ++ ⟨#[c]⟩) = x := by
  have h0 : (x ++ ⟨#[c]⟩).size = x.size + 1 := by rw [ByteArray.size_append]; rfl
  have e : bL (x ++ ⟨#[c]⟩) = bL x ++ [c] := by rw [bL_app]; rfl
  have h1 : endB c (x ++ ⟨#[c]⟩) = true := by
    rw [endB, h0]
    have h2 : (x ++ ⟨#[c]⟩).extract (x.size + 1 - 1) (x.size + 1) = ⟨#[c]⟩ := bL_ext (by rw [bL_cut, e, Nat.add_sub_cancel, ← bL_len, List.drop_left]; simp; rfl)
    rw [h2, eqv_self, Bool.and_true]; exact decide_eq_true (by omega)
  refine ⟨h1, ?_⟩
  rw [cutB, if_pos h1, h0]
  exact bL_ext (by rw [bL_cut, e, ← bL_len]; simp)
end Go.Proofs.YtconciibbhpigaaDoor.VL
