/- Proved here: splitting a text, one byte behind another. Plain Lean. -/
import Derived.Test.YtconciibbhpigaaDoorPXS
set_option linter.unusedVariables false
set_option linter.unusedSimpArgs false
namespace Go.Proofs.YtconciibbhpigaaDoor.VL
open Go
theorem bL_get {s : ByteArray} {i : Nat} {b : UInt8} (h : (bL s)[i]? = some b) : s[i]? = some b := by
  have hi : i < (bL s).length := (List.getElem?_eq_some_iff.1 h).1
  rw [bL_len] at hi
  rw [getElem?_pos s i hi]
  rw [List.getElem?_eq_getElem (by rw [bL_len]; exact hi)] at h
  injection h with h
  rw [← h]
  show some s.data[i] = some (bL s)[i]
  simp [bL]
theorem u8_ext {a b : UInt8} (h : a.toNat = b.toNat) : a = b := UInt8.toNat_inj.1 h
def bytA (s : ByteArray) (z : Nat) : UInt8 := (bL s).getD z 0
theorem bt_get {s : ByteArray} {z : Nat} (h : z < s.size) : s[z]? = some (bytA s z) := by
  refine bL_get ?_
  rw [bytA, List.getD_eq_getElem?_getD, List.getElem?_eq_getElem (by rw [bL_len]; exact h)]; rfl
/-! ### Splitting, one byte behind another -/
def sprI (c : UInt8) (x : ByteArray) (p : Nat × Nat × List ByteArray) : Prop := p.1 ≤ x.size ∧ p.2.1 ≤ p.1 ∧ splB c x = p.2.2 ++ splB c (x.extract p.2.1 x.size) ∧ c ∉ bL (x.extract p.2.1 p.1)
theorem spr_zero (c : UInt8) (x : ByteArray) : sprI c x (0, 0, []) := by
  refine ⟨Nat.zero_le _, Nat.le_refl _, ?_, ?_⟩
  · have e : x.extract 0 x.size = x := bL_ext (by rw [bL_cut, ← bL_len]; simp)
    show splB c x = [] ++ splB c (x.extract 0 x.size)
    rw [e]; rfl
  · show c ∉ bL (x.extract 0 0)
    rw [bL_cut]; simp
theorem ext_more {x : ByteArray} {b i : Nat} {v : UInt8} (hb : b ≤ i) (hv : (bL x)[i]? = some v) : bL (x.extract b (i + 1)) = bL (x.extract b i) ++ [v] := by
  rw [bL_cut, bL_cut, show i + 1 - b = (i - b) + 1 by omega, List.take_add_one, List.getElem?_drop, show b + (i - b) = i by omega, hv]
  rfl
theorem ext_split {x : ByteArray} {b i : Nat} {v : UInt8} (hb : b ≤ i) (hv : (bL x)[i]? = some v) : x.extract b x.size = x.extract b i ++ (⟨#[v]⟩ ++ x.extract (i + 1) x.size) := by
  have hi : i < (bL x).length := (List.getElem?_eq_some_iff.1 hv).1
  have hl := bL_len x
  refine bL_ext ?_
  rw [bL_app, bL_app, bL_cut, bL_cut, bL_cut]
  rw [List.take_of_length_le (l := (bL x).drop b) (by rw [List.length_drop]; omega), List.take_of_length_le (l := (bL x).drop (i + 1)) (by rw [List.length_drop]; omega)]
  have h1 : (bL x).drop b = ((bL x).drop b).take (i - b) ++ ((bL x).drop b).drop (i - b) := (List.take_append_drop _ _).symm
  rw [List.drop_drop, show b + (i - b) = i by omega] at h1
  conv => lhs; rw [h1]
  congr 1
  rw [List.drop_eq_getElem_cons hi]
  rw [List.getElem?_eq_getElem hi] at hv
  injection hv with hv
  rw [hv]; rfl
theorem spr_hit {c : UInt8} {x : ByteArray} {p : Nat × Nat × List ByteArray} (h : sprI c x p) (hv : (bL x)[Int.toNat ((p.1 : Nat) : Int)]? = some c) : sprI c x (p.1 + 1, p.1 + 1, p.2.2 ++ [x.extract p.2.1 p.1]) := by
  obtain ⟨h1, h2, h3, h4⟩ := h
  rw [Int.toNat_natCast] at hv
  have hi : p.1 < (bL x).length := (List.getElem?_eq_some_iff.1 hv).1
  rw [bL_len] at hi
  refine ⟨hi, Nat.le_refl _, ?_, ?_⟩
  · show splB c x = (p.2.2 ++ [x.extract p.2.1 p.1]) ++ splB c (x.extract (p.1 + 1) x.size)
    rw [h3, ext_split h2 hv, spl_cons h4]; simp
  · show c ∉ bL (x.extract (p.1 + 1) (p.1 + 1))
    rw [bL_cut]; simp
theorem spr_miss {c v : UInt8} {x : ByteArray} {p : Nat × Nat × List ByteArray} (h : sprI c x p) (hv : (bL x)[Int.toNat ((p.1 : Nat) : Int)]? = some v) (hn : v ≠ c) : sprI c x (p.1 + 1, p.2.1, p.2.2) := by
  obtain ⟨h1, h2, h3, h4⟩ := h
  rw [Int.toNat_natCast] at hv
  have hi : p.1 < (bL x).length := (List.getElem?_eq_some_iff.1 hv).1
  rw [bL_len] at hi
  refine ⟨hi, by show p.2.1 ≤ p.1 + 1; omega, h3, ?_⟩
  show c ∉ bL (x.extract p.2.1 (p.1 + 1))
  rw [ext_more h2 hv, List.mem_append, List.mem_singleton]
  rintro (h5 | h5)
  · exact h4 h5
  · exact hn h5.symm
theorem spr_end {c : UInt8} {x : ByteArray} {p : Nat × Nat × List ByteArray} (h : sprI c x p) (hz : x.size ≤ p.1) : p.2.2 ++ [x.extract p.2.1 x.size] = splB c x := by
  obtain ⟨h1, h2, h3, h4⟩ := h
  have e : p.1 = x.size := by omega
  rw [e] at h4
  rw [h3, splF_one h4]
theorem spr_len {c : UInt8} {x : ByteArray} {p : Nat × Nat × List ByteArray} (h : sprI c x p) : p.2.2.length ≤ x.size := by
  have h1 := congrArg List.length h.2.2.1
  rw [List.length_append, splB_len, splB_len] at h1
  have := cnB_le c x
  omega
end Go.Proofs.YtconciibbhpigaaDoor.VL
