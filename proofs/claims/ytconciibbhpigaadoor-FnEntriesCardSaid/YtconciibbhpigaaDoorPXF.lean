/- Proved here: names in the order in which they are filed, guides and drawers. Plain Lean. -/
import Derived.Test.YtconciibbhpigaaDoorPXU
import Derived.Test.YtconciibbhpigaaDoorPXA
set_option linter.unusedVariables false
set_option linter.unusedSimpArgs false
namespace Go.Proofs.YtconciibbhpigaaDoor.VL
open Go
theorem inb_all {v lo hi : Int} : inb v lo hi = true ↔ lo ≤ v ∧ v ≤ hi := by simp [inb]
/-! ### The first that is not zero -/
/-! ### Comparing, as the other side does -/
theorem en_size {x : ByteArray} (h : x.size < 1 ∨ x.size > 24) : false = tt (enOK x) := by
  symm; rw [tt_false]; intro h1; have := h1.1; have := h1.2.1; omega
theorem en_bad {x w : ByteArray} {z : Nat} (hw : (splB 32 x)[Int.toNat ((z : Nat) : Int)]? = some w) (h : ¬ enW w) : false = tt (enOK x) := by
  symm; rw [tt_false]; intro h1; exact h (h1.2.2 w (mem_getI hw))
theorem en_yes {x : ByteArray} {z : Nat} (h1 : 1 ≤ x.size) (h2 : x.size ≤ 24) (h : ∀ w ∈ (splB 32 x).take z, enW w) (hz : (splB 32 x).length ≤ z) : true = tt (enOK x) := by
  rw [List.take_of_length_le hz] at h
  exact (tt_iff.2 ⟨h1, h2, h⟩).symm
theorem en_more {l : List ByteArray} {z : Nat} {w : ByteArray} (hw : l[Int.toNat ((z : Nat) : Int)]? = some w) (h : ∀ w ∈ l.take z, enW w) (h1 : enW w) : ∀ w ∈ l.take (z + 1), enW w := by
  rw [take_more hw]
  intro u hu
  rcases List.mem_append.1 hu with h2 | h2
  · exact h u h2
  · rw [List.mem_singleton.1 h2]; exact h1
def plB (k : Int) : Bool := (decide (k ≥ 97) && decide (k ≤ 122)) || (decide (k ≥ 48) && decide (k ≤ 57))
theorem plB_iff {s : ByteArray} {z : Nat} {b : UInt8} (hb : s[Int.toNat ((z : Nat) : Int)]? = some b) : plB (b.toNat : Int) = true ↔ inT alnT s z := by
  rw [inT_iff hb, alnT_iff, plB]
  simp only [Bool.or_eq_true, Bool.and_eq_true, decide_eq_true_eq]
  omega
theorem en_byte {x w : ByteArray} {z k : Nat} (hw : (splB 32 x)[Int.toNat ((z : Nat) : Int)]? = some w) (hk : k < w.size) (h : ¬ inT alnT w k) : false = tt (enOK x) := en_bad hw fun h1 => h (h1.2 k hk)
/-! ### Names by their indices -/
def inN (n : Nat) (i : Int) : Prop := 0 ≤ i ∧ i < n
def idN (n : Nat) : List Int := (List.range n).map fun j => ((j : Nat) : Int)
theorem idN_len (n : Nat) : (idN n).length = n := by simp [idN]
theorem idN_more (n : Nat) : idN (n + 1) = idN n ++ [(n : Int)] := by simp [idN, List.range_succ]
theorem idN_in {n : Nat} {i : Int} (h : i ∈ idN n) : inN n i := by
  obtain ⟨j, hj, rfl⟩ := List.mem_map.1 h
  have := List.mem_range.1 hj
  exact ⟨by omega, by omega⟩
theorem idN_get {n z : Nat} (h : z < n) : (idN n)[z]? = some ((z : Nat) : Int) := by simp [idN, h]
def okNs (names : List ByteArray) : Prop := ∀ x ∈ names, enOK x
/-! ### Codes -/
/-! ### Guides -/
/-! ### Drawers -/
end Go.Proofs.YtconciibbhpigaaDoor.VL
