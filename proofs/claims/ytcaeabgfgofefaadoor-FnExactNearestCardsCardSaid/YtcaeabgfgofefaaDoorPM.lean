/- Proved here: lists of holes, marks that are written into rows, and the text of a mark. Plain Lean, no program. -/
import Derived.Test.YtcaeabgfgofefaaDoorPL
import Derived.Test.YtcaeabgfgofefaaDoorVU
set_option linter.unusedVariables false
set_option linter.unusedSimpArgs false
namespace Go.Proofs.YtcaeabgfgofefaaDoor.VL
open Go
/-! ### Holes -/
/-! ### Marks -/
def mrk (n : Nat) (k : Int) : List Int := (List.range n).map fun i => k + ((i : Nat) : Int)
theorem mrk_len (n : Nat) (k : Int) : (mrk n k).length = n := by simp [mrk]
theorem mrk_get {n z : Nat} {k : Int} (h : z < n) : (mrk n k)[Int.toNat (z : Int)]? = some (k + (z : Int)) := by
  rw [toN, mrk, List.getElem?_map, List.getElem?_range h]; rfl
def markI (x : List Int) (z : Nat) (k : Int) : List Int := mrk z k ++ x.drop z
theorem markI_len {x : List Int} {z : Nat} {k : Int} (h : z ≤ x.length) : (markI x z k).length = x.length := by
  rw [markI, List.length_append, mrk_len, List.length_drop]; omega
theorem markI_step {x : List Int} {z : Nat} {k : Int} (h : z < x.length) : (markI x z k).set (Int.toNat (z : Int)) (k + (z : Int)) = markI x (z + 1) k := by
  have hd : x.drop z = x[z] :: x.drop (z + 1) := List.drop_eq_getElem_cons h
  rw [toN, markI, markI, List.set_append_right _ _ (by rw [mrk_len]; exact Nat.le_refl z), mrk_len, Nat.sub_self, hd, List.set_cons_zero]
  rw [mrk, mrk, List.range_succ, List.map_append, List.append_assoc]; rfl
theorem markI_end {x : List Int} {z : Nat} {k : Int} (h : x.length ≤ z) (h' : z ≤ x.length) : markI x z k = mrk x.length k := by
  obtain rfl : z = x.length := by omega
  rw [markI, List.drop_length, List.append_nil]
/-! ### The text of a mark -/
theorem tmod10 (n : Nat) : 0 ≤ (n : Int).tmod 10 ∧ (n : Int).tmod 10 < 10 := by
  rw [Int.tmod_eq_emod_of_nonneg (by omega)]; omega
theorem tdiv10 (n : Nat) : (n : Int).tdiv 10 = ((n / 10 : Nat) : Int) := by
  rw [Int.tdiv_eq_ediv_of_nonneg (by omega)]; omega
def mtd (n : Nat) (s : ByteArray) : ByteArray := if h : n = 0 then s else mtd (n / 10) (bOf [48 + (n : Int).tmod 10] ++ s)
termination_by n
decreasing_by omega
theorem mtd_zero (s : ByteArray) : mtd 0 s = s := by rw [mtd, dif_pos rfl]
theorem mtd_more {n : Nat} (h : 0 < n) (s : ByteArray) : mtd n s = mtd (n / 10) (bOf [48 + (n : Int).tmod 10] ++ s) := by rw [mtd, dif_neg (by omega)]
def mtx (k : Int) : ByteArray := if k ≤ 0 then ⟨#[109, 48]⟩ else ⟨#[109]⟩ ++ mtd k.toNat .empty
theorem bOf_one (a : Int) (s : ByteArray) : (bOf [a] ++ s).size = s.size + 1 := by
  rw [ByteArray.size_append, bOf_size]; simp; omega
end Go.Proofs.YtcaeabgfgofefaaDoor.VL
