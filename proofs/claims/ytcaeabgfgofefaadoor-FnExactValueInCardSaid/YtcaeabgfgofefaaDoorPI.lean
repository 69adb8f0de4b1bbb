/- Proved here: holes of masks, answers and their first fault. Plain Lean, no program. -/
import Derived.Test.YtcaeabgfgofefaaDoorPH
set_option linter.unusedVariables false
set_option linter.unusedSimpArgs false
namespace Go.Proofs.YtcaeabgfgofefaaDoor.VL
open Go
/-! ### Masks -/
theorem rem64 {i : Int} (h : 0 ≤ i) : (BitVec.ofInt 64 (i.tmod 64)).toNat = Int.toNat (i.tmod 64) := by
  rw [Int.tmod_eq_emod_of_nonneg h, BitVec.toNat_ofInt]
  have h1 : 0 ≤ i % 64 := Int.emod_nonneg _ (by decide)
  have h2 : i % 64 < 64 := Int.emod_lt_of_pos _ (by decide)
  generalize i % 64 = r at *
  have e : r % (2 ^ 64 : Nat) = r := Int.emod_eq_of_lt h1 (by show r < 18446744073709551616; omega)
  rw [e]
theorem div64 {i : Int} (h : 0 ≤ i ∧ i < 128) : 0 ≤ i.tdiv 64 ∧ i.tdiv 64 < 2 := by
  rw [Int.tdiv_eq_ediv_of_nonneg h.1]; omega
theorem mod64 {i : Int} (h : 0 ≤ i) : 0 ≤ i.tmod 64 := Int.tmod_nonneg _ h
def meetM (x y : DMask) : DMask := (x.1 &&& y.1, x.2 &&& y.2)
abbrev DQuery := DMask × DMask
/-! ### The first fault of an answer -/
section
variable {α : Type} {f : α → Int} {n : Int} {l : List α} {z : Nat} {a b : α}
end
abbrev DAns' := DQuery × List Int × List (Int × Int)
section
variable {x : List DCard} {v : DAns'} {z : Nat}
end
section
variable {x : List DCard} {v : DAns'} {z : Nat}
end
section
variable {x : List DCard} {v : DAns'}
end
end Go.Proofs.YtcaeabgfgofefaaDoor.VL
