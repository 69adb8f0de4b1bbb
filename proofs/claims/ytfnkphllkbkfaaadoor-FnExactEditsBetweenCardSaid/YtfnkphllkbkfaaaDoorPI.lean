/- Proved here: holes of masks, answers and their first fault. Plain Lean, no program. -/
import Derived.Test.YtfnkphllkbkfaaaDoorPH
set_option linter.unusedVariables false
set_option linter.unusedSimpArgs false
namespace Go.Proofs.YtfnkphllkbkfaaaDoor.VL
open Go
/-! ### Masks -/
def limb (m : DMask) (i : Int) : BitVec 64 := if Int.toNat (i.tdiv 64) = 0 then m.1 else m.2
def hasM (m : DMask) (i : Int) : Bool := (limb m i >>> Int.toNat (i.tmod 64)) % 2#64 == 1#64
theorem and_one (x : BitVec 64) : x &&& 1#64 = x % 2#64 := by
  apply BitVec.eq_of_toNat_eq
  rw [BitVec.toNat_and, BitVec.toNat_umod]
  exact Nat.and_one_is_mod _
theorem rem64 {i : Int} (h : 0 ≤ i) : (BitVec.ofInt 64 (i.tmod 64)).toNat = Int.toNat (i.tmod 64) := by
  rw [Int.tmod_eq_emod_of_nonneg h, BitVec.toNat_ofInt]
  have h1 : 0 ≤ i % 64 := Int.emod_nonneg _ (by decide)
  have h2 : i % 64 < 64 := Int.emod_lt_of_pos _ (by decide)
  generalize i % 64 = r at *
  have e : r % (2 ^ 64 : Nat) = r := Int.emod_eq_of_lt h1 (by show r < 18446744073709551616; omega)
  rw [e]
theorem div64 {i : Int} (h : 0 ≤ i ∧ i < 128) : 0 ≤ i.tdiv 64 ∧ i.tdiv 64 < 2 := by
  rw [Int.tdiv_eq_ediv_of_nonneg h.1]; omega
theorem mod64 {i : Int} (h : 0 ≤ i) : 0 ≤ i.tmod 64 := Int.tmod_nonneg _ h
abbrev DQuery := DMask × DMask
/-! ### The first fault of an answer -/
section
variable {α : Type} {f : α → Int} {n : Int} {l : List α} {z : Nat} {a b : α}
end
abbrev DAns' := DQuery × List Int × List (Int × Int)
section
variable {x : List DCard} {v : DAns'} {z : Nat}
end
section
variable {x : List DCard} {v : DAns'} {z : Nat}
end
section
variable {x : List DCard} {v : DAns'}
end
end Go.Proofs.YtfnkphllkbkfaaaDoor.VL
