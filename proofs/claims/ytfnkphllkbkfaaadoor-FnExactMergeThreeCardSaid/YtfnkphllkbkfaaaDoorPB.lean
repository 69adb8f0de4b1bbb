/- Proved here: what the functions of the first texts compute, in plain Lean: no program. -/
import Derived.Test.YtfnkphllkbkfaaaDoorPA
set_option linter.unusedVariables false
set_option linter.unusedSimpArgs false
namespace Go.Proofs.YtfnkphllkbkfaaaDoor.VL
open Go
abbrev kMask : Kd (BitVec 64 × BitVec 64) := Kd.pair Kd.u64 Kd.u64
abbrev kCard : Kd (ByteArray × BitVec 64 × BitVec 64) := Kd.pair Kd.str kMask
abbrev kState : Kd (Bool × (BitVec 64 × BitVec 64)) := Kd.pair Kd.bool kMask
def toM (x : BitVec 64 × BitVec 64) (z : Nat) : BitVec 64 × BitVec 64 := (if 0 < z then x.1 else 0#64, if 1 < z then x.2 else 0#64)
theorem toM_step (x : BitVec 64 × BitVec 64) {z : Nat} (h : z < 2) : (if Int.toNat (z : Int) = 0 then (if Int.toNat (z : Int) = 0 then x.1 else x.2, (toM x z).2) else ((toM x z).1, if Int.toNat (z : Int) = 0 then x.1 else x.2)) = toM x (z + 1) := by
  rcases (by omega : z = 0 ∨ z = 1) with rfl | rfl <;> rfl
def okM (x : BitVec 64 × BitVec 64) : Bool := x.2 >>> 32 == 0#64
def inb (x lo hi : Int) : Bool := decide (x ≥ lo) && decide (x ≤ hi)
/-! ### Shares -/
end Go.Proofs.YtfnkphllkbkfaaaDoor.VL
