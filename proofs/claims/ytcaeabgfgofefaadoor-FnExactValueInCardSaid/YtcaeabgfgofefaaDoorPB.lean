/- Proved here: what the functions of the first texts compute, in plain Lean: no program. -/
import Derived.Test.YtcaeabgfgofefaaDoorPA
set_option linter.unusedVariables false
set_option linter.unusedSimpArgs false
namespace Go.Proofs.YtcaeabgfgofefaaDoor.VL
open Go
abbrev kMask : Kd (BitVec 64 × BitVec 64) := Kd.pair Kd.u64 Kd.u64
abbrev kCard : Kd (ByteArray × BitVec 64 × BitVec 64) := Kd.pair Kd.str kMask
abbrev kField : Kd (ByteArray × Int × Int × Int) := Kd.pair Kd.str (Kd.pair (Kd.int .i8) (Kd.pair (Kd.int .i16) (Kd.int .i16)))
def toM (x : BitVec 64 × BitVec 64) (z : Nat) : BitVec 64 × BitVec 64 := (if 0 < z then x.1 else 0#64, if 1 < z then x.2 else 0#64)
theorem toM_step (x : BitVec 64 × BitVec 64) {z : Nat} (h : z < 2) : (if Int.toNat (z : Int) = 0 then (if Int.toNat (z : Int) = 0 then x.1 else x.2, (toM x z).2) else ((toM x z).1, if Int.toNat (z : Int) = 0 then x.1 else x.2)) = toM x (z + 1) := by
  rcases (by omega : z = 0 ∨ z = 1) with rfl | rfl <;> rfl
def okM (x : BitVec 64 × BitVec 64) : Bool := x.2 >>> 32 == 0#64
def cntM (x : BitVec 64 × BitVec 64) : Int := pop x.1 + pop x.2
def pcs (x : BitVec 64 × BitVec 64) (z : Nat) : Int := match z with | 0 => 0 | 1 => pop x.1 | _ => pop x.1 + pop x.2
theorem pcs_in (x : BitVec 64 × BitVec 64) (z : Nat) : 0 ≤ pcs x z ∧ pcs x z ≤ 128 := by have := pop_in x.1; have := pop_in x.2; unfold pcs; split <;> omega
theorem pcs_step (x : BitVec 64 × BitVec 64) {z : Nat} (h : z < 2) : pcs x z + pop (if Int.toNat (z : Int) = 0 then x.1 else x.2) = pcs x (z + 1) ∧ 0 ≤ pcs x z ∧ pcs x z ≤ 128 := by
  refine ⟨?_, pcs_in x z⟩
  rcases (by omega : z = 0 ∨ z = 1) with rfl | rfl
  · show 0 + pop x.1 = pop x.1; omega
  · rfl
theorem rem2_in (x : BitVec 64) : (x % 2#64).toNat ≤ 1 := by rw [BitVec.toNat_umod]; show _ % 2 ≤ 1; omega
theorem half_lt {x : BitVec 64} (h : 0 < x.toNat) : (x / 2#64).toNat < x.toNat := by rw [BitVec.toNat_udiv]; show _ / 2 < _; omega
def inb (x lo hi : Int) : Bool := decide (x ≥ lo) && decide (x ≤ hi)
/-! ### Shares -/
end Go.Proofs.YtcaeabgfgofefaaDoor.VL
