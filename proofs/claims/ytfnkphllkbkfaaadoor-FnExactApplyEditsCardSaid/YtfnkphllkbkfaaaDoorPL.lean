/- Proved here: masks bit by bit, and what holes have how many cards. Plain Lean, no program. -/
import Derived.Test.YtfnkphllkbkfaaaDoorPK
set_option linter.unusedVariables false
set_option linter.unusedSimpArgs false
namespace Go.Proofs.YtfnkphllkbkfaaaDoor.VL
open Go
/-! ### Bits -/
def bitB (m : DMask) (i : Nat) : Bool := if i < 64 then m.1.getLsbD i else m.2.getLsbD (i - 64)
theorem shr_bit (x : BitVec 64) (k : Nat) : ((x >>> k) % 2#64 == 1#64) = x.getLsbD k := by
  rw [Bool.eq_iff_iff, beq_iff_eq, BitVec.getLsbD, Nat.testBit_eq_decide_div_mod_eq, decide_eq_true_eq]
  constructor
  · intro h
    have := congrArg BitVec.toNat h
    rw [BitVec.toNat_umod, BitVec.toNat_ushiftRight, Nat.shiftRight_eq_div_pow] at this
    exact this
  · intro h
    apply BitVec.eq_of_toNat_eq
    rw [BitVec.toNat_umod, BitVec.toNat_ushiftRight, Nat.shiftRight_eq_div_pow]
    exact h
theorem hasM_bit (m : DMask) {i : Nat} (hi : i < 128) : hasM m (i : Int) = bitB m i := by
  have h1 : Int.toNat ((i : Int).tdiv 64) = i / 64 := by rw [Int.tdiv_eq_ediv_of_nonneg (by omega)]; omega
  have h2 : Int.toNat ((i : Int).tmod 64) = i % 64 := by rw [Int.tmod_eq_emod_of_nonneg (by omega)]; omega
  unfold hasM limb bitB
  rw [h1, h2, shr_bit]
  rcases Nat.lt_or_ge i 64 with h | h
  · rw [if_pos (by omega), if_pos h, Nat.mod_eq_of_lt h]
  · rw [if_neg (by omega), if_neg (by omega), show i % 64 = i - 64 by omega]
theorem mask_ext {a b : DMask} (h : ∀ i, i < 128 → bitB a i = bitB b i) : a = b := by
  have h1 : a.1 = b.1 := by
    apply BitVec.eq_of_getLsbD_eq
    intro i hi
    have := h i (by omega)
    unfold bitB at this
    rw [if_pos hi, if_pos hi] at this; exact this
  have h2 : a.2 = b.2 := by
    apply BitVec.eq_of_getLsbD_eq
    intro i hi
    have := h (i + 64) (by omega)
    unfold bitB at this
    rw [if_neg (by omega), if_neg (by omega), Nat.add_sub_cancel] at this; exact this
  exact Prod.ext h1 h2
theorem bit_zM (i : Nat) : bitB zM i = false := by unfold bitB zM; split <;> simp
theorem bit_less (a b : DMask) {i : Nat} (hi : i < 128) : bitB (lessM a b) i = (bitB a i && !(bitB b i)) := by
  unfold bitB lessM
  split
  · rename_i h; show (a.1 &&& ~~~b.1).getLsbD i = _; rw [BitVec.getLsbD_and, BitVec.getLsbD_not, decide_eq_true h, Bool.true_and]
  · show (a.2 &&& ~~~b.2).getLsbD (i - 64) = _; rw [BitVec.getLsbD_and, BitVec.getLsbD_not, decide_eq_true (by omega), Bool.true_and]
theorem shl_bit {j i : Nat} (hj : j < 64) : (1#64 <<< j).getLsbD i = decide (i = j) := by
  rw [BitVec.getLsbD_shiftLeft, BitVec.getLsbD_one]
  rw [Bool.eq_iff_iff]
  simp
  omega
theorem bit_bit {j : Nat} (hj : j < 128) (i : Nat) (hi : i < 128) : bitB (bitM (j : Int)) i = decide (i = j) := by
  have h1 : Int.toNat ((j : Int).tdiv 64) = j / 64 := by rw [Int.tdiv_eq_ediv_of_nonneg (by omega)]; omega
  have h2 : Int.toNat ((j : Int).tmod 64) = j % 64 := by rw [Int.tmod_eq_emod_of_nonneg (by omega)]; omega
  rcases Nat.lt_or_ge j 64 with h | h
  · have hb : bitM (j : Int) = (1#64 <<< (j % 64), 0#64) := by unfold bitM; rw [h1, h2, if_pos (by omega)]
    rw [hb]; unfold bitB
    split
    · show (1#64 <<< (j % 64)).getLsbD i = _; rw [shl_bit (by omega)]; simp only [decide_eq_decide]; omega
    · show (0#64).getLsbD (i - 64) = _; rw [BitVec.getLsbD_zero]; exact (decide_eq_false (by omega)).symm
  · have hb : bitM (j : Int) = (0#64, 1#64 <<< (j % 64)) := by unfold bitM; rw [h1, h2, if_neg (by omega)]
    rw [hb]; unfold bitB
    split
    · show (0#64).getLsbD i = _; rw [BitVec.getLsbD_zero]; exact (decide_eq_false (by omega)).symm
    · show (1#64 <<< (j % 64)).getLsbD (i - 64) = _; rw [shl_bit (by omega)]; simp only [decide_eq_decide]; omega
/-! ### How many cards a hole has -/
end Go.Proofs.YtfnkphllkbkfaaaDoor.VL
