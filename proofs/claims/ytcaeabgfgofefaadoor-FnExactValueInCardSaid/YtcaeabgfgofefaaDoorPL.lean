/- Proved here: masks bit by bit, and what holes have how many cards. Plain Lean, no program. -/
import Derived.Test.YtcaeabgfgofefaaDoorPK
set_option linter.unusedVariables false
set_option linter.unusedSimpArgs false
namespace Go.Proofs.YtcaeabgfgofefaaDoor.VL
open Go
/-! ### Bits -/
def bitB (m : DMask) (i : Nat) : Bool := if i < 64 then m.1.getLsbD i else m.2.getLsbD (i - 64)
theorem mask_ext {a b : DMask} (h : ∀ i, i < 128 → bitB a i = bitB b i) : a = b := by
  have h1 : a.1 = b.1 := by
    apply BitVec.eq_of_getLsbD_eq
    intro i hi
    have := h i (by omega)
    unfold bitB at this
    rw [if_pos hi, if_pos hi] at this; exact this
  have h2 : a.2 = b.2 := by
    apply BitVec.eq_of_getLsbD_eq
    intro i hi
    have := h (i + 64) (by omega)
    unfold bitB at this
    rw [if_neg (by omega), if_neg (by omega), Nat.add_sub_cancel] at this; exact this
  exact Prod.ext h1 h2
theorem bit_join (a b : DMask) (i : Nat) : bitB (joinM a b) i = (bitB a i || bitB b i) := by unfold bitB joinM; split <;> simp
theorem shl_bit {j i : Nat} (hj : j < 64) : (1#64 <<< j).getLsbD i = decide (i = j) := by
  rw [BitVec.getLsbD_shiftLeft, BitVec.getLsbD_one]
  rw [Bool.eq_iff_iff]
  simp
  omega
theorem bit_bit {j : Nat} (hj : j < 128) (i : Nat) (hi : i < 128) : bitB (bitM (j : Int)) i = decide (i = j) := by
  have h1 : Int.toNat ((j : Int).tdiv 64) = j / 64 := by rw [Int.tdiv_eq_ediv_of_nonneg (by omega)]; omega
  have h2 : Int.toNat ((j : Int).tmod 64) = j % 64 := by rw [Int.tmod_eq_emod_of_nonneg (by omega)]; omega
  rcases Nat.lt_or_ge j 64 with h | h
  · have hb : bitM (j : Int) = (1#64 <<< (j % 64), 0#64) := by unfold bitM; rw [h1, h2, if_pos (by omega)]
    rw [hb]; unfold bitB
    split
    · show (1#64 <<< (j % 64)).getLsbD i = _; rw [shl_bit (by omega)]; simp only [decide_eq_decide]; omega
    · show (0#64).getLsbD (i - 64) = _; rw [BitVec.getLsbD_zero]; exact (decide_eq_false (by omega)).symm
  · have hb : bitM (j : Int) = (0#64, 1#64 <<< (j % 64)) := by unfold bitM; rw [h1, h2, if_neg (by omega)]
    rw [hb]; unfold bitB
    split
    · show (0#64).getLsbD i = _; rw [BitVec.getLsbD_zero]; exact (decide_eq_false (by omega)).symm
    · show (1#64 <<< (j % 64)).getLsbD (i - 64) = _; rw [shl_bit (by omega)]; simp only [decide_eq_decide]; omega
/-! ### How many cards a hole has -/
end Go.Proofs.YtcaeabgfgofefaaDoor.VL
