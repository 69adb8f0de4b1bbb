/- Proved here: masks bit by bit, and what holes have how many cards. Plain Lean, no program. -/
import Derived.Test.YtcaeabgfgofefaaDoorPK
set_option linter.unusedVariables false
set_option linter.unusedSimpArgs false
namespace Go.Proofs.YtcaeabgfgofefaaDoor.VL
open Go
/-! ### Bits -/
def bitB (m : DMask) (i : Nat) : Bool := if i < 64 then m.1.getLsbD i else m.2.getLsbD (i - 64)
theorem shr_bit (x : BitVec 64) (k : Nat) : ((x >>> k) % 2#64 == 1#64) = x.getLsbD k := by
  rw [Bool.eq_iff_iff, beq_iff_eq, BitVec.getLsbD, Nat.testBit_eq_decide_div_mod_eq, decide_eq_true_eq]
  constructor
  · intro h
    have := congrArg BitVec.toNat h
    rw [BitVec.toNat_umod, BitVec.toNat_ushiftRight, Nat.shiftRight_eq_div_pow] at this
    exact this
  · intro h
    apply BitVec.eq_of_toNat_eq
    rw [BitVec.toNat_umod, BitVec.toNat_ushiftRight, Nat.shiftRight_eq_div_pow]
    exact h
theorem hasM_bit (m : DMask) {i : Nat} (hi : i < 128) : hasM m (i : Int) = bitB m i := by
  have h1 : Int.toNat ((i : Int).tdiv 64) = i / 64 := by rw [Int.tdiv_eq_ediv_of_nonneg (by omega)]; omega
  have h2 : Int.toNat ((i : Int).tmod 64) = i % 64 := by rw [Int.tmod_eq_emod_of_nonneg (by omega)]; omega
  unfold hasM limb bitB
  rw [h1, h2, shr_bit]
  rcases Nat.lt_or_ge i 64 with h | h
  · rw [if_pos (by omega), if_pos h, Nat.mod_eq_of_lt h]
  · rw [if_neg (by omega), if_neg (by omega), show i % 64 = i - 64 by omega]
/-! ### How many cards a hole has -/
def hasH (h : Int) (c : DCard) : Bool := hasM c.2 h
def cntH (x : List DCard) (h : Int) : Int := cntQ (hasH h) x
def tally (x : List DCard) (z : Nat) : List Int := (List.range z).map fun (h : Nat) => cntH x (h : Int)
theorem tally_len (x : List DCard) (z : Nat) : (tally x z).length = z := by simp [tally]
theorem tally_next (x : List DCard) (z : Nat) : tally x z ++ [cntH x (z : Int)] = tally x (z + 1) := by
  rw [tally, tally, List.range_succ, List.map_append]; rfl
noncomputable def talS (x : List DCard) : List Int × Int := if tabE [] x = 0 then (tally x 96, 0) else ([], tabE [] x)
theorem talS_no {x : List DCard} (h : tabE [] x ≠ 0) : talS x = ([], tabE [] x) := by rw [talS, if_neg h]
theorem talS_yes {x : List DCard} (h : tabE [] x = 0) : talS x = (tally x 96, 0) := by rw [talS, if_pos h]
end Go.Proofs.YtcaeabgfgofefaaDoor.VL
