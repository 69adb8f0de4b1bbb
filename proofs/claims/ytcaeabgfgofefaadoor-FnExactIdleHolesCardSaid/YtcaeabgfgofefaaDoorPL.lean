/- Proved here: masks bit by bit, and what holes have how many cards. Plain Lean, no program. -/
import Derived.Test.YtcaeabgfgofefaaDoorPK
set_option linter.unusedVariables false
set_option linter.unusedSimpArgs false
namespace Go.Proofs.YtcaeabgfgofefaaDoor.VL
open Go
/-! ### Bits -/
def bitB (m : DMask) (i : Nat) : Bool := if i < 64 then m.1.getLsbD i else m.2.getLsbD (i - 64)
theorem shr_bit (x : BitVec 64) (k : Nat) : ((x >>> k) % 2#64 == 1#64) = x.getLsbD k := by
  rw [Bool.eq_iff_iff, beq_iff_eq, BitVec.getLsbD, Nat.testBit_eq_decide_div_mod_eq, decide_eq_true_eq]
  constructor
  · intro h
    have := congrArg BitVec.toNat h
    rw [BitVec.toNat_umod, BitVec.toNat_ushiftRight, Nat.shiftRight_eq_div_pow] at this
    exact this
  · intro h
    apply BitVec.eq_of_toNat_eq
    rw [BitVec.toNat_umod, BitVec.toNat_ushiftRight, Nat.shiftRight_eq_div_pow]
    exact h
theorem hasM_bit (m : DMask) {i : Nat} (hi : i < 128) : hasM m (i : Int) = bitB m i := by
  have h1 : Int.toNat ((i : Int).tdiv 64) = i / 64 := by rw [Int.tdiv_eq_ediv_of_nonneg (by omega)]; omega
  have h2 : Int.toNat ((i : Int).tmod 64) = i % 64 := by rw [Int.tmod_eq_emod_of_nonneg (by omega)]; omega
  unfold hasM limb bitB
  rw [h1, h2, shr_bit]
  rcases Nat.lt_or_ge i 64 with h | h
  · rw [if_pos (by omega), if_pos h, Nat.mod_eq_of_lt h]
  · rw [if_neg (by omega), if_neg (by omega), show i % 64 = i - 64 by omega]
theorem mask_ext {a b : DMask} (h : ∀ i, i < 128 → bitB a i = bitB b i) : a = b := by
  have h1 : a.1 = b.1 := by
    apply BitVec.eq_of_getLsbD_eq
    intro i hi
    have := h i (by omega)
    unfold bitB at this
    rw [if_pos hi, if_pos hi] at this; exact this
  have h2 : a.2 = b.2 := by
    apply BitVec.eq_of_getLsbD_eq
    intro i hi
    have := h (i + 64) (by omega)
    unfold bitB at this
    rw [if_neg (by omega), if_neg (by omega), Nat.add_sub_cancel] at this; exact this
  exact Prod.ext h1 h2
theorem bit_zM (i : Nat) : bitB zM i = false := by unfold bitB zM; split <;> simp
theorem bit_join (a b : DMask) (i : Nat) : bitB (joinM a b) i = (bitB a i || bitB b i) := by unfold bitB joinM; split <;> simp
theorem bit_less (a b : DMask) {i : Nat} (hi : i < 128) : bitB (lessM a b) i = (bitB a i && !(bitB b i)) := by
  unfold bitB lessM
  split
  · rename_i h; show (a.1 &&& ~~~b.1).getLsbD i = _; rw [BitVec.getLsbD_and, BitVec.getLsbD_not, decide_eq_true h, Bool.true_and]
  · show (a.2 &&& ~~~b.2).getLsbD (i - 64) = _; rw [BitVec.getLsbD_and, BitVec.getLsbD_not, decide_eq_true (by omega), Bool.true_and]
theorem shl_bit {j i : Nat} (hj : j < 64) : (1#64 <<< j).getLsbD i = decide (i = j) := by
  rw [BitVec.getLsbD_shiftLeft, BitVec.getLsbD_one]
  rw [Bool.eq_iff_iff]
  simp
  omega
theorem bit_bit {j : Nat} (hj : j < 128) (i : Nat) (hi : i < 128) : bitB (bitM (j : Int)) i = decide (i = j) := by
  have h1 : Int.toNat ((j : Int).tdiv 64) = j / 64 := by rw [Int.tdiv_eq_ediv_of_nonneg (by omega)]; omega
  have h2 : Int.toNat ((j : Int).tmod 64) = j % 64 := by rw [Int.tmod_eq_emod_of_nonneg (by omega)]; omega
  rcases Nat.lt_or_ge j 64 with h | h
  · have hb : bitM (j : Int) = (1#64 <<< (j % 64), 0#64) := by unfold bitM; rw [h1, h2, if_pos (by omega)]
    rw [hb]; unfold bitB
    split
    · show (1#64 <<< (j % 64)).getLsbD i = _; rw [shl_bit (by omega)]; simp only [decide_eq_decide]; omega
    · show (0#64).getLsbD (i - 64) = _; rw [BitVec.getLsbD_zero]; exact (decide_eq_false (by omega)).symm
  · have hb : bitM (j : Int) = (0#64, 1#64 <<< (j % 64)) := by unfold bitM; rw [h1, h2, if_neg (by omega)]
    rw [hb]; unfold bitB
    split
    · show (0#64).getLsbD i = _; rw [BitVec.getLsbD_zero]; exact (decide_eq_false (by omega)).symm
    · show (1#64 <<< (j % 64)).getLsbD (i - 64) = _; rw [shl_bit (by omega)]; simp only [decide_eq_decide]; omega
theorem bit_rng (a k : Nat) (h : a + k ≤ 128) {i : Nat} (hi : i < 128) : bitB (rngM (a : Int) k) i = (decide (a ≤ i) && decide (i < a + k)) := by
  induction k with
  | zero => rw [rngM, bit_zM, Bool.eq_iff_iff]; simp; try omega
  | succ k ih =>
    rw [rngM, bit_join, ih (by omega), show ((a : Int) + (k : Int)) = ((a + k : Nat) : Int) by omega, bit_bit (by omega) i hi, Bool.eq_iff_iff]
    simp only [Bool.or_eq_true, Bool.and_eq_true, decide_eq_true_eq]
    omega
theorem bit_lessfold (x : List DCard) : ∀ (m : DMask) {i : Nat}, i < 128 → bitB (x.foldl (fun m c => lessM m c.2) m) i = (bitB m i && !(x.any fun c => bitB c.2 i)) := by
  induction x with
  | nil => intro m i hi; simp
  | cons c x ih => intro m i hi; rw [List.foldl_cons, ih _ hi, bit_less _ _ hi, List.any_cons, Bool.not_or, Bool.and_assoc]
/-! ### How many cards a hole has -/
def hasH (h : Int) (c : DCard) : Bool := hasM c.2 h
def cntH (x : List DCard) (h : Int) : Int := cntQ (hasH h) x
def tally (x : List DCard) (z : Nat) : List Int := (List.range z).map fun (h : Nat) => cntH x (h : Int)
theorem tally_len (x : List DCard) (z : Nat) : (tally x z).length = z := by simp [tally]
theorem tally_next (x : List DCard) (z : Nat) : tally x z ++ [cntH x (z : Int)] = tally x (z + 1) := by
  rw [tally, tally, List.range_succ, List.map_append]; rfl
theorem tally_get (x : List DCard) {z h : Nat} (hh : h < z) : (tally x z)[Int.toNat (h : Int)]? = some (cntH x (h : Int)) := by
  rw [toN, tally, List.getElem?_map, List.getElem?_range hh]; rfl
noncomputable def talS (x : List DCard) : List Int × Int := if tabE [] x = 0 then (tally x 96, 0) else ([], tabE [] x)
theorem talS_no {x : List DCard} (h : tabE [] x ≠ 0) : talS x = ([], tabE [] x) := by rw [talS, if_neg h]
theorem talS_yes {x : List DCard} (h : tabE [] x = 0) : talS x = (tally x 96, 0) := by rw [talS, if_pos h]
theorem talS_ok {x : List DCard} (h : (talS x).2 = 0) : tabE [] x = 0 ∧ talS x = (tally x 96, 0) := by
  by_cases h1 : tabE [] x = 0
  · exact ⟨h1, talS_yes h1⟩
  · rw [talS_no h1] at h; exact absurd h h1
theorem talS_bad {x : List DCard} (h : (talS x).2 ≠ 0) : tabE [] x ≠ 0 ∧ (talS x).2 = tabE [] x := by
  by_cases h1 : tabE [] x = 0
  · rw [talS_yes h1] at h; exact absurd rfl h
  · rw [talS_no h1]; exact ⟨h1, rfl⟩
theorem cntH_fold {q : DCard → Bool} : ∀ (x : List DCard) (n : Int), (x.foldl (fun n c => if q c = true then n + 1 else n) n = n) ↔ x.any q = false
  | [], n => by simp
  | c :: x, n => by
    have h := cntQ_fold (q := q) x (n + 1)
    rw [List.foldl_cons, List.any_cons]
    cases hq : q c with
    | true => simp only [if_true, Bool.true_or]; constructor <;> intro h' <;> first | omega | cases h'
    | false => simp only [Bool.false_eq_true, if_false, Bool.false_or]; exact cntH_fold x n
theorem cntH_zero (x : List DCard) (h : Int) : cntH x h = 0 ↔ (x.any fun c => hasM c.2 h) = false := cntH_fold (q := hasH h) x 0
/-- The holes without a card. -/
def idl (x : List DCard) : Nat → DMask
  | 0 => zM
  | z + 1 => if cntH x (z : Int) = 0 then joinM (idl x z) (bitM (z : Int)) else idl x z
theorem bit_idl (x : List DCard) : ∀ (z : Nat), z ≤ 128 → ∀ {i : Nat}, i < 128 → bitB (idl x z) i = (decide (i < z) && !(x.any fun c => bitB c.2 i))
  | 0, _, i, hi => by rw [idl, bit_zM]; simp
  | z + 1, hz, i, hi => by
    have ih := bit_idl x z (by omega) hi
    have e : (x.any fun c => hasM c.2 (z : Int)) = (x.any fun c => bitB c.2 z) := by
      congr 1; funext c; exact hasM_bit _ (by omega)
    rw [idl]
    have h0 := cntH_zero x (z : Int)
    rw [e] at h0
    split
    · rename_i h1
      have h2 := h0.1 h1
      rw [bit_join, ih, bit_bit (by omega) i hi, Bool.eq_iff_iff]
      simp only [Bool.or_eq_true, Bool.and_eq_true, decide_eq_true_eq, Bool.not_eq_true']
      constructor
      · rintro (⟨h3, h4⟩ | rfl)
        · exact ⟨by omega, h4⟩
        · exact ⟨by omega, h2⟩
      · rintro ⟨h3, h4⟩
        by_cases h5 : i = z
        · exact .inr h5
        · exact .inl ⟨by omega, h4⟩
    · rename_i h1
      rw [ih, Bool.eq_iff_iff]
      simp only [Bool.and_eq_true, decide_eq_true_eq, Bool.not_eq_true']
      constructor
      · rintro ⟨h3, h4⟩; exact ⟨by omega, h4⟩
      · rintro ⟨h3, h4⟩
        refine ⟨?_, h4⟩
        rcases Nat.lt_or_ge i z with h5 | h5
        · exact h5
        · obtain rfl : i = z := by omega
          exact absurd (h0.2 h4) h1
theorem idl_same (x : List DCard) : x.foldl (fun m c => lessM m c.2) (rngM 0 96) = idl x 96 := by
  apply mask_ext
  intro i hi
  rw [bit_lessfold x _ hi, bit_idl x 96 (by omega) hi]
  have := bit_rng 0 96 (by omega) hi
  rw [show (((0 : Nat) : Int)) = 0 from rfl] at this
  rw [this]
  simp
noncomputable def idlS (x : List DCard) : DMask × Int := if tabE [] x = 0 then (idl x 96, 0) else (zM, tabE [] x)
theorem idlS_no {x : List DCard} (h : tabE [] x ≠ 0) : idlS x = (zM, tabE [] x) := by rw [idlS, if_neg h]
theorem idlS_yes {x : List DCard} (h : tabE [] x = 0) : idlS x = (idl x 96, 0) := by rw [idlS, if_pos h]
theorem idl_yes {x : List DCard} {z : Nat} (h : cntH x (z : Int) = 0) : joinM (idl x z) (bitM (z : Int)) = idl x (z + 1) := by rw [idl, if_pos h]
theorem idl_no {x : List DCard} {z : Nat} (h : cntH x (z : Int) ≠ 0) : idl x z = idl x (z + 1) := by rw [idl, if_neg h]
theorem lessf_next {x : List DCard} {z : Nat} {c : DCard} {m : DMask} (hc : x[Int.toNat ((z : Nat) : Int)]? = some c) : lessM ((x.take z).foldl (fun m c => lessM m c.2) m) c.2 = (x.take (z + 1)).foldl (fun m c => lessM m c.2) m := foldl_next (f := fun m (c : DCard) => lessM m c.2) hc
end Go.Proofs.YtcaeabgfgofefaaDoor.VL
