/- Proved here: codes keep their values apart; fields that are repaired. Plain Lean. -/
import Derived.Test.YtlhfmcbmlmhgaaaGreatDoorBpa
set_option linter.unusedVariables false
set_option linter.unusedSimpArgs false
namespace Go.Proofs.YtlhfmcbmlmhgaaaGreatDoor.VL
open Go
/-! ### The bits of codes -/
theorem bit_ntc {s w b : Int} (h0 : 0 ≤ s) (m : DMask) {i : Nat} (hi : i < 128) : ∀ (k : Nat), s + k ≤ 128 → bitB (ntc m s w b k) i = (bitB m i || (List.range k).any fun j => ntB w b j && decide ((i : Int) = s + (j : Int)))
  | 0, _ => by simp [ntc]
  | k + 1, h => by
    have ih := bit_ntc (w := w) (b := b) h0 m hi k (by omega)
    rw [List.range_succ, List.any_append, ntc]
    simp only [List.any_cons, List.any_nil, Bool.or_false]
    cases hb : ntB w b k with
    | false => rw [if_neg (by decide), ih]; simp
    | true =>
      rw [if_pos rfl, bit_join, ih, Bool.true_and]
      have e : s + (k : Int) = ((s.toNat + k : Nat) : Int) := by omega
      rw [e, bit_bit (by omega) i hi, Bool.or_assoc]
      congr 2
      exact decide_eq_decide.2 (by omega)
theorem ntc_at {s w b : Int} (h0 : 0 ≤ s) {k j : Nat} (hs : s + k ≤ 128) (hj : j < k) : bitB (ntc zM s w b k) (s.toNat + j) = ntB w b j := by
  rw [bit_ntc h0 zM (by omega) k hs, bit_zM, Bool.false_or, Bool.eq_iff_iff, List.any_eq_true]
  constructor
  · rintro ⟨l, h1, h2⟩
    rw [Bool.and_eq_true, decide_eq_true_eq] at h2
    obtain rfl : l = j := by omega
    exact h2.1
  · intro h
    exact ⟨j, List.mem_range.2 hj, by rw [Bool.and_eq_true, decide_eq_true_eq]; exact ⟨h, by omega⟩⟩
theorem ntc_off {s w b : Int} (h0 : 0 ≤ s) {k i : Nat} (hs : s + k ≤ 128) (hi : i < 128) (h : bitB (ntc zM s w b k) i = true) : s ≤ (i : Int) ∧ (i : Int) < s + k := by
  rw [bit_ntc h0 zM hi k hs, bit_zM, Bool.false_or, List.any_eq_true] at h
  obtain ⟨l, h1, h2⟩ := h
  rw [Bool.and_eq_true, decide_eq_true_eq] at h2
  have := List.mem_range.1 h1
  omega
theorem ntB_test {n v k : Nat} (hk : k < n) : ntB (n : Int) (v : Int) k = v.testBit (n - 1 - k) := by
  have h := ntB_shr (n := v) (size := (n : Int)) (k := k) (by omega)
  rw [← h, show ((n : Int) - 1 - (k : Int)).toNat = n - 1 - k by omega, Nat.testBit]
  have h2 : v >>> (n - 1 - k) &&& 1 = 1 &&& v >>> (n - 1 - k) := Nat.and_comm ..
  rw [h2]
  have h3 : 1 &&& v >>> (n - 1 - k) ≤ 1 := Nat.and_le_left
  rcases (by omega : 1 &&& v >>> (n - 1 - k) = 0 ∨ 1 &&& v >>> (n - 1 - k) = 1) with e | e <;> rw [e] <;> rfl
theorem bits_inj {n v w : Nat} (hv : v < 2 ^ n) (hw : w < 2 ^ n) (h : ∀ k, k < n → ntB (n : Int) (v : Int) k = ntB (n : Int) (w : Int) k) : v = w := by
  apply Nat.eq_of_testBit_eq
  intro i
  rcases Nat.lt_or_ge i n with hi | hi
  · have := h (n - 1 - i) (by omega)
    rw [ntB_test (by omega), ntB_test (by omega)] at this
    rwa [show n - 1 - (n - 1 - i) = i by omega] at this
  · have hp : 2 ^ n ≤ 2 ^ i := Nat.pow_le_pow_right (by omega) hi
    rw [Nat.testBit_lt_two_pow (by omega), Nat.testBit_lt_two_pow (by omega)]
theorem digs_inj : ∀ (n v w : Nat), v < 10 ^ n → w < 10 ^ n → (∀ i, i < n → v / 10 ^ i % 10 = w / 10 ^ i % 10) → v = w
  | 0, v, w, hv, hw, _ => by simp at hv hw; omega
  | n + 1, v, w, hv, hw, h => by
    have h0 := h 0 (by omega)
    simp at h0
    have hp : 10 ^ (n + 1) = 10 ^ n * 10 := Nat.pow_succ ..
    have := digs_inj n (v / 10) (w / 10) (by omega) (by omega) (fun i hi => by
      have h1 := h (i + 1) (by omega)
      rw [show 10 ^ (i + 1) = 10 * 10 ^ i by rw [Nat.pow_succ, Nat.mul_comm], ← Nat.div_div_eq_div_mul, ← Nat.div_div_eq_div_mul] at h1
      exact h1)
    omega
theorem digH_inj {k d e : Int} (hk : k = 1 ∨ k = 2) (hd : 0 ≤ d ∧ d < 10) (he : 0 ≤ e ∧ e < 10) (h : ∀ j : Nat, (j : Int) < wid k → ((digH k d).contains (j : Int) = (digH k e).contains (j : Int))) : d = e := by
  obtain ⟨d, rfl⟩ : ∃ n : Nat, d = n := ⟨d.toNat, by omega⟩
  obtain ⟨e, rfl⟩ : ∃ n : Nat, e = n := ⟨e.toNat, by omega⟩
  rcases hk with rfl | rfl
  · have all : ∀ d e : Fin 10, (∀ j : Fin 4, (digH 1 ((d.1 : Nat) : Int)).contains ((j.1 : Nat) : Int) = (digH 1 ((e.1 : Nat) : Int)).contains ((j.1 : Nat) : Int)) → d = e := by decide +kernel
    have := all ⟨d, by omega⟩ ⟨e, by omega⟩ (fun j => h j.1 (by show ((j.1 : Nat) : Int) < 4; omega))
    have := congrArg Fin.val this
    simp only [] at this
    omega
  · have all : ∀ d e : Fin 10, (∀ j : Fin 5, (digH 2 ((d.1 : Nat) : Int)).contains ((j.1 : Nat) : Int) = (digH 2 ((e.1 : Nat) : Int)).contains ((j.1 : Nat) : Int)) → d = e := by decide +kernel
    have := all ⟨d, by omega⟩ ⟨e, by omega⟩ (fun j => h j.1 (by show ((j.1 : Nat) : Int) < 5; omega))
    have := congrArg Fin.val this
    simp only [] at this
    omega
theorem digH_some {k d : Int} (hk : k = 1 ∨ k = 2) (hd : 0 ≤ d ∧ d < 10) : ∃ j : Nat, (j : Int) < wid k ∧ (digH k d).contains (j : Int) = true := by
  obtain ⟨d, rfl⟩ : ∃ n : Nat, d = n := ⟨d.toNat, by omega⟩
  rcases hk with rfl | rfl
  · have all : ∀ d : Fin 10, ∃ j : Fin 4, (digH 1 ((d.1 : Nat) : Int)).contains ((j.1 : Nat) : Int) = true := by decide +kernel
    obtain ⟨j, hj⟩ := all ⟨d, by omega⟩
    exact ⟨j.1, by show ((j.1 : Nat) : Int) < 4; omega, hj⟩
  · have all : ∀ d : Fin 10, ∃ j : Fin 5, (digH 2 ((d.1 : Nat) : Int)).contains ((j.1 : Nat) : Int) = true := by decide +kernel
    obtain ⟨j, hj⟩ := all ⟨d, by omega⟩
    exact ⟨j.1, by show ((j.1 : Nat) : Int) < 5; omega, hj⟩
section
variable {f : DField} {v w : Int}
theorem upH_in (hf : fieldOK f) (hk : f.2.1 = 1 ∨ f.2.1 = 2) : ∀ a ∈ upH f v f.2.2.2.toNat, 0 ≤ a ∧ a < 96 := fun a ha => by
  rw [upH, List.mem_flatMap] at ha
  obtain ⟨k, h1, h2⟩ := ha
  exact plH_in hf hk (by have := List.mem_range.1 h1; omega) h2
theorem up_at (hf : fieldOK f) (hk : f.2.1 = 1 ∨ f.2.1 = 2) {k j : Nat} (h1 : (k : Int) < f.2.2.2) (h2 : (j : Int) < wid f.2.1) {i : Nat} (hi : (i : Int) = f.2.2.1 + wid f.2.1 * (k : Int) + (j : Int)) : bitB (withM zM (upH f v f.2.2.2.toNat)) i = (digH f.2.1 (digA f v k)).contains (j : Int) := by
  have hw := (wid_in hf hk).1
  have he := wid_end hf hk h1
  rw [bit_with _ (fun h hh => by have := upH_in (v := v) hf hk h hh; omega) zM (by omega), bit_zM, Bool.false_or, Bool.eq_iff_iff, List.contains_iff_mem, List.contains_iff_mem, upH, List.mem_flatMap]
  constructor
  · rintro ⟨k', hk', hm⟩
    rw [plH, shf, List.mem_map] at hm
    obtain ⟨h, hh, e⟩ := hm
    have hlt := digH_lt hk hh
    have hkk : k' = k := by
      rcases hw with hw | hw <;> rw [hw] at e hi hlt h2 <;> omega
    subst hkk
    obtain rfl : h = (j : Int) := by omega
    exact hh
  · intro hh
    exact ⟨k, List.mem_range.2 (by omega), List.mem_map.2 ⟨(j : Int), hh, by omega⟩⟩
theorem top_bin (h3 : f.2.1 = 3) : topF f = 2 ^ f.2.2.2.toNat - 1 := by unfold topF; rw [if_neg (by omega), if_pos h3]
theorem top_dig (hk : f.2.1 = 1 ∨ f.2.1 = 2) : topF f = 10 ^ f.2.2.2.toNat - 1 := by unfold topF; rw [if_neg (by omega), if_neg (by omega)]
theorem code_bin (h3 : f.2.1 = 3) : codeF f v = codeP f (ntc zM f.2.2.1 f.2.2.2 v f.2.2.2.toNat) := by rw [codeF, if_neg (by omega), if_pos h3]
theorem code_dig (hk : f.2.1 = 1 ∨ f.2.1 = 2) : codeF f v = withM zM (upH f v f.2.2.2.toNat) := by rw [codeF, if_neg (by omega), if_neg (by omega)]
theorem codeP_bit (hf : fieldOK f) (h3 : f.2.1 = 3) (m : DMask) {i : Nat} (hi : i < 128) : bitB (codeP f m) i = (bitB m i || (decide ((cntM m).tmod 2 = 0) && decide ((i : Int) = f.2.2.1 + f.2.2.2))) := by
  have hs := size_in hf
  have hw : widthF f = f.2.2.2 + 1 := by unfold widthF; rw [h3]; rfl
  unfold codeP
  split
  · rename_i h
    have e : f.2.2.1 + f.2.2.2 = (((f.2.2.1 + f.2.2.2).toNat : Nat) : Int) := by omega
    rw [bit_join, e, bit_bit (by omega) i hi, decide_eq_true h, Bool.true_and]
    congr 1
    exact decide_eq_decide.2 (by omega)
  · rename_i h
    rw [decide_eq_false h]; simp
theorem cntM_zM : cntM zM = 0 := by decide
theorem code_inj (hf : fieldOK f) (hv : 0 ≤ v ∧ v ≤ topF f) (hw : 0 ≤ w ∧ w ≤ topF f) (h : codeF f v = codeF f w) : v = w := by
  have hs := size_in hf
  by_cases h0 : f.2.1 = 0
  · have ht := cf_top hf h0
    rw [← cf_dir h0, ← cf_dir h0, show f.2.2.1 + v = (((f.2.2.1 + v).toNat : Nat) : Int) by omega, show f.2.2.1 + w = (((f.2.2.1 + w).toNat : Nat) : Int) by omega] at h
    have h1 := congrArg (fun m => bitB m (f.2.2.1 + v).toNat) h
    rw [bit_bit (by omega) _ (by omega), bit_bit (by omega) _ (by omega), decide_eq_true rfl] at h1
    have := of_decide_eq_true h1.symm
    omega
  · by_cases h3 : f.2.1 = 3
    · have hwd : widthF f = f.2.2.2 + 1 := by unfold widthF; rw [h3]; rfl
      rw [top_bin h3] at hv hw
      have hp : (2 : Int) ^ f.2.2.2.toNat = ((2 ^ f.2.2.2.toNat : Nat) : Int) := by push_cast; rfl
      rw [hp] at hv hw
      have key := bits_inj (n := f.2.2.2.toNat) (v := v.toNat) (w := w.toNat) (by omega) (by omega) (fun k hk => by
        rw [show ((f.2.2.2.toNat : Nat) : Int) = f.2.2.2 by omega, Int.toNat_of_nonneg hv.1, Int.toNat_of_nonneg hw.1]
        rw [code_bin h3, code_bin h3] at h
        have h1 := congrArg (fun m => bitB m (f.2.2.1.toNat + k)) h
        rw [codeP_bit hf h3 _ (by omega), codeP_bit hf h3 _ (by omega), ntc_at (by omega) (by omega) hk, ntc_at (by omega) (by omega) hk] at h1
        have e : decide (((f.2.2.1.toNat + k : Nat) : Int) = f.2.2.1 + f.2.2.2) = false := decide_eq_false (by omega)
        rw [e] at h1
        simpa using h1)
      omega
    · have hk := kind_12 hf h0 h3
      rw [top_dig hk] at hv hw
      have hp : (10 : Int) ^ f.2.2.2.toNat = ((10 ^ f.2.2.2.toNat : Nat) : Int) := by push_cast; rfl
      rw [hp] at hv hw
      obtain ⟨v, rfl⟩ : ∃ n : Nat, v = n := ⟨v.toNat, by omega⟩
      obtain ⟨w, rfl⟩ : ∃ n : Nat, w = n := ⟨w.toNat, by omega⟩
      have key := digs_inj f.2.2.2.toNat v w (by omega) (by omega) (fun i hi => by
        have hd : digA f (v : Int) (f.2.2.2.toNat - 1 - i) = digA f (w : Int) (f.2.2.2.toNat - 1 - i) := by
          refine digH_inj hk (digA_in f v _) (digA_in f w _) fun j hj => ?_
          have hwd := wid_end hf hk (z := f.2.2.2.toNat - 1 - i) (by omega)
          have hww := (wid_in hf hk).1
          have hg : 0 ≤ wid f.2.1 * ((f.2.2.2.toNat - 1 - i : Nat) : Int) := Int.mul_nonneg (by omega) (by omega)
          rw [← up_at (v := (v : Int)) hf hk (k := f.2.2.2.toNat - 1 - i) (j := j) (by omega) hj (i := (f.2.2.1 + wid f.2.1 * ((f.2.2.2.toNat - 1 - i : Nat) : Int) + (j : Int)).toNat) (by omega),
            ← up_at (v := (w : Int)) hf hk (k := f.2.2.2.toNat - 1 - i) (j := j) (by omega) hj (i := (f.2.2.1 + wid f.2.1 * ((f.2.2.2.toNat - 1 - i : Nat) : Int) + (j : Int)).toNat) (by omega), ← code_dig hk, ← code_dig hk, h]
        rw [← digA_at (by omega), ← digA_at (by omega)] at hd
        have h1 : ∀ n : Nat, ((n : Nat) : Int).tmod 10 = ((n % 10 : Nat) : Int) := fun n => by rw [Int.tmod_eq_emod_of_nonneg (by omega)]; push_cast; rfl
        rw [h1, h1] at hd
        omega)
      omega
theorem code_some (hf : fieldOK f) (hv : 0 ≤ v ∧ v ≤ topF f) : codeF f v ≠ zM := by
  have hs := size_in hf
  intro h
  by_cases h0 : f.2.1 = 0
  · have ht := cf_top hf h0
    rw [← cf_dir h0, show f.2.2.1 + v = (((f.2.2.1 + v).toNat : Nat) : Int) by omega] at h
    have h1 := congrArg (fun m => bitB m (f.2.2.1 + v).toNat) h
    rw [bit_bit (by omega) _ (by omega), bit_zM, decide_eq_true rfl] at h1
    cases h1
  · by_cases h3 : f.2.1 = 3
    · have hwd : widthF f = f.2.2.2 + 1 := by unfold widthF; rw [h3]; rfl
      rw [code_bin h3, codeP] at h
      split at h
      · have h1 := congrArg (fun m => bitB m (f.2.2.1 + f.2.2.2).toNat) h
        have e : bitM (f.2.2.1 + f.2.2.2) = bitM (((f.2.2.1 + f.2.2.2).toNat : Nat) : Int) := by congr 1; omega
        rw [bit_join, e, bit_bit (by omega) _ (by omega), bit_zM, decide_eq_true rfl, Bool.or_true] at h1
        cases h1
      · rename_i hc
        rw [h, cntM_zM] at hc
        exact hc rfl
    · have hk := kind_12 hf h0 h3
      obtain ⟨v, rfl⟩ : ∃ n : Nat, v = n := ⟨v.toNat, by omega⟩
      obtain ⟨j, hj, hc⟩ := digH_some hk (digA_in f v 0)
      have hwd := wid_end hf hk (z := 0) (by omega)
      rw [← up_at (v := (v : Int)) hf hk (k := 0) (j := j) (by omega) hj (i := (f.2.2.1 + (j : Int)).toNat) (by simp; omega), ← code_dig hk, h, bit_zM] at hc
      cases hc
theorem code_bits (hf : fieldOK f) (hv : 0 ≤ v ∧ v ≤ topF f) {i : Nat} (hi : i < 128) (h : bitB (codeF f v) i = true) : f.2.2.1 ≤ (i : Int) ∧ (i : Int) < f.2.2.1 + widthF f := by
  have hs := size_in hf
  by_cases h0 : f.2.1 = 0
  · have ht := cf_top hf h0
    have hwd : widthF f = f.2.2.2 := by unfold widthF; rw [h0]; rfl
    have htp : topF f = f.2.2.2 - 1 := by unfold topF; rw [if_pos h0]
    rw [← cf_dir h0, show f.2.2.1 + v = (((f.2.2.1 + v).toNat : Nat) : Int) by omega, bit_bit (by omega) _ hi] at h
    have := of_decide_eq_true h
    omega
  · by_cases h3 : f.2.1 = 3
    · have hwd : widthF f = f.2.2.2 + 1 := by unfold widthF; rw [h3]; rfl
      rw [code_bin h3, codeP_bit hf h3 _ hi, Bool.or_eq_true] at h
      rcases h with h | h
      · have := ntc_off (by omega) (by omega) hi h
        omega
      · rw [Bool.and_eq_true, decide_eq_true_eq, decide_eq_true_eq] at h
        omega
    · have hk := kind_12 hf h0 h3
      rw [code_dig hk, bit_with _ (fun h hh => by have := upH_in (v := v) hf hk h hh; omega) zM hi, bit_zM, Bool.false_or, List.contains_iff_mem, upH, List.mem_flatMap] at h
      obtain ⟨k, h1, h2⟩ := h
      rw [plH, shf, List.mem_map] at h2
      obtain ⟨d, hd, e⟩ := h2
      have hlt := digH_lt hk hd
      have hkr := List.mem_range.1 h1
      have hww := wid_in hf hk
      rcases hww.1 with hw | hw <;> rw [hw] at e hlt hww <;> omega
theorem code_part (hf : fieldOK f) (hv : 0 ≤ v ∧ v ≤ topF f) : meetM (codeF f v) (partF f) = codeF f v := by
  refine mask_ext fun i hi => ?_
  rw [bit_meet]
  cases hb : bitB (codeF f v) i with
  | false => rfl
  | true =>
    have := code_bits hf hv hi hb
    rw [bit_part hf hi, decide_eq_true this.1, decide_eq_true this.2]; rfl
theorem val_code (hf : fieldOK f) (hv : 0 ≤ v ∧ v ≤ topF f) {m : DMask} (h : meetM m (partF f) = codeF f v) : valS f m = (v, 0) := by
  have h1 := valS_at (f := f) (m := m) (z := v.toNat) (by rw [h]; exact code_some hf hv) (fun i hi => by
    unfold ownI
    rw [h]
    intro e
    have := code_inj hf ⟨by omega, by omega⟩ hv e
    omega) (by omega) (by rw [h, Int.toNat_of_nonneg hv.1])
  rw [h1, Int.toNat_of_nonneg hv.1]
end
end Go.Proofs.YtlhfmcbmlmhgaaaGreatDoor.VL
