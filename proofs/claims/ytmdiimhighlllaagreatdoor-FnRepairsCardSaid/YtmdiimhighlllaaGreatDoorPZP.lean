/- Proved here: what a law says of repairs. Plain Lean. -/
import Derived.Test.YtmdiimhighlllaaGreatDoorPZR
set_option linter.unusedVariables false
set_option linter.unusedSimpArgs false
namespace Go.Proofs.YtmdiimhighlllaaGreatDoor.VL
open Go
section
variable {s : List DField} {f g : DField} {m n c : DMask} {x : List DMask} {v : Int} {k : Nat}
theorem put_else (hf : fieldOK f) (hv : 0 ≤ v ∧ v ≤ topF f) {i : Nat} (hi : i < 128) (h : bitB (partF f) i = false) : bitB (putM f m v) i = bitB m i := by
  rw [putM, bit_join, bit_less _ _ hi, h]
  have : bitB (codeF f v) i = false := by
    cases hb : bitB (codeF f v) i with
    | false => rfl
    | true =>
      have h1 := code_bits hf hv hi hb
      rw [bit_part hf hi, decide_eq_true h1.1, decide_eq_true h1.2] at h
      cases h
  rw [this]; simp
theorem put_own (hf : fieldOK f) (hv : 0 ≤ v ∧ v ≤ topF f) : meetM (putM f m v) (partF f) = codeF f v := by
  rw [← code_part hf hv]
  refine mask_ext fun i hi => ?_
  rw [bit_meet, putM, bit_join, bit_less _ _ hi, bit_meet]
  cases bitB (partF f) i <;> simp
theorem put_apart (hf : fieldOK f) (hv : 0 ≤ v ∧ v ≤ topF f) (h : meetM (partF f) (partF g) = zM) : meetM (putM f m v) (partF g) = meetM m (partF g) := by
  refine mask_ext fun i hi => ?_
  rw [bit_meet, bit_meet]
  have h1 := congrArg (fun m => bitB m i) h
  rw [bit_meet, bit_zM, Bool.and_eq_false_iff] at h1
  rcases h1 with h1 | h1
  · rw [put_else hf hv hi h1]
  · rw [h1, Bool.and_false, Bool.and_false]
theorem jp_has {l : List DField} {i : Nat} : bitB (jp l) i = l.any fun f => bitB (partF f) i := by
  rw [jp, bit_jp, bit_zM, Bool.false_or]
theorem apart (hs : schemeOK s) {j : Nat} (hjk : j < k) (hj : s[j]? = some f) (hk : s[k]? = some g) : meetM (partF f) (partF g) = zM := by
  obtain ⟨g', h1, _, h3, _⟩ := hs.2 k (List.getElem?_eq_some_iff.1 hk).1
  rw [hk] at h1
  obtain rfl := Option.some.inj h1
  refine mask_ext fun i hi => ?_
  have h4 := congrArg (fun m => bitB m i) h3
  rw [bit_meet, bit_zM, jp_has, Bool.and_eq_false_iff] at h4
  rw [bit_meet, bit_zM, Bool.and_eq_false_iff]
  rcases h4 with h4 | h4
  · left
    rw [List.any_eq_false] at h4
    have := h4 f (List.mem_of_getElem? (i := j) (by rw [List.getElem?_take_of_lt hjk]; exact hj))
    simpa using this
  · exact .inr h4
theorem meet_comm (a b : DMask) : meetM a b = meetM b a := mask_ext fun i hi => by rw [bit_meet, bit_meet, Bool.and_comm]
theorem apart' (hs : schemeOK s) {j : Nat} (hjk : j ≠ k) (hj : s[j]? = some f) (hk : s[k]? = some g) : meetM (partF f) (partF g) = zM := by
  rcases Nat.lt_or_gt_of_ne hjk with h | h
  · exact apart hs h hj hk
  · rw [meet_comm]; exact apart hs h hk hj
theorem sch_at (hs : schemeOK s) (hk : s[k]? = some f) : fieldOK f := by
  obtain ⟨g, h1, h2⟩ := schemeF hs (List.getElem?_eq_some_iff.1 hk).1
  rw [hk] at h1
  obtain rfl := Option.some.inj h1
  exact h2
/-- A repair of another field. -/
theorem rep_apart (hf : fieldOK f) (h : meetM (partF f) (partF g) = zM) : meetM (repS f m x).1 (partF g) = meetM m (partF g) := by
  rcases (rep_cases hf m x).1 with e | ⟨v, hv, e⟩ <;> rw [e]
  exact put_apart hf hv h
theorem repM_before (hs : schemeOK s) (hk : s[k]? = some f) : ∀ z, z ≤ k → meetM (repM s m x z) (partF f) = meetM m (partF f)
  | 0, _ => rfl
  | z + 1, hz => by
    have ih := repM_before hs hk z (by omega)
    have hl := (List.getElem?_eq_some_iff.1 hk).1
    obtain ⟨g, h1, h2⟩ := schemeF hs (i := z) (by omega)
    rw [repM, h1]
    dsimp only
    rw [rep_apart h2 (apart hs (by omega) h1 hk), ih]
theorem repM_behind (hs : schemeOK s) (hk : s[k]? = some f) : ∀ d, k + 1 + d ≤ s.length → meetM (repM s m x (k + 1 + d)) (partF f) = meetM (repM s m x (k + 1)) (partF f)
  | 0, _ => rfl
  | d + 1, hz => by
    have ih := repM_behind hs hk d (by omega)
    obtain ⟨g, h1, h2⟩ := schemeF hs (i := k + 1 + d) (by omega)
    rw [show k + 1 + (d + 1) = k + 1 + d + 1 by omega, repM, h1]
    dsimp only
    rw [rep_apart h2 (apart' hs (by omega) h1 hk), ih]
theorem repM_less (hs : schemeOK s) : ∀ z, z ≤ s.length → lessM (repM s m x z) (jp s) = lessM m (jp s)
  | 0, _ => rfl
  | z + 1, hz => by
    have ih := repM_less hs z (by omega)
    obtain ⟨g, h1, h2⟩ := schemeF hs (i := z) (by omega)
    rw [← ih, repM, h1]
    dsimp only
    rcases (rep_cases h2 (repM s m x z) x).1 with e | ⟨v, hv, e⟩ <;> rw [e]
    refine mask_ext fun i hi => ?_
    rw [bit_less _ _ hi, bit_less _ _ hi, jp_has]
    cases hb : bitB (partF g) i with
    | false => rw [put_else h2 hv hi hb]
    | true =>
      have : (s.any fun f => bitB (partF f) i) = true := List.any_eq_true.2 ⟨g, List.mem_of_getElem? h1, hb⟩
      rw [this]; simp
theorem near_own (h : meetM m (partF f) = meetM n (partF f)) (far : Int) : nearF f m far = nearF f n far := by
  unfold nearF nearN
  rw [h]
theorem rep_own (h : meetM m (partF f) = meetM n (partF f)) : (repS f m x).2 = (repS f n x).2 := by
  have h1 := val_own h
  have h2 := near_own h 1
  by_cases h8 : (valS f m).2 = 8
  · have h9 : (valS f n).2 = 8 := by rw [← h1]; exact h8
    cases ha : (valsC f x).find? (majB (valsC f x)) with
    | some v => rw [rep_agree h8 ha, rep_agree h9 ha]
    | none =>
      by_cases hn : (nearF f m 1).length = 1
      · rw [rep_near h8 ha hn, rep_near h9 ha (by rw [← h2]; exact hn)]
      · rw [rep_none h8 ha hn, rep_none h9 ha (by rw [← h2]; exact hn)]
  · rw [rep_same h8, rep_same (by rw [← h1]; exact h8)]
theorem vals_one (h : (valS f c).2 = 0) : (valsC f [c, c, c]).find? (majB (valsC f [c, c, c])) = some (valS f c).1 ∧ (valsC f [c]).find? (majB (valsC f [c])) = some (valS f c).1 := by
  constructor <;> simp [valsC, h, majB, cntQ]
theorem vals_no (h : ¬ (valS f c).2 = 0) : (valsC f [c, c, c]).find? (majB (valsC f [c, c, c])) = none ∧ (valsC f [c]).find? (majB (valsC f [c])) = none := by
  constructor <;> simp [valsC, h]
theorem rep_three (m c : DMask) : repS f m [c, c, c] = repS f m [c] := by
  by_cases h8 : (valS f m).2 = 8
  · by_cases h : (valS f c).2 = 0
    · rw [rep_agree h8 (vals_one h).1, rep_agree h8 (vals_one h).2]
    · by_cases hn : (nearF f m 1).length = 1
      · rw [rep_near h8 (vals_no h).1 hn, rep_near h8 (vals_no h).2 hn]
      · rw [rep_none h8 (vals_no h).1 hn, rep_none h8 (vals_no h).2 hn]
  · rw [rep_same h8, rep_same h8]
theorem rep_zero (h : ¬ (valS f m).2 = 8 ↔ ¬ (repS f m x).2 = 0) : False := by
  by_cases h8 : (valS f m).2 = 8
  · exact (h.2 (fun e => by
      cases ha : (valsC f x).find? (majB (valsC f x)) with
      | some v => rw [rep_agree h8 ha] at e; dsimp only at e; omega
      | none =>
        by_cases hn : (nearF f m 1).length = 1
        · rw [rep_near h8 ha hn] at e; dsimp only at e; omega
        · rw [rep_none h8 ha hn] at e; dsimp only at e; omega)) h8
  · exact h.1 h8 (by rw [rep_same h8])
theorem rep_zero' : (repS f m x).2 = 0 ↔ ¬ (valS f m).2 = 8 := by
  by_cases h8 : (valS f m).2 = 8 <;> by_cases h0 : (repS f m x).2 = 0
  · exact absurd (rep_zero (f := f) (m := m) (x := x) ⟨fun h => absurd h8 h, fun h => absurd h0 h⟩) id
  · exact ⟨fun h => absurd h h0, fun h => absurd h8 h⟩
  · exact ⟨fun _ => h8, fun _ => h0⟩
  · rw [rep_same h8] at h0; exact absurd rfl h0
theorem valIn_torn {m : DMask} (hf : fieldOK f) : valIn f m = -2 ↔ (valS f m).2 = 8 := by
  have h1 := valS_in hf m
  unfold valIn
  rcases valS_code f m with h | h | h <;> rw [h] <;> simp <;> omega
theorem valIn_has {m : DMask} (hf : fieldOK f) : 0 ≤ valIn f m ↔ (valS f m).2 = 0 := by
  have h1 := valS_in hf m
  unfold valIn
  rcases valS_code f m with h | h | h <;> rw [h] <;> simp <;> omega
/-- The law's word on a field. -/
theorem rep_law (hs : schemeOK s) (hk : s[k]? = some f) : repH s m [c, c, c] k = (repS f m [c]).2 ∧ (repH s m [c, c, c] k = 0 ↔ valIn f m ≠ -2) ∧ (valIn f m ≠ -2 → valIn f (repM s m [c, c, c] s.length) = valIn f m) ∧ (valIn f m = -2 → 0 ≤ valIn f c → repH s m [c, c, c] k = 1 ∧ valIn f (repM s m [c, c, c] s.length) = valIn f c) := by
  have hf := sch_at hs hk
  have hl := (List.getElem?_eq_some_iff.1 hk).1
  have hb := repM_before (m := m) (x := [c, c, c]) hs hk k (Nat.le_refl _)
  have ha := repM_behind (m := m) (x := [c, c, c]) hs hk (s.length - (k + 1)) (by omega)
  rw [show k + 1 + (s.length - (k + 1)) = s.length by omega] at ha
  have h1 : repH s m [c, c, c] k = (repS f (repM s m [c, c, c] k) [c, c, c]).2 := repH_at (by rw [toN]; exact hk)
  have h2 : repM s m [c, c, c] (k + 1) = (repS f (repM s m [c, c, c] k) [c, c, c]).1 := (repM_next (by rw [toN]; exact hk)).symm
  have h3 : repH s m [c, c, c] k = (repS f m [c]).2 := by rw [h1, rep_own hb, rep_three]
  have hv : valIn f (repM s m [c, c, c] s.length) = valIn f (repS f (repM s m [c, c, c] k) [c, c, c]).1 := by
    unfold valIn
    rw [val_own ha, h2]
  have hw : valS f (repM s m [c, c, c] k) = valS f m := val_own hb
  refine ⟨h3, ?_, fun h => ?_, fun h h0 => ?_⟩
  · rw [h3, rep_zero', ne_eq, valIn_torn hf]
  · rw [hv, rep_same (by rw [hw, ← valIn_torn hf]; exact h)]
    unfold valIn
    rw [hw]
  · rw [valIn_torn hf] at h
    rw [valIn_has hf] at h0
    have h4 := rep_agree (f := f) (m := repM s m [c, c, c] k) (x := [c, c, c]) (by rw [hw]; exact h) (vals_one h0).1
    rw [h1, hv, h4]
    refine ⟨rfl, ?_⟩
    have hvr : 0 ≤ (valS f c).1 ∧ (valS f c).1 ≤ topF f := valsC_mem (x := [c]) hf (by simp [valsC, h0])
    have h5 := val_code hf hvr (put_own (m := repM s m [c, c, c] k) hf hvr)
    have h6 : valS f c = ((valS f c).1, 0) := by rw [← h0]
    show valIn f (putM f (repM s m [c, c, c] k) (valS f c).1) = _
    unfold valIn
    rw [h5, h0]
theorem deck_allL {d : List DCard} (hd : deckOK d) : allL cardOK d := fun i hi => by
  obtain ⟨c, h1, h2, _⟩ := hd.2 i hi
  exact ⟨c, h1, h2⟩
theorem tab_deck {d : List DCard} (hs : schemeOK s) (hd : deckOK d) (hl : d.length ≤ 60) : 0 = tabE s d := tabE_zero (by rw [tt_iff.2 hs, tt_iff.2 (deck_allL hd)]; rfl) hl
theorem dbt_deck {d : List DCard} (hs : schemeOK s) (hd : deckOK d) (hl : d.length ≤ 60) : dbtS s d = (dbt s d d.length, 0) := dbtS_yes (tab_deck hs hd hl) (Nat.le_refl _) (Nat.le_refl _)
theorem dbt_none {d : List DCard} (h : d.length = 0) : dbt s d d.length = [] := by rw [h]; rfl
theorem rep_card {e : DCard} {w : DMask} (hs : schemeOK s) (he : cardOK e) (hw : okM w = true) : repCS s (e.1, w) [e, e, e] = ((e.1, repM s w [e.2, e.2, e.2] s.length), repW s w [e.2, e.2, e.2] s.length, 0) := by
  have hal : allL cardOK [e, e, e] := fun i hi => by
    have hg : [e, e, e][i]? = some e := by
      rcases i with _ | _ | _ | i
      · rfl
      · rfl
      · rfl
      · simp at hi; omega
    exact ⟨e, hg, he⟩
  have hc : cardOK (e.1, w) := ⟨he.1, hw⟩
  exact repC_ok (by rw [tt_iff.2 hs, tt_iff.2 hc, tt_iff.2 hal]; rfl) (by simp) (Nat.le_refl _) (Nat.le_refl _)
theorem repW_get {w : DMask} {z n : Nat} (h : z < n) : (repW s w x n)[Int.toNat ((z : Nat) : Int)]? = some (repH s w x z) := by
  rw [toN, repW, List.getElem?_map, List.getElem?_range h]; rfl
theorem value_is {e : ByteArray} {w : DMask} (hf : fieldOK f) (he : cardOK (e, w)) : valueS f (e, w) = (valIn f w, 0) := valueS_yes (by rw [tt_iff.2 hf, tt_iff.2 he]; rfl)
theorem rep_four {w a : DMask} (hf : fieldOK f) (hw : okM w = true) (ha : okM a = true) : ((repFS f w [a]).2.2 == 4) = ((repS f w [a]).2 == -1) := by
  have h0 : (!(tt (fieldOK f)) || !(okM w)) = false := by rw [tt_iff.2 hf, hw]; rfl
  have hal : allL okMP [a] := fun i hi => by
    have : i = 0 := by simp at hi; exact hi
    subst this; exact ⟨a, rfl, ha⟩
  have hz := msk_zero hal (by simp)
  have hr := (rep_cases hf w [a]).2
  by_cases h : (repS f w [a]).2 < 0
  · rw [repF_no h0 hz h, show (repS f w [a]).2 = -1 by omega]; rfl
  · rw [repF_yes h0 hz h]
    have : ((repS f w [a]).2 == -1) = false := by rw [beq_eq_false_iff_ne]; omega
    rw [this]; rfl
end
theorem rep_cond {h a b c : Int} (hA : h = 0 ↔ a ≠ -2) (hB : a ≠ -2 → c = a) (hC : a = -2 → 0 ≤ b → h = 1 ∧ c = b) : (!((h == 0) == (a != -2)) || (a != -2) && (c != a) || (a == -2) && decide (b ≥ 0) && ((h != 1) || (c != b))) = false := by
  rcases Classical.em (a = -2) with ha | ha
  · subst ha
    have h0 : h ≠ 0 := fun e => (hA.1 e) rfl
    by_cases hb : 0 ≤ b
    · obtain ⟨rfl, rfl⟩ := hC rfl hb
      simp
    · simp [h0, hb]
  · have h0 := hA.2 ha
    have hc := hB ha
    subst h0
    subst hc
    simp [ha]
end Go.Proofs.YtmdiimhighlllaaGreatDoor.VL
