/- Proved here: worn cards, doubts, and fields that are repaired. Plain Lean. -/
import Derived.Test.YtmdiimhighlllaaGreatDoorPZC
set_option linter.unusedVariables false
set_option linter.unusedSimpArgs false
namespace Go.Proofs.YtmdiimhighlllaaGreatDoor.VL
open Go
/-! ### Wear -/
abbrev DWear := DMask × DMask
def wornM (m : DMask) (w : DWear) : DMask := lessM (joinM m w.1) w.2
noncomputable def wornS (c : DCard) (w : DWear) : DCard × Int := if (!(tt (cardOK c)) || !(queryOK w)) = true then ((ByteArray.empty, zM), 1) else ((c.1, wornM c.2 w), 0)
theorem worn_bad {c : DCard} {w : DWear} (h : (!(tt (cardOK c)) || !(queryOK w)) = true) : wornS c w = ((ByteArray.empty, zM), 1) := if_pos h
theorem worn_ok {c : DCard} {w : DWear} (h : (!(tt (cardOK c)) || !(queryOK w)) = false) : wornS c w = ((c.1, wornM c.2 w), 0) := if_neg (by rw [h]; decide)
theorem okM_sub {x y : DMask} (hy : okM y = true) (h : ∀ i, i < 128 → bitB x i = true → bitB y i = true) : okM x = true := by
  rw [okM_iff] at *
  intro i h1 h2
  cases hb : bitB x i with
  | false => rfl
  | true => rw [← hy i h1 h2]; exact (h i h2 hb).symm
theorem okM_worn {m : DMask} {w : DWear} (hm : okM m = true) (hw : okM w.1 = true) : okM (wornM m w) = true := by
  refine okM_sub (okM_join hm hw) fun i hi h => ?_
  rw [wornM, bit_less _ _ hi, Bool.and_eq_true] at h
  exact h.1
/-- Wear hole by hole. -/
def wrL : Nat → DSrc → DWear → DSrc × DWear
  | 0, s, w => (s, w)
  | k + 1, s, w => let p := pick s 96; let o := pick p.2 2; wrL k o.2 (if o.1 = 0 then (joinM w.1 (bitM p.1), lessM w.2 (bitM p.1)) else (lessM w.1 (bitM p.1), joinM w.2 (bitM p.1)))
theorem wrL_step {k : Nat} (h : 1 ≤ k) (s : DSrc) (w : DWear) : wrL k s w = wrL (k - 1) (pick (pick s 96).2 2).2 (if (pick (pick s 96).2 2).1 = 0 then (joinM w.1 (bitM (pick s 96).1), lessM w.2 (bitM (pick s 96).1)) else (lessM w.1 (bitM (pick s 96).1), joinM w.2 (bitM (pick s 96).1))) := by
  cases k with
  | zero => omega
  | succ k => rfl
theorem wrL_yes {k : Nat} {s : DSrc} {w : DWear} (h : 1 ≤ k) (h0 : (pick (pick s 96).2 2).1 = 0) : wrL k s w = wrL (k - 1) (pick (pick s 96).2 2).2 (joinM w.1 (bitM (pick s 96).1), lessM w.2 (bitM (pick s 96).1)) := by rw [wrL_step h, if_pos h0]
theorem wrL_no {k : Nat} {s : DSrc} {w : DWear} (h : 1 ≤ k) (h0 : ¬ (pick (pick s 96).2 2).1 = 0) : wrL k s w = wrL (k - 1) (pick (pick s 96).2 2).2 (lessM w.1 (bitM (pick s 96).1), joinM w.2 (bitM (pick s 96).1)) := by rw [wrL_step h, if_neg h0]
def wrD (s : DSrc) : DWear := (wrL (pick s 5).1.toNat (pick s 5).2 (zM, zM)).2
def wrI (w : DWear) : Prop := okM w.1 = true ∧ okM w.2 = true ∧ ∀ i, i < 128 → bitB w.1 i = true → bitB w.2 i = false
theorem wrI_zero : wrI (zM, zM) := ⟨okM_zM, okM_zM, fun i _ h => bit_zM i⟩
theorem wrI_one {w : DWear} {h : Int} (hw : wrI w) (hh : 0 ≤ h ∧ h < 96) : wrI (joinM w.1 (bitM h), lessM w.2 (bitM h)) ∧ wrI (lessM w.1 (bitM h), joinM w.2 (bitM h)) := by
  have hs : ∀ x y : DMask, okM x = true → okM (lessM x y) = true := fun x y hx => okM_sub hx fun i hi h1 => by rw [bit_less _ _ hi, Bool.and_eq_true] at h1; exact h1.1
  refine ⟨⟨okM_join hw.1 (okM_one hh), hs _ _ hw.2.1, fun i hi h1 => ?_⟩, ⟨hs _ _ hw.1, okM_join hw.2.1 (okM_one hh), fun i hi h1 => ?_⟩⟩
  · simp only [] at h1 ⊢
    rw [bit_join, Bool.or_eq_true] at h1
    rw [bit_less _ _ hi, Bool.and_eq_false_iff]
    rcases h1 with h1 | h1
    · exact .inl (hw.2.2 i hi h1)
    · exact .inr (by rw [h1]; rfl)
  · simp only [] at h1 ⊢
    rw [bit_less _ _ hi, Bool.and_eq_true, Bool.not_eq_true'] at h1
    rw [bit_join, Bool.or_eq_false_iff]
    exact ⟨hw.2.2 i hi h1.1, h1.2⟩
theorem wrD_end {s s' : DSrc} {w : DWear} (h : wrL 0 s' w = wrL (pick s 5).1.toNat (pick s 5).2 (zM, zM)) : w = wrD s := by rw [wrD, ← h]; rfl
theorem wrL_ok : ∀ (k : Nat) {m : Int} {s : DSrc} {w : DWear}, srcI m s → wrI w → wrI (wrL k s w).2
  | 0, m, s, w, _, hw => hw
  | k + 1, m, s, w, hs, hw => by
    have hp := pick_in hs 96
    have h1 := wrI_one hw (h := (pick s 96).1) (by omega)
    rw [wrL_step (by omega)]
    refine wrL_ok k (pick_src (pick_src hs 96) 2) ?_
    split
    · exact h1.1
    · exact h1.2
theorem wrI_wear {w : DWear} (h : wrI w) : queryOK w = true := by
  unfold queryOK
  rw [h.1, h.2.1, Bool.true_and, Bool.true_and, eqv_iff, show ((0#64, 0#64) : DMask) = zM from rfl]
  refine mask_ext fun i hi => ?_
  rw [bit_meet, bit_zM, Bool.and_eq_false_iff]
  cases hb : bitB w.1 i with
  | false => exact .inl rfl
  | true => exact .inr (h.2.2 i hi hb)
theorem wrD_ok {m : Int} {s : DSrc} (h : srcI m s) : queryOK (wrD s) = true := wrI_wear (wrL_ok _ (pick_src h 5) wrI_zero)
/-! ### Doubts -/
noncomputable def tornB (s : List DField) (m : DMask) (k : Nat) : Bool := match s[k]? with
  | some f => decide ((valS f m).2 = 8)
  | none => false
noncomputable def dbt1 (s : List DField) (m : DMask) (i y : Nat) : List (Int × Int) := ((List.range y).filter (tornB s m)).map fun (k : Nat) => ((i : Int), (k : Int))
noncomputable def dbt (s : List DField) (x : List DCard) (z : Nat) : List (Int × Int) := (List.range z).flatMap fun i => match x[i]? with
  | some c => dbt1 s c.2 i s.length
  | none => []
section
variable {s : List DField} {x : List DCard} {z y : Nat} {f : DField} {e : DCard} {m : DMask}
theorem torn_at (hf : s[Int.toNat ((y : Nat) : Int)]? = some f) : tornB s m y = decide ((valS f m).2 = 8) := by
  rw [toN] at hf; unfold tornB; rw [hf]
theorem dbt1_yes {i : Nat} (hf : s[Int.toNat ((y : Nat) : Int)]? = some f) (h : (valS f m).2 = 8) : dbt1 s m i y ++ [((i : Int), (y : Int))] = dbt1 s m i (y + 1) := by
  rw [dbt1, dbt1, List.range_succ, List.filter_append, List.filter_cons, torn_at hf, decide_eq_true h]; simp
theorem dbt1_no {i : Nat} (hf : s[Int.toNat ((y : Nat) : Int)]? = some f) (h : ¬ (valS f m).2 = 8) : dbt1 s m i y = dbt1 s m i (y + 1) := by
  rw [dbt1, dbt1, List.range_succ, List.filter_append, List.filter_cons, torn_at hf, decide_eq_false h]; simp
theorem dbt_next (he : x[Int.toNat ((z : Nat) : Int)]? = some e) (hy : s.length ≤ y) (hy' : y ≤ s.length) : dbt s x z ++ dbt1 s e.2 z y = dbt s x (z + 1) := by
  obtain rfl : y = s.length := by omega
  rw [toN] at he
  rw [dbt, dbt, List.range_succ, List.flatMap_append]
  simp [he]
theorem dbt1_len (i : Nat) : (dbt1 s m i y).length ≤ y := by
  rw [dbt1, List.length_map]
  have := List.length_filter_le (tornB s m) (List.range y)
  rw [List.length_range] at this; exact this
theorem dbt_len (s : List DField) (x : List DCard) : ∀ z, (dbt s x z).length ≤ s.length * z
  | 0 => by simp [dbt]
  | z + 1 => by
    have ih := dbt_len s x z
    have h1 : (dbt s x (z + 1)).length ≤ (dbt s x z).length + s.length := by
      rw [dbt, dbt, List.range_succ, List.flatMap_append, List.length_append]
      simp only [List.flatMap_cons, List.flatMap_nil, List.append_nil]
      cases x[z]? with
      | none => simp
      | some c => have := dbt1_len (s := s) (m := c.2) (y := s.length) z; simp only []; omega
    have h2 : s.length * (z + 1) = s.length * z + s.length := Nat.mul_succ ..
    omega
theorem dbt_room (hs : s.length ≤ 12) (hx : x.length ≤ 60) (hz : z ≤ x.length) : (dbt s x z).length ≤ 720 := by
  have h1 := dbt_len s x z
  have h2 : s.length * z ≤ 12 * 60 := Nat.mul_le_mul hs (by omega)
  omega
end
noncomputable def dbtS (s : List DField) (x : List DCard) : List (Int × Int) × Int := if tabE s x = 0 then (dbt s x x.length, 0) else ([], tabE s x)
theorem dbtS_no {s : List DField} {x : List DCard} {e : Int} (h : e = tabE s x) (he : e ≠ 0) : dbtS s x = ([], e) := by rw [dbtS, if_neg (by omega), h]
theorem dbtS_yes {s : List DField} {x : List DCard} {z : Nat} (h : 0 = tabE s x) (hz : x.length ≤ z) (hz' : z ≤ x.length) : dbtS s x = (dbt s x z, 0) := by
  obtain rfl : z = x.length := by omega
  rw [dbtS, if_pos h.symm]
/-! ### Repairs -/
def nearN (f : DField) (m : DMask) (far : Int) (z : Nat) : List Int := ((List.range z).filter fun (v : Nat) => decide (distM (codeF f (v : Int)) (meetM m (partF f)) ≤ far)).map fun (v : Nat) => (v : Int)
def nearF (f : DField) (m : DMask) (far : Int) : List Int := nearN f m far (topF f + 1).toNat
def putM (f : DField) (m : DMask) (v : Int) : DMask := joinM (lessM m (partF f)) (codeF f v)
noncomputable def valsC (f : DField) (x : List DMask) : List Int := (x.filter fun m => decide ((valS f m).2 = 0)).map fun m => (valS f m).1
def majB (l : List Int) (v : Int) : Bool := decide (2 * cntQ (fun o => o == v) l > (l.length : Int))
noncomputable def repS (f : DField) (m : DMask) (x : List DMask) : DMask × Int := if (valS f m).2 = 8 then (match (valsC f x).find? (majB (valsC f x)) with
    | some v => (putM f m v, 1)
    | none => if (nearF f m 1).length = 1 then (putM f m ((nearF f m 1).getD 0 0), 2) else (m, -1)) else (m, 0)
section
variable {f : DField} {m : DMask} {x : List DMask} {z : Nat} {far : Int}
theorem near_yes (h : distM (codeF f (z : Int)) (meetM m (partF f)) ≤ far) : nearN f m far z ++ [(z : Int)] = nearN f m far (z + 1) := by
  rw [nearN, nearN, List.range_succ, List.filter_append, List.filter_cons, decide_eq_true h]; simp
theorem near_no (h : ¬ distM (codeF f (z : Int)) (meetM m (partF f)) ≤ far) : nearN f m far z = nearN f m far (z + 1) := by
  rw [nearN, nearN, List.range_succ, List.filter_append, List.filter_cons, decide_eq_false h]; simp
theorem nearN_len : (nearN f m far z).length ≤ z := by
  rw [nearN, List.length_map]
  have := List.length_filter_le (fun (v : Nat) => decide (distM (codeF f (v : Int)) (meetM m (partF f)) ≤ far)) (List.range z)
  rw [List.length_range] at this; exact this
theorem nearN_end (hz : topF f < (z : Int)) (hz' : (z : Int) ≤ topF f + 1) : nearN f m far z = nearF f m far := by
  rw [nearF, show (topF f + 1).toNat = z by omega]
theorem nearF_mem {v : Int} (ht : 0 ≤ topF f) (h : v ∈ nearF f m far) : 0 ≤ v ∧ v ≤ topF f := by
  rw [nearF, nearN, List.mem_map] at h
  obtain ⟨k, h1, rfl⟩ := h
  have := List.mem_range.1 (List.mem_filter.1 h1).1
  omega
theorem nearF_get (ht : 0 ≤ topF f) (h : (nearF f m far).length = 1) : (nearF f m far)[Int.toNat 0]? = some ((nearF f m far).getD 0 0) ∧ 0 ≤ (nearF f m far).getD 0 0 ∧ (nearF f m far).getD 0 0 ≤ topF f := by
  have h1 : (nearF f m far)[0]? = some ((nearF f m far)[0]'(by omega)) := List.getElem?_eq_getElem (by omega)
  have h2 : (nearF f m far).getD 0 0 = (nearF f m far)[0]'(by omega) := by rw [List.getD_eq_getElem?_getD, h1]; rfl
  rw [h2]
  exact ⟨h1, nearF_mem ht (List.mem_of_getElem? h1)⟩
theorem valsC_yes {a : DMask} (ha : x[Int.toNat ((z : Nat) : Int)]? = some a) (h : (valS f a).2 = 0) : valsC f (x.take z) ++ [(valS f a).1] = valsC f (x.take (z + 1)) := by
  rw [valsC, valsC, take_more ha, List.filter_append, List.filter_cons, decide_eq_true h]; simp
theorem valsC_no {a : DMask} (ha : x[Int.toNat ((z : Nat) : Int)]? = some a) (h : ¬ (valS f a).2 = 0) : valsC f (x.take z) = valsC f (x.take (z + 1)) := by
  rw [valsC, valsC, take_more ha, List.filter_append, List.filter_cons, decide_eq_false h]; simp
theorem valsC_len : (valsC f x).length ≤ x.length := by
  rw [valsC, List.length_map]
  exact List.length_filter_le _ _
theorem valsC_mem {v : Int} (hf : fieldOK f) (h : v ∈ valsC f x) : 0 ≤ v ∧ v ≤ topF f := by
  rw [valsC, List.mem_map] at h
  obtain ⟨m, h1, rfl⟩ := h
  have h2 := of_decide_eq_true (List.mem_filter.1 h1).2
  have ht := top_in hf
  have h3 : valS f m = ((valS f m).1, 0) := by rw [← h2]
  unfold valS at h3 ⊢
  split at h3
  · rename_i h4; exact absurd (congrArg Prod.snd h3) (by decide)
  · split at h3
    · rename_i h5 h6
      rw [if_neg h5, if_pos h6]
      simp only []
      omega
    · exact absurd (congrArg Prod.snd h3) (by decide)
theorem maj_iff {l : List Int} {v n : Int} {z : Nat} (hz : l.length ≤ z) (hn : n = cntQ (fun o => o == v) (l.take z)) : majB l v = decide (2 * n > (l.length : Int)) := by
  rw [List.take_of_length_le hz] at hn
  rw [majB, hn]
theorem find_at {l : List Int} {q : Int → Bool} {a : Int} (h : ∀ i, i < z → nI q l i) (ha : l[Int.toNat ((z : Nat) : Int)]? = some a) (hq : q a = true) : l.find? q = some a := by
  rw [toN] at ha
  rw [List.find?_eq_some_iff_getElem]
  obtain ⟨hz, e⟩ := List.getElem?_eq_some_iff.1 ha
  refine ⟨hq, z, hz, e, fun j hj => ?_⟩
  obtain ⟨b, h1, h2⟩ := h j hj
  obtain ⟨h3, h4⟩ := List.getElem?_eq_some_iff.1 h1
  rw [h4, h2]; rfl
theorem find_end {l : List Int} {q : Int → Bool} (h : ∀ i, i < z → nI q l i) (hz : l.length ≤ z) : l.find? q = none := by
  rw [List.find?_eq_none]
  intro a ha
  obtain ⟨i, hi⟩ := List.mem_iff_getElem?.1 ha
  obtain ⟨b, h1, h2⟩ := h i (by have := (List.getElem?_eq_some_iff.1 hi).1; omega)
  rw [hi] at h1
  obtain rfl := Option.some.inj h1
  simpa using h2
noncomputable def agrS (f : DField) (x : List DMask) : Int × Bool := match (valsC f x).find? (majB (valsC f x)) with
  | some v => (v, true)
  | none => (0, false)
theorem agr_at {v : Int} (h : ∀ i, i < z → nI (majB (valsC f x)) (valsC f x) i) (hv : (valsC f x)[Int.toNat ((z : Nat) : Int)]? = some v) (hm : majB (valsC f x) v = true) : (valsC f x).find? (majB (valsC f x)) = some v ∧ agrS f x = (v, true) := by
  have h1 := find_at h hv hm
  exact ⟨h1, by rw [agrS, h1]⟩
theorem agr_no (h : ∀ i, i < z → nI (majB (valsC f x)) (valsC f x) i) (hz : (valsC f x).length ≤ z) : (valsC f x).find? (majB (valsC f x)) = none ∧ agrS f x = (0, false) := by
  have h1 := find_end h hz
  exact ⟨h1, by rw [agrS, h1]⟩
theorem agr_yes (hf : fieldOK f) (h : (agrS f x).2 = true) : (valsC f x).find? (majB (valsC f x)) = some (agrS f x).1 ∧ 0 ≤ (agrS f x).1 ∧ (agrS f x).1 ≤ topF f := by
  unfold agrS at h ⊢
  cases e : (valsC f x).find? (majB (valsC f x)) with
  | some v => exact ⟨rfl, valsC_mem hf (List.mem_of_find?_eq_some e)⟩
  | none => rw [e] at h; cases h
theorem agr_none (h : (agrS f x).2 = false) : (valsC f x).find? (majB (valsC f x)) = none := by
  unfold agrS at h
  cases e : (valsC f x).find? (majB (valsC f x)) with
  | some v => rw [e] at h; cases h
  | none => rfl
theorem rep_same (h : ¬ (valS f m).2 = 8) : repS f m x = (m, 0) := if_neg h
theorem rep_agree {v : Int} (h : (valS f m).2 = 8) (ha : (valsC f x).find? (majB (valsC f x)) = some v) : repS f m x = (putM f m v, 1) := by rw [repS, if_pos h, ha]
theorem rep_near (h : (valS f m).2 = 8) (ha : (valsC f x).find? (majB (valsC f x)) = none) (hn : (nearF f m 1).length = 1) : repS f m x = (putM f m ((nearF f m 1).getD 0 0), 2) := by rw [repS, if_pos h, ha]; exact if_pos hn
theorem rep_none (h : (valS f m).2 = 8) (ha : (valsC f x).find? (majB (valsC f x)) = none) (hn : ¬ (nearF f m 1).length = 1) : repS f m x = (m, -1) := by rw [repS, if_pos h, ha]; exact if_neg hn
/-- What a repair does: nothing, or it puts a value. -/
theorem rep_cases (hf : fieldOK f) (m : DMask) (x : List DMask) : ((repS f m x).1 = m ∨ ∃ v, (0 ≤ v ∧ v ≤ topF f) ∧ (repS f m x).1 = putM f m v) ∧ -1 ≤ (repS f m x).2 ∧ (repS f m x).2 ≤ 2 := by
  have ht := top_in hf
  by_cases h : (valS f m).2 = 8
  · cases ha : (valsC f x).find? (majB (valsC f x)) with
    | some v =>
      rw [rep_agree h ha]
      exact ⟨.inr ⟨v, valsC_mem hf (List.mem_of_find?_eq_some ha), rfl⟩, by dsimp only; omega, by dsimp only; omega⟩
    | none =>
      by_cases hn : (nearF f m 1).length = 1
      · rw [rep_near h ha hn]
        exact ⟨.inr ⟨_, (nearF_get ht.1 hn).2, rfl⟩, by dsimp only; omega, by dsimp only; omega⟩
      · rw [rep_none h ha hn]
        exact ⟨.inl rfl, by dsimp only; omega, by dsimp only; omega⟩
  · rw [rep_same h]; exact ⟨.inl rfl, by dsimp only; omega, by dsimp only; omega⟩
theorem put_ok (hf : fieldOK f) (hm : okM m = true) {v : Int} (hv : 0 ≤ v ∧ v ≤ topF f) : okM (putM f m v) = true := by
  refine okM_join (okM_sub hm fun i hi h => ?_) (okM_code hf hv)
  rw [bit_less _ _ hi, Bool.and_eq_true] at h
  exact h.1
theorem rep_ok (hf : fieldOK f) (hm : okM m = true) : okM (repS f m x).1 = true := by
  rcases (rep_cases hf m x).1 with h | ⟨v, hv, h⟩ <;> rw [h]
  · exact hm
  · exact put_ok hf hm hv
end
/-! ### Cards that are repaired -/
noncomputable def repM (s : List DField) (m : DMask) (x : List DMask) : Nat → DMask
  | 0 => m
  | z + 1 => match s[z]? with
    | some f => (repS f (repM s m x z) x).1
    | none => repM s m x z
noncomputable def repH (s : List DField) (m : DMask) (x : List DMask) (k : Nat) : Int := match s[k]? with
  | some f => (repS f (repM s m x k) x).2
  | none => 0
noncomputable def repW (s : List DField) (m : DMask) (x : List DMask) (z : Nat) : List Int := (List.range z).map (repH s m x)
section
variable {s : List DField} {m : DMask} {x : List DMask} {z : Nat} {f : DField}
theorem repM_next (hf : s[Int.toNat ((z : Nat) : Int)]? = some f) : (repS f (repM s m x z) x).1 = repM s m x (z + 1) := by
  rw [toN] at hf; rw [repM, hf]
theorem repH_at (hf : s[Int.toNat ((z : Nat) : Int)]? = some f) : repH s m x z = (repS f (repM s m x z) x).2 := by
  rw [toN] at hf; rw [repH, hf]
theorem repW_next (hf : s[Int.toNat ((z : Nat) : Int)]? = some f) : repW s m x z ++ [(repS f (repM s m x z) x).2] = repW s m x (z + 1) := by
  rw [repW, repW, List.range_succ, List.map_append, ← repH_at hf]; rfl
theorem repW_len : (repW s m x z).length = z := by rw [repW, List.length_map, List.length_range]
theorem repM_ok (hs : schemeOK s) (hm : okM m = true) : ∀ z, z ≤ s.length → okM (repM s m x z) = true
  | 0, _ => hm
  | z + 1, hz => by
    obtain ⟨f, h1, h2⟩ := schemeF hs (i := z) (by omega)
    rw [repM, h1]
    exact rep_ok h2 (repM_ok hs hm z (by omega))
end
noncomputable def repCS (s : List DField) (c : DCard) (x : List DCard) : DCard × List Int × Int := if (!(tt (schemeOK s)) || !(tt (cardOK c)) || !(tt (allL cardOK x))) = true then ((ByteArray.empty, zM), [], 1) else if 15 < x.length then ((ByteArray.empty, zM), [], 2) else ((c.1, repM s c.2 (x.map (·.2)) s.length), repW s c.2 (x.map (·.2)) s.length, 0)
section
variable {s : List DField} {c : DCard} {x : List DCard}
theorem repC_bad (h : (!(tt (schemeOK s)) || !(tt (cardOK c)) || !(tt (allL cardOK x))) = true) : repCS s c x = ((ByteArray.empty, zM), [], 1) := if_pos h
theorem repC_long (h : (!(tt (schemeOK s)) || !(tt (cardOK c)) || !(tt (allL cardOK x))) = false) (hl : 15 < x.length) : repCS s c x = ((ByteArray.empty, zM), [], 2) := by rw [repCS, if_neg (by rw [h]; decide), if_pos hl]
theorem repC_ok (h : (!(tt (schemeOK s)) || !(tt (cardOK c)) || !(tt (allL cardOK x))) = false) (hl : x.length ≤ 15) {z : Nat} (hz : s.length ≤ z) (hz' : z ≤ s.length) : repCS s c x = ((c.1, repM s c.2 (x.map (·.2)) z), repW s c.2 (x.map (·.2)) z, 0) := by
  obtain rfl : z = s.length := by omega
  rw [repCS, if_neg (by rw [h]; decide), if_neg (by omega)]
theorem repC_parts (h : (!(tt (schemeOK s)) || !(tt (cardOK c)) || !(tt (allL cardOK x))) = false) : schemeOK s ∧ cardOK c ∧ allL cardOK x := by
  rw [Bool.or_eq_false_iff, Bool.or_eq_false_iff, Bool.not_eq_false', Bool.not_eq_false', Bool.not_eq_false', tt_iff, tt_iff, tt_iff] at h
  exact ⟨h.1.1, h.1.2, h.2⟩
end
def okMP (m : DMask) : Prop := okM m = true
noncomputable def mskE (x : List DMask) : Int := if tt (allL okMP x) = true then (if 15 < x.length then 2 else 0) else 1
noncomputable def repFS (f : DField) (m : DMask) (x : List DMask) : DMask × Int × Int := if (!(tt (fieldOK f)) || !(okM m)) = true then (zM, 0, 1) else if mskE x ≠ 0 then (zM, 0, mskE x) else if (repS f m x).2 < 0 then (zM, 0, 4) else ((repS f m x).1, (repS f m x).2, 0)
section
variable {f : DField} {m : DMask} {x : List DMask}
theorem repF_bad (h : (!(tt (fieldOK f)) || !(okM m)) = true) : repFS f m x = (zM, 0, 1) := if_pos h
theorem tt_okMP : (!(okM m)) = (!(tt (okMP m))) := by
  congr 1
  refine (tt_eq ?_)
  rfl
theorem repF_one (h : (!(tt (fieldOK f)) || !(okM m) || !(tt (allL okMP x))) = true) : repFS f m x = (zM, 0, 1) := by
  by_cases h1 : (!(tt (fieldOK f)) || !(okM m)) = true
  · exact repF_bad h1
  · rw [Bool.or_eq_true] at h
    have h2 := h.resolve_left h1
    have h3 : mskE x = 1 := by rw [mskE, if_neg (by rw [Bool.not_eq_true'] at h2; rw [h2]; decide)]
    rw [repFS, if_neg h1, h3, if_pos (by decide)]
theorem repF_parts (h : (!(tt (fieldOK f)) || !(okM m) || !(tt (allL okMP x))) = false) : (!(tt (fieldOK f)) || !(okM m)) = false ∧ fieldOK f ∧ allL okMP x := by
  rw [Bool.or_eq_false_iff, Bool.not_eq_false', tt_iff] at h
  refine ⟨h.1, ?_, h.2⟩
  have h1 := h.1
  rw [Bool.or_eq_false_iff, Bool.not_eq_false', tt_iff] at h1
  exact h1.1
theorem repF_field (h : (!(tt (fieldOK f)) || !(okM m)) = false) : fieldOK f := by
  rw [Bool.or_eq_false_iff, Bool.not_eq_false', tt_iff] at h
  exact h.1
theorem repF_msk {e : Int} (h : (!(tt (fieldOK f)) || !(okM m)) = false) (he : e = mskE x) (h0 : e ≠ 0) : repFS f m x = (zM, 0, e) := by rw [repFS, if_neg (by rw [h]; decide), if_pos (by omega), he]
theorem repF_no (h : (!(tt (fieldOK f)) || !(okM m)) = false) (he : 0 = mskE x) (h0 : (repS f m x).2 < 0) : repFS f m x = (zM, 0, 4) := by rw [repFS, if_neg (by rw [h]; decide), if_neg (by omega), if_pos h0]
theorem repF_yes (h : (!(tt (fieldOK f)) || !(okM m)) = false) (he : 0 = mskE x) (h0 : ¬ (repS f m x).2 < 0) : repFS f m x = ((repS f m x).1, (repS f m x).2, 0) := by rw [repFS, if_neg (by rw [h]; decide), if_neg (by omega), if_neg h0]
theorem okP_iff {l : List DMask} {z : Nat} {a : DMask} (ha : l[Int.toNat ((z : Nat) : Int)]? = some a) : allI okMP l z ↔ okM a = true := allI_iff ha
theorem msk_one (h : ¬ allL okMP x) : 1 = mskE x := by rw [mskE, if_neg (by rw [tt_iff]; exact h)]
theorem msk_two (h : allL okMP x) (hl : 15 < x.length) : 2 = mskE x := by rw [mskE, if_pos (tt_iff.2 h), if_pos hl]
theorem msk_len (h : mskE x = 0) : x.length ≤ 15 := by
  unfold mskE at h
  split at h
  · split at h
    · cases h
    · omega
  · cases h
theorem msk_zero (h : allL okMP x) (hl : x.length ≤ 15) : 0 = mskE x := by rw [mskE, if_pos (tt_iff.2 h), if_neg (by omega)]
end
end Go.Proofs.YtmdiimhighlllaaGreatDoor.VL
