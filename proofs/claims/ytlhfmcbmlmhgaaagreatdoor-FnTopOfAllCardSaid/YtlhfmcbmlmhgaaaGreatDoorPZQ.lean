/- Proved here: queries that are drawn; what a law says of answers. Plain Lean. -/
import Derived.Test.YtlhfmcbmlmhgaaaGreatDoorPZT
import Derived.Test.YtlhfmcbmlmhgaaaGreatDoorBpa
set_option linter.unusedVariables false
set_option linter.unusedSimpArgs false
namespace Go.Proofs.YtlhfmcbmlmhgaaaGreatDoor.VL
open Go
/-! ### Queries that are drawn -/
/-! ### Rows that are set by fold -/
theorem fold_not {α : Type} (k : α → Nat) (f : α → Bool) {i : Nat} : ∀ (l : List α) (r : List Bool), (∀ a ∈ l, k a ≠ i) → (l.foldl (fun r a => r.set (k a) (f a)) r)[i]? = r[i]?
  | [], r, _ => rfl
  | a :: l, r, h => by
    rw [List.foldl_cons, fold_not k f l _ fun b hb => h b (List.mem_cons_of_mem _ hb), List.getElem?_set_ne (h a (List.mem_cons_self ..))]
theorem fold_at {α : Type} (k : α → Nat) (f : α → Bool) {i : Nat} {a : α} : ∀ (l : List α) (r : List Bool), (l.map k).Nodup → a ∈ l → k a = i → i < r.length → (l.foldl (fun r a => r.set (k a) (f a)) r)[i]? = some (f a)
  | [], r, _, h, _, _ => by cases h
  | b :: l, r, hn, h, hk, hl => by
    rw [List.map_cons, List.nodup_cons] at hn
    rw [List.foldl_cons]
    by_cases hb : a ∈ l
    · exact fold_at k f l _ hn.2 hb hk (by rw [List.length_set]; exact hl)
    · have e : a = b := by
        cases h with
        | head => rfl
        | tail _ h => exact absurd h hb
      subst e
      rw [fold_not k f l _ fun c hc e => hn.1 (by rw [hk, ← e]; exact List.mem_map_of_mem hc)]
      rw [hk, List.getElem?_set_self hl]
/-! ### Answers in order -/
def upI (n : Int) (l : List Int) : Prop := l.Pairwise (· < ·) ∧ ∀ c ∈ l, 0 ≤ c ∧ c < n
theorem upI_ord {α : Type} {g : α → Int} {n : Int} {l : List α} (h : upI n (l.map g)) (i : Nat) (hi : i < l.length) : ordF g n l i := by
  have hg := List.getElem?_eq_getElem hi
  have hr := h.2 (g l[i]) (List.mem_map_of_mem (List.getElem_mem hi))
  refine ⟨l[i], hg, hr.1, hr.2, fun h0 => ⟨l[i - 1], List.getElem?_eq_getElem (by omega), ?_⟩⟩
  have := h.1
  rw [List.pairwise_map, List.pairwise_iff_getElem] at this
  exact this (i - 1) i (by omega) hi (by omega)
theorem upI_nodup {n : Int} {l : List Int} (h : upI n l) : l.Nodup := h.1.imp fun h e => by omega
theorem upI_nat {n : Int} {l : List Int} (h : upI n l) : (l.map Int.toNat).Nodup := by
  rw [List.Nodup, List.pairwise_map]
  refine List.Pairwise.imp_of_mem ?_ h.1
  intro a b ha hb hab
  have h1 := h.2 a ha
  have h2 := h.2 b hb
  omega
theorem once_of {x : List DCard} {q : DQuery} {ids : List Int} {ws : List (Int × Int)} (hi : upI (x.length : Int) ids) (hw : upI (x.length : Int) (ws.map (·.1))) (hd : ∀ c ∈ ids, c ∉ ws.map (·.1)) {i : Nat} (hil : i < x.length) :
    onceI x (q, ids, ws) i ↔ ((i : Int) ∈ ids ∧ dropsQ q (mAt x (i : Int)) = true) ∨ ∃ w ∈ ws, w.1 = (i : Int) ∧ (inb w.2 0 95 && showsQ q (mAt x w.1) w.2) = true := by
  have hc : (tmS x ids ws)[i]? = some ((ids.count (i : Int) + (ws.map (·.1)).count (i : Int) : Nat) : Int) := by
    have := cntL_get (b := 0) (n := x.length) (l := ids ++ ws.map (·.1)) (a := (i : Int)) (by omega)
    rw [toN] at this
    rw [tmS, this, List.count_append]
    simp
  have hra : (rtA q x ids).length = x.length := rtA_len q x ids
  have eA : rtA q x ids = ids.foldl (fun r c => r.set (Int.toNat c) (dropsQ q (mAt x c))) (List.replicate x.length false) := rfl
  have eB : rtB q x ids ws = ws.foldl (fun r w => r.set (Int.toNat w.1) (inb w.2 0 95 && showsQ q (mAt x w.1) w.2)) (rtA q x ids) := rfl
  have nw : (ws.map fun w => Int.toNat w.1).Nodup := by
    have := upI_nat hw
    rwa [List.map_map] at this
  unfold onceI
  show ((tmS x ids ws)[i]? = some 1 ∧ (rtB q x ids ws)[i]? = some true) ↔ _
  rw [hc, eB]
  by_cases h1 : (i : Int) ∈ ids
  · have h2 := hd _ h1
    have e1 : ids.count (i : Int) = 1 := by
      have := (List.nodup_iff_count.1 (upI_nodup hi)) (i : Int)
      have := List.count_pos_iff.2 h1
      omega
    have e2 : (ws.map (·.1)).count (i : Int) = 0 := List.count_eq_zero.2 h2
    rw [fold_not _ _ ws _ fun w hw' e => h2 (by
      have hr := hw.2 w.1 (List.mem_map_of_mem hw')
      have : w.1 = (i : Int) := by omega
      rw [← this]; exact List.mem_map_of_mem hw')]
    rw [eA, fold_at (a := (i : Int)) _ _ ids _ (upI_nat hi) h1 (by omega) (by simpa using hil), e1, e2]
    constructor
    · rintro ⟨_, h⟩
      exact .inl ⟨h1, Option.some.inj h⟩
    · rintro (⟨_, h⟩ | ⟨w, hw', h3, h4⟩)
      · exact ⟨rfl, by rw [h]⟩
      · exact absurd (by rw [← h3]; exact List.mem_map_of_mem hw') h2
  · have e1 : ids.count (i : Int) = 0 := List.count_eq_zero.2 h1
    rw [e1]
    by_cases h2 : (i : Int) ∈ ws.map (·.1)
    · obtain ⟨w, hw', e⟩ := List.mem_map.1 h2
      have e2 : (ws.map (·.1)).count (i : Int) = 1 := by
        have := (List.nodup_iff_count.1 (upI_nodup hw)) (i : Int)
        have := List.count_pos_iff.2 h2
        omega
      rw [e2, fold_at (a := w) _ _ ws _ nw hw' (by omega) (by omega)]
      constructor
      · rintro ⟨_, h⟩
        exact .inr ⟨w, hw', e, Option.some.inj h⟩
      · rintro (⟨h, _⟩ | ⟨v, hv, h3, h4⟩)
        · exact absurd h h1
        · refine ⟨rfl, ?_⟩
          have hwv : v = w := by
            have hp := hw.1
            obtain ⟨a, ha⟩ := List.mem_iff_getElem?.1 hv
            obtain ⟨b, hb⟩ := List.mem_iff_getElem?.1 hw'
            obtain ⟨ha1, ha2⟩ := List.getElem?_eq_some_iff.1 ha
            obtain ⟨hb1, hb2⟩ := List.getElem?_eq_some_iff.1 hb
            rw [List.pairwise_map, List.pairwise_iff_getElem] at hp
            rcases Nat.lt_trichotomy a b with h | h | h
            · have := hp a b ha1 hb1 h; rw [ha2, hb2] at this; omega
            · subst h; rw [ha] at hb; exact Option.some.inj hb
            · have := hp b a hb1 ha1 h; rw [ha2, hb2] at this; omega
          rw [← hwv, h4]
    · have e2 : (ws.map (·.1)).count (i : Int) = 0 := List.count_eq_zero.2 h2
      rw [e2]
      constructor
      · rintro ⟨h, _⟩; exact absurd (Option.some.inj h) (by decide)
      · rintro (⟨h, _⟩ | ⟨w, hw', h3, _⟩)
        · exact absurd h h1
        · exact absurd (by rw [← h3]; exact List.mem_map_of_mem hw') h2
section
variable {x : List DCard} {q : DQuery} {ids : List Int} {ws : List (Int × Int)}
theorem fault_all (hi : upI (x.length : Int) ids) (hw : upI (x.length : Int) (ws.map (·.1))) (h : ∀ i, i < x.length → onceI x (q, ids, ws) i) : faultS x (q, ids, ws) = -2 :=
  (flt_end (v := (q, ids, ws)) (z := x.length) (fun i h => upI_ord (g := fun c => c) (by rw [List.map_id']; exact hi) i h) (fun i h => upI_ord hw i h) h (Nat.le_refl _)).symm
end
/-! ### The answer that is made -/
section
variable {x : List DCard} {q : DQuery}
theorem mem_hits {a : Int} : ∀ {z : Nat}, z ≤ x.length → (a ∈ hitsP q x z ↔ ∃ i : Nat, a = (i : Int) ∧ i < z ∧ dropsQ q (mAt x (i : Int)) = true)
  | 0, _ => by simp [hitsP]
  | z + 1, hz => by
    have ih := mem_hits (a := a) (z := z) (by omega)
    obtain ⟨e, he⟩ := getI (x := x) (z := z) (by omega)
    have hm := mAt_eq he
    by_cases hd : dropsQ q e.2 = true
    · rw [← hits_yes he hd, List.mem_append, ih, List.mem_singleton]
      constructor
      · rintro (⟨i, h1, h2, h3⟩ | h)
        · exact ⟨i, h1, by omega, h3⟩
        · exact ⟨z, h, by omega, by rw [hm]; exact hd⟩
      · rintro ⟨i, h1, h2, h3⟩
        by_cases h4 : i = z
        · right; rw [h1, h4]
        · exact .inl ⟨i, h1, by omega, h3⟩
    · rw [← hits_no he (Bool.eq_false_iff.2 hd), ih]
      constructor
      · rintro ⟨i, h1, h2, h3⟩; exact ⟨i, h1, by omega, h3⟩
      · rintro ⟨i, h1, h2, h3⟩
        have h4 : i ≠ z := fun h => by subst h; rw [hm] at h3; exact hd h3
        exact ⟨i, h1, by omega, h3⟩
theorem mem_wits {w : Int × Int} : ∀ {z : Nat}, z ≤ x.length → (w ∈ witsP q x z ↔ ∃ i : Nat, w = ((i : Int), (firstW q (mAt x (i : Int)) : Int)) ∧ i < z ∧ dropsQ q (mAt x (i : Int)) = false)
  | 0, _ => by simp [witsP]
  | z + 1, hz => by
    have ih := mem_wits (w := w) (z := z) (by omega)
    obtain ⟨e, he⟩ := getI (x := x) (z := z) (by omega)
    have hm := mAt_eq he
    cases hd : dropsQ q e.2 with
    | false =>
      rw [← wits_no he hd rfl, List.mem_append, ih, List.mem_singleton]
      constructor
      · rintro (⟨i, h1, h2, h3⟩ | h)
        · exact ⟨i, h1, by omega, h3⟩
        · exact ⟨z, by rw [hm]; exact h, by omega, by rw [hm]; exact hd⟩
      · rintro ⟨i, h1, h2, h3⟩
        by_cases h4 : i = z
        · right; subst h4; rw [hm] at h1; exact h1
        · exact .inl ⟨i, h1, by omega, h3⟩
    | true =>
      rw [← wits_yes he hd, ih]
      constructor
      · rintro ⟨i, h1, h2, h3⟩; exact ⟨i, h1, by omega, h3⟩
      · rintro ⟨i, h1, h2, h3⟩
        have h4 : i ≠ z := fun h => by subst h; rw [hm, hd] at h3; cases h3
        exact ⟨i, h1, by omega, h3⟩
theorem hits_up : ∀ {z : Nat}, z ≤ x.length → (hitsP q x z).Pairwise (· < ·)
  | 0, _ => by simp [hitsP]
  | z + 1, hz => by
    have ih := hits_up (z := z) (by omega)
    obtain ⟨e, he⟩ := getI (x := x) (z := z) (by omega)
    cases hd : dropsQ q e.2 with
    | true =>
      rw [← hits_yes he hd, List.pairwise_append]
      refine ⟨ih, by simp, fun a ha b hb => ?_⟩
      obtain ⟨i, h1, h2, _⟩ := (mem_hits (by omega)).1 ha
      rw [List.mem_singleton] at hb
      omega
    | false => rw [← hits_no he hd]; exact ih
theorem wits_up : ∀ {z : Nat}, z ≤ x.length → ((witsP q x z).map (·.1)).Pairwise (· < ·)
  | 0, _ => by simp [witsP]
  | z + 1, hz => by
    have ih := wits_up (z := z) (by omega)
    obtain ⟨e, he⟩ := getI (x := x) (z := z) (by omega)
    cases hd : dropsQ q e.2 with
    | false =>
      rw [← wits_no he hd rfl, List.map_append, List.pairwise_append]
      refine ⟨ih, by simp, fun a ha b hb => ?_⟩
      obtain ⟨w, hw, e1⟩ := List.mem_map.1 ha
      obtain ⟨i, h1, h2, _⟩ := (mem_wits (by omega)).1 hw
      rw [List.map_cons, List.map_nil, List.mem_singleton] at hb
      rw [h1] at e1
      simp only [] at e1 hb
      omega
    | true => rw [← wits_yes he hd]; exact ih
theorem count_two : ∀ {z : Nat}, z ≤ x.length → (hitsP q x z).length + (witsP q x z).length = z
  | 0, _ => by simp [hitsP, witsP]
  | z + 1, hz => by
    have ih := count_two (z := z) (by omega)
    obtain ⟨e, he⟩ := getI (x := x) (z := z) (by omega)
    cases hd : dropsQ q e.2 with
    | false => rw [← hits_no he hd, ← wits_no he hd rfl, List.length_append]; simp only [List.length_cons, List.length_nil]; omega
    | true => rw [← hits_yes he hd, ← wits_yes he hd, List.length_append]; simp only [List.length_cons, List.length_nil]; omega
theorem hits_upI : upI (x.length : Int) (hitsP q x x.length) := ⟨hits_up (Nat.le_refl _), fun c hc => by
  obtain ⟨i, h1, h2, _⟩ := (mem_hits (Nat.le_refl _)).1 hc
  omega⟩
theorem wits_upI : upI (x.length : Int) ((witsP q x x.length).map (·.1)) := ⟨wits_up (Nat.le_refl _), fun c hc => by
  obtain ⟨w, hw, e⟩ := List.mem_map.1 hc
  obtain ⟨i, h1, h2, _⟩ := (mem_wits (Nat.le_refl _)).1 hw
  rw [h1] at e
  simp only [] at e
  omega⟩
theorem hits_wits {c : Int} (h : c ∈ hitsP q x x.length) : c ∉ (witsP q x x.length).map (·.1) := fun hc => by
  obtain ⟨i, h1, h2, h3⟩ := (mem_hits (Nat.le_refl _)).1 h
  obtain ⟨w, hw, e⟩ := List.mem_map.1 hc
  obtain ⟨j, h4, h5, h6⟩ := (mem_wits (Nat.le_refl _)).1 hw
  rw [h4] at e
  simp only [] at e
  have : i = j := by omega
  subst this
  rw [h3] at h6; cases h6
theorem wit_ok (hq : queryOK q = true) {m : DMask} (h : dropsQ q m = false) : (inb (firstW q m : Int) 0 95 && showsQ q m (firstW q m : Int)) = true := by
  obtain ⟨y, h1, h2⟩ := drops_not hq h
  have h3 : ∃ k, (List.range 96).find? (fun (h : Nat) => showsQ q m (h : Int)) = some k := by
    rw [← Option.isSome_iff_exists, List.find?_isSome]
    exact ⟨y, by simpa using h1, h2⟩
  obtain ⟨k, hk⟩ := h3
  have e : firstW q m = k := by rw [firstW, hk]; rfl
  have h4 := List.find?_some hk
  have h5 := List.mem_of_find?_eq_some hk
  rw [List.mem_range] at h5
  rw [e, h4, Bool.and_true]
  simp only [inb, Bool.and_eq_true, decide_eq_true_eq]; omega
end
theorem ans_all {x : List DCard} {q : DQuery} (hq : queryOK q = true) : faultS x (ansR q x x.length) = -2 := by
  refine fault_all hits_upI wits_upI fun i hi => (once_of hits_upI wits_upI (fun c hc => hits_wits hc) hi).2 ?_
  cases hd : dropsQ q (mAt x (i : Int)) with
  | true => exact .inl ⟨(mem_hits (Nat.le_refl _)).2 ⟨i, rfl, hi, hd⟩, rfl⟩
  | false => exact .inr ⟨_, (mem_wits (Nat.le_refl _)).2 ⟨i, rfl, hi, hd⟩, rfl, wit_ok hq hd⟩
/-! ### What the law says -/
theorem mkA_small (x : List DCard) (q : DQuery) : (mkA x q).1.2.1.length ≤ 1048576 ∧ (mkA x q).1.2.2.length ≤ 1048576 := by have := mkA_len x q; omega
section
variable {x : List DCard} {q : DQuery}
theorem ok_two (hx : deckOK x) (hq : queryOK q = true) : (!(tt (deckOK x)) || !(queryOK q)) = false := by rw [tt_iff.2 hx, hq]; rfl
theorem ans_law (hx : deckOK x) (hq : queryOK q = true) : mkA x q = (ansR q x x.length, 0) ∧ checkA x (ansR q x x.length) = (true, 0) ∧ firstA x (ansR q x x.length) = (0, 6) ∧ (((hitsP q x x.length).length : Nat) : Int) + (((witsP q x x.length).length : Nat) : Int) = (x.length : Int) := by
  refine ⟨mkA_yes (ok_two hx hq), ?_, firstA_all (ok_two hx hq) (ans_all hq), ?_⟩
  · rw [checkA_yes (v := ansR q x x.length) (ok_two hx hq), ans_all hq]; rfl
  · have := count_two (x := x) (q := q) (Nat.le_refl x.length); omega
end
end Go.Proofs.YtlhfmcbmlmhgaaaGreatDoor.VL
