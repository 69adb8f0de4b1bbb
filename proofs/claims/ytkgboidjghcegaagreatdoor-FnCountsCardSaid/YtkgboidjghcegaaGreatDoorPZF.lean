/- Proved here: values that go with one alone. Plain Lean. -/
import Derived.Test.YtkgboidjghcegaaGreatDoorBpa
import Derived.Test.YtkgboidjghcegaaGreatDoorVLM
set_option linter.unusedVariables false
set_option linter.unusedSimpArgs false
namespace Go.Proofs.YtkgboidjghcegaaGreatDoor.VL
open Go
noncomputable def fnC (f g : DField) (ms : List DMask) : Prop := ∀ a ∈ ms, ∀ b ∈ ms, valIn f a = valIn f b → valIn g a = valIn g b
/-! ### Maps -/
theorem getL_set (k x : Int) : ∀ (l : List (Int × Int)) (k' : Int), getL (setL l k x) k' = if k' = k then some x else getL l k'
  | [], k' => by
    by_cases h : k' = k
    · subst h; simp [setL, getL, findAt]
    · have h2 : ¬ k = k' := fun e => h e.symm
      simp [setL, getL, findAt, h, h2]
  | p :: r, k' => by
    have ih := getL_set k x r k'
    by_cases hp : p.1 = k
    · have e : setL (p :: r) k x = (k, x) :: r := by simp [setL, findAt, hp]
      rw [e]
      by_cases h : k' = k
      · subst h; simp [getL, findAt]
      · have h2 : ¬ k = k' := fun e => h e.symm
        have h3 : ¬ p.1 = k' := fun e => h (e.symm.trans hp)
        simp [getL, findAt, h, h2, h3]
    · have e : setL (p :: r) k x = p :: setL r k x := by
        unfold setL
        rw [findAt, if_neg hp]
        cases findAt r k with
        | none => rfl
        | some q => rfl
      rw [e]
      have g2 : ∀ l, getL (p :: l) k' = if p.1 = k' then some p.2 else getL l k' := fun l => by
        unfold getL
        rw [findAt]
        split
        · rfl
        · rw [Option.map_map]; rfl
      rw [g2, g2, ih]
      by_cases h3 : p.1 = k'
      · have h : ¬ k' = k := fun e => hp (h3.trans e)
        rw [if_pos h3, if_neg h, if_pos h3]
      · rw [if_neg h3, if_neg h3]
noncomputable def mpF (f g : DField) (l : List (Int × Int)) (m : DMask) : List (Int × Int) := setL l (valIn f m) (valIn g m)
noncomputable def mpL (f g : DField) (ms : List DMask) : List (Int × Int) := ms.foldl (mpF f g) []
theorem mpL_snoc (f g : DField) (ms : List DMask) (m : DMask) : mpL f g (ms ++ [m]) = setL (mpL f g ms) (valIn f m) (valIn g m) := by
  rw [mpL, List.foldl_append]; rfl
theorem fnC_app {f g : DField} {ms : List DMask} {m : DMask} (h : fnC f g (ms ++ [m])) : fnC f g ms := fun a ha b hb => h a (by simp [ha]) b (by simp [hb])
theorem mpL_get (f g : DField) (ms : List DMask) : fnC f g ms → ∀ p q, getL (mpL f g ms) p = some q ↔ ∃ m ∈ ms, valIn f m = p ∧ valIn g m = q := by
  refine rev_ind (p := fun ms => fnC f g ms → ∀ p q, getL (mpL f g ms) p = some q ↔ ∃ m ∈ ms, valIn f m = p ∧ valIn g m = q) (fun _ p q => by simp [mpL, getL, findAt]) (fun l m ih h p q => ?_) ms
  rw [mpL_snoc, getL_set]
  by_cases e : p = valIn f m
  · rw [if_pos e]
    constructor
    · intro hq
      obtain rfl := Option.some.inj hq
      exact ⟨m, by simp, e.symm, rfl⟩
    · rintro ⟨b, hb, h1, h2⟩
      rw [h m (by simp) b hb (by rw [h1, e]), h2]
  · rw [if_neg e, ih (fnC_app h)]
    constructor
    · rintro ⟨b, hb, h1⟩
      exact ⟨b, by simp [hb], h1⟩
    · rintro ⟨b, hb, h1, h2⟩
      rcases List.mem_append.1 hb with hb | hb
      · exact ⟨b, hb, h1, h2⟩
      · rw [List.mem_singleton] at hb; subst hb; exact absurd h1.symm e
section
variable {f g : DField} {x : List DCard} {z : Nat} {e : DCard}
theorem mp_take (he : x[Int.toNat ((z : Nat) : Int)]? = some e) : (x.take z).map (·.2) ++ [e.2] = (x.take (z + 1)).map (·.2) := map_more (f := fun d : DCard => d.2) he
/-- Another value is known. -/
theorem fn_no (h : fnC f g ((x.take z).map (·.2))) (he : x[Int.toNat ((z : Nat) : Int)]? = some e) (hk : ((getL (mpL f g ((x.take z).map (·.2))) (valIn f e.2)).isSome && (getL (mpL f g ((x.take z).map (·.2))) (valIn f e.2)).getD 0 != valIn g e.2) = true) : ¬ fnC f g (x.map (·.2)) := fun hf => by
  rw [Bool.and_eq_true] at hk
  cases hg : getL (mpL f g ((x.take z).map (·.2))) (valIn f e.2) with
  | none => rw [hg] at hk; cases hk.1
  | some q =>
    rw [hg] at hk
    obtain ⟨m, hm, h1, h2⟩ := (mpL_get f g _ h _ _).1 hg
    have hm2 : m ∈ x.map (·.2) := by
      obtain ⟨c, hc, rfl⟩ := List.mem_map.1 hm
      exact List.mem_map_of_mem (List.mem_of_mem_take hc)
    have h3 := hf m hm2 e.2 (List.mem_map_of_mem (List.mem_of_getElem? he)) h1
    have h4 := hk.2
    rw [show (some q).getD 0 = q from rfl, ← h2, h3] at h4
    simp at h4
theorem fn_step (h : fnC f g ((x.take z).map (·.2))) (he : x[Int.toNat ((z : Nat) : Int)]? = some e) (hk : ((getL (mpL f g ((x.take z).map (·.2))) (valIn f e.2)).isSome && (getL (mpL f g ((x.take z).map (·.2))) (valIn f e.2)).getD 0 != valIn g e.2) = false) : fnC f g ((x.take (z + 1)).map (·.2)) := by
  rw [← mp_take he]
  have key : ∀ m ∈ (x.take z).map (·.2), valIn f m = valIn f e.2 → valIn g m = valIn g e.2 := fun m hm h1 => by
    have hg := (mpL_get f g _ h (valIn f e.2) (valIn g m)).2 ⟨m, hm, h1, rfl⟩
    rw [hg] at hk
    simpa using hk
  intro a ha b hb hab
  rcases List.mem_append.1 ha with ha | ha <;> rcases List.mem_append.1 hb with hb | hb
  · exact h a ha b hb hab
  · rw [List.mem_singleton] at hb; subst hb; exact key a ha hab
  · rw [List.mem_singleton] at ha; subst ha; exact (key b hb hab.symm).symm
  · rw [List.mem_singleton] at ha hb; subst ha; subst hb; rfl
theorem mp_next (he : x[Int.toNat ((z : Nat) : Int)]? = some e) : setL (mpL f g ((x.take z).map (·.2))) (valIn f e.2) (valIn g e.2) = mpL f g ((x.take (z + 1)).map (·.2)) := by
  rw [← mp_take he, mpL_snoc]
end
/-! ### Cross tables -/
def celT (c d : DCell) : Prop := c.1 < d.1 ∨ c.1 = d.1 ∧ c.2.1 < d.2.1
theorem cnt2_mem {a b : Int} : ∀ {l : List DCell} {p q : Int}, (∃ c ∈ cnt2 a b l, c.1 = p ∧ c.2.1 = q) ↔ (p = a ∧ q = b) ∨ ∃ c ∈ l, c.1 = p ∧ c.2.1 = q
  | [], p, q => by
    simp only [cnt2, List.mem_singleton, exists_eq_left, List.not_mem_nil, false_and, exists_false, or_false]
    exact ⟨fun h => ⟨h.1.symm, h.2.symm⟩, fun h => ⟨h.1.symm, h.2.symm⟩⟩
  | d :: r, p, q => by
    have ih := cnt2_mem (a := a) (b := b) (l := r) (p := p) (q := q)
    rw [cnt2]
    split
    · constructor
      · rintro ⟨c, hc, h⟩
        rcases List.mem_cons.1 hc with rfl | hc
        · exact .inr ⟨c, List.mem_cons_self .., h⟩
        · rcases ih.1 ⟨c, hc, h⟩ with h1 | ⟨c', h1, h2⟩
          · exact .inl h1
          · exact .inr ⟨c', List.mem_cons_of_mem _ h1, h2⟩
      · rintro (h | ⟨c, hc, h⟩)
        · obtain ⟨c, h1, h2⟩ := ih.2 (.inl h)
          exact ⟨c, List.mem_cons_of_mem _ h1, h2⟩
        · rcases List.mem_cons.1 hc with rfl | hc
          · exact ⟨c, List.mem_cons_self .., h⟩
          · obtain ⟨c', h1, h2⟩ := ih.2 (.inr ⟨c, hc, h⟩)
            exact ⟨c', List.mem_cons_of_mem _ h1, h2⟩
    · split
      · rename_i h0
        constructor
        · rintro ⟨c, hc, h⟩
          rcases List.mem_cons.1 hc with rfl | hc
          · exact .inl ⟨h.1.symm, h.2.symm⟩
          · exact .inr ⟨c, List.mem_cons_of_mem _ hc, h⟩
        · rintro (h | ⟨c, hc, h⟩)
          · exact ⟨_, List.mem_cons_self .., h.1.symm, h.2.symm⟩
          · rcases List.mem_cons.1 hc with rfl | hc
            · exact ⟨_, List.mem_cons_self .., by rw [← h.1]; exact h0.1.symm, by rw [← h.2]; exact h0.2.symm⟩
            · exact ⟨c, List.mem_cons_of_mem _ hc, h⟩
      · constructor
        · rintro ⟨c, hc, h⟩
          rcases List.mem_cons.1 hc with rfl | hc
          · exact .inl ⟨h.1.symm, h.2.symm⟩
          · exact .inr ⟨c, hc, h⟩
        · rintro (h | ⟨c, hc, h⟩)
          · exact ⟨_, List.mem_cons_self .., h.1.symm, h.2.symm⟩
          · exact ⟨c, List.mem_cons_of_mem _ hc, h⟩
theorem cnt2_sort {a b : Int} : ∀ {l : List DCell}, l.Pairwise celT → (cnt2 a b l).Pairwise celT
  | [], _ => by simp [cnt2]
  | d :: r, h => by
    rw [List.pairwise_cons] at h
    have ih := cnt2_sort (a := a) (b := b) h.2
    rw [cnt2]
    split
    · rename_i h0
      rw [List.pairwise_cons]
      refine ⟨fun c hc => ?_, ih⟩
      rcases cnt2_mem.1 ⟨c, hc, rfl, rfl⟩ with ⟨h1, h2⟩ | ⟨c', h1, h2, h3⟩
      · unfold celT; unfold cellL at h0; rw [h1, h2]; exact h0
      · have := h.1 c' h1
        unfold celT at this ⊢
        omega
    · split
      · rename_i h0
        rw [List.pairwise_cons]
        refine ⟨fun c hc => ?_, h.2⟩
        have := h.1 c hc
        unfold celT at this ⊢
        simp only []
        omega
      · rename_i h1 h2
        rw [List.pairwise_cons, List.pairwise_cons]
        have hd : celT (a, b, 1) d := by unfold celT; unfold cellL at h1; simp only []; omega
        refine ⟨fun c hc => ?_, h⟩
        rcases List.mem_cons.1 hc with rfl | hc
        · exact hd
        · have := h.1 c hc
          unfold celT at this hd ⊢
          simp only [] at hd ⊢
          omega
theorem crs_sort (f g : DField) (ms : List DMask) : (crs f g ms).Pairwise celT := by
  refine rev_ind (p := fun ms => (crs f g ms).Pairwise celT) (by simp [crs]) (fun l m ih => ?_) ms
  rw [crs_snoc]; exact cnt2_sort ih
theorem crs_mem (f g : DField) (ms : List DMask) : ∀ p q, (∃ c ∈ crs f g ms, c.1 = p ∧ c.2.1 = q) ↔ ∃ m ∈ ms, valIn f m = p ∧ valIn g m = q := by
  refine rev_ind (p := fun ms => ∀ p q, (∃ c ∈ crs f g ms, c.1 = p ∧ c.2.1 = q) ↔ ∃ m ∈ ms, valIn f m = p ∧ valIn g m = q) (fun p q => by simp [crs]) (fun l m ih p q => ?_) ms
  rw [crs_snoc, cnt2_mem, ih]
  constructor
  · rintro (h | ⟨b, hb, h⟩)
    · exact ⟨m, by simp, h.1.symm, h.2.symm⟩
    · exact ⟨b, by simp [hb], h⟩
  · rintro ⟨b, hb, h⟩
    rcases List.mem_append.1 hb with hb | hb
    · exact .inr ⟨b, hb, h⟩
    · rw [List.mem_singleton] at hb; subst hb; exact .inl ⟨h.1.symm, h.2.symm⟩
/-! ### What both return -/
def fldA (s : List DField) (i : Int) : DField := s.getD i.toNat (ByteArray.empty, 0, 0, 0)
theorem fldA_get {s : List DField} {i : Int} (h : 0 ≤ i ∧ i < s.length) : s[Int.toNat i]? = some (fldA s i) := by
  rw [fldA, List.getD_eq_getElem?_getD, List.getElem?_eq_getElem (by omega)]; rfl
noncomputable def crsS (s : List DField) (x : List DCard) (i j : Int) : List DCell × Int := if tabF s x [i, j] = 0 then (crs (fldA s i) (fldA s j) (x.map (·.2)), 0) else ([], tabF s x [i, j])
noncomputable def flwS (s : List DField) (x : List DCard) (i j : Int) : Bool × Int := if tabF s x [i, j] = 0 then (tt (fnC (fldA s i) (fldA s j) (x.map (·.2))), 0) else (false, tabF s x [i, j])
section
variable {s : List DField} {x : List DCard} {i j : Int}
theorem crs_no (h : tabF s x [i, j] ≠ 0) : crsS s x i j = ([], tabF s x [i, j]) := if_neg h
theorem crs_yes (h : tabF s x [i, j] = 0) : crsS s x i j = (crs (fldA s i) (fldA s j) (x.map (·.2)), 0) := if_pos h
theorem flw_no (h : tabF s x [i, j] ≠ 0) : flwS s x i j = (false, tabF s x [i, j]) := if_neg h
theorem flw_yes (h : tabF s x [i, j] = 0) : flwS s x i j = (tt (fnC (fldA s i) (fldA s j) (x.map (·.2))), 0) := if_pos h
end
end Go.Proofs.YtkgboidjghcegaaGreatDoor.VL
