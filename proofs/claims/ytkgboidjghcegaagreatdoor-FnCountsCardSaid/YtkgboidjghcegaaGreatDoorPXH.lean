/- Proved here: a table that a map counts, put in order, is the cross table. Plain Lean. -/
import Derived.Test.YtkgboidjghcegaaGreatDoorPZF
set_option linter.unusedVariables false
set_option linter.unusedSimpArgs false
namespace Go.Proofs.YtkgboidjghcegaaGreatDoor.VL
open Go
abbrev DPar := (Int × Int) × Int
def findP : List DPar → Int × Int → Option (Nat × Int)
  | [], _ => none
  | p :: r, k => if p.1 = k then some (0, p.2) else (findP r k).map fun q => (q.1 + 1, q.2)
def gtP (l : List DPar) (k : Int × Int) : Option Int := (findP l k).map (·.2)
def stP (l : List DPar) (k : Int × Int) (x : Int) : List DPar := match findP l k with
  | some q => l.set q.1 (k, x)
  | none => l ++ [(k, x)]
def incP (l : List DPar) (k : Int × Int) : List DPar := stP l k ((gtP l k).getD 0 + 1)
def celP (e : DPar) : DCell := (e.1.1, e.1.2, e.2)
theorem findP_get : ∀ {l : List DPar} {k : Int × Int} {q : Nat × Int}, findP l k = some q → l[q.1]? = some (k, q.2)
  | [], k, q, h => by cases h
  | p :: r, k, q, h => by
    rw [findP] at h
    split at h
    · rename_i e
      obtain rfl := Option.some.inj h
      subst e; rfl
    · cases hr : findP r k with
      | none => rw [hr] at h; cases h
      | some q' =>
        rw [hr] at h
        obtain rfl := Option.some.inj h
        show r[q'.1]? = some (k, q'.2)
        exact findP_get hr
theorem findP_none : ∀ {l : List DPar} {k : Int × Int}, findP l k = none → ∀ e ∈ l, e.1 ≠ k
  | [], k, _, e, h => by cases h
  | p :: r, k, h, e, he => by
    rw [findP] at h
    split at h
    · cases h
    · rename_i hn
      rcases List.mem_cons.1 he with rfl | he
      · exact hn
      · refine findP_none ?_ e he
        cases hr : findP r k with
        | none => rfl
        | some q => rw [hr] at h; cases h
theorem perm_at {α : Type} {l : List α} {i : Nat} {a : α} (h : l[i]? = some a) : l.Perm (a :: l.eraseIdx i) := by
  obtain ⟨hi, rfl⟩ := List.getElem?_eq_some_iff.1 h
  rw [List.eraseIdx_eq_take_drop_succ]
  have h1 : l = l.take i ++ l[i] :: l.drop (i + 1) := by rw [← List.drop_eq_getElem_cons hi, List.take_append_drop]
  conv => lhs; rw [h1]
  exact List.perm_middle
theorem perm_set {α : Type} {l : List α} {i : Nat} {a b : α} (h : l[i]? = some a) : (l.set i b).Perm (b :: l.eraseIdx i) := by
  obtain ⟨hi, rfl⟩ := List.getElem?_eq_some_iff.1 h
  rw [List.eraseIdx_eq_take_drop_succ, List.set_eq_take_append_cons_drop, if_pos hi]
  exact List.perm_middle
theorem cnt2_perm {a b : Int} : ∀ {S : List DCell}, S.Pairwise celT → (∃ n S', S.Perm ((a, b, n) :: S') ∧ (cnt2 a b S).Perm ((a, b, n + 1) :: S')) ∨ ((∀ c ∈ S, ¬ (c.1 = a ∧ c.2.1 = b)) ∧ (cnt2 a b S).Perm ((a, b, 1) :: S))
  | [], _ => .inr ⟨fun _ h => (by cases h), List.Perm.refl _⟩
  | d :: r, h => by
    have hp := List.pairwise_cons.1 h
    rw [cnt2]
    split
    · rename_i h0
      rcases cnt2_perm (a := a) (b := b) hp.2 with ⟨n, S', h1, h2⟩ | ⟨h1, h2⟩
      · exact .inl ⟨n, d :: S', (h1.cons d).trans (List.Perm.swap _ _ _), (h2.cons d).trans (List.Perm.swap _ _ _)⟩
      · refine .inr ⟨fun c hc => ?_, (h2.cons d).trans (List.Perm.swap _ _ _)⟩
        rcases List.mem_cons.1 hc with e | hc'
        · subst e; unfold cellL at h0; omega
        · exact h1 c hc'
    · split
      · rename_i h0
        refine .inl ⟨d.2.2, r, ?_, List.Perm.refl _⟩
        obtain ⟨d1, d2, d3⟩ := d
        simp only [] at h0
        rw [← h0.1, ← h0.2]
      · rename_i h1 h2
        refine .inr ⟨fun c hc => ?_, List.Perm.refl _⟩
        rcases List.mem_cons.1 hc with rfl | hc
        · exact h2
        · have := hp.1 c hc
          unfold celT at this; unfold cellL at h1
          omega
theorem cel_inj : ∀ {S : List DCell}, S.Pairwise celT → ∀ {c d : DCell}, c ∈ S → d ∈ S → c.1 = d.1 → c.2.1 = d.2.1 → c = d
  | [], _, c, d, hc, _, _, _ => by cases hc
  | s :: S, h, c, d, hc, hd, h1, h2 => by
    have hp := List.pairwise_cons.1 h
    rcases List.mem_cons.1 hc with e | hc'
    · rcases List.mem_cons.1 hd with e2 | hd'
      · rw [e, e2]
      · subst e; have := hp.1 d hd'; unfold celT at this; omega
    · rcases List.mem_cons.1 hd with e2 | hd'
      · subst e2; have := hp.1 c hc'; unfold celT at this; omega
      · exact cel_inj hp.2 hc' hd' h1 h2
theorem inc_perm {l : List DPar} {S : List DCell} {a b : Int} (hs : S.Pairwise celT) (h : (l.map celP).Perm S) : ((incP l (a, b)).map celP).Perm (cnt2 a b S) := by
  unfold incP stP gtP
  cases hf : findP l (a, b) with
  | some q =>
    have hg := findP_get hf
    have p1 := (perm_at hg).map celP
    have p2 := (perm_set (b := ((a, b), q.2 + 1)) hg).map celP
    rw [List.map_cons] at p1 p2
    simp only [Option.map_some, Option.getD_some]
    have hm : (a, b, q.2) ∈ S := h.mem_iff.1 (p1.mem_iff.2 (List.mem_cons_self ..))
    rcases cnt2_perm (a := a) (b := b) hs with ⟨n, S', h1, h2⟩ | ⟨h1, _⟩
    · have hm2 : (a, b, n) ∈ S := h1.mem_iff.2 (List.mem_cons_self ..)
      have hn : (a, b, q.2) = (a, b, n) := cel_inj hs hm hm2 rfl rfl
      have hn' : q.2 = n := by injection hn with _ h3; injection h3
      have h3 : ((a, b, n) :: (l.eraseIdx q.1).map celP).Perm ((a, b, n) :: S') := by
        rw [← hn'] at h1 ⊢
        exact p1.symm.trans (h.trans h1)
      refine p2.trans (List.Perm.trans ?_ h2.symm)
      show ((a, b, q.2 + 1) :: (l.eraseIdx q.1).map celP).Perm _
      rw [hn']
      exact (List.Perm.cons_inv h3).cons _
    · exact absurd ⟨rfl, rfl⟩ (h1 _ hm)
  | none =>
    have hno := findP_none hf
    simp only [Option.map_none, Option.getD_none]
    rw [List.map_append]
    rcases cnt2_perm (a := a) (b := b) hs with ⟨n, S', h1, _⟩ | ⟨_, h2⟩
    · have hm2 : (a, b, n) ∈ l.map celP := h.mem_iff.2 (h1.mem_iff.2 (List.mem_cons_self ..))
      obtain ⟨e, he, hee⟩ := List.mem_map.1 hm2
      refine absurd ?_ (hno e he)
      have e1 := congrArg Prod.fst hee
      have e2 := congrArg (fun c : DCell => c.2.1) hee
      exact Prod.ext e1 e2
    · refine (List.perm_append_comm).trans (List.Perm.trans ?_ h2.symm)
      exact h.cons _
noncomputable def mpC (f g : DField) (ms : List DMask) : List DPar := ms.foldl (fun l m => incP l (valIn f m, valIn g m)) []
theorem mpC_snoc (f g : DField) (ms : List DMask) (m : DMask) : mpC f g (ms ++ [m]) = incP (mpC f g ms) (valIn f m, valIn g m) := by rw [mpC, List.foldl_append]; rfl
theorem mpC_perm (f g : DField) (ms : List DMask) : ((mpC f g ms).map celP).Perm (crs f g ms) := by
  refine rev_ind (p := fun ms => ((mpC f g ms).map celP).Perm (crs f g ms)) (by simp [mpC, crs]) (fun l m ih => ?_) ms
  rw [mpC_snoc, crs_snoc]
  exact inc_perm (crs_sort f g l) ih
/-- What is in order and has the same cells is the same. -/
theorem sort_uniq : ∀ {S ys : List DCell}, ys.Perm S → S.Pairwise celT → (ys.Pairwise fun x y => ¬ celT y x) → ys = S
  | [], ys, hp, _, _ => List.Perm.eq_nil hp
  | s :: S, [], hp, _, _ => by have := hp.length_eq; simp at this
  | s :: S, y :: ys, hp, hs, hy => by
    have h1 := List.pairwise_cons.1 hs
    have h2 := List.pairwise_cons.1 hy
    have e : y = s := by
      rcases List.mem_cons.1 (hp.mem_iff.1 (List.mem_cons_self ..)) with e | hm
      · exact e
      · rcases List.mem_cons.1 (hp.mem_iff.2 (List.mem_cons_self ..)) with e | hm2
        · exact e.symm
        · exact absurd (h1.1 y hm) (h2.1 s hm2)
    subst e
    rw [sort_uniq (List.Perm.cons_inv hp) h1.2 h2.2]
/-- All places, in some order. -/
theorem all_perm {α : Type} {l : List α} {p : List Nat} (hn : p.Nodup) (hi : ∀ i ∈ p, i < l.length) (ha : ∀ i, i < l.length → i ∈ p) (f : Nat → α) (hf : ∀ i a, l[i]? = some a → f i = a) : (p.map f).Perm l := by
  have h1 : p.Perm (List.range l.length) := by
    rw [List.perm_ext_iff_of_nodup hn List.nodup_range]
    intro a
    rw [List.mem_range]
    exact ⟨hi a, ha a⟩
  have h2 : (List.range l.length).map f = l := by
    apply List.ext_getElem?
    intro i
    rw [List.getElem?_map]
    by_cases h : i < l.length
    · rw [List.getElem?_range h, List.getElem?_eq_getElem h]
      exact congrArg some (hf i _ (List.getElem?_eq_getElem h))
    · rw [List.getElem?_eq_none (by simp; omega), List.getElem?_eq_none (by omega)]; rfl
  have h3 := h1.map f
  rwa [h2] at h3
/-! ### The order of cells, as the closure tells it -/
def cfC (x y : DCell) : Int := if cmpI x.1 y.1 ≠ 0 then cmpI x.1 y.1 else cmpI x.2.1 y.2.1
theorem cmpI_lt (a b : Int) : cmpI a b < 0 ↔ a < b := by unfold cmpI; split <;> (try split) <;> omega
theorem cmpI_eq (a b : Int) : cmpI a b = 0 ↔ a = b := by unfold cmpI; split <;> (try split) <;> omega
theorem cfC_lt (x y : DCell) : cfC x y < 0 ↔ celT x y := by
  unfold cfC celT
  have h1 := cmpI_lt x.1 y.1
  have h2 := cmpI_eq x.1 y.1
  have h3 := cmpI_lt x.2.1 y.2.1
  split
  · rw [h1]; constructor
    · exact fun h => .inl h
    · rintro (h | h)
      · exact h
      · exact absurd (h2.2 h.1) (by assumption)
  · rw [h3]
    have h4 : x.1 = y.1 := h2.1 (by omega)
    constructor
    · exact fun h => .inr ⟨h4, h⟩
    · rintro (h | h)
      · omega
      · exact h.2
theorem crs_uniq {f g : DField} {ms : List DMask} {xs zs : List DCell} (hx : xs.Perm (crs f g ms)) (hz : zs.Perm xs) (h : zs.Pairwise fun a b => ¬ cfC b a < 0) : zs = crs f g ms :=
  sort_uniq (hz.trans hx) (crs_sort f g ms) (h.imp fun {a b} hn hc => hn ((cfC_lt b a).2 hc))
/-! ### How many -/
theorem gtP_in {l : List DPar} {k : Int × Int} {n : Int} (h : ∀ e ∈ l, 0 ≤ e.2 ∧ e.2 ≤ n) (hn : 0 ≤ n) : 0 ≤ (gtP l k).getD 0 ∧ (gtP l k).getD 0 ≤ n := by
  unfold gtP
  cases hf : findP l k with
  | none => exact ⟨Int.le_refl _, hn⟩
  | some q => exact h _ (List.mem_of_getElem? (findP_get hf))
theorem mpC_le (f g : DField) (ms : List DMask) : ∀ e ∈ mpC f g ms, 0 ≤ e.2 ∧ e.2 ≤ (ms.length : Int) := by
  refine rev_ind (p := fun ms => ∀ e ∈ mpC f g ms, 0 ≤ e.2 ∧ e.2 ≤ (ms.length : Int)) (fun e he => by cases he) (fun l m ih => ?_) ms
  intro e he
  rw [mpC_snoc] at he
  rw [List.length_append]
  have hk := gtP_in (k := (valIn f m, valIn g m)) ih (by omega)
  have key : e ∈ mpC f g l ∨ e.2 = (gtP (mpC f g l) (valIn f m, valIn g m)).getD 0 + 1 := by
    unfold incP stP at he
    split at he
    · rcases List.mem_or_eq_of_mem_set he with h | h
      · exact .inl h
      · right; rw [h]
    · rcases List.mem_append.1 he with h | h
      · exact .inl h
      · right; rw [List.mem_singleton.1 h]
  simp only [List.length_cons, List.length_nil]
  rcases key with h | h
  · have := ih e h; omega
  · omega
theorem mpC_len (f g : DField) (ms : List DMask) : (mpC f g ms).length ≤ ms.length := by
  have h1 := (mpC_perm f g ms).length_eq
  rw [List.length_map] at h1
  have := (crs_in f g ms).1
  omega
section
variable {x : List DCard} {z : Nat} {e : DCard} {f g : DField}
theorem mpC_next (he : x[Int.toNat ((z : Nat) : Int)]? = some e) : stP (mpC f g ((x.take z).map (·.2))) (valIn f e.2, valIn g e.2) ((gtP (mpC f g ((x.take z).map (·.2))) (valIn f e.2, valIn g e.2)).getD 0 + 1) = mpC f g ((x.take (z + 1)).map (·.2)) := by
  rw [← mp_take he, mpC_snoc]; rfl
theorem mpC_cnt (k : Int × Int) : 0 ≤ (gtP (mpC f g ((x.take z).map (·.2))) k).getD 0 ∧ (gtP (mpC f g ((x.take z).map (·.2))) k).getD 0 ≤ z := by
  have h := gtP_in (k := k) (mpC_le f g ((x.take z).map (·.2))) (by omega)
  have h2 : ((x.take z).map (·.2)).length ≤ z := by rw [List.length_map, List.length_take]; omega
  omega
theorem mpC_ln : (mpC f g ((x.take z).map (·.2))).length ≤ z := by
  have h := mpC_len f g ((x.take z).map (·.2))
  rw [List.length_map, List.length_take] at h; omega
theorem cnt_nw {a : Int} {z n : Nat} (h : 0 ≤ a ∧ a ≤ z) (hz : z ≤ n) (hn : n ≤ 60) : -9223372036854775808 ≤ a + 1 ∧ a + 1 ≤ 9223372036854775807 := by omega
end
/-! ### What has been handed out -/
def celA (l : List DPar) (i : Nat) : DCell := celP (l.getD i ((0, 0), 0))
theorem celA_at {l : List DPar} {i : Nat} {x : DPar} (h : l[i]? = some x) : celA l i = celP x := by unfold celA; rw [List.getD_eq_getElem?_getD, h]; rfl
theorem celA_next {l : List DPar} {z : List Nat} {i : Nat} {x : DPar} (h : l[i]? = some x) : z.map (celA l) ++ [(x.1.1, x.1.2, x.2)] = (z ++ [i]).map (celA l) := by
  rw [List.map_append, List.map_singleton, celA_at h]; rfl
theorem out_inv {n : Nat} {z : List Nat} {i : Nat} (h1 : z.Nodup) (h2 : ∀ j ∈ z, j < n) (hi : i < n) (hn : i ∉ z) : (z ++ [i]).Nodup ∧ ∀ j ∈ z ++ [i], j < n := by
  refine ⟨?_, fun j hj => ?_⟩
  · rw [List.nodup_append]
    refine ⟨h1, by simp, fun a ha b hb => ?_⟩
    rw [List.mem_singleton] at hb
    subst hb
    exact fun e => hn (e ▸ ha)
  · rcases List.mem_append.1 hj with h | h
    · exact h2 j h
    · rw [List.mem_singleton.1 h]; exact hi
theorem nodup_le {n : Nat} {p : List Nat} (hn : p.Nodup) (hi : ∀ i ∈ p, i < n) : p.length ≤ n := by
  have h2 : p.Perm ((List.range n).filter fun i => p.contains i) := by
    rw [List.perm_ext_iff_of_nodup hn (List.Pairwise.filter _ List.nodup_range)]
    intro a
    simp only [List.mem_filter, List.mem_range, List.contains_iff_mem]
    exact ⟨fun h => ⟨hi a h, h⟩, fun h => h.2⟩
  have h3 := h2.length_eq
  have h4 := List.length_filter_le (fun i => p.contains i) (List.range n)
  rw [List.length_range] at h4
  omega
theorem out_lt {n : Nat} {z : List Nat} {i : Nat} (h1 : z.Nodup) (h2 : ∀ j ∈ z, j < n) (hi : i < n) (hn : i ∉ z) : z.length < n := by
  have h := out_inv h1 h2 hi hn
  have h3 := nodup_le h.1 h.2
  rw [List.length_append] at h3
  simp at h3; omega
theorem out_all {f g : DField} {ms : List DMask} {z : List Nat} (h1 : z.Nodup) (h2 : ∀ j ∈ z, j < (mpC f g ms).length) (h3 : ∀ i, i < (mpC f g ms).length → i ∈ z) : (z.map (celA (mpC f g ms))).Perm (crs f g ms) := by
  have h4 := all_perm (l := (mpC f g ms).map celP) h1 (fun i hi => by rw [List.length_map]; exact h2 i hi) (fun i hi => h3 i (by rwa [List.length_map] at hi)) (celA (mpC f g ms)) (fun i a ha => by
    rw [List.getElem?_map] at ha
    cases hl : (mpC f g ms)[i]? with
    | none => rw [hl] at ha; cases ha
    | some x => rw [hl] at ha; rw [celA_at hl]; exact Option.some.inj ha)
  exact h4.trans (mpC_perm f g ms)
end Go.Proofs.YtkgboidjghcegaaGreatDoor.VL
