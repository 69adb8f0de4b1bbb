/- Proved here: the test of a region whose order is open, with what waits for what told ahead as numbers. General: over every program. -/
import Derived.Test.YtkgboidjghcegaaGreatDoorBvb
set_option linter.unusedVariables false
set_option linter.unusedSimpArgs false
namespace Go.Proofs.YtkgboidjghcegaaGreatDoor.VL
open Go
def mkE (an : List Nat) (o : Oper) : Nat := o.after.toList.foldl (fun m e => if Region.binds .any e then m ||| ((1 <<< e.on) ||| an.getD e.on 0) else m) 0
def chkE (an : List Nat) : Nat → List Oper → Bool
  | _, [] => true
  | j, o :: l => (o.after.toList.all fun e => !Region.binds .any e || Nat.blt e.on j) && Nat.beq (mkE an o) (an.getD j 0) && chkE an (j + 1) l
def chkC1 (i : DJ) (j : Nat) : List DJ → List Nat → Bool
  | [], _ => true
  | y :: I, M => (i.comm y || Nat.testBit (M.headD 0) j) && chkC1 i j I M.tail
def chkC : Nat → List DJ → List Nat → Bool
  | _, [], _ => true
  | j, i :: I, M => chkC1 i j I M.tail && chkC (j + 1) I M.tail
def relM (j mj x m : Nat) : Bool := Nat.beq x j || Nat.testBit mj x || Nat.testBit m j
def chkP (f : DJ → Bool) (j mj : Nat) : Nat → List DJ → List Nat → Bool
  | _, [], _ => true
  | x, y :: I, M => (!(f y) || relM j mj x (M.headD 0)) && chkP f j mj (x + 1) I M.tail
def chkN (dps : List (Nat × Nat)) (I0 : List DJ) (an : List Nat) : Nat → List DJ → List Nat → Bool
  | _, [], _ => true
  | j, i :: I, M => (i.nd.all fun t => chkP (fun y => y.has (t % 10000)) j (M.headD 0) 0 I0 an && dps.all fun z => !(Nat.beq z.1 (t % 10000)) || chkP (fun y => y.res.contains z.2) j (M.headD 0) 0 I0 an) && chkN dps I0 an (j + 1) I M.tail
def dOKm (an : List Nat) (dps : List (Nat × Nat)) (l : List Oper) (I : List DJ) : Bool :=
  Nat.beq l.length I.length && I.all (fun i => i.ps.all fun p => Nat.blt p.slot 10000) && chkE an 0 l && chkC 0 I an && (depsJ I).all (fun z => dps.contains z) && chkN dps I an 0 I an
theorem testBit_fold {an : List Nat} {x : Nat} : ∀ {es : List Edge} {m : Nat}, Nat.testBit (es.foldl (fun m e => if Region.binds .any e then m ||| ((1 <<< e.on) ||| an.getD e.on 0) else m) m) x = true ↔ Nat.testBit m x = true ∨ ∃ e ∈ es, Region.binds .any e = true ∧ (x = e.on ∨ Nat.testBit (an.getD e.on 0) x = true)
  | [], m => by simp
  | e :: es, m => by
    rw [List.foldl_cons, testBit_fold]
    split
    · rename_i h
      rw [Nat.testBit_or, Nat.testBit_or, Bool.or_eq_true, Bool.or_eq_true, Nat.one_shiftLeft, Nat.testBit_two_pow, decide_eq_true_eq]
      constructor
      · rintro ((h1 | h1 | h1) | ⟨e', he, hb, h1⟩)
        · exact .inl h1
        · exact .inr ⟨e, by simp, h, .inl h1.symm⟩
        · exact .inr ⟨e, by simp, h, .inr h1⟩
        · exact .inr ⟨e', by simp [he], hb, h1⟩
      · rintro (h1 | ⟨e', he, hb, h1⟩)
        · exact .inl (.inl h1)
        · rcases List.mem_cons.1 he with rfl | he
          · rcases h1 with h1 | h1
            · exact .inl (.inr (.inl h1.symm))
            · exact .inl (.inr (.inr h1))
          · exact .inr ⟨e', he, hb, h1⟩
    · rename_i h
      constructor
      · rintro (h1 | ⟨e', he, hb, h1⟩)
        · exact .inl h1
        · exact .inr ⟨e', by simp [he], hb, h1⟩
      · rintro (h1 | ⟨e', he, hb, h1⟩)
        · exact .inl h1
        · rcases List.mem_cons.1 he with rfl | he
          · exact absurd hb h
          · exact .inr ⟨e', he, hb, h1⟩
theorem chkE_at {an : List Nat} : ∀ {l : List Oper} {k : Nat}, chkE an k l = true → ∀ j o, l[j]? = some o → (∀ e ∈ o.after, Region.binds .any e = true → e.on < k + j) ∧ mkE an o = an.getD (k + j) 0
  | [], _, _, j, o, ho => by simp at ho
  | o' :: l, k, h, j, o, ho => by
    rw [chkE, Bool.and_eq_true, Bool.and_eq_true] at h
    obtain ⟨⟨h1, h2⟩, h3⟩ := h
    cases j with
    | zero =>
      simp at ho; subst ho
      refine ⟨fun e he hb => ?_, by rw [Nat.add_zero]; exact Nat.eq_of_beq_eq_true h2⟩
      have := List.all_eq_true.1 h1 e (by simpa using he)
      rw [hb] at this
      have h4 : Nat.blt e.on k = true := by simpa using this
      have := Nat.le_of_ble_eq_true h4
      omega
    | succ j =>
      have := chkE_at h3 j o (by simpa using ho)
      rw [show k + (j + 1) = k + 1 + j by omega]; exact this
theorem anc_bit {an : List Nat} {l : List Oper} (h : chkE an 0 l = true) : ∀ (j : Nat) (o : Oper), l[j]? = some o → ∀ x, Nat.testBit (an.getD j 0) x = true ↔ x ∈ (ancs l []).getD j [] := by
  intro j
  induction j using Nat.strongRecOn with
  | _ j ih =>
    intro o ho x
    obtain ⟨h1, h2⟩ := chkE_at h j o ho
    rw [Nat.zero_add] at h1 h2
    have h3 := ancs_at l [] j o ho
    simp only [List.length_nil, Nat.zero_add] at h3
    have hj : j < l.length := (List.getElem?_eq_some_iff.1 ho).1
    rw [← h2, h3, mem_ancOf, mkE, testBit_fold]
    have hg : ∀ k, k < j → ((ancs l []).take j).getD k [] = (ancs l []).getD k [] := fun k hk => by
      rw [List.getD_eq_getElem?_getD, List.getD_eq_getElem?_getD, List.getElem?_take, if_pos hk]
    constructor
    · rintro (h4 | ⟨e, he, hb, h4⟩)
      · simp at h4
      · have he' : e ∈ o.after := by simpa using he
        have hlt := h1 e he' hb
        refine ⟨e, he', hb, h4.imp id fun h5 => ?_⟩
        rw [hg _ hlt]
        exact (ih e.on hlt l[e.on] (List.getElem?_eq_getElem (by omega)) x).1 h5
    · rintro ⟨e, he, hb, h4⟩
      have hlt := h1 e he hb
      refine .inr ⟨e, by simpa using he, hb, h4.imp id fun h5 => ?_⟩
      rw [hg _ hlt] at h5
      exact (ih e.on hlt l[e.on] (List.getElem?_eq_getElem (by omega)) x).2 h5
theorem headD_getD : ∀ M : List Nat, M.headD 0 = M.getD 0 0
  | [] => rfl
  | _ :: _ => rfl
theorem tail_getD (M : List Nat) (k : Nat) : M.tail.getD k 0 = M.getD (k + 1) 0 := by cases M <;> simp
theorem chkC1_at {i : DJ} {j : Nat} : ∀ {I : List DJ} {M : List Nat}, chkC1 i j I M = true → ∀ k y, I[k]? = some y → i.comm y = true ∨ Nat.testBit (M.getD k 0) j = true
  | [], _, _, k, y, h => by simp at h
  | y' :: I, M, h, k, y, hy => by
    rw [chkC1, Bool.and_eq_true, Bool.or_eq_true, headD_getD] at h
    cases k with
    | zero => simp at hy; subst hy; exact h.1
    | succ k => have := chkC1_at h.2 k y (by simpa using hy); rwa [tail_getD] at this
theorem chkC_at : ∀ {I : List DJ} {M : List Nat} {k : Nat}, chkC k I M = true → ∀ j x i y, I[j]? = some i → I[x]? = some y → j < x → i.comm y = true ∨ Nat.testBit (M.getD x 0) (k + j) = true
  | [], _, _, _, j, x, i, y, h, _, _ => by simp at h
  | i' :: I, M, k, h, j, x, i, y, hi, hy, hlt => by
    rw [chkC, Bool.and_eq_true] at h
    obtain ⟨x, rfl⟩ : ∃ z, x = z + 1 := ⟨x - 1, by omega⟩
    cases j with
    | zero =>
      simp at hi; subst hi
      have := chkC1_at h.1 x y (by simpa using hy)
      rwa [tail_getD] at this
    | succ j =>
      have := chkC_at h.2 j x i y (by simpa using hi) (by simpa using hy) (by omega)
      rwa [tail_getD, show k + 1 + j = k + (j + 1) by omega] at this
theorem chkP_at {f : DJ → Bool} {j mj : Nat} : ∀ {I : List DJ} {M : List Nat} {k : Nat}, chkP f j mj k I M = true → ∀ x y, I[x]? = some y → f y = false ∨ relM j mj (k + x) (M.getD x 0) = true
  | [], _, _, _, x, y, h => by simp at h
  | y' :: I, M, k, h, x, y, hy => by
    rw [chkP, Bool.and_eq_true, Bool.or_eq_true, headD_getD, Bool.not_eq_true'] at h
    cases x with
    | zero => simp at hy; subst hy; exact h.1
    | succ x => have := chkP_at h.2 x y (by simpa using hy); rwa [tail_getD, show k + 1 + x = k + (x + 1) by omega] at this
theorem chkN_at {dps : List (Nat × Nat)} {I0 : List DJ} {an : List Nat} : ∀ {I : List DJ} {M : List Nat} {k : Nat}, chkN dps I0 an k I M = true → ∀ j i, I[j]? = some i → ∀ t ∈ i.nd, chkP (fun y => y.has (t % 10000)) (k + j) (M.getD j 0) 0 I0 an = true ∧ ∀ z ∈ dps, z.1 = t % 10000 → chkP (fun y => y.res.contains z.2) (k + j) (M.getD j 0) 0 I0 an = true
  | [], _, _, _, j, i, h, _, _ => by simp at h
  | i' :: I, M, k, h, j, i, hi, t, ht => by
    rw [chkN, Bool.and_eq_true, headD_getD] at h
    cases j with
    | zero =>
      simp at hi; subst hi
      have := List.all_eq_true.1 h.1 t ht
      rw [Bool.and_eq_true] at this
      refine ⟨this.1, fun z hz e => ?_⟩
      have h2 := List.all_eq_true.1 this.2 z hz
      rw [e, Nat.beq_refl] at h2
      simpa using h2
    | succ j =>
      have := chkN_at h.2 j i (by simpa using hi) t ht
      rwa [tail_getD, show k + 1 + j = k + (j + 1) by omega] at this
theorem dOKm_good {an : List Nat} {dps : List (Nat × Nat)} {l : List Oper} {I : List DJ} (h : dOKm an dps l I = true) : DGj l I := by
  unfold dOKm at h
  simp only [Bool.and_eq_true] at h
  obtain ⟨⟨⟨⟨⟨h1, h2⟩, h3⟩, h4⟩, h5⟩, h6⟩ := h
  have hl : l.length = I.length := Nat.eq_of_beq_eq_true h1
  have hat : ∀ j i, I[j]? = some i → ∃ o, l[j]? = some o := fun j i hi => by
    have := (List.getElem?_eq_some_iff.1 hi).1
    exact ⟨_, List.getElem?_eq_getElem (by omega)⟩
  have hb : ∀ j i, I[j]? = some i → ∀ x, Nat.testBit (an.getD j 0) x = true → x ∈ (ancs l []).getD j [] := fun j i hi x hx => by
    obtain ⟨o, ho⟩ := hat j i hi
    exact (anc_bit h3 j o ho x).1 hx
  have hrel : ∀ j i x y, I[j]? = some i → I[x]? = some y → relM j (an.getD j 0) x (an.getD x 0) = true → x = j ∨ x ∈ (ancs l []).getD j [] ∨ j ∈ (ancs l []).getD x [] := fun j i x y hi hy h => by
    rw [relM, Bool.or_eq_true, Bool.or_eq_true] at h
    rcases h with (h | h) | h
    · exact .inl (Nat.eq_of_beq_eq_true h)
    · exact .inr (.inl (hb j i hi x h))
    · exact .inr (.inr (hb x y hy j h))
  refine ⟨hl, fun i hi p hp => ?_, fun j o ho e he hbd => ?_, fun j x i y hi hy hlt => ?_, fun j i hi t ht x y hy => ?_⟩
  · have := List.all_eq_true.1 (List.all_eq_true.1 h2 i hi) p hp
    exact Nat.le_of_ble_eq_true this
  · have := (chkE_at h3 j o ho).1 e he hbd
    omega
  · rcases chkC_at h4 j x i y hi hy hlt with h | h
    · exact .inr h
    · rw [Nat.zero_add] at h
      exact .inl (hb x y hy j h)
  · obtain ⟨p1, p2⟩ := chkN_at h6 j i hi t ht
    rw [Nat.zero_add] at p1 p2
    rcases chkP_at p1 x y hy with h | h
    · by_cases hr : x = j ∨ x ∈ (ancs l []).getD j [] ∨ j ∈ (ancs l []).getD x []
      · exact .inl hr
      · refine .inr ⟨h, fun s hs z c hc p hp h9 => ?_⟩
        cases hd : p.dep s with
        | false => rfl
        | true =>
          obtain ⟨A, hA, hAd⟩ := List.any_eq_true.1 hd
          have h10 := List.all_eq_true.1 h5 _ (depsJ_mem (List.mem_of_getElem? hc) hp hA hAd)
          have h11 := p2 _ (List.contains_iff_mem.1 h10) h9
          rcases chkP_at h11 x y hy with h12 | h12
          · have : y.res.contains s = true := List.contains_iff_mem.2 hs
            rw [h12] at this; cases this
          · rw [Nat.zero_add] at h12
            exact absurd (hrel j i x y hi hy h12) hr
    · rw [Nat.zero_add] at h
      exact .inl (hrel j i x y hi hy h)
section
variable {C : Cx} {e : KL} {l : List Oper} {Q : Exit → Act → World → Prop}
theorem dhm {id : Nat} (an : List Nat) (dps : List (Nat × Nat)) (hm : C.P.follows .mixedOrders = true) (h : DH C l.toArray e l (fun e' I => dOKm an dps l I = true ∧ cleanj e I = true ∧ AX C .normal (keep e') Q)) : AW C (.region id l.toArray true) (keep e) Q := by
  obtain ⟨I, e', h1, h2, h3, h4⟩ := h
  exact AW.drawg hm h1 (dOKm_good h2) h3 h4
end
end Go.Proofs.YtkgboidjghcegaaGreatDoor.VL
