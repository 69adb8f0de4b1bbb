/- Proved here: rows of edits, and decks that are merged. Plain Lean, no program. -/
import Derived.Test.YtfnkphllkbkfaaaDoorPP
set_option linter.unusedVariables false
set_option linter.unusedSimpArgs false
namespace Go.Proofs.YtfnkphllkbkfaaaDoor.VL
open Go
/-! ### All of a row -/
section
variable {α : Type} {q : α → Bool} {x : List α} {z : Nat} {a : α}
theorem filter_next (ha : x[Int.toNat ((z : Nat) : Int)]? = some a) : (x.take z).filter q ++ (if q a = true then [a] else []) = (x.take (z + 1)).filter q := by
  rw [take_more ha, List.filter_append, List.filter_cons]; rfl
theorem filter_yes (ha : x[Int.toNat ((z : Nat) : Int)]? = some a) (h : q a = true) : (x.take z).filter q ++ [a] = (x.take (z + 1)).filter q := by rw [← filter_next ha, if_pos h]
theorem filter_no (ha : x[Int.toNat ((z : Nat) : Int)]? = some a) (h : q a = false) : (x.take z).filter q = (x.take (z + 1)).filter q := by rw [← filter_next ha, if_neg (by rw [h]; decide), List.append_nil]
theorem flat_next {β : Type} {f : α → List β} (ha : x[Int.toNat ((z : Nat) : Int)]? = some a) : (x.take z).flatMap f ++ f a = (x.take (z + 1)).flatMap f := by
  rw [take_more ha, List.flatMap_append]; simp
theorem flat_len {β : Type} {f : α → List β} {n : Nat} (h : ∀ a, (f a).length ≤ n) : ∀ x : List α, (x.flatMap f).length ≤ n * x.length
  | [] => by simp
  | a :: x => by
    rw [List.flatMap_cons, List.length_append, List.length_cons, Nat.mul_succ]
    have h1 := flat_len h x
    have h2 := h a
    omega
end
/-! ### Undoing -/
section
variable {l : List DEdit} {z : Nat} {e : DEdit}
end
/-! ### One edit behind another -/
section
variable {x y : List DCard} {l : List DEdit}
end
/-! ### Edits between decks -/
section
variable {a b : List DCard}
end
/-! ### Names of several decks -/
noncomputable def isNew (prev : List (List DCard)) (s : ByteArray) : Bool := prev.all fun y => decide (findC s y < 0)
noncomputable def nmOf : List (List DCard) → List (List DCard) → List ByteArray
  | _, [] => []
  | prev, x :: r => (x.map (·.1)).filter (isNew prev) ++ nmOf (prev ++ [x]) r
noncomputable def names (ds : List (List DCard)) : List ByteArray := nmOf [] ds
theorem nmOf_app : ∀ (ds : List (List DCard)) (prev : List (List DCard)) (x : List DCard), nmOf prev (ds ++ [x]) = nmOf prev ds ++ (x.map (·.1)).filter (isNew (prev ++ ds))
  | [], prev, x => by simp [nmOf]
  | y :: ds, prev, x => by
    rw [List.cons_append, nmOf, nmOf, nmOf_app ds, List.append_assoc, List.append_assoc]
    rfl
/-- As far as deck d, card i. -/
noncomputable def nmP (ds : List (List DCard)) (d : Nat) (x : List DCard) (i : Nat) : List ByteArray := names (ds.take d) ++ ((x.take i).map (·.1)).filter (isNew (ds.take d))
theorem nmP_zero (ds : List (List DCard)) (d : Nat) (x : List DCard) : names (ds.take d) = nmP ds d x 0 := by simp [nmP]
theorem nmP_yes {ds : List (List DCard)} {d i : Nat} {x : List DCard} {c : DCard} (hc : x[Int.toNat ((i : Nat) : Int)]? = some c) (h : isNew (ds.take d) c.1 = true) : nmP ds d x i ++ [c.1] = nmP ds d x (i + 1) := by
  rw [nmP, nmP, take_more hc, List.map_append, List.filter_append, List.append_assoc]
  simp [h]
theorem nmP_no {ds : List (List DCard)} {d i : Nat} {x : List DCard} {c : DCard} (hc : x[Int.toNat ((i : Nat) : Int)]? = some c) (h : isNew (ds.take d) c.1 = false) : nmP ds d x i = nmP ds d x (i + 1) := by
  rw [nmP, nmP, take_more hc, List.map_append, List.filter_append]
  simp [h]
theorem nmP_end {ds : List (List DCard)} {d i : Nat} {x : List DCard} (hx : ds[Int.toNat ((d : Nat) : Int)]? = some x) (hi : x.length ≤ i) : nmP ds d x i = names (ds.take (d + 1)) := by
  rw [nmP, List.take_of_length_le hi, take_more hx, names, names, nmOf_app, List.nil_append]
theorem nmP_len {ds : List (List DCard)} {d i : Nat} {x : List DCard} : (nmP ds d x i).length ≤ (names (ds.take d)).length + i := by
  rw [nmP, List.length_append]
  have h1 := List.length_filter_le (isNew (ds.take d)) ((x.take i).map (·.1))
  rw [List.length_map, List.length_take] at h1
  omega
theorem nmOf_len : ∀ (ds : List (List DCard)) (prev : List (List DCard)), (∀ x ∈ ds, x.length ≤ 80) → (nmOf prev ds).length ≤ 80 * ds.length
  | [], prev, _ => by simp [nmOf]
  | x :: r, prev, h => by
    rw [nmOf, List.length_append, List.length_cons]
    have h1 := List.length_filter_le (isNew prev) (x.map (·.1))
    rw [List.length_map] at h1
    have h2 := nmOf_len r (prev ++ [x]) (fun y hy => h y (by simp [hy]))
    have h3 := h x (by simp)
    omega
theorem names_len {ds : List (List DCard)} (h : ∀ x ∈ ds, x.length ≤ 80) : (names ds).length ≤ 80 * ds.length := nmOf_len ds [] h
theorem findC_neg {s : ByteArray} {y : List DCard} : findC s y < 0 ↔ ∀ c ∈ y, c.1 ≠ s := by
  unfold findC
  rw [idxQ_neg, List.any_eq_false]
  constructor
  · intro h c hc e; exact h c hc (eqv_iff.2 e)
  · intro h c hc e; exact h c hc (eqv_iff.1 e)
theorem mem_nmOf {s : ByteArray} : ∀ (ds prev : List (List DCard)), (s ∈ nmOf prev ds ∨ ∃ y ∈ prev, ∃ c ∈ y, c.1 = s) ↔ (∃ y ∈ prev ++ ds, ∃ c ∈ y, c.1 = s)
  | [], prev => by simp [nmOf]
  | x :: r, prev => by
    have ih := mem_nmOf (s := s) r (prev ++ [x])
    rw [nmOf, List.mem_append]
    have e : prev ++ x :: r = (prev ++ [x]) ++ r := by simp
    rw [e, ← ih]
    constructor
    · rintro ((h | h) | h)
      · rw [List.mem_filter, List.mem_map] at h
        obtain ⟨⟨c, hc, rfl⟩, _⟩ := h
        exact .inr ⟨x, by simp, c, hc, rfl⟩
      · exact .inl h
      · obtain ⟨y, hy, h⟩ := h
        exact .inr ⟨y, by simp [hy], h⟩
    · rintro (h | ⟨y, hy, c, hc, rfl⟩)
      · exact .inl (.inr h)
      · rcases List.mem_append.1 hy with hy | hy
        · exact .inr ⟨y, hy, c, hc, rfl⟩
        · rw [List.mem_singleton] at hy; subst hy
          by_cases hn : isNew prev c.1 = true
          · exact .inl (.inl (List.mem_filter.2 ⟨List.mem_map_of_mem hc, hn⟩))
          · unfold isNew at hn
            rw [List.all_eq_true] at hn
            have : ∃ y ∈ prev, ¬ findC c.1 y < 0 := by
              apply Classical.byContradiction
              intro h
              exact hn fun y hy => decide_eq_true (Classical.byContradiction fun h' => h ⟨y, hy, h'⟩)
            obtain ⟨y', hy', h'⟩ := this
            rw [findC_neg] at h'
            have : ∃ c' ∈ y', c'.1 = c.1 := by
              apply Classical.byContradiction
              intro h
              exact h' fun c' hc' e => h ⟨c', hc', e⟩
            obtain ⟨c', hc', e'⟩ := this
            exact .inr ⟨y', hy', c', hc', e'⟩
theorem mem_names {s : ByteArray} (ds : List (List DCard)) : s ∈ names ds ↔ ∃ y ∈ ds, ∃ c ∈ y, c.1 = s := by
  have := mem_nmOf (s := s) ds []
  simpa [names] using this
theorem isNew_false {s : ByteArray} {ds : List (List DCard)} : isNew ds s = false ↔ ∃ y ∈ ds, ∃ c ∈ y, c.1 = s := by
  rw [← Bool.not_eq_true, isNew, List.all_eq_true]
  constructor
  · intro h
    apply Classical.byContradiction
    intro h'
    refine h fun y hy => decide_eq_true (findC_neg.2 fun c hc e => h' ⟨y, hy, c, hc, e⟩)
  · rintro ⟨y, hy, c, hc, e⟩ h
    exact findC_neg.1 (of_decide_eq_true (h y hy)) c hc e
/-- What is told already is not new. -/
theorem nmP_has {ds : List (List DCard)} {d i : Nat} {x : List DCard} {c : DCard} (hx : deckOK x) (hc : x[Int.toNat ((i : Nat) : Int)]? = some c) : c.1 ∈ nmP ds d x i ↔ isNew (ds.take d) c.1 = false := by
  rw [nmP, List.mem_append, mem_names, ← isNew_false]
  constructor
  · rintro (h | h)
    · exact h
    · exfalso
      rw [List.mem_filter, List.mem_map] at h
      obtain ⟨⟨b, hb, e⟩, _⟩ := h
      obtain ⟨j, hj⟩ := List.mem_iff_getElem?.1 hb
      rw [List.getElem?_take] at hj
      split at hj
      · rename_i hji
        rw [toN] at hc
        have := deck_one hx hj hc e
        omega
      · cases hj
  · exact .inl
theorem isNew_next {ds : List (List DCard)} {d : Nat} {s : ByteArray} {y : List DCard} (hy : ds[Int.toNat ((d : Nat) : Int)]? = some y) : (isNew (ds.take d) s && decide (findC s y < 0)) = isNew (ds.take (d + 1)) s := by
  rw [isNew, isNew, take_more hy, List.all_append]; simp
theorem any_eqv {s : ByteArray} {l : List ByteArray} : (l.any fun b => eqv s b) = true ↔ s ∈ l := by
  rw [List.any_eq_true]
  constructor
  · rintro ⟨b, hb, h⟩
    rw [eqv_iff.1 h]; exact hb
  · exact fun h => ⟨s, h, eqv_self _⟩
theorem nm_yes {ds : List (List DCard)} {d i : Nat} {x : List DCard} {c : DCard} (hx : deckOK x) (hc : x[Int.toNat ((i : Nat) : Int)]? = some c) (h : ((nmP ds d x i).any fun b => eqv c.1 b) = false) : nmP ds d x i ++ [c.1] = nmP ds d x (i + 1) := by
  refine nmP_yes hc ?_
  rw [← Bool.not_eq_false, ← nmP_has hx hc, ← any_eqv, h]; decide
theorem nm_no {ds : List (List DCard)} {d i : Nat} {x : List DCard} {c : DCard} (hx : deckOK x) (hc : x[Int.toNat ((i : Nat) : Int)]? = some c) (h : ((nmP ds d x i).any fun b => eqv c.1 b) = true) : nmP ds d x i = nmP ds d x (i + 1) :=
  nmP_no hc ((nmP_has hx hc).1 (any_eqv.1 h))
theorem new_run {ds : List (List DCard)} {d : Nat} {s : ByteArray} {y : List DCard} (hy : ds[Int.toNat ((d : Nat) : Int)]? = some y) (h : (!(isNew (ds.take d) s)) = false) : decide (findC s y ≥ 0) = !(isNew (ds.take (d + 1)) s) := by
  rw [← isNew_next hy, show isNew (ds.take d) s = true by simpa using h, Bool.true_and]
  by_cases h1 : findC s y < 0
  · rw [decide_eq_true h1, decide_eq_false (by omega)]; rfl
  · rw [decide_eq_false h1, decide_eq_true (by omega)]; rfl
theorem new_old {ds : List (List DCard)} {d : Nat} {s : ByteArray} {y : List DCard} (hy : ds[Int.toNat ((d : Nat) : Int)]? = some y) (h : (!(isNew (ds.take d) s)) = true) : true = !(isNew (ds.take (d + 1)) s) := by
  rw [← isNew_next hy, show isNew (ds.take d) s = false by simpa using h]; rfl
theorem findC_of {s : ByteArray} {y : List DCard} (h : findC s y ≥ 0) : ∃ b, y[Int.toNat (findC s y)]? = some b ∧ b.1 = s ∧ findC s y < (y.length : Int) := findC_get (decide_eq_false (by omega))
/-! ### States -/
abbrev DState := Bool × DMask
noncomputable def stOf (x : List DCard) (s : ByteArray) : DState := if findC s x < 0 then (false, zM) else (true, (cAt x (findC s x)).2)
theorem st_no {x : List DCard} {s : ByteArray} (h : findC s x < 0) : stOf x s = (false, zM) := by rw [stOf, if_pos h]
theorem st_yes {x : List DCard} {s : ByteArray} {c : DCard} (h : ¬ findC s x < 0) (hc : x[Int.toNat (findC s x)]? = some c) : stOf x s = (true, c.2) := by rw [stOf, if_neg h, cAt_eq hc]
noncomputable def clash (base a b : List DCard) (s : ByteArray) : Bool := !(eqv (stOf base s) (stOf a s)) && !(eqv (stOf base s) (stOf b s)) && !(eqv (stOf a s) (stOf b s))
noncomputable def confl (base a b : List DCard) : List ByteArray := (names [base, a]).filter (clash base a b)
noncomputable def bad3 (base a b : List DCard) : Bool := !(tt (deckOK base)) || !(tt (deckOK a)) || !(tt (deckOK b))
section
variable {base a b : List DCard}
theorem decks_three (h : (!(tt (deckOK base)) || !(tt (deckOK a)) || !(tt (deckOK b))) = false) : base.length ≤ 80 ∧ a.length ≤ 80 ∧ b.length ≤ 80 ∧ deckOK base ∧ deckOK a ∧ deckOK b := by
  simp only [Bool.or_eq_false_iff, Bool.not_eq_false', tt_iff] at h
  exact ⟨h.1.1.1, h.1.2.1, h.2.1, h.1.1, h.1.2, h.2⟩
theorem confl_len (h : base.length ≤ 80 ∧ a.length ≤ 80) : (confl base a b).length ≤ 160 := by
  refine Nat.le_trans (List.length_filter_le _ _) ?_
  have := names_len (ds := [base, a]) (fun x hx => by
    simp only [List.mem_cons, List.not_mem_nil, or_false] at hx
    rcases hx with rfl | rfl
    · exact h.1
    · exact h.2)
  simpa using this
end
/-- What becomes of a card. -/
noncomputable def pickS (base a b : List DCard) (s : ByteArray) : DState := if stOf b s = stOf base s then stOf a s else stOf b s
noncomputable def pickC (base a b : List DCard) (s : ByteArray) : List DCard := if (pickS base a b s).1 = true then [(s, (pickS base a b s).2)] else []
theorem pickC_len (base a b : List DCard) (s : ByteArray) : (pickC base a b s).length ≤ 1 := by unfold pickC; split <;> simp
noncomputable def merged (base a b : List DCard) : List DCard := (names [base, a, b]).flatMap (pickC base a b)
noncomputable def mrgS (base a b : List DCard) : List DCard × Int :=
  if bad3 base a b = true then ([], 1) else if ¬ (confl base a b).length = 0 then ([], 8) else if (merged base a b).length ≤ 80 then (merged base a b, 0) else ([], 3)
section
variable {base a b : List DCard} {s : ByteArray}
theorem mrg_bad (h : (!(tt (deckOK base)) || !(tt (deckOK a)) || !(tt (deckOK b))) = true) : mrgS base a b = ([], 1) := by rw [mrgS, bad3, if_pos h]
theorem mrg_con (h : (!(tt (deckOK base)) || !(tt (deckOK a)) || !(tt (deckOK b))) = false) (h1 : ¬ (confl base a b).length = 0) : mrgS base a b = ([], 8) := by rw [mrgS, bad3, if_neg (by rw [h]; decide), if_pos h1]
theorem mrg_long (h : (!(tt (deckOK base)) || !(tt (deckOK a)) || !(tt (deckOK b))) = false) (h1 : (confl base a b).length = 0) (h2 : ¬ (merged base a b).length ≤ 80) : mrgS base a b = ([], 3) := by rw [mrgS, bad3, if_neg (by rw [h]; decide), if_neg (by omega), if_neg h2]
theorem mrg_ok (h : (!(tt (deckOK base)) || !(tt (deckOK a)) || !(tt (deckOK b))) = false) (h1 : (confl base a b).length = 0) (h2 : (merged base a b).length ≤ 80) : mrgS base a b = (merged base a b, 0) := by rw [mrgS, bad3, if_neg (by rw [h]; decide), if_neg (by omega), if_pos h2]
theorem mrg_len (base a b : List DCard) : (mrgS base a b).1.length ≤ 80 := by
  unfold mrgS
  (repeat' split) <;> simp
  omega
theorem pick_same (h : eqv (stOf b s) (stOf base s) = true) : pickS base a b s = stOf a s := by rw [pickS, if_pos (eqv_iff.1 h)]
theorem pick_diff (h : eqv (stOf b s) (stOf base s) = false) : pickS base a b s = stOf b s := by rw [pickS, if_neg (eqv_false_iff.1 h)]
theorem pickC_yes {st : DState} (h : pickS base a b s = st) (h1 : st.1 = true) : pickC base a b s = [(s, st.2)] := by rw [pickC, h, if_pos h1]
theorem pickC_no {st : DState} (h : pickS base a b s = st) (h1 : st.1 = false) : pickC base a b s = [] := by rw [pickC, h, if_neg (by rw [h1]; decide)]
theorem pickC_card {x : List DCard} {c : DCard} (h : pickS base a b s = stOf x s) (h1 : ¬ findC s x < 0) (hc : x[Int.toNat (findC s x)]? = some c) (hs : c.1 = s) : pickC base a b s = [c] := by
  rw [pickC_yes h (by rw [st_yes h1 hc]), st_yes h1 hc, ← hs]
theorem pickC_gone {x : List DCard} (h : pickS base a b s = stOf x s) (h1 : findC s x < 0) : pickC base a b s = [] := pickC_no h (by rw [st_no h1])
end
end Go.Proofs.YtfnkphllkbkfaaaDoor.VL
