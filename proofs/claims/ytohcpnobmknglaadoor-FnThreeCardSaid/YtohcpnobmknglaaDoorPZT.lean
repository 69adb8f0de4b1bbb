/- Proved here: decks that are changed by draws; what a law says of three decks. Plain Lean. -/
import Derived.Test.YtohcpnobmknglaaDoorBpa
set_option linter.unusedVariables false
set_option linter.unusedSimpArgs false
namespace Go.Proofs.YtohcpnobmknglaaDoor.VL
open Go
theorem okM_less {x y : DMask} (hx : okM x = true) : okM (lessM x y) = true := by
  rw [okM_iff] at *
  intro i h1 h2
  rw [bit_less _ _ h2, hx i h1 h2]; rfl
/-! ### Decks by their names -/
theorem deck_names {x : List DCard} (hx : deckOK x) : (x.map (·.1)).Nodup := by
  rw [List.Nodup, List.pairwise_map, List.pairwise_iff_getElem]
  intro i j hi hj hij h
  have := deck_one hx (List.getElem?_eq_getElem hi) (List.getElem?_eq_getElem hj) h
  omega
theorem deck_card {x : List DCard} (hx : deckOK x) {c : DCard} (hc : c ∈ x) : cardOK c := by
  obtain ⟨i, hi⟩ := List.mem_iff_getElem?.1 hc
  obtain ⟨b, h1, h2, _⟩ := hx.2 i (List.getElem?_eq_some_iff.1 hi).1
  rw [hi] at h1
  obtain rfl := Option.some.inj h1
  exact h2
theorem deck_of {x : List DCard} (hl : x.length ≤ 80) (hc : ∀ c ∈ x, cardOK c) (hn : (x.map (·.1)).Nodup) : deckOK x := by
  refine ⟨hl, fun i hi => ?_⟩
  have hg : x[i]? = some x[i] := List.getElem?_eq_getElem hi
  refine ⟨x[i], hg, hc _ (List.getElem_mem hi), fun k hk => ?_⟩
  have hj : x[k]? = some x[k] := List.getElem?_eq_getElem (by omega)
  refine ⟨x[k], hj, ?_⟩
  rw [eqv_false_iff]
  intro h
  rw [List.Nodup, List.pairwise_map, List.pairwise_iff_getElem] at hn
  exact hn k i (by omega) hi hk h
/-! ### Changes -/
def chI (x : List DCard) (z : Nat) (r : List DCard) : Prop := (r.map (·.1)).Sublist ((x.take z).map (·.1)) ∧ ∀ c ∈ r, okM c.2 = true
theorem chI_nil (x : List DCard) : chI x 0 [] := ⟨by simp, fun c h => by cases h⟩
theorem chI_len {x r : List DCard} {z : Nat} (h : chI x z r) : r.length ≤ z := by
  have := h.1.length_le
  rw [List.length_map, List.length_map, List.length_take] at this
  omega
theorem chI_skip {x r : List DCard} {z : Nat} {e : DCard} (h : chI x z r) (he : x[Int.toNat ((z : Nat) : Int)]? = some e) : chI x (z + 1) r := by
  refine ⟨?_, h.2⟩
  rw [take_more he, List.map_append]
  exact h.1.trans (List.sublist_append_left _ _)
theorem chI_add {x r : List DCard} {z : Nat} {e c : DCard} (h : chI x z r) (he : x[Int.toNat ((z : Nat) : Int)]? = some e) (hn : c.1 = e.1) (hm : okM c.2 = true) : chI x (z + 1) (r ++ [c]) := by
  constructor
  · rw [take_more he, List.map_append, List.map_append]
    refine h.1.append ?_
    rw [List.map_cons, List.map_cons, hn]; exact List.Sublist.refl _
  · intro d hd
    rcases List.mem_append.1 hd with hd | hd
    · exact h.2 d hd
    · rw [List.mem_singleton] at hd; subst hd; exact hm
theorem chI_deck {x r : List DCard} {z : Nat} (hx : deckOK x) (h : chI x z r) : deckOK r := by
  have hs : (r.map (·.1)).Sublist (x.map (·.1)) := h.1.trans ((List.take_sublist z x).map _)
  refine deck_of ?_ (fun c hc => ⟨?_, h.2 c hc⟩) (hs.nodup (deck_names hx))
  · have := hs.length_le
    rw [List.length_map, List.length_map] at this
    have := hx.1
    omega
  · have hm : c.1 ∈ x.map (·.1) := hs.subset (List.mem_map_of_mem hc)
    obtain ⟨d, hd, e⟩ := List.mem_map.1 hm
    rw [← e]; exact (deck_card hx hd).1
theorem chI_new {r : List DCard} {c : DCard} (hr : deckOK r) (hl : r.length ≤ 79) (hc : cardOK c) (hn : findC c.1 r < 0) : deckOK (r ++ [c]) := by
  refine deck_of (by rw [List.length_append]; simp only [List.length_cons, List.length_nil]; omega) (fun d hd => ?_) ?_
  · rcases List.mem_append.1 hd with hd | hd
    · exact deck_card hr hd
    · rw [List.mem_singleton] at hd; subst hd; exact hc
  · rw [List.map_append, List.nodup_append]
    refine ⟨deck_names hr, by simp, fun a ha b hb => ?_⟩
    obtain ⟨d, hd, e⟩ := List.mem_map.1 ha
    rw [List.map_cons, List.map_nil, List.mem_singleton] at hb
    rw [hb, ← e]
    exact findC_neg.1 hn d hd
abbrev newL : List ByteArray := [⟨#[110, 101, 119, 116]⟩, ⟨#[111, 119, 108]⟩, ⟨#[112, 105, 103]⟩]
def txtD (s : DSrc) (l : List ByteArray) : ByteArray := l.getD (Int.toNat (pick s (l.length : Int)).1) .empty
theorem txtD_get {m : Int} {s : DSrc} {l : List ByteArray} (h : srcI m s) (hl : 1 ≤ l.length) : l[Int.toNat (pick s (l.length : Int)).1]? = some (txtD s l) := by
  have := pick_in h (l.length : Int)
  rw [txtD, List.getD_eq_getElem?_getD, List.getElem?_eq_getElem (by omega)]; rfl
theorem newL_ok {m : Int} {s : DSrc} (h : srcI m s) : nameOK (txtD s newL) := by
  have hg := List.mem_of_getElem? (txtD_get h (l := newL) (by decide))
  have all : ∀ b ∈ newL, (b.data.toList.all fun b => decide (97 ≤ b.toNat) && decide (b.toNat ≤ 122)) = true ∧ 1 ≤ b.size ∧ b.size ≤ 16 := by decide +kernel
  have := all _ hg
  exact ⟨low_all this.1, this.2⟩
/-! ### Three decks -/
theorem mem_deck {x : List DCard} (hx : deckOK x) {c : DCard} : c ∈ x ↔ stOf x c.1 = (true, c.2) := by
  by_cases h : findC c.1 x < 0
  · rw [st_no h]
    constructor
    · intro hc; exact absurd rfl (findC_neg.1 h c hc)
    · intro h'; cases h'
  · obtain ⟨b, h1, h2, h3⟩ := findC_of (s := c.1) (y := x) (by omega)
    rw [st_yes h h1]
    constructor
    · intro hc
      obtain ⟨j, hj⟩ := List.mem_iff_getElem?.1 hc
      have := deck_one hx h1 hj h2
      rw [this] at h1
      rw [h1] at hj
      obtain rfl := Option.some.inj hj
      rfl
    · intro h'
      have e : b = c := Prod.ext h2 (Prod.mk.inj h').2
      rw [← e]; exact List.mem_of_getElem? h1
theorem st_has {x : List DCard} {s : ByteArray} {m : DMask} (hx : deckOK x) (h : stOf x s = (true, m)) : (s, m) ∈ x := (mem_deck hx).2 h
theorem nmOf_new : ∀ (ds prev : List (List DCard)) (s : ByteArray), s ∈ nmOf prev ds → isNew prev s = true
  | [], prev, s, h => by simp [nmOf] at h
  | x :: r, prev, s, h => by
    rw [nmOf] at h
    rcases List.mem_append.1 h with h | h
    · exact (List.mem_filter.1 h).2
    · have := nmOf_new r (prev ++ [x]) s h
      rw [isNew, List.all_append, Bool.and_eq_true] at this
      exact this.1
theorem nmOf_nodup : ∀ (ds prev : List (List DCard)), (∀ x ∈ ds, deckOK x) → (nmOf prev ds).Nodup
  | [], prev, _ => by simp [nmOf]
  | x :: r, prev, h => by
    rw [nmOf, List.nodup_append]
    refine ⟨(deck_names (h x (by simp))).filter _, nmOf_nodup r _ fun y hy => h y (by simp [hy]), fun a ha b hb => ?_⟩
    have h1 := (List.mem_filter.1 ha).1
    obtain ⟨c, hc, e⟩ := List.mem_map.1 h1
    have h2 := nmOf_new _ _ _ hb
    rw [isNew, List.all_append, Bool.and_eq_true] at h2
    have h3 := h2.2
    rw [List.all_cons, Bool.and_eq_true, decide_eq_true_eq] at h3
    rw [← e]
    exact findC_neg.1 h3.1 c hc
section
variable {base a b : List DCard}
theorem mem_merged {c : DCard} : c ∈ merged base a b ↔ c.1 ∈ names [base, a, b] ∧ pickS base a b c.1 = (true, c.2) := by
  rw [merged, List.mem_flatMap]
  constructor
  · rintro ⟨s, hs, h⟩
    unfold pickC at h
    split at h
    · rename_i h1
      rw [List.mem_singleton] at h
      subst h
      exact ⟨hs, Prod.ext h1 rfl⟩
    · cases h
  · rintro ⟨h1, h2⟩
    refine ⟨c.1, h1, ?_⟩
    rw [pickC, h2, if_pos rfl]
    simp
theorem merged_names : (merged base a b).map (·.1) = (names [base, a, b]).filter fun s => (pickS base a b s).1 := by
  rw [merged]
  induction names [base, a, b] with
  | nil => rfl
  | cons s l ih =>
    rw [List.flatMap_cons, List.map_append, ih, List.filter_cons]
    unfold pickC
    split <;> simp
theorem pick_of (s : ByteArray) : pickS base a b s = stOf a s ∨ pickS base a b s = stOf b s := by unfold pickS; split <;> simp
theorem merged_ok (hb : deckOK base) (ha : deckOK a) (hc : deckOK b) (hl : (merged base a b).length ≤ 80) : deckOK (merged base a b) := by
  refine deck_of hl (fun c h => ?_) ?_
  · obtain ⟨h1, h2⟩ := mem_merged.1 h
    rcases pick_of (base := base) (a := a) (b := b) c.1 with h3 | h3
    · exact deck_card ha (st_has ha (h3.symm.trans h2))
    · exact deck_card hc (st_has hc (h3.symm.trans h2))
  · rw [merged_names]
    exact (nmOf_nodup _ _ (by intro x hx; simp at hx; rcases hx with rfl | rfl | rfl <;> assumption)).filter _
theorem merged_len : (merged base a b).length ≤ base.length + a.length + b.length := by
  have h1 : (merged base a b).length = ((merged base a b).map (·.1)).length := by rw [List.length_map]
  rw [h1, merged_names]
  refine Nat.le_trans (List.length_filter_le _ _) ?_
  unfold names
  rw [nmOf, nmOf, nmOf, nmOf, List.append_nil, List.length_append, List.length_append]
  have f1 := List.length_filter_le (isNew []) (base.map (·.1))
  have f2 := List.length_filter_le (isNew ([] ++ [base])) (a.map (·.1))
  have f3 := List.length_filter_le (isNew ([] ++ [base] ++ [a])) (b.map (·.1))
  rw [List.length_map] at f1 f2 f3
  omega
theorem same_mem {x y : List DCard} (hx : deckOK x) (hy : deckOK y) (h : ∀ c, c ∈ x ↔ c ∈ y) : sameC x y = (true, 0) := by
  have nd : ∀ {z : List DCard}, deckOK z → z.Nodup := fun {z} hz => by
    have := deck_names hz
    rw [List.Nodup, List.pairwise_map] at this
    exact this.imp fun h e => h (by rw [e])
  have hp : x.Perm y := (List.perm_ext_iff_of_nodup (nd hx) (nd hy)).2 h
  rw [sameC_yes (by rw [tt_iff.2 hx, tt_iff.2 hy]; rfl)]
  have hw : within x y := fun i hi => (within_iff hy (List.getElem?_eq_getElem hi)).2 ((h _).1 (List.getElem_mem hi))
  rw [tt_iff.2 hw, hp.length_eq]
  simp
theorem merged_is {x : List DCard} (hb : deckOK base) (ha : deckOK a) (hc : deckOK b) (hx : deckOK x) (hl : (merged base a b).length ≤ 80) (hp : ∀ s, pickS base a b s = stOf x s) (hn : ∀ c ∈ x, c.1 ∈ names [base, a, b]) : sameC (merged base a b) x = (true, 0) := by
  refine same_mem (merged_ok hb ha hc hl) hx fun c => ?_
  rw [mem_merged, hp, ← mem_deck hx]
  exact ⟨fun h => h.2, fun h => ⟨hn c h, h⟩⟩
theorem bad3_no (hb : deckOK base) (ha : deckOK a) (hc : deckOK b) : (!(tt (deckOK base)) || !(tt (deckOK a)) || !(tt (deckOK b))) = false := by rw [tt_iff.2 hb, tt_iff.2 ha, tt_iff.2 hc]; rfl
theorem con_is (hb : deckOK base) (ha : deckOK a) (hc : deckOK b) : conS base a b = (confl base a b, 0) := con_ok (bad3_no hb ha hc)
theorem confl_nil (h : ∀ s, clash base a b s = false) : confl base a b = [] := by
  rw [confl, List.filter_eq_nil_iff]
  intro s _
  rw [h s]; decide
theorem mrg_free (hb : deckOK base) (ha : deckOK a) (hc : deckOK b) (hl : (merged base a b).length ≤ 80) (h : ∀ s, clash base a b s = false) : mrgS base a b = (merged base a b, 0) := mrg_ok (bad3_no hb ha hc) (by rw [confl_nil h]; rfl) hl
theorem name_in {x : List DCard} {c : DCard} (h : c ∈ x) {ds : List (List DCard)} (hx : x ∈ ds) : c.1 ∈ names ds := (mem_names ds).2 ⟨x, hx, c, h, rfl⟩
end
/-- What the law says. -/
theorem three_law {base a b : List DCard} (hb : deckOK base ∧ base.length ≤ 8) (ha : deckOK a ∧ a.length ≤ 9) (hc : deckOK b ∧ b.length ≤ 9) :
    (conS base a b).2 = 0 ∧ (decide (((conS base a b).1.length : Int) > 0)) = ((mrgS base a b).2 == 8) ∧
    (mrgS base a base).2 = 0 ∧ (mrgS base base a).2 = 0 ∧ sameC (mrgS base a base).1 a = (true, 0) ∧ sameC (mrgS base base a).1 a = (true, 0) ∧ (conS base a a).2 = 0 ∧ (conS base a a).1 = [] ∧ (mrgS base a a).2 = 0 ∧ sameC (mrgS base a a).1 a = (true, 0) ∧
    ((mrgS base a b).2 = 0 ∨ (mrgS base a b).2 = 8) ∧ ((mrgS base a b).2 = 0 → (mrgS base b a).2 = 0 ∧ sameC (mrgS base b a).1 (mrgS base a b).1 = (true, 0)) := by
  obtain ⟨hb, lb⟩ := hb
  obtain ⟨ha, la⟩ := ha
  obtain ⟨hc, lc⟩ := hc
  have l1 := merged_len (base := base) (a := a) (b := base)
  have l2 := merged_len (base := base) (a := base) (b := a)
  have l3 := merged_len (base := base) (a := a) (b := a)
  have l4 := merged_len (base := base) (a := a) (b := b)
  have l5 := merged_len (base := base) (a := b) (b := a)
  have c1 : ∀ s, clash base a base s = false := fun s => by simp [clash, eqv_self]
  have c2 : ∀ s, clash base base a s = false := fun s => by simp [clash, eqv_self]
  have c3 : ∀ s, clash base a a s = false := fun s => by simp [clash, eqv_self]
  have m1 := mrg_free hb ha hb (by omega) c1
  have m2 := mrg_free hb hb ha (by omega) c2
  have m3 := mrg_free hb ha ha (by omega) c3
  have k1 := con_is hb ha hc
  have k2 := con_is hb ha ha
  rw [m1, m2, m3, k1, k2, confl_nil c3]
  refine ⟨rfl, ?_, rfl, rfl, ?_, ?_, rfl, rfl, rfl, ?_, ?_, ?_⟩
  · by_cases h : (confl base a b).length = 0
    · rw [mrg_ok (bad3_no hb ha hc) h (by omega)]
      simp [h]
    · rw [mrg_con (bad3_no hb ha hc) h]
      simp; omega
  · exact merged_is hb ha hb ha (by omega) (fun s => by rw [pickS, if_pos rfl]) fun c h => name_in h (by simp)
  · exact merged_is hb hb ha ha (by omega) (fun s => by unfold pickS; split <;> simp_all) fun c h => name_in h (by simp)
  · exact merged_is hb ha ha ha (by omega) (fun s => by unfold pickS; split <;> rfl) fun c h => name_in h (by simp)
  · by_cases h : (confl base a b).length = 0
    · left; rw [mrg_ok (bad3_no hb ha hc) h (by omega)]
    · right; rw [mrg_con (bad3_no hb ha hc) h]
  · intro h0
    have hz : (confl base a b).length = 0 := by
      apply Classical.byContradiction
      intro h
      rw [mrg_con (bad3_no hb ha hc) h] at h0
      cases h0
    have cl : ∀ s, clash base a b s = false := fun s => by
      have hn : confl base a b = [] := List.eq_nil_of_length_eq_zero hz
      rw [confl, List.filter_eq_nil_iff] at hn
      by_cases hs : s ∈ names [base, a]
      · exact Bool.eq_false_iff.2 (hn s hs)
      · have e : ∀ y ∈ [base, a], findC s y < 0 := fun y hy => by
          rw [findC_neg]
          intro c hc' e'
          exact hs ((mem_names _).2 ⟨y, hy, c, hc', e'⟩)
        have e1 := st_no (e base (by simp))
        have e2 := st_no (e a (by simp))
        simp [clash, e1, e2, eqv_self]
    have cl' : ∀ s, clash base b a s = false := fun s => by
      have h := cl s
      unfold clash at h ⊢
      have hs : eqv (stOf b s) (stOf a s) = eqv (stOf a s) (stOf b s) := by rw [Bool.eq_iff_iff, eqv_iff, eqv_iff]; exact eq_comm
      rw [hs]
      revert h
      cases eqv (stOf base s) (stOf a s) <;> cases eqv (stOf base s) (stOf b s) <;> cases eqv (stOf a s) (stOf b s) <;> simp
    have m4 := mrg_free hb ha hc (by omega) cl
    have m5 := mrg_free hb hc ha (by omega) cl'
    rw [m4, m5]
    refine ⟨rfl, ?_⟩
    refine same_mem (merged_ok hb hc ha (by omega)) (merged_ok hb ha hc (by omega)) fun c => ?_
    rw [mem_merged, mem_merged]
    have hp : pickS base b a c.1 = pickS base a b c.1 := by
      have h := cl c.1
      unfold clash at h
      simp only [Bool.and_eq_false_iff, Bool.not_eq_false', eqv_iff] at h
      unfold pickS
      split <;> split <;> first | (simp_all; done) | (rcases h with (h | h) | h <;> first | exact absurd h.symm (by assumption) | exact h)
    have hq : c.1 ∈ names [base, b, a] ↔ c.1 ∈ names [base, a, b] := by
      rw [mem_names, mem_names]
      constructor
      · rintro ⟨y, hy, h⟩; exact ⟨y, by simp at hy ⊢; rcases hy with h | h | h <;> simp [h], h⟩
      · rintro ⟨y, hy, h⟩; exact ⟨y, by simp at hy ⊢; rcases hy with h | h | h <;> simp [h], h⟩
    rw [hp, hq]
end Go.Proofs.YtohcpnobmknglaaDoor.VL
