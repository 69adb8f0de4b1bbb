/- Proved here: what the counts of a table have in common (the law FnCounts). Plain Lean. -/
import Derived.Test.YtkgboidjghcegaaGreatDoorPXH
set_option linter.unusedVariables false
set_option linter.unusedSimpArgs false
namespace Go.Proofs.YtkgboidjghcegaaGreatDoor.VL
open Go
/-! ### Rows of a value -/
def rowS (v : Int) : List DCell → Int
  | [] => 0
  | c :: l => (if c.1 = v then c.2.2 else 0) + rowS v l
def rowN (v : Int) : List DCell → Nat
  | [] => 0
  | c :: l => (if c.1 = v then 1 else 0) + rowN v l
def cntU (v : Int) : List Int → Int
  | [] => 0
  | a :: l => (if a = v then 1 else 0) + cntU v l
theorem rowS_app (v : Int) : ∀ a b : List DCell, rowS v (a ++ b) = rowS v a + rowS v b
  | [], b => by simp [rowS]
  | c :: a, b => by rw [List.cons_append, rowS, rowS, rowS_app v a b]; omega
theorem rowN_app (v : Int) : ∀ a b : List DCell, rowN v (a ++ b) = rowN v a + rowN v b
  | [], b => by simp [rowN]
  | c :: a, b => by rw [List.cons_append, rowN, rowN, rowN_app v a b]; omega
theorem cntU_app (v : Int) : ∀ a b : List Int, cntU v (a ++ b) = cntU v a + cntU v b
  | [], b => by simp [cntU]
  | c :: a, b => by rw [List.cons_append, cntU, cntU, cntU_app v a b]; omega
theorem rowS_cnt2 (v a b : Int) : ∀ l : List DCell, rowS v (cnt2 a b l) = rowS v l + (if a = v then 1 else 0)
  | [] => by simp [cnt2, rowS]
  | c :: l => by
    rw [cnt2]
    split
    · rw [rowS, rowS, rowS_cnt2 v a b l]; omega
    · split
      · rename_i h
        rw [rowS, rowS]
        show (if a = v then c.2.2 + 1 else 0) + rowS v l = _
        rw [h.1]
        split <;> omega
      · rw [rowS]
        show (if a = v then (1 : Int) else 0) + rowS v (c :: l) = _
        omega
theorem rowS_crs (v : Int) (f g : DField) (ms : List DMask) : rowS v (crs f g ms) = cntU v (ms.map (valIn f)) := by
  refine rev_ind (p := fun ms => rowS v (crs f g ms) = cntU v (ms.map (valIn f))) (by simp [crs, rowS, cntU]) (fun l m ih => ?_) ms
  rw [crs_snoc, rowS_cnt2, ih, List.map_append, cntU_app]
  simp [cntU]
theorem rowS_in {v : Int} {n : Nat} : ∀ {l : List DCell}, (∀ c ∈ l, 1 ≤ c.2.2 ∧ c.2.2 ≤ (n : Int)) → 0 ≤ rowS v l ∧ rowS v l ≤ l.length * n
  | [], _ => by simp [rowS]
  | c :: l, h => by
    have h1 := h c (List.mem_cons_self ..)
    have h2 := rowS_in (v := v) (l := l) fun d hd => h d (List.mem_cons_of_mem _ hd)
    rw [rowS, List.length_cons]
    have h3 : ((l.length + 1 : Nat) : Int) * (n : Int) = l.length * n + n := by rw [Int.natCast_add, Int.add_mul]; simp
    rw [h3]
    split <;> omega
theorem rowN_le (v : Int) : ∀ l : List DCell, rowN v l ≤ l.length
  | [] => Nat.le_refl _
  | c :: l => by have := rowN_le v l; rw [rowN, List.length_cons]; split <;> omega
section
variable {v : Int} {l : List DCell} {z : Nat} {c : DCell}
theorem rowS_next (hc : l[Int.toNat ((z : Nat) : Int)]? = some c) : rowS v (l.take (z + 1)) = rowS v (l.take z) + (if c.1 = v then c.2.2 else 0) := by
  rw [take_more hc, rowS_app]; simp [rowS]
theorem rowN_next (hc : l[Int.toNat ((z : Nat) : Int)]? = some c) : rowN v (l.take (z + 1)) = rowN v (l.take z) + (if c.1 = v then 1 else 0) := by
  rw [take_more hc, rowN_app]; simp [rowN]
end
theorem rowN_pos {v : Int} : ∀ {l : List DCell}, (∃ c ∈ l, c.1 = v) ↔ 1 ≤ rowN v l
  | [] => by simp [rowN]
  | d :: l => by
    rw [rowN]
    have ih := rowN_pos (v := v) (l := l)
    constructor
    · rintro ⟨c, hc, h⟩
      rcases List.mem_cons.1 hc with rfl | hc
      · rw [if_pos h]; omega
      · have := ih.1 ⟨c, hc, h⟩; omega
    · intro h
      by_cases hd : d.1 = v
      · exact ⟨d, List.mem_cons_self .., hd⟩
      · rw [if_neg hd] at h
        obtain ⟨c, hc, h2⟩ := ih.2 (by omega)
        exact ⟨c, List.mem_cons_of_mem _ hc, h2⟩
theorem rowN_two {v : Int} : ∀ {l : List DCell}, l.Pairwise celT → ((∃ c ∈ l, ∃ d ∈ l, c.1 = v ∧ d.1 = v ∧ c.2.1 ≠ d.2.1) ↔ 2 ≤ rowN v l)
  | [], _ => by simp [rowN]
  | e :: l, hp => by
    have h1 := List.pairwise_cons.1 hp
    have ih := rowN_two (v := v) h1.2
    rw [rowN]
    constructor
    · rintro ⟨c, hc, d, hd, h2, h3, h4⟩
      rcases List.mem_cons.1 hc with e1 | hc'
      · rcases List.mem_cons.1 hd with e2 | hd'
        · rw [e1, e2] at h4; exact absurd rfl h4
        · rw [if_pos (e1 ▸ h2)]
          have := (rowN_pos (v := v) (l := l)).1 ⟨d, hd', h3⟩; omega
      · rcases List.mem_cons.1 hd with e2 | hd'
        · rw [if_pos (e2 ▸ h3)]
          have := (rowN_pos (v := v) (l := l)).1 ⟨c, hc', h2⟩; omega
        · have := ih.1 ⟨c, hc', d, hd', h2, h3, h4⟩; omega
    · intro h
      by_cases he : e.1 = v
      · rw [if_pos he] at h
        obtain ⟨c, hc, h2⟩ := (rowN_pos (v := v) (l := l)).2 (by omega)
        have h3 := h1.1 c hc
        unfold celT at h3
        exact ⟨e, List.mem_cons_self .., c, List.mem_cons_of_mem _ hc, he, h2, by omega⟩
      · rw [if_neg he] at h
        obtain ⟨c, hc, d, hd, h2⟩ := ih.2 (by omega)
        exact ⟨c, List.mem_cons_of_mem _ hc, d, List.mem_cons_of_mem _ hd, h2⟩
/-! ### Tallies -/
theorem diag {f : DField} {ms : List DMask} {c : DCell} (hc : c ∈ crs f f ms) : c.1 = c.2.1 := by
  obtain ⟨m, _, h1, h2⟩ := (crs_mem f f ms c.1 c.2.1).1 ⟨c, hc, rfl, rfl⟩
  rw [← h1, ← h2]
theorem rowS_one : ∀ {l : List DCell}, l.Pairwise celT → (∀ c ∈ l, c.1 = c.2.1) → ∀ c ∈ l, rowS c.1 l = c.2.2
  | [], _, _, c, hc => by cases hc
  | e :: l, hp, hd, c, hc => by
    have h1 := List.pairwise_cons.1 hp
    have hz : ∀ {v : Int} {r : List DCell}, (∀ d ∈ r, d.1 ≠ v) → rowS v r = 0 := fun {v r} h => by
      induction r with
      | nil => rfl
      | cons d r ih => rw [rowS, if_neg (h d (List.mem_cons_self ..)), ih fun d hd => h d (List.mem_cons_of_mem _ hd)]; rfl
    rw [rowS]
    rcases List.mem_cons.1 hc with rfl | hc
    · rw [if_pos rfl, hz fun d hd' => ?_]
      · omega
      · have h2 := h1.1 d hd'
        have h3 := hd c (List.mem_cons_self ..)
        have h4 := hd d (List.mem_cons_of_mem _ hd')
        unfold celT at h2; omega
    · have h2 := h1.1 c hc
      have h3 := hd e (List.mem_cons_self ..)
      have h4 := hd c (List.mem_cons_of_mem _ hc)
      rw [if_neg (by unfold celT at h2; omega), rowS_one h1.2 (fun d hd' => hd d (List.mem_cons_of_mem _ hd')) c hc]
      omega
section
variable {f g : DField} {x : List DCard} {t u : DTal} {z : Nat}
theorem tly_mem (h : t ∈ tly f x) : ∃ c ∈ crs f f (x.map (·.2)), c.1 = t.1 ∧ c.2.2 = t.2 := by
  rw [tly_crs, talOf] at h
  obtain ⟨c, hc, rfl⟩ := List.mem_map.1 h
  exact ⟨c, hc, rfl, rfl⟩
/-- A table's row has as many as the tally. -/
theorem part_tly (h : t ∈ tly f x) : rowS t.1 (crs f g (x.map (·.2))) = t.2 := by
  obtain ⟨c, hc, h1, h2⟩ := tly_mem h
  rw [rowS_crs, ← rowS_crs t.1 f f, ← h1, rowS_one (crs_sort f f _) (fun c hc => diag hc) c hc, h2]
theorem tly_asc (ht : (tly f x)[z]? = some t) (hu : (tly f x)[z + 1]? = some u) : t.1 < u.1 := by
  rw [tly_crs, talOf, List.getElem?_map] at ht hu
  obtain ⟨c, hc, rfl⟩ := Option.map_eq_some_iff.1 ht
  obtain ⟨d, hd, rfl⟩ := Option.map_eq_some_iff.1 hu
  obtain ⟨h1, h2⟩ := List.getElem?_eq_some_iff.1 hc
  obtain ⟨h3, h4⟩ := List.getElem?_eq_some_iff.1 hd
  have h5 := List.pairwise_iff_getElem.1 (crs_sort f f (x.map (·.2))) z (z + 1) h1 h3 (by omega)
  rw [h2, h4] at h5
  have h6 := diag (List.mem_of_getElem? hc)
  have h7 := diag (List.mem_of_getElem? hd)
  unfold celT at h5
  show c.1 < d.1
  omega
/-- One row each: the one follows from the other. -/
theorem alone_fn : (∀ t ∈ tly f x, rowN t.1 (crs f g (x.map (·.2))) = 1) ↔ fnC f g (x.map (·.2)) := by
  have hs := crs_sort f g (x.map (·.2))
  constructor
  · intro h a ha b hb hab
    obtain ⟨c, hc, h1, h2⟩ := (crs_mem f g _ _ _).2 ⟨a, ha, rfl, rfl⟩
    obtain ⟨d, hd, h3, h4⟩ := (crs_mem f g _ _ _).2 ⟨b, hb, rfl, rfl⟩
    obtain ⟨e, he, h5, _⟩ := (crs_mem f f _ _ _).2 ⟨a, ha, rfl, rfl⟩
    have ht : (e.1, e.2.2) ∈ tly f x := by rw [tly_crs, talOf]; exact List.mem_map.2 ⟨e, he, rfl⟩
    have h6 := h _ ht
    refine Classical.byContradiction fun hne => ?_
    have h7 := (rowN_two (v := e.1) hs).1 ⟨c, hc, d, hd, by omega, by omega, by omega⟩
    dsimp only at h6
    omega
  · intro h t ht
    obtain ⟨e, he, h1, _⟩ := tly_mem ht
    obtain ⟨m, hm, h2, _⟩ := (crs_mem f f _ _ _).1 ⟨e, he, rfl, rfl⟩
    obtain ⟨c, hc, h3, _⟩ := (crs_mem f g _ _ _).2 ⟨m, hm, rfl, rfl⟩
    have h4 := rowN_pos.1 ⟨c, hc, show c.1 = t.1 by omega⟩
    have h5 : ¬ 2 ≤ rowN t.1 (crs f g (x.map (·.2))) := fun h9 => by
      obtain ⟨p, hp, q, hq, h6, h7, h8⟩ := (rowN_two hs).2 h9
      obtain ⟨a, ha, a1, a2⟩ := (crs_mem f g _ _ _).1 ⟨p, hp, rfl, rfl⟩
      obtain ⟨b, hb, b1, b2⟩ := (crs_mem f g _ _ _).1 ⟨q, hq, rfl, rfl⟩
      have := h a ha b hb (by omega)
      omega
    omega
/-! ### Sums -/
def smT (l : List DTal) : Int := l.foldl (fun n t => n + t.2) 0
theorem smT_next {l : List DTal} (ht : l[Int.toNat ((z : Nat) : Int)]? = some t) : smT (l.take z) + t.2 = smT (l.take (z + 1)) := foldl_next (f := fun n (t : DTal) => n + t.2) ht
theorem smT_fold : ∀ (l : List DTal) (n : Int), l.foldl (fun n t => n + t.2) n = n + smT l
  | [], n => by simp [smT]
  | t :: l, n => by
    have h1 := smT_fold l (n + t.2)
    have h2 := smT_fold l (0 + t.2)
    rw [List.foldl_cons, h1]
    show _ = n + (t :: l).foldl (fun n (t : DTal) => n + t.2) 0
    rw [List.foldl_cons, h2]
    omega
theorem smT_cons (t : DTal) (l : List DTal) : smT (t :: l) = t.2 + smT l := by
  rw [smT, List.foldl_cons, smT_fold]; omega
theorem sm_cnt2 (a b : Int) : ∀ l : List DCell, smT (talOf (cnt2 a b l)) = smT (talOf l) + 1
  | [] => rfl
  | c :: l => by
    have ih := sm_cnt2 a b l
    unfold talOf at *
    rw [cnt2]
    split
    · rw [List.map_cons, List.map_cons, smT_cons, smT_cons, ih]; omega
    · split
      · rw [List.map_cons, List.map_cons, smT_cons, smT_cons]
        show c.2.2 + 1 + _ = c.2.2 + _ + 1
        omega
      · rw [List.map_cons, smT_cons]
        show (1 : Int) + _ = _
        omega
theorem sm_tly (f : DField) (x : List DCard) : smT (tly f x) = x.length := by
  rw [tly_crs]
  have key : ∀ ms : List DMask, smT (talOf (crs f f ms)) = ms.length := fun ms => by
    refine rev_ind (p := fun ms => smT (talOf (crs f f ms)) = (ms.length : Int)) rfl (fun l m ih => ?_) ms
    rw [crs_snoc, sm_cnt2, ih, List.length_append]
    simp
  rw [key, List.length_map]
theorem smT_in {l : List DTal} (h : ∀ t ∈ l, 1 ≤ t.2 ∧ t.2 ≤ ((60 : Nat) : Int)) (z : Nat) : 0 ≤ smT (l.take z) ∧ smT (l.take z) ≤ 60 * l.length := by
  induction l generalizing z with
  | nil => simp [smT]
  | cons t l ih =>
    cases z with
    | zero => simp [smT]; omega
    | succ z =>
      have h1 := ih (fun u hu => h u (List.mem_cons_of_mem _ hu)) z
      have h2 := h t (List.mem_cons_self ..)
      rw [List.take_succ_cons, smT_cons, List.length_cons]
      omega
/-! ### The most -/
def mxT (l : List DTal) : Int := l.foldl (fun n t => max n t.2) 0
theorem mxT_next {l : List DTal} (ht : l[Int.toNat ((z : Nat) : Int)]? = some t) : max (mxT (l.take z)) t.2 = mxT (l.take (z + 1)) := foldl_next (f := fun n (t : DTal) => max n t.2) ht
theorem cmx_mx (l : List DTal) : ∀ z, (cmx l z).2 = mxT (l.take z) := by
  intro z
  unfold cmx mxT
  have key : ∀ (r : List DTal) (b : DTal) (n : Int), b.2 = n → (r.foldl (fun b t => if t.2 > b.2 then t else b) b).2 = r.foldl (fun n t => max n t.2) n := by
    intro r
    induction r with
    | nil => intro b n h; exact h
    | cons t r ih =>
      intro b n h
      rw [List.foldl_cons, List.foldl_cons]
      apply ih
      split <;> omega
  exact key _ _ _ rfl
/-- The first of those that have the most. -/
theorem cmx_at {l : List DTal} (h : ∀ t ∈ l, 1 ≤ t.2) : ∀ z, 1 ≤ z → z ≤ l.length → ∃ i, i < z ∧ l[i]? = some (cmx l z) ∧ ∀ k u, k < i → l[k]? = some u → u.2 < (cmx l z).2 := by
  intro z
  induction z with
  | zero => intro h1; omega
  | succ z ih =>
    intro _ hz
    obtain ⟨t, ht⟩ : ∃ t, l[Int.toNat ((z : Nat) : Int)]? = some t := ⟨_, List.getElem?_eq_getElem (by omega)⟩
    have ht' : l[z]? = some t := ht
    have hn := cmx_next ht
    have ht1 := h t (List.mem_of_getElem? ht')
    by_cases h0 : z = 0
    · subst h0
      have : cmx l 1 = t := cmx_one ht' ht1
      exact ⟨0, by omega, by rw [this]; exact ht', fun k u hk => by omega⟩
    · obtain ⟨i, hi, h1, h2⟩ := ih (by omega) (by omega)
      by_cases hc : t.2 > (cmx l z).2
      · rw [if_pos hc] at hn
        rw [← hn]
        refine ⟨z, by omega, ht', fun k u hk hu => ?_⟩
        have hle : ∀ y, y ≤ z → ∀ k u, k < y → l[k]? = some u → u.2 ≤ (cmx l y).2 := by
          intro y
          induction y with
          | zero => intro _ k u hk; omega
          | succ y ihy =>
            intro hy k u hk hu
            obtain ⟨w, hw⟩ : ∃ w, l[Int.toNat ((y : Nat) : Int)]? = some w := ⟨_, List.getElem?_eq_getElem (by omega)⟩
            have hn2 := cmx_next hw
            rcases Nat.lt_or_ge k y with hk2 | hk2
            · have := ihy (by omega) k u hk2 hu
              rw [← hn2]; split <;> omega
            · obtain rfl : k = y := by omega
              rw [toN] at hw
              rw [hw] at hu
              obtain rfl := Option.some.inj hu
              rw [← hn2]; split <;> omega
        have := hle z (Nat.le_refl _) k u hk hu
        omega
      · rw [if_neg hc] at hn
        rw [← hn]
        exact ⟨i, by omega, h1, h2⟩
/-- The value of the first that has the most. -/
theorem most_val {l : List DTal} {t : DTal} {w : Nat} (h : ∀ t ∈ l, 1 ≤ t.2) (hw : l[w]? = some t) (hb : ∀ k u, k < w → l[k]? = some u → u.2 ≠ mxT l) (ht : t.2 = mxT l) : t.1 = (cmx l l.length).1 := by
  have hl : w < l.length := (List.getElem?_eq_some_iff.1 hw).1
  obtain ⟨i, hi, h1, h2⟩ := cmx_at h l.length (by omega) (Nat.le_refl _)
  have hm := cmx_mx l l.length
  rw [List.take_length] at hm
  have : i = w := by
    rcases Nat.lt_trichotomy i w with h3 | h3 | h3
    · exact absurd hm (hb i _ h3 h1)
    · exact h3
    · have := h2 w t h3 hw; omega
  subst this
  rw [h1] at hw
  rw [Option.some.inj hw]
theorem most_some {l : List DTal} (h : ∀ t ∈ l, 1 ≤ t.2) (hl : l.length ≠ 0) : ∃ (i : Nat) (t : DTal), l[i]? = some t ∧ t.2 = mxT l := by
  obtain ⟨i, hi, h1, h2⟩ := cmx_at h l.length (by omega) (Nat.le_refl _)
  have hm := cmx_mx l l.length
  rw [List.take_length] at hm
  exact ⟨i, _, h1, hm⟩
/-! ### The best field -/
theorem bst_law {s : List DField} : ∀ z, 1 ≤ z → z ≤ s.length → ∃ b : Nat, b < z ∧ (bst s x z).1 = b ∧ (bst s x z).2 = spl (tly (fldA s b) x) ∧ (∀ k : Nat, k < z → spl (tly (fldA s b) x) ≤ spl (tly (fldA s k) x)) ∧ ∀ k : Nat, k < b → spl (tly (fldA s b) x) ≠ spl (tly (fldA s k) x) := by
  intro z
  induction z with
  | zero => intro h; omega
  | succ z ih =>
    intro _ hz
    have hf : s[Int.toNat ((z : Nat) : Int)]? = some (fldA s z) := fldA_get (by omega)
    by_cases h0 : z = 0
    · subst h0
      have h1 := bst_yes (x := x) hf (.inl rfl)
      rw [← h1]
      exact ⟨0, by omega, rfl, rfl, fun k hk => by rw [show k = 0 by omega]; exact Int.le_refl _, fun k hk => by omega⟩
    · obtain ⟨b, hb, h1, h2, h3, h4⟩ := ih (by omega) (by omega)
      by_cases hc : spl (tly (fldA s z) x) < (bst s x z).2
      · have h5 := bst_yes (x := x) hf (.inr hc)
        rw [← h5]
        refine ⟨z, by omega, rfl, rfl, fun k hk => ?_, fun k hk => ?_⟩
        · rcases Nat.lt_or_ge k z with h6 | h6
          · have := h3 k h6; omega
          · rw [show k = z by omega]; exact Int.le_refl _
        · have := h3 k hk; omega
      · have h5 := bst_no (x := x) hf (by omega : ¬ (z = 0 ∨ spl (tly (fldA s z) x) < (bst s x z).2))
        rw [← h5]
        refine ⟨b, by omega, h1, h2, fun k hk => ?_, h4⟩
        rcases Nat.lt_or_ge k z with h6 | h6
        · exact h3 k h6
        · rw [show k = z by omega]; omega
end
/-! ### The table is right -/
theorem deck_all {x : List DCard} (h : deckOK x) : allL cardOK x := fun i hi => by
  obtain ⟨c, hc, h1⟩ := h.2 i hi
  exact ⟨c, hc, h1.1⟩
theorem cnt_tab {s : List DField} {x : List DCard} {i j : Int} (hs : schemeOK s) (hx : deckOK x) (hl : x.length ≤ 60) (hi : 0 ≤ i ∧ i < s.length) (hj : 0 ≤ j ∧ j < s.length) : tabF s x [i, j] = 0 :=
  (ask_ok (by rw [tt_iff.2 hs, tt_iff.2 (deck_all hx)]; rfl) (by omega) (by omega) (by omega)).symm
noncomputable def shoS (p q : Int) : (Int × Int) × Int := if q < 1 ∨ q > 1000000000 ∨ p < 0 ∨ p > q then ((0, 0), 2) else (shr p q, 0)
theorem sho_no {p q : Int} (h : q < 1 ∨ q > 1000000000 ∨ p < 0 ∨ p > q) : shoS p q = ((0, 0), 2) := if_pos h
theorem sho_yes {p q : Int} (h : ¬ (q < 1 ∨ q > 1000000000 ∨ p < 0 ∨ p > q)) : shoS p q = (shr p q, 0) := if_neg h
theorem alone_next {l : List DTal} {t : DTal} {z : Nat} {p : Int → Prop} (ht : l[Int.toNat ((z : Nat) : Int)]? = some t) : (∀ u ∈ l.take (z + 1), p u.1) ↔ (∀ u ∈ l.take z, p u.1) ∧ p t.1 := by
  rw [take_more ht]
  constructor
  · exact fun h => ⟨fun u hu => h u (List.mem_append_left _ hu), h t (List.mem_append_right _ (List.mem_singleton.2 rfl))⟩
  · rintro ⟨h1, h2⟩ u hu
    rcases List.mem_append.1 hu with h | h
    · exact h1 u h
    · rw [List.mem_singleton.1 h]; exact h2
/-! ### Shares -/
theorem told_shr {p q : Int} (h1 : 0 ≤ p) (h2 : p ≤ q) (h3 : 1 ≤ q ∧ q ≤ 1000000000) : toldS (shr p q) = true := by
  have hg : 0 < ((Int.gcd p q : Nat) : Int) := gcd_pos' (by omega)
  have hgn : 0 < Int.gcd p q := by omega
  have d1 : ((Int.gcd p q : Nat) : Int) ∣ p := Int.gcd_dvd_left ..
  have d2 : ((Int.gcd p q : Nat) : Int) ∣ q := Int.gcd_dvd_right ..
  have e1 : p.tdiv (Int.gcd p q) = p / (Int.gcd p q) := Int.tdiv_eq_ediv_of_nonneg h1
  have e2 : q.tdiv (Int.gcd p q) = q / (Int.gcd p q) := Int.tdiv_eq_ediv_of_nonneg (by omega)
  have hco : Int.gcd (p / (Int.gcd p q)) (q / (Int.gcd p q)) = 1 := by
    rw [Int.gcd_ediv d1 d2, Int.natAbs_natCast, Nat.div_self hgn]
  have m1 := Int.ediv_mul_cancel d1
  have m2 := Int.ediv_mul_cancel d2
  have hq1 : 1 ≤ q / (Int.gcd p q) := by
    rcases Int.lt_or_le (q / (Int.gcd p q)) 1 with h | h
    · have h9 : q / (Int.gcd p q) * (Int.gcd p q) ≤ 0 := Int.mul_nonpos_of_nonpos_of_nonneg (by omega) (by omega)
      omega
    · exact h
  have hq2 : q / (Int.gcd p q) ≤ q := Int.ediv_le_self _ (by omega)
  have hp1 : 0 ≤ p / (Int.gcd p q) := Int.ediv_nonneg h1 (by omega)
  have hp2 : p / (Int.gcd p q) ≤ q / (Int.gcd p q) := Int.ediv_le_ediv hg h2
  unfold toldS shr
  simp only [e1, e2, hco, inb, Bool.and_eq_true, decide_eq_true_eq]
  refine ⟨⟨⟨hq1, by omega⟩, ⟨hp1, hp2⟩⟩, rfl⟩
theorem cmp_same {w : Int × Int} (h : toldS w = true) : cmpS w w = (0, 0) := by
  unfold cmpS
  rw [h]
  have : cmpI (w.1 * w.2) (w.1 * w.2) = 0 := by unfold cmpI; simp
  simp [this]
theorem tly_asc' {f : DField} {x : List DCard} {t u : DTal} {z : Nat} (hz : 0 < z) (hu : (tly f x)[Int.toNat ((z : Int) - 1)]? = some u) (ht : (tly f x)[Int.toNat ((z : Nat) : Int)]? = some t) : u.1 < t.1 := by
  obtain ⟨k, rfl⟩ : ∃ k, z = k + 1 := ⟨z - 1, by omega⟩
  have h9 : Int.toNat (((k + 1 : Nat) : Int) - 1) = k := by omega
  rw [h9] at hu
  exact tly_asc hu ht
theorem alone_and {l : List DTal} {t : DTal} {z : Nat} {n : Int → Nat} (ht : l[Int.toNat ((z : Nat) : Int)]? = some t) : (tt (∀ u ∈ l.take z, n u.1 = 1) && (((n t.1 : Nat) : Int) == 1)) = tt (∀ u ∈ l.take (z + 1), n u.1 = 1) := by
  refine tt_eq ?_
  rw [alone_next (p := fun v => n v = 1) ht, Bool.and_eq_true, tt_iff, beq_iff_eq]
  constructor
  · rintro ⟨h1, h2⟩; exact ⟨h1, by omega⟩
  · rintro ⟨h1, h2⟩; exact ⟨h1, by omega⟩
end Go.Proofs.YtkgboidjghcegaaGreatDoor.VL
