/- Proved here: edits lead from deck to deck, and back. Plain Lean. -/
import Derived.Test.YtmmjcpiikdcldaaGreatDoorPZT
set_option linter.unusedVariables false
set_option linter.unusedSimpArgs false
namespace Go.Proofs.YtmmjcpiikdcldaaGreatDoor.VL
open Go
attribute [local instance low] Classical.propDecidable
noncomputable def stU (g : ByteArray → DState) (s : ByteArray) (v : DState) : ByteArray → DState := fun t => if t = s then v else g t
def isD (x : List DCard) (g : ByteArray → DState) : Prop := deckOK x ∧ ∀ s, stOf x s = g s
theorem deck_nodup {x : List DCard} (hx : deckOK x) : x.Nodup := by
  have := deck_names hx
  rw [List.Nodup, List.pairwise_map] at this
  exact this.imp fun h e => h (by rw [e])
theorem perm_of {x y : List DCard} (hx : deckOK x) (hy : deckOK y) (h : ∀ s, stOf x s = stOf y s) : x.Perm y :=
  (List.perm_ext_iff_of_nodup (deck_nodup hx) (deck_nodup hy)).2 fun c => by rw [mem_deck hx, mem_deck hy, h]
theorem isD_same {x y : List DCard} (hy : deckOK y) (h : isD x (stOf y)) : sameC x y = (true, 0) := same_mem h.1 hy fun c => by rw [mem_deck h.1, mem_deck hy, h.2]
theorem isD_of {x : List DCard} {g : ByteArray → DState} (hx : deckOK x) (h0 : ∀ s, (∀ c ∈ x, c.1 ≠ s) → g s = (false, zM)) (h1 : ∀ c ∈ x, g c.1 = (true, c.2)) : isD x g := by
  refine ⟨hx, fun s => ?_⟩
  by_cases h : findC s x < 0
  · rw [st_no h, h0 s (findC_neg.1 h)]
  · obtain ⟨b, h2, h3, _⟩ := findC_of (s := s) (y := x) (by omega)
    have hm := List.mem_of_getElem? h2
    have h4 := (mem_deck hx).1 hm
    rw [h3] at h4
    rw [h4, ← h1 b hm, h3]
theorem st_false {x : List DCard} {s : ByteArray} : (stOf x s).1 = false ↔ findC s x < 0 := by
  unfold stOf
  split <;> simp [*]
theorem st_zero {x : List DCard} {s : ByteArray} (h : (stOf x s).1 = false) : stOf x s = (false, zM) := st_no (st_false.1 h)
section
variable {x y : List DCard} {g : ByteArray → DState} {e : DEdit}
/-! ### One edit -/
theorem do_add (h : isD x g) (hl : x.length < 80) (h1 : e.1 = 1) (hc : cardOK (e.2.1, e.2.2.2)) (h0 : (g e.2.1).1 = false) : ∃ y, applyS x e = (y, 0) ∧ isD y (stU g e.2.1 (true, e.2.2.2)) ∧ y.length = x.length + 1 := by
  have hn : findC e.2.1 x < 0 := st_false.1 (by rw [h.2]; exact h0)
  refine ⟨_, ap_add h1 (by omega) hn, isD_of (chI_new h.1 (by omega) hc hn) (fun s hs => ?_) (fun c hc => ?_), by simp⟩
  · have h2 : s ≠ e.2.1 := fun e' => hs (e.2.1, e.2.2.2) (by simp) e'.symm
    rw [stU, if_neg h2, ← h.2]
    exact st_no (findC_neg.2 fun c hc => hs c (by simp [hc]))
  · rcases List.mem_append.1 hc with hc | hc
    · rw [stU, if_neg (findC_neg.1 hn c hc), ← h.2]
      exact (mem_deck h.1).1 hc
    · rw [List.mem_singleton] at hc; subst hc; exact if_pos rfl
theorem at_find (h : isD x g) {m : DMask} (h0 : g e.2.1 = (true, m)) : ∃ k : Nat, findC e.2.1 x = (k : Int) ∧ x[k]? = some (e.2.1, m) := by
  have h1 : ¬ findC e.2.1 x < 0 := fun h1 => by
    have := h.2 e.2.1
    rw [st_no h1, h0] at this
    cases this
  obtain ⟨b, h2, h3, _⟩ := findC_of (s := e.2.1) (y := x) (by omega)
  have h4 := h.2 e.2.1
  rw [st_yes h1 h2, h0] at h4
  refine ⟨Int.toNat (findC e.2.1 x), by omega, ?_⟩
  rw [h2]
  congr 1
  exact Prod.ext h3 (Prod.mk.inj h4).2
theorem do_drop (h : isD x g) (h1 : e.1 = 2) (h0 : g e.2.1 = (true, e.2.2.2)) : ∃ y, applyS x e = (y, 0) ∧ isD y (stU g e.2.1 (false, zM)) ∧ y.length + 1 = x.length := by
  obtain ⟨k, hk, hx⟩ := at_find h h0
  have hl := (List.getElem?_eq_some_iff.1 hx).1
  have ha := ap_drop (x := x) (e := e) h1 (by omega) (a := (e.2.1, e.2.2.2)) (by rw [hk, toN]; exact hx) rfl
  rw [hk, toN] at ha
  have hs : (x.take k ++ x.drop (k + 1)).Sublist x := by
    conv => rhs; rw [← List.take_append_drop k x]
    refine (List.Sublist.refl _).append ?_
    rw [← List.drop_drop]
    exact List.drop_sublist 1 _
  have hd : deckOK (x.take k ++ x.drop (k + 1)) := deck_of (Nat.le_trans hs.length_le h.1.1) (fun c hc => deck_card h.1 (hs.subset hc)) ((hs.map _).nodup (deck_names h.1))
  have hm : ∀ c, c ∈ x.take k ++ x.drop (k + 1) ↔ c ∈ x ∧ c.1 ≠ e.2.1 := fun c => by
    constructor
    · intro hc
      refine ⟨hs.subset hc, fun e' => ?_⟩
      rcases List.mem_append.1 hc with hc | hc
      · obtain ⟨j, hj⟩ := List.mem_iff_getElem?.1 hc
        have hjk : j < k := by have := (List.getElem?_eq_some_iff.1 hj).1; rw [List.length_take] at this; omega
        rw [List.getElem?_take_of_lt hjk] at hj
        have := deck_one h.1 hj hx e'
        omega
      · obtain ⟨j, hj⟩ := List.mem_iff_getElem?.1 hc
        rw [List.getElem?_drop] at hj
        have := deck_one h.1 hj hx e'
        omega
    · rintro ⟨hc, hn⟩
      obtain ⟨j, hj⟩ := List.mem_iff_getElem?.1 hc
      rcases Nat.lt_trichotomy j k with h2 | h2 | h2
      · exact List.mem_append_left _ (List.mem_of_getElem? (i := j) (by rw [List.getElem?_take_of_lt h2]; exact hj))
      · subst h2; rw [hx] at hj; obtain rfl := Option.some.inj hj; exact absurd rfl hn
      · exact List.mem_append_right _ (List.mem_of_getElem? (i := j - (k + 1)) (by rw [List.getElem?_drop, show k + 1 + (j - (k + 1)) = j by omega]; exact hj))
  refine ⟨_, ha, isD_of hd (fun s hs => ?_) (fun c hc => ?_), ?_⟩
  · unfold stU
    split
    · rfl
    · rename_i hn
      rw [← h.2]
      exact st_no (findC_neg.2 fun c hc e' => hs c ((hm c).2 ⟨hc, by rw [e']; exact hn⟩) e')
  · have h2 := (hm c).1 hc
    rw [stU, if_neg h2.2, ← h.2]
    exact (mem_deck h.1).1 h2.1
  · rw [List.length_append, List.length_take, List.length_drop]; omega
theorem set_isD (h : isD x g) {k : Nat} {s : ByteArray} {m n : DMask} (hx : x[k]? = some (s, m)) (hn : okM n = true) : isD (x.set k (s, n)) (stU g s (true, n)) := by
  have hl := (List.getElem?_eq_some_iff.1 hx).1
  have hnm : (x.set k (s, n)).map (·.1) = x.map (·.1) := by
    apply List.ext_getElem?
    intro i
    rw [List.getElem?_map, List.getElem?_map, List.getElem?_set]
    split
    · rename_i e; subst e
      rw [hx]; rfl
    · rfl
  have hm : ∀ c ∈ x.set k (s, n), c = (s, n) ∨ c ∈ x ∧ c.1 ≠ s := fun c hc => by
    obtain ⟨j, hj⟩ := List.mem_iff_getElem?.1 hc
    rw [List.getElem?_set] at hj
    split at hj
    · exact .inl (Option.some.inj hj).symm
    · rename_i hne
      refine .inr ⟨List.mem_of_getElem? hj, fun e' => hne ?_⟩
      exact (deck_one h.1 hj hx e').symm
  have hso : cardOK (s, m) := deck_card h.1 (List.mem_of_getElem? hx)
  have hd : deckOK (x.set k (s, n)) := deck_of (by rw [List.length_set]; exact h.1.1) (fun c hc => by
    rcases hm c hc with rfl | ⟨h1, _⟩
    · exact ⟨hso.1, hn⟩
    · exact deck_card h.1 h1) (by rw [hnm]; exact deck_names h.1)
  have hin : (s, n) ∈ x.set k (s, n) := List.mem_of_getElem? (i := k) (by rw [List.getElem?_set, if_pos rfl, if_pos hl])
  refine isD_of hd (fun t ht => ?_) (fun c hc => ?_)
  · have hts : t ≠ s := fun e' => ht _ hin e'.symm
    rw [stU, if_neg hts, ← h.2]
    refine st_no (findC_neg.2 fun c hc e' => ?_)
    have : t ∈ (x.set k (s, n)).map (·.1) := by rw [hnm, ← e']; exact List.mem_map_of_mem hc
    obtain ⟨d, hd', e''⟩ := List.mem_map.1 this
    exact ht d hd' e''
  · rcases hm c hc with rfl | ⟨h1, h2⟩
    · exact if_pos rfl
    · rw [stU, if_neg h2, ← h.2]
      exact (mem_deck h.1).1 h1
theorem do_notch (h : isD x g) (h1 : e.1 = 3) (hh : 0 ≤ e.2.2.1 ∧ e.2.2.1 < 96) {m : DMask} (h0 : g e.2.1 = (true, m)) (hb : hasM m e.2.2.1 = false) : ∃ y, applyS x e = (y, 0) ∧ isD y (stU g e.2.1 (true, joinM m (bitM e.2.2.1))) ∧ y.length = x.length := by
  obtain ⟨k, hk, hx⟩ := at_find h h0
  have ha := ap_notch (x := x) (e := e) h1 (by omega) (a := (e.2.1, m)) (by rw [hk, toN]; exact hx) (by rw [hb, h1]; decide)
  rw [hk, toN] at ha
  exact ⟨_, ha, set_isD h hx (okM_join (deck_card h.1 (List.mem_of_getElem? hx)).2 (okM_one hh)), List.length_set⟩
theorem do_fill (h : isD x g) (h1 : e.1 = 4) {m : DMask} (h0 : g e.2.1 = (true, m)) (hb : hasM m e.2.2.1 = true) : ∃ y, applyS x e = (y, 0) ∧ isD y (stU g e.2.1 (true, lessM m (bitM e.2.2.1))) ∧ y.length = x.length := by
  obtain ⟨k, hk, hx⟩ := at_find h h0
  have ha := ap_fill (x := x) (e := e) (by omega) (by omega) (by omega) (by omega) (a := (e.2.1, m)) (by rw [hk, toN]; exact hx) (by rw [hb, h1]; decide)
  rw [hk, toN] at ha
  exact ⟨_, ha, set_isD h hx (okM_less (deck_card h.1 (List.mem_of_getElem? hx)).2), List.length_set⟩
/-! ### Rows of edits -/
theorem am_app : ∀ (l : List DEdit) {x y : List DCard} {r : List DEdit}, amS x l = (y, 0) → amS x (l ++ r) = amS y r
  | [], x, y, r, h => by
    rw [amS] at h
    obtain rfl := (Prod.mk.inj h).1
    rfl
  | e :: l, x, y, r, h => by
    rw [amS] at h
    split at h
    · rename_i h1
      rw [List.cons_append, amS, if_pos h1]
      exact am_app l h
    · rename_i h1
      exact absurd (Prod.mk.inj h).2 h1
theorem am_one {x y : List DCard} {e : DEdit} {r : List DEdit} (h : applyS x e = (y, 0)) : amS x (e :: r) = amS y r := by rw [amS, h, if_pos rfl]
def goes (g : ByteArray → DState) (l : List DEdit) (g' : ByteArray → DState) : Prop := ∀ x, isD x g → ∃ y, amS x l = (y, 0) ∧ isD y g'
theorem goes_nil (g : ByteArray → DState) : goes g [] g := fun x h => ⟨x, rfl, h⟩
theorem goes_app {g g' g'' : ByteArray → DState} {l r : List DEdit} (h : goes g l g') (h' : goes g' r g'') : goes g (l ++ r) g'' := fun x hx => by
  obtain ⟨y, h1, h2⟩ := h x hx
  obtain ⟨z, h3, h4⟩ := h' y h2
  exact ⟨z, by rw [am_app l h1]; exact h3, h4⟩
theorem goes_one {g g' : ByteArray → DState} {e : DEdit} (h : ∀ x, isD x g → ∃ y, applyS x e = (y, 0) ∧ isD y g') : goes g [e] g' := fun x hx => by
  obtain ⟨y, h1, h2⟩ := h x hx
  exact ⟨y, by rw [am_one h1]; rfl, h2⟩
theorem stU_same (g : ByteArray → DState) (s : ByteArray) : stU g s (g s) = g := by funext t; unfold stU; split <;> simp [*]
theorem stU_two (g : ByteArray → DState) (s : ByteArray) (v w : DState) : stU (stU g s v) s w = stU g s w := by funext t; unfold stU; split <;> rfl
theorem stU_at (g : ByteArray → DState) (s : ByteArray) (v : DState) : stU g s v s = v := if_pos rfl
theorem has_bit (m : DMask) {h : Int} (hh : 0 ≤ h ∧ h < 96) : hasM m h = bitB m h.toNat := by
  have e : h = ((h.toNat : Nat) : Int) := by omega
  rw [e, hasM_bit m (by omega)]; rfl
theorem bit_i {h : Int} (hh : 0 ≤ h ∧ h < 96) {i : Nat} (hi : i < 128) : bitB (bitM h) i = decide ((i : Int) = h) := by
  have e : h = ((h.toNat : Nat) : Int) := by omega
  rw [e, bit_bit (by omega) i hi]
  exact decide_eq_decide.2 (by omega)
theorem fills_go (s : ByteArray) : ∀ (L : List Int) {g : ByteArray → DState} {m : DMask}, L.Nodup → (∀ h ∈ L, 0 ≤ h ∧ h < 96 ∧ hasM m h = true) → g s = (true, m) → goes g (L.map (hlE 4 s)) (stU g s (true, L.foldl (fun m h => lessM m (bitM h)) m))
  | [], g, m, _, _, h0 => by rw [List.foldl_nil, ← h0, stU_same]; exact goes_nil g
  | h :: L, g, m, hn, hh, h0 => by
    rw [List.nodup_cons] at hn
    have h1 := hh h (by simp)
    have one : goes g [hlE 4 s h] (stU g s (true, lessM m (bitM h))) := goes_one fun x hx => by
      obtain ⟨y, h2, h3, _⟩ := do_fill (e := hlE 4 s h) hx rfl h0 h1.2.2
      exact ⟨y, h2, h3⟩
    have rest := fills_go s L (g := stU g s (true, lessM m (bitM h))) (m := lessM m (bitM h)) hn.2 (fun k hk => by
      have h2 := hh k (by simp [hk])
      refine ⟨h2.1, h2.2.1, ?_⟩
      have hne : k ≠ h := fun e => hn.1 (e ▸ hk)
      rw [has_bit _ ⟨h2.1, h2.2.1⟩, bit_less _ _ (by omega), ← has_bit _ ⟨h2.1, h2.2.1⟩, h2.2.2, bit_i ⟨h1.1, h1.2.1⟩ (by omega), decide_eq_false (by omega)]
      rfl) (stU_at _ _ _)
    rw [stU_two] at rest
    exact goes_app one rest
theorem notches_go (s : ByteArray) : ∀ (L : List Int) {g : ByteArray → DState} {m : DMask}, L.Nodup → (∀ h ∈ L, 0 ≤ h ∧ h < 96 ∧ hasM m h = false) → g s = (true, m) → goes g (L.map (hlE 3 s)) (stU g s (true, L.foldl (fun m h => joinM m (bitM h)) m))
  | [], g, m, _, _, h0 => by rw [List.foldl_nil, ← h0, stU_same]; exact goes_nil g
  | h :: L, g, m, hn, hh, h0 => by
    rw [List.nodup_cons] at hn
    have h1 := hh h (by simp)
    have one : goes g [hlE 3 s h] (stU g s (true, joinM m (bitM h))) := goes_one fun x hx => by
      obtain ⟨y, h2, h3, _⟩ := do_notch (e := hlE 3 s h) hx rfl ⟨h1.1, h1.2.1⟩ h0 h1.2.2
      exact ⟨y, h2, h3⟩
    have rest := notches_go s L (g := stU g s (true, joinM m (bitM h))) (m := joinM m (bitM h)) hn.2 (fun k hk => by
      have h2 := hh k (by simp [hk])
      refine ⟨h2.1, h2.2.1, ?_⟩
      have hne : k ≠ h := fun e => hn.1 (e ▸ hk)
      rw [has_bit _ ⟨h2.1, h2.2.1⟩, bit_join, ← has_bit _ ⟨h2.1, h2.2.1⟩, h2.2.2, bit_i ⟨h1.1, h1.2.1⟩ (by omega), decide_eq_false (by omega)]
      rfl) (stU_at _ _ _)
    rw [stU_two] at rest
    exact goes_app one rest
theorem bit_fills : ∀ (L : List Int) (m : DMask), (∀ h ∈ L, 0 ≤ h ∧ h < 96) → ∀ {i : Nat}, i < 128 → bitB (L.foldl (fun m h => lessM m (bitM h)) m) i = (bitB m i && !(L.contains (i : Int)))
  | [], m, _, i, _ => by simp
  | h :: L, m, hh, i, hi => by
    rw [List.foldl_cons, bit_fills L _ (fun k hk => hh k (by simp [hk])) hi, bit_less _ _ hi, bit_i (hh h (by simp)) hi, List.contains_cons, Bool.not_or, Bool.and_assoc]
    congr 2
theorem hol_in {m : DMask} {h : Int} : h ∈ hol m 96 ↔ 0 ≤ h ∧ h < 96 ∧ bitB m h.toNat = true := by
  rw [hol, List.mem_map]
  constructor
  · rintro ⟨k, h1, rfl⟩
    have h2 := List.mem_filter.1 h1
    have h3 := List.mem_range.1 h2.1
    exact ⟨by omega, by omega, h2.2⟩
  · rintro ⟨h1, h2, h3⟩
    exact ⟨h.toNat, List.mem_filter.2 ⟨List.mem_range.2 (by omega), h3⟩, by omega⟩
theorem hol_nodup (m : DMask) : (hol m 96).Nodup := by
  rw [hol, List.Nodup, List.pairwise_map]
  have h1 : ((List.range 96).filter (bitB m)).Nodup := List.nodup_range.filter _
  exact h1.imp fun h e => h (by omega)
theorem hol_has {m : DMask} (hm : okM m = true) {i : Nat} (hi : i < 128) : (hol m 96).contains (i : Int) = bitB m i := by
  rw [Bool.eq_iff_iff, List.contains_iff_mem, hol_in]
  constructor
  · rintro ⟨_, _, h⟩; exact h
  · intro h
    refine ⟨by omega, ?_, h⟩
    rcases Nat.lt_or_ge i 96 with h1 | h1
    · omega
    · rw [(okM_iff m).1 hm i h1 hi] at h; cases h
/-- What is filled and notched makes of the one mask the other one. -/
theorem masks_go {a b : DMask} (ha : okM a = true) (hb : okM b = true) : (hol (lessM b a) 96).foldl (fun m h => joinM m (bitM h)) ((hol (lessM a b) 96).foldl (fun m h => lessM m (bitM h)) a) = b := by
  refine mask_ext fun i hi => ?_
  have h1 := bit_with (hol (lessM b a) 96) (fun h hh => by have := hol_in.1 hh; omega) ((hol (lessM a b) 96).foldl (fun m h => lessM m (bitM h)) a) hi
  unfold withM at h1
  rw [h1, bit_fills _ _ (fun h hh => by have := hol_in.1 hh; omega) hi, hol_has (okM_less hb) hi, hol_has (okM_less ha) hi, bit_less _ _ hi, bit_less _ _ hi]
  cases bitB a i <;> cases bitB b i <;> rfl
theorem card_go {b : List DCard} (hb : deckOK b) {c : DCard} (hc : okM c.2 = true) (h0 : g c.1 = (true, c.2)) : goes g (btA b c) (stU g c.1 (stOf b c.1)) := by
  by_cases h : findC c.1 b < 0
  · rw [btA_no h, st_no h]
    exact goes_one fun x hx => by
      obtain ⟨y, h2, h3, _⟩ := do_drop (e := (2, c.1, 0, c.2)) hx rfl h0
      exact ⟨y, h2, h3⟩
  · obtain ⟨d, h1, h2, _⟩ := findC_of (s := c.1) (y := b) (by omega)
    have hd := (deck_card hb (List.mem_of_getElem? h1)).2
    rw [btA_yes h h1, st_yes h h1]
    have g1 := fills_go c.1 (hol (lessM c.2 d.2) 96) (g := g) (m := c.2) (hol_nodup _) (fun k hk => by
      have h3 := hol_in.1 hk
      refine ⟨h3.1, h3.2.1, ?_⟩
      have h4 := h3.2.2
      rw [bit_less _ _ (by omega), Bool.and_eq_true] at h4
      rw [has_bit _ ⟨h3.1, h3.2.1⟩]; exact h4.1) h0
    have g2 := notches_go c.1 (hol (lessM d.2 c.2) 96) (g := stU g c.1 (true, (hol (lessM c.2 d.2) 96).foldl (fun m h => lessM m (bitM h)) c.2)) (hol_nodup _) (fun k hk => by
      have h3 := hol_in.1 hk
      refine ⟨h3.1, h3.2.1, ?_⟩
      have h4 := h3.2.2
      rw [bit_less _ _ (by omega), Bool.and_eq_true, Bool.not_eq_true'] at h4
      rw [has_bit _ ⟨h3.1, h3.2.1⟩, bit_fills _ _ (fun h hh => by have := hol_in.1 hh; omega) (by omega), h4.2]; rfl) (stU_at _ _ _)
    rw [stU_two, masks_go hc hd] at g2
    exact goes_app g1 g2
theorem cards_go {b : List DCard} (hb : deckOK b) : ∀ (r : List DCard) {g : ByteArray → DState}, (r.map (·.1)).Nodup → (∀ c ∈ r, okM c.2 = true ∧ g c.1 = (true, c.2)) → goes g (r.flatMap (btA b)) (fun s => if s ∈ r.map (·.1) then stOf b s else g s)
  | [], g, _, _ => by simpa using goes_nil g
  | c :: r, g, hn, hh => by
    rw [List.map_cons, List.nodup_cons] at hn
    have h1 := hh c (by simp)
    have rest := cards_go hb r (g := stU g c.1 (stOf b c.1)) hn.2 (fun d hd => by
      have h2 := hh d (by simp [hd])
      have hne : d.1 ≠ c.1 := fun e => hn.1 (e ▸ List.mem_map_of_mem hd)
      exact ⟨h2.1, by rw [stU, if_neg hne]; exact h2.2⟩)
    rw [List.flatMap_cons]
    have e : (fun s => if s ∈ r.map (·.1) then stOf b s else stU g c.1 (stOf b c.1) s) = fun s => if s ∈ (c :: r).map (·.1) then stOf b s else g s := by
      funext s
      by_cases h2 : s ∈ r.map (·.1)
      · rw [if_pos h2, if_pos (by rw [List.map_cons]; exact List.mem_cons_of_mem _ h2)]
      · rw [if_neg h2]
        by_cases h3 : s = c.1
        · subst h3; rw [stU_at, if_pos (by rw [List.map_cons]; exact List.mem_cons_self ..)]
        · rw [stU, if_neg h3, if_neg (by rw [List.map_cons, List.mem_cons]; exact fun h => h.elim h3 h2)]
    rw [e] at rest
    exact goes_app (card_go hb h1.1 h1.2) rest
theorem names_lt {b : List DCard} (hb : deckOK b) {x : List DCard} (hx : deckOK x) (h : ∀ c ∈ x, c.1 ∈ b.map (·.1)) {c : DCard} (hc : c ∈ b) (hn : findC c.1 x < 0) : x.length < b.length := by
  have hp : (x.map (·.1)).Perm ((b.map (·.1)).filter fun s => decide (s ∈ x.map (·.1))) := (List.perm_ext_iff_of_nodup (deck_names hx) ((deck_names hb).filter _)).2 fun s => by
    rw [List.mem_filter, decide_eq_true_eq]
    constructor
    · intro hs
      obtain ⟨d, hd, rfl⟩ := List.mem_map.1 hs
      exact ⟨h d hd, hs⟩
    · exact fun h => h.2
  have hl := hp.length_eq
  rw [List.length_map] at hl
  have h1 : ((b.map (·.1)).filter fun s => decide (s ∈ x.map (·.1))).length < (b.map (·.1)).length := by
    rw [List.length_filter_lt_length_iff_exists]
    refine ⟨c.1, List.mem_map_of_mem hc, ?_⟩
    rw [decide_eq_true_eq]
    intro hm
    obtain ⟨d, hd, e⟩ := List.mem_map.1 hm
    exact findC_neg.1 hn d hd e
  rw [List.length_map] at h1
  omega
/-- New cards. -/
theorem new_go {b : List DCard} (hb : deckOK b) : ∀ (r : List DCard) {x : List DCard}, deckOK x → (r.map (·.1)).Nodup → (∀ c ∈ r, c ∈ b ∧ findC c.1 x < 0) → (∀ c ∈ x, c.1 ∈ b.map (·.1)) → ∃ y, amS x (r.map btM) = (y, 0) ∧ isD y (fun s => if s ∈ r.map (·.1) then stOf b s else stOf x s)
  | [], x, hx, _, _, _ => ⟨x, rfl, hx, fun s => by simp⟩
  | c :: r, x, hx, hn, hr, hs => by
    rw [List.map_cons, List.nodup_cons] at hn
    have h1 := hr c (by simp)
    have hl := names_lt hb hx hs h1.1 h1.2
    have hb80 := hb.1
    obtain ⟨y, h2, h3, _⟩ := do_add (e := btM c) ⟨hx, fun s => rfl⟩ (by omega) rfl (deck_card hb h1.1) (st_false.2 h1.2)
    have hy : ∀ s, stOf y s = stU (stOf x) c.1 (true, c.2) s := h3.2
    obtain ⟨z, h4, h5⟩ := new_go hb r h3.1 hn.2 (fun d hd => by
      have h6 := hr d (by simp [hd])
      refine ⟨h6.1, ?_⟩
      have hne : d.1 ≠ c.1 := fun e => hn.1 (e ▸ List.mem_map_of_mem hd)
      rw [← st_false, hy, stU, if_neg hne, st_false]
      exact h6.2) (fun d hd => by
      have h6 := (mem_deck h3.1).1 hd
      rw [hy, stU] at h6
      split at h6
      · rename_i e; rw [e]; exact List.mem_map_of_mem h1.1
      · exact hs d ((mem_deck hx).2 h6))
    refine ⟨z, by rw [List.map_cons, am_one h2]; exact h4, h5.1, fun s => ?_⟩
    rw [h5.2]
    dsimp only
    by_cases h6 : s ∈ r.map (·.1)
    · rw [if_pos h6, if_pos (by rw [List.map_cons]; exact List.mem_cons_of_mem _ h6)]
    · rw [if_neg h6, hy]
      by_cases h7 : s = c.1
      · subst h7
        rw [stU_at, if_pos (by rw [List.map_cons]; exact List.mem_cons_self ..)]
        exact ((mem_deck hb).1 h1.1).symm
      · rw [stU, if_neg h7, if_neg (by rw [List.map_cons, List.mem_cons]; exact fun h => h.elim h7 h6)]
/-- Edits make of the one deck the other one. -/
theorem betw_go {a b : List DCard} (ha : deckOK a) (hb : deckOK b) : ∃ y, amS a (betw a b) = (y, 0) ∧ isD y (stOf b) := by
  obtain ⟨x, h1, h2⟩ := cards_go hb a (g := stOf a) (deck_names ha) (fun c hc => ⟨(deck_card ha hc).2, (mem_deck ha).1 hc⟩) a ⟨ha, fun s => rfl⟩
  have hx : ∀ s, stOf x s = if s ∈ a.map (·.1) then stOf b s else stOf a s := h2.2
  have hna : ∀ s, s ∉ a.map (·.1) → stOf a s = (false, zM) := fun s hs => st_no (findC_neg.2 fun c hc e => hs (e ▸ List.mem_map_of_mem hc))
  obtain ⟨y, h3, h4⟩ := new_go hb (b.filter (btN a)) h2.1 (((List.filter_sublist).map _).nodup (deck_names hb)) (fun c hc => by
    have h5 := List.mem_filter.1 hc
    refine ⟨h5.1, ?_⟩
    have h6 : findC c.1 a < 0 := of_decide_eq_true h5.2
    have h7 : c.1 ∉ a.map (·.1) := fun hm => by
      obtain ⟨d, hd, e⟩ := List.mem_map.1 hm
      exact findC_neg.1 h6 d hd e
    rw [← st_false, hx, if_neg h7, hna _ h7]) (fun c hc => by
    have h5 := (mem_deck h2.1).1 hc
    rw [hx] at h5
    split at h5
    · exact List.mem_map_of_mem ((mem_deck hb).2 h5)
    · rename_i h6
      rw [hna _ h6] at h5; cases h5)
  refine ⟨y, by rw [betw, am_app _ h1]; exact h3, h4.1, fun s => ?_⟩
  rw [h4.2]
  dsimp only
  split
  · rfl
  · rename_i h5
    rw [hx]
    split
    · rfl
    · rename_i h6
      rw [hna s h6]
      refine (st_no (findC_neg.2 fun c hc e => h5 ?_)).symm
      rw [← e]
      refine List.mem_map_of_mem (List.mem_filter.2 ⟨hc, decide_eq_true (findC_neg.2 fun d hd e' => h6 ?_)⟩)
      rw [← e, ← e']; exact List.mem_map_of_mem hd
/-! ### Back again -/
theorem edit_parts {e : DEdit} (h : editB e = true) : nameOK e.2.1 ∧ ((e.1 = 1 ∨ e.1 = 2) ∧ e.2.2.1 = 0 ∧ okM e.2.2.2 = true ∨ (e.1 = 3 ∨ e.1 = 4) ∧ 0 ≤ e.2.2.1 ∧ e.2.2.1 < 96) := by
  have hk := edit_kind h
  have hh := edit_hole h
  unfold editB at h
  rw [Bool.and_eq_true] at h
  refine ⟨tt_iff.1 h.1, ?_⟩
  by_cases h1 : e.1 = 1 ∨ e.1 = 2
  · have h2 := h.2
    rw [if_pos h1, Bool.and_eq_true, beq_iff_eq] at h2
    exact .inl ⟨h1, h2⟩
  · exact .inr ⟨by omega, hh (by omega) (by omega)⟩
theorem opp_edit {e : DEdit} (h : editB e = true) : editB (opp e) = true := by
  have hk := edit_kind h
  unfold editB at h ⊢
  unfold opp oppK
  by_cases h1 : e.1 = 1 <;> by_cases h2 : e.1 = 2 <;> by_cases h3 : e.1 = 3 <;> by_cases h4 : e.1 = 4 <;> first | omega | (simp [h1, h2, h3, h4] at h ⊢; exact h)
theorem back_one {x y : List DCard} {e : DEdit} (hx : deckOK x) (he : editB e = true) (h : applyS x e = (y, 0)) : deckOK y ∧ ∀ y', isD y' (stOf y) → ∃ x', applyS y' (opp e) = (x', 0) ∧ isD x' (stOf x) := by
  have hp := edit_parts he
  have hlen : ∀ {y' : List DCard}, deckOK y → isD y' (stOf y) → y'.length = y.length := fun {y'} hy h' => (perm_of h'.1 hy h'.2).length_eq
  have hback : ∀ {v : DState}, (∀ s, stOf y s = stU (stOf x) e.2.1 v s) → ∀ {x' : List DCard}, isD x' (stU (stOf y) e.2.1 (stOf x e.2.1)) → isD x' (stOf x) := fun {v} hv {x'} h' => by
    refine ⟨h'.1, fun s => ?_⟩
    rw [h'.2, stU]
    split
    · rename_i e'; rw [e']
    · rename_i hn; rw [hv, stU, if_neg hn]
  have hxl := hx.1
  by_cases h1 : e.1 = 1
  · by_cases hl : x.length = 80
    · rw [ap_full h1 hl] at h; exact absurd (Prod.mk.inj h).2 (by decide)
    · by_cases hf : 0 ≤ findC e.2.1 x
      · rw [ap_there h1 hl hf] at h; exact absurd (Prod.mk.inj h).2 (by decide)
      · have h0 : (stOf x e.2.1).1 = false := st_false.2 (by omega)
        obtain ⟨z, h2, h3, _⟩ := do_add ⟨hx, fun s => rfl⟩ (by omega) h1 ⟨hp.1, by rcases hp.2 with h4 | h4 <;> first | exact h4.2.2 | omega⟩ h0
        rw [h] at h2
        obtain rfl := (Prod.mk.inj h2).1
        refine ⟨h3.1, fun y' hy' => ?_⟩
        obtain ⟨w, h5, h6, _⟩ := do_drop (e := opp e) hy' (by rw [opp, oppK, if_pos h1]) (by show stOf y e.2.1 = (true, e.2.2.2); rw [h3.2, stU_at])
        exact ⟨w, h5, hback h3.2 (by rw [st_zero h0]; exact h6)⟩
  · by_cases hf : findC e.2.1 x < 0
    · rw [ap_none h1 hf] at h; exact absurd (Prod.mk.inj h).2 (by decide)
    · obtain ⟨a, ha, hn, _⟩ := findC_of (s := e.2.1) (y := x) (by omega)
      have h0 : stOf x e.2.1 = (true, a.2) := st_yes hf ha
      have hao : cardOK (e.2.1, a.2) := by have := deck_card hx (List.mem_of_getElem? ha); rw [← hn]; exact this
      by_cases h2 : e.1 = 2
      · by_cases hm : a.2 = e.2.2.2
        · obtain ⟨z, h3, h4, h5⟩ := do_drop ⟨hx, fun s => rfl⟩ h2 (by rw [h0, hm])
          rw [h] at h3
          obtain rfl := (Prod.mk.inj h3).1
          refine ⟨h4.1, fun y' hy' => ?_⟩
          have hl := hlen h4.1 hy'
          obtain ⟨w, h6, h7, _⟩ := do_add (e := opp e) hy' (by omega) (by rw [opp, oppK, if_neg h1, if_pos h2]) (by show cardOK (e.2.1, e.2.2.2); rw [← hm]; exact hao) (by show (stOf y e.2.1).1 = false; rw [h4.2, stU_at])
          exact ⟨w, h6, hback h4.2 (by rw [h0, hm]; exact h7)⟩
        · rw [ap_ndrop h2 hf ha hm] at h; exact absurd (Prod.mk.inj h).2 (by decide)
      · have hk := edit_kind he
        have hh := edit_hole he h1 h2
        by_cases hb : hasM a.2 e.2.2.1 = decide (e.1 = 3)
        · rw [ap_bad h1 h2 hf ha hb] at h; exact absurd (Prod.mk.inj h).2 (by decide)
        · by_cases h3 : e.1 = 3
          · rw [h3, show decide ((3 : Int) = 3) = true from rfl, Bool.not_eq_true] at hb
            obtain ⟨z, h4, h5, _⟩ := do_notch ⟨hx, fun s => rfl⟩ h3 hh h0 hb
            rw [h] at h4
            obtain rfl := (Prod.mk.inj h4).1
            refine ⟨h5.1, fun y' hy' => ?_⟩
            obtain ⟨w, h6, h7, _⟩ := do_fill (e := opp e) hy' (by rw [opp, oppK, if_neg h1, if_neg h2, if_pos h3]) (m := joinM a.2 (bitM e.2.2.1)) (by show stOf y e.2.1 = _; rw [h5.2, stU_at]) (by
              show hasM _ e.2.2.1 = true
              rw [has_bit _ hh, bit_join, bit_i hh (by omega), decide_eq_true (by omega), Bool.or_true])
            refine ⟨w, h6, hback h5.2 ?_⟩
            rw [h0]
            have e' : lessM (joinM a.2 (bitM e.2.2.1)) (bitM e.2.2.1) = a.2 := mask_ext fun i hi => by
              rw [bit_less _ _ hi, bit_join, bit_i hh hi]
              by_cases hi' : (i : Int) = e.2.2.1
              · rw [decide_eq_true hi']
                rw [has_bit _ hh, show e.2.2.1.toNat = i by omega] at hb
                rw [hb]; rfl
              · rw [decide_eq_false hi']; simp
            rw [← e']; exact h7
          · have h4k : e.1 = 4 := by omega
            rw [decide_eq_false h3, Bool.not_eq_false] at hb
            obtain ⟨z, h4, h5, _⟩ := do_fill ⟨hx, fun s => rfl⟩ h4k h0 hb
            rw [h] at h4
            obtain rfl := (Prod.mk.inj h4).1
            refine ⟨h5.1, fun y' hy' => ?_⟩
            obtain ⟨w, h6, h7, _⟩ := do_notch (e := opp e) hy' (by rw [opp, oppK, if_neg h1, if_neg h2, if_neg h3]) hh (m := lessM a.2 (bitM e.2.2.1)) (by show stOf y e.2.1 = _; rw [h5.2, stU_at]) (by
              show hasM _ e.2.2.1 = false
              rw [has_bit _ hh, bit_less _ _ (by omega), bit_i hh (by omega), decide_eq_true (by omega)]; simp)
            refine ⟨w, h6, hback h5.2 ?_⟩
            rw [h0]
            have e' : joinM (lessM a.2 (bitM e.2.2.1)) (bitM e.2.2.1) = a.2 := mask_ext fun i hi => by
              rw [bit_join, bit_less _ _ hi, bit_i hh hi]
              by_cases hi' : (i : Int) = e.2.2.1
              · rw [decide_eq_true hi']
                rw [has_bit _ hh, show e.2.2.1.toNat = i by omega] at hb
                rw [hb]; rfl
              · rw [decide_eq_false hi']; simp
            rw [← e']; exact h7
/-- Undoing gives the former deck back. -/
theorem back_go : ∀ (l : List DEdit) {x y : List DCard}, deckOK x → l.all editB = true → amS x l = (y, 0) → deckOK y ∧ ∀ y', isD y' (stOf y) → ∃ x', amS y' (l.reverse.map opp) = (x', 0) ∧ isD x' (stOf x)
  | [], x, y, hx, _, h => by
    rw [amS] at h
    obtain rfl := (Prod.mk.inj h).1
    exact ⟨hx, fun y' hy' => ⟨y', rfl, hy'⟩⟩
  | e :: l, x, y, hx, he, h => by
    rw [List.all_cons, Bool.and_eq_true] at he
    rw [amS] at h
    split at h
    · rename_i h1
      have h2 : applyS x e = ((applyS x e).1, 0) := by rw [← h1]
      obtain ⟨h3, h4⟩ := back_one hx he.1 h2
      obtain ⟨h5, h6⟩ := back_go l h3 he.2 h
      refine ⟨h5, fun y' hy' => ?_⟩
      obtain ⟨x1, h7, h8⟩ := h6 y' hy'
      obtain ⟨x', h9, h10⟩ := h4 x1 h8
      refine ⟨x', ?_, h10⟩
      rw [List.reverse_cons, List.map_append, am_app _ h7, List.map_cons, List.map_nil, am_one h9]; rfl
    · rename_i h1
      exact absurd (Prod.mk.inj h).2 h1
theorem betw_all {a b : List DCard} (ha : deckOK a) (hb : deckOK b) : (betw a b).all editB = true := by
  rw [List.all_eq_true]
  intro e he
  rw [betw, List.mem_append] at he
  have nz : tt (eqv zM zM = true) = true := by rw [tt_iff]; exact eqv_self _
  rcases he with he | he
  · obtain ⟨c, hc, he⟩ := List.mem_flatMap.1 he
    have hco := deck_card ha hc
    have hole : ∀ k m, (k = 3 ∨ k = 4) → e ∈ (hol m 96).map (hlE k c.1) → editB e = true := fun k m hk hm => by
      obtain ⟨h, hh, rfl⟩ := List.mem_map.1 hm
      have h1 := hol_in.1 hh
      unfold editB hlE
      rw [tt_iff.2 hco.1, if_neg (by dsimp only; omega), if_pos hk, Bool.true_and, eqv_self]
      simp [inb]; omega
    by_cases h : findC c.1 b < 0
    · rw [btA_no h, List.mem_singleton] at he
      subst he
      unfold editB
      rw [tt_iff.2 hco.1, if_pos (.inr rfl), hco.2]; rfl
    · rw [btA, if_neg h, List.mem_append] at he
      rcases he with he | he
      · exact hole 4 _ (.inr rfl) he
      · exact hole 3 _ (.inl rfl) he
  · obtain ⟨c, hc, rfl⟩ := List.mem_map.1 he
    have hco := deck_card hb (List.mem_filter.1 hc).1
    unfold editB btM
    rw [tt_iff.2 hco.1, if_pos (.inl rfl), hco.2]; rfl
end
/-- What the laws say of edits between decks. -/
theorem edits_law {a b : List DCard} (ha : deckOK a) (hb : deckOK b) (hl : (betw a b).length ≤ 200) :
    btwS a b = (betw a b, 0) ∧ (manyS a (betw a b)).2.2 = 0 ∧ (manyS a (betw a b)).2.1 = ((betw a b).length : Int) ∧ deckOK (manyS a (betw a b)).1 ∧ sameC (manyS a (betw a b)).1 b = (true, 0) ∧
    undoS (betw a b) = ((betw a b).reverse.map opp, 0) ∧ (manyS (manyS a (betw a b)).1 ((betw a b).reverse.map opp)).2.2 = 0 ∧ sameC (manyS (manyS a (betw a b)).1 ((betw a b).reverse.map opp)).1 a = (true, 0) := by
  have hal := betw_all ha hb
  obtain ⟨y, h1, h2⟩ := betw_go ha hb
  have e1 := many_ok (x := a) (l := betw a b) (by rw [tt_iff.2 ha, hal]; rfl) hl h1
  obtain ⟨h3, h4⟩ := back_go (betw a b) ha hal h1
  obtain ⟨x', h5, h6⟩ := h4 y ⟨h3, fun s => rfl⟩
  have hal' : ((betw a b).reverse.map opp).all editB = true := by
    rw [List.all_eq_true] at hal ⊢
    intro e he
    obtain ⟨d, hd, rfl⟩ := List.mem_map.1 he
    exact opp_edit (hal d (List.mem_reverse.1 hd))
  have e2 := many_ok (x := y) (l := (betw a b).reverse.map opp) (by rw [tt_iff.2 h3, hal']; rfl) (by rw [List.length_map, List.length_reverse]; exact hl) h5
  rw [e1]
  dsimp only
  rw [e2]
  exact ⟨btw_ok (by rw [tt_iff.2 ha, tt_iff.2 hb]; rfl) hl, rfl, rfl, h3, isD_same hb h2, undo_ok hal hl, rfl, isD_same ha h6⟩
end Go.Proofs.YtmmjcpiikdcldaaGreatDoor.VL
