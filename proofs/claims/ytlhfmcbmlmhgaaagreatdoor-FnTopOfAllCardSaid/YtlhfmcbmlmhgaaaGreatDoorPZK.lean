/- Proved here: decks that are sorted by passes; cards that are made of values; queries for a value. Plain Lean. -/
import Derived.Test.YtlhfmcbmlmhgaaaGreatDoorPZE
import Derived.Test.YtlhfmcbmlmhgaaaGreatDoorPZR
import Derived.Test.YtlhfmcbmlmhgaaaGreatDoorPZQ
import Derived.Test.YtlhfmcbmlmhgaaaGreatDoorPZP
import Derived.Test.YtlhfmcbmlmhgaaaGreatDoorBpa
set_option linter.unusedVariables false
set_option linter.unusedSimpArgs false
namespace Go.Proofs.YtlhfmcbmlmhgaaaGreatDoor.VL
open Go
/-! ### Passes -/
def stayM (x : List DCard) (h : Int) : List DCard := x.filter fun c => !(hasM c.2 h)
def dropM (x : List DCard) (h : Int) : List DCard := x.filter fun c => hasM c.2 h
def passM (x : List DCard) (h : Int) : List DCard := stayM x h ++ dropM x h
def manyP (x : List DCard) (l : List Int) : List DCard := l.foldl passM x
section
variable {x : List DCard} {h : Int} {z : Nat} {c : DCard} {l : List Int}
theorem stay_yes (hc : x[Int.toNat ((z : Nat) : Int)]? = some c) (hh : hasM c.2 h = false) : stayM (x.take z) h ++ [c] = stayM (x.take (z + 1)) h := filter_yes hc (by rw [hh]; rfl)
theorem stay_no (hc : x[Int.toNat ((z : Nat) : Int)]? = some c) (hh : hasM c.2 h = true) : stayM (x.take z) h = stayM (x.take (z + 1)) h := filter_no hc (by rw [hh]; rfl)
theorem drop_yes (hc : x[Int.toNat ((z : Nat) : Int)]? = some c) (hh : hasM c.2 h = true) : dropM (x.take z) h ++ [c] = dropM (x.take (z + 1)) h := filter_yes hc hh
theorem drop_no (hc : x[Int.toNat ((z : Nat) : Int)]? = some c) (hh : hasM c.2 h = false) : dropM (x.take z) h = dropM (x.take (z + 1)) h := filter_no hc hh
theorem stay_len (x : List DCard) (h : Int) : (stayM x h).length ≤ x.length := List.length_filter_le _ _
theorem drop_len (x : List DCard) (h : Int) : (dropM x h).length ≤ x.length := List.length_filter_le _ _
theorem pass_perm (h : Int) : ∀ x : List DCard, (passM x h).Perm x
  | [] => List.Perm.refl _
  | c :: x => by
    have ih := pass_perm h x
    unfold passM stayM dropM at ih ⊢
    rw [List.filter_cons, List.filter_cons]
    cases hasM c.2 h with
    | true => simpa using List.perm_middle.trans (ih.cons c)
    | false => simpa using ih.cons c
theorem many_perm : ∀ (l : List Int) (x : List DCard), (manyP x l).Perm x
  | [], x => List.Perm.refl _
  | h :: l, x => (many_perm l (passM x h)).trans (pass_perm h x)
theorem pass_len (x : List DCard) (h : Int) : (passM x h).length = x.length := (pass_perm h x).length_eq
theorem manyP_len (x : List DCard) (l : List Int) : (manyP x l).length = x.length := (many_perm l x).length_eq
theorem many_pass (hh : l[Int.toNat ((z : Nat) : Int)]? = some h) : passM (manyP x (l.take z)) h = manyP x (l.take (z + 1)) := foldl_next (f := passM) hh
theorem split_len (x : List DCard) (h : Int) : (stayM x h).length + (dropM x h).length = x.length := by
  have := pass_len x h
  rwa [passM, List.length_append] at this
theorem perm_deck {x y : List DCard} (hx : deckOK x) (h : y.Perm x) : deckOK y := deck_of (by rw [h.length_eq]; exact hx.1) (fun c hc => deck_card hx (h.mem_iff.1 hc)) ((h.map _).nodup_iff.2 (deck_names hx))
theorem perm_same {x y : List DCard} (hx : deckOK x) (h : y.Perm x) : sameC y x = (true, 0) := same_mem (perm_deck hx h) hx fun c => h.mem_iff
end
/-! ### Keys -/
def sortN (f : DField) : Int := if f.2.1 = 3 then widthF f - 1 else widthF f
def sortA (f : DField) (k : Nat) : Int := if f.2.1 = 0 then f.2.2.1 + (k : Int) else f.2.2.1 + sortN f - 1 - (k : Int)
def sortL (f : DField) (z : Nat) : List Int := (List.range z).map (sortA f)
def sortH (f : DField) : List Int := sortL f (sortN f).toNat
def keyN (m : DMask) (l : List Int) : Nat → Nat
  | 0 => 0
  | z + 1 => keyN m l z + (if hasM m (l.getD z 0) = true then 2 ^ z else 0)
def keyF (f : DField) (m : DMask) : Int := ((keyN m (sortH f) (sortH f).length : Nat) : Int)
section
variable {f : DField} {m : DMask} {l : List Int} {z : Nat} {x : List DCard}
theorem sortN_in (hf : fieldOK f) : 1 ≤ sortN f ∧ sortN f ≤ 24 ∧ f.2.2.1 + sortN f ≤ 96 := by
  have h1 := size_in hf
  have hk : f.2.1 = 0 ∨ f.2.1 = 1 ∨ f.2.1 = 2 ∨ f.2.1 = 3 := by have := hf.2.1; have := hf.2.2.1; omega
  unfold sortN
  unfold widthF at h1 ⊢
  rcases hk with h | h | h | h <;> rw [h] at h1 ⊢ <;> simp at h1 ⊢ <;> omega
theorem sortL_len : (sortL f z).length = z := by rw [sortL, List.length_map, List.length_range]
theorem sortH_len (hf : fieldOK f) : ((sortH f).length : Int) = sortN f := by rw [sortH, sortL_len]; have := sortN_in hf; omega
theorem sortL_next : sortL f z ++ [sortA f z] = sortL f (z + 1) := by rw [sortL, sortL, List.range_succ, List.map_append]; rfl
theorem sortA_in (hf : fieldOK f) (hz : (z : Int) < sortN f) : 0 ≤ sortA f z ∧ sortA f z < 96 := by
  have h1 := sortN_in hf
  have h2 := hf.2.2.2.2.2
  unfold sortA
  split <;> omega
theorem sortH_get (hf : fieldOK f) (hz : (z : Int) < sortN f) : (sortH f)[Int.toNat ((z : Nat) : Int)]? = some (sortA f z) := by
  have hl : z < (sortH f).length := by rw [sortH, sortL_len]; omega
  rw [toN, List.getElem?_eq_getElem hl]
  simp [sortH, sortL]
theorem sortH_mem (hf : fieldOK f) {h : Int} (hh : h ∈ sortH f) : 0 ≤ h ∧ h < 96 := by
  rw [sortH, sortL, List.mem_map] at hh
  obtain ⟨k, h1, rfl⟩ := hh
  have := List.mem_range.1 h1
  exact sortA_in hf (by omega)
theorem keyN_lt (m : DMask) (l : List Int) : ∀ z, keyN m l z < 2 ^ z
  | 0 => by simp [keyN]
  | z + 1 => by
    have ih := keyN_lt m l z
    rw [keyN, Nat.pow_succ]
    split <;> omega
theorem keyN_yes {h : Int} (hh : l[Int.toNat ((z : Nat) : Int)]? = some h) (hb : hasM m h = true) : keyN m l z + 2 ^ z = keyN m l (z + 1) := by
  rw [toN] at hh
  rw [keyN, List.getD_eq_getElem?_getD, hh]
  show _ = _ + (if hasM m h = true then _ else _)
  rw [if_pos hb]
theorem keyN_no {h : Int} (hh : l[Int.toNat ((z : Nat) : Int)]? = some h) (hb : hasM m h = false) : keyN m l z = keyN m l (z + 1) := by
  rw [toN] at hh
  rw [keyN, List.getD_eq_getElem?_getD, hh]
  show _ = _ + (if hasM m h = true then _ else _)
  rw [if_neg (by rw [hb]; decide)]; rfl
def ordR (idx : DCard → Int) (l : List Int) (z : Nat) (a b : DCard) : Prop := keyN a.2 l z < keyN b.2 l z ∨ keyN a.2 l z = keyN b.2 l z ∧ idx a < idx b
theorem pass_ord {idx : DCard → Int} {h : Int} (hh : l[Int.toNat ((z : Nat) : Int)]? = some h) (hx : x.Pairwise (ordR idx l z)) : (passM x h).Pairwise (ordR idx l (z + 1)) := by
  rw [passM, List.pairwise_append]
  refine ⟨?_, ?_, fun a ha b hb => ?_⟩
  · have h1 : (stayM x h).Pairwise (ordR idx l z) := hx.sublist List.filter_sublist
    refine h1.imp_of_mem fun {a b} ha hb hr => ?_
    have ha2 : hasM a.2 h = false := by have := (List.mem_filter.1 ha).2; simpa using this
    have hb2 : hasM b.2 h = false := by have := (List.mem_filter.1 hb).2; simpa using this
    unfold ordR at hr ⊢
    rw [← keyN_no hh ha2, ← keyN_no hh hb2]; exact hr
  · have h1 : (dropM x h).Pairwise (ordR idx l z) := hx.sublist List.filter_sublist
    refine h1.imp_of_mem fun {a b} ha hb hr => ?_
    have ha2 : hasM a.2 h = true := (List.mem_filter.1 ha).2
    have hb2 : hasM b.2 h = true := (List.mem_filter.1 hb).2
    unfold ordR at hr ⊢
    rw [← keyN_yes hh ha2, ← keyN_yes hh hb2]; omega
  · have ha2 : hasM a.2 h = false := by have := (List.mem_filter.1 ha).2; simpa using this
    have hb2 : hasM b.2 h = true := (List.mem_filter.1 hb).2
    unfold ordR
    rw [← keyN_no hh ha2, ← keyN_yes hh hb2]
    have := keyN_lt a.2 l z
    omega
theorem many_ord {idx : DCard → Int} (hx : x.Pairwise fun a b => idx a < idx b) : ∀ z, z ≤ l.length → (manyP x (l.take z)).Pairwise (ordR idx l z)
  | 0, _ => by
    rw [List.take_zero]
    exact hx.imp fun h => .inr ⟨rfl, h⟩
  | z + 1, hz => by
    obtain ⟨h, hh⟩ := getI (x := l) (z := z) (by omega)
    rw [← many_pass hh]
    exact pass_ord hh (many_ord hx z (by omega))
theorem idx_up (hx : deckOK x) : x.Pairwise fun a b => findC a.1 x < findC b.1 x := by
  rw [List.pairwise_iff_getElem]
  intro i j hi hj hij
  have at_ : ∀ (k : Nat) (hk : k < x.length), findC x[k].1 x = (k : Int) := fun k hk => by
    have h1 : ¬ findC x[k].1 x < 0 := fun h => findC_neg.1 h x[k] (List.getElem_mem hk) rfl
    obtain ⟨b, h2, h3, _⟩ := findC_of (s := x[k].1) (y := x) (by omega)
    have := deck_one hx h2 (List.getElem?_eq_getElem hk) h3
    omega
  rw [at_ i hi, at_ j hj]; omega
theorem sort_ord (hx : deckOK x) : (manyP x (sortH f)).Pairwise fun a b => keyF f a.2 < keyF f b.2 ∨ keyF f a.2 = keyF f b.2 ∧ findC a.1 x < findC b.1 x := by
  have h := many_ord (l := sortH f) (idx_up hx) (sortH f).length (Nat.le_refl _)
  rw [List.take_length] at h
  refine h.imp fun {a b} hr => ?_
  unfold ordR at hr
  unfold keyF
  rcases hr with hr | ⟨hr, h2⟩
  · exact .inl (by omega)
  · exact .inr ⟨by omega, h2⟩
def ordK (f : DField) (x : List DCard) (i : Nat) : Prop := ∃ a b, x[i]? = some a ∧ x[i + 1]? = some b ∧ keyF f a.2 ≤ keyF f b.2
def ordA (f : DField) (x : List DCard) : Prop := ∀ i, i + 1 < x.length → ordK f x i
theorem sort_isA (hx : deckOK x) : ordA f (manyP x (sortH f)) := fun i hi => by
  have h := List.pairwise_iff_getElem.1 (sort_ord (f := f) hx) i (i + 1) (by omega) hi (by omega)
  exact ⟨_, _, List.getElem?_eq_getElem (by omega), List.getElem?_eq_getElem hi, by omega⟩
end
noncomputable def sortS (x : List DCard) (f : DField) : List DCard × Int := if (!(tt (deckOK x)) || !(tt (fieldOK f))) = true then ([], 1) else (manyP x (sortH f), 0)
noncomputable def isoS (x : List DCard) (f : DField) : Bool × Int := if (!(tt (deckOK x)) || !(tt (fieldOK f))) = true then (false, 1) else (tt (ordA f x), 0)
noncomputable def keyS (f : DField) (m : DMask) : Int × Int := if (!(tt (fieldOK f)) || !(okM m)) = true then (0, 1) else (keyF f m, 0)
noncomputable def findS (x : List DCard) (s : ByteArray) : Int × Int := if tt (deckOK x) = true then (if findC s x < 0 then (0, 6) else (findC s x, 0)) else (0, 1)
noncomputable def encS (f : DField) (v : Int) : DMask × Int := if tt (fieldOK f) = true then (if inb v 0 (topF f) = true then (codeF f v, 0) else (zM, 2)) else (zM, 1)
noncomputable def qfS (f : DField) (v : Int) : DQuery × Int := if (encS f v).2 = 0 then ((codeF f v, lessM (partF f) (codeF f v)), 0) else ((zM, zM), (encS f v).2)
section
variable {x : List DCard} {f : DField} {m : DMask} {s : ByteArray} {v : Int}
theorem sortS_no (h : (!(tt (deckOK x)) || !(tt (fieldOK f))) = true) : sortS x f = ([], 1) := if_pos h
theorem sortS_yes (h : (!(tt (deckOK x)) || !(tt (fieldOK f))) = false) : sortS x f = (manyP x (sortH f), 0) := if_neg (by rw [h]; decide)
theorem isoS_no (h : (!(tt (deckOK x)) || !(tt (fieldOK f))) = true) : isoS x f = (false, 1) := if_pos h
theorem isoS_yes (h : (!(tt (deckOK x)) || !(tt (fieldOK f))) = false) : isoS x f = (tt (ordA f x), 0) := if_neg (by rw [h]; decide)
theorem df_ok (h : (!(tt (deckOK x)) || !(tt (fieldOK f))) = false) : deckOK x ∧ fieldOK f := by
  rw [Bool.or_eq_false_iff, Bool.not_eq_false', Bool.not_eq_false', tt_iff, tt_iff] at h; exact h
theorem df_of (hx : deckOK x) (hf : fieldOK f) : (!(tt (deckOK x)) || !(tt (fieldOK f))) = false := by rw [tt_iff.2 hx, tt_iff.2 hf]; rfl
theorem keyS_no (h : (!(tt (fieldOK f)) || !(okM m)) = true) : keyS f m = (0, 1) := if_pos h
theorem keyS_yes (h : (!(tt (fieldOK f)) || !(okM m)) = false) : keyS f m = (keyF f m, 0) := if_neg (by rw [h]; decide)
theorem findS_bad (h : tt (deckOK x) = false) : findS x s = (0, 1) := if_neg (by rw [h]; decide)
theorem findS_no (h : tt (deckOK x) = true) (h1 : findC s x < 0) : findS x s = (0, 6) := by rw [findS, if_pos h, if_pos h1]
theorem findS_yes (h : tt (deckOK x) = true) (h1 : ¬ findC s x < 0) : findS x s = (findC s x, 0) := by rw [findS, if_pos h, if_neg h1]
theorem encS_bad (h : tt (fieldOK f) = false) : encS f v = (zM, 1) := if_neg (by rw [h]; decide)
theorem encS_no (h : tt (fieldOK f) = true) (h1 : inb v 0 (topF f) = false) : encS f v = (zM, 2) := by rw [encS, if_pos h, if_neg (by rw [h1]; decide)]
theorem encS_yes (h : tt (fieldOK f) = true) (h1 : inb v 0 (topF f) = true) : encS f v = (codeF f v, 0) := by rw [encS, if_pos h, if_pos h1]
theorem encS_ok (h : (encS f v).2 = 0) : fieldOK f ∧ (0 ≤ v ∧ v ≤ topF f) ∧ (encS f v).1 = codeF f v := by
  unfold encS at h ⊢
  by_cases h1 : tt (fieldOK f) = true
  · rw [if_pos h1] at h ⊢
    by_cases h2 : inb v 0 (topF f) = true
    · rw [if_pos h2]
      have h3 := h2
      simp only [inb, Bool.and_eq_true, decide_eq_true_eq] at h3
      exact ⟨tt_iff.1 h1, h3, rfl⟩
    · rw [if_neg h2] at h; exact absurd h (by decide)
  · rw [if_neg h1] at h; exact absurd h (by decide)
theorem qfS_no (h : ¬ (encS f v).2 = 0) : qfS f v = ((zM, zM), (encS f v).2) := if_neg h
theorem qfS_yes (h : (encS f v).2 = 0) : qfS f v = (((encS f v).1, lessM (partF f) (encS f v).1), 0) := by rw [qfS, if_pos h, (encS_ok h).2.2]
end
/-! ### Cards of values -/
def inV (f : DField) (v : Int) : Prop := -1 ≤ v ∧ v ≤ topF f
def mkM (s : List DField) (vs : List Int) : Nat → DMask
  | 0 => zM
  | z + 1 => match s[z]? with
    | some f => if 0 ≤ vs.getD z 0 then joinM (mkM s vs z) (codeF f (vs.getD z 0)) else mkM s vs z
    | none => mkM s vs z
def inVI (s : List DField) (vs : List Int) (i : Nat) : Prop := ∃ f, s[i]? = some f ∧ inV f (vs.getD i 0)
noncomputable def makeS (s : List DField) (n : ByteArray) (vs : List Int) : DCard × Int := if tt (schemeOK s) = false then ((.empty, zM), 1) else if (!(tt (nameOK n)) || decide (¬ (vs.length : Int) = s.length)) = true then ((.empty, zM), 2) else
  if tt (∀ i, i < s.length → inVI s vs i) = true then ((n, mkM s vs s.length), 0) else ((.empty, zM), 2)
def tornI (s : List DField) (m : DMask) (i : Nat) : Prop := ∃ f, s[i]? = some f ∧ ¬ (valS f m).2 = 8
noncomputable def vlsS (s : List DField) (c : DCard) : List Int × Int := if (!(tt (schemeOK s)) || !(tt (cardOK c))) = true then ([], 1) else if tt (∀ i, i < s.length → tornI s c.2 i) = true then (valsF s c.2, 0) else ([], 8)
section
variable {s : List DField} {n : ByteArray} {vs : List Int} {z : Nat} {f : DField} {v : Int} {m : DMask} {c : DCard}
theorem mkM_yes (hf : s[Int.toNat ((z : Nat) : Int)]? = some f) (hv : vs[Int.toNat ((z : Nat) : Int)]? = some v) (h : 0 ≤ v) : joinM (mkM s vs z) (codeF f v) = mkM s vs (z + 1) := by
  rw [toN] at hf hv
  have e : vs.getD z 0 = v := by rw [List.getD_eq_getElem?_getD, hv]; rfl
  rw [mkM, hf, e]; exact (if_pos h).symm
theorem mkM_no (hf : s[Int.toNat ((z : Nat) : Int)]? = some f) (hv : vs[Int.toNat ((z : Nat) : Int)]? = some v) (h : ¬ 0 ≤ v) : mkM s vs z = mkM s vs (z + 1) := by
  rw [toN] at hf hv
  have e : vs.getD z 0 = v := by rw [List.getD_eq_getElem?_getD, hv]; rfl
  rw [mkM, hf, e]; exact (if_neg h).symm
theorem inVI_iff (hf : s[Int.toNat ((z : Nat) : Int)]? = some f) (hv : vs[Int.toNat ((z : Nat) : Int)]? = some v) : inVI s vs z ↔ inV f v := by
  rw [toN] at hf hv
  have e : vs.getD z 0 = v := by rw [List.getD_eq_getElem?_getD, hv]; rfl
  unfold inVI
  rw [e]
  constructor
  · rintro ⟨g, h1, h2⟩
    rw [hf] at h1; obtain rfl := Option.some.inj h1; exact h2
  · exact fun h => ⟨f, hf, h⟩
theorem tornI_iff (hf : s[Int.toNat ((z : Nat) : Int)]? = some f) : tornI s m z ↔ ¬ (valS f m).2 = 8 := by
  rw [toN] at hf
  constructor
  · rintro ⟨g, h1, h2⟩
    rw [hf] at h1; obtain rfl := Option.some.inj h1; exact h2
  · exact fun h => ⟨f, hf, h⟩
theorem make_bad (h : tt (schemeOK s) = false) : makeS s n vs = ((.empty, zM), 1) := if_pos h
theorem make_name (h : tt (schemeOK s) = true) (h1 : (!(tt (nameOK n)) || decide (¬ (vs.length : Int) = s.length)) = true) : makeS s n vs = ((.empty, zM), 2) := by rw [makeS, if_neg (by rw [h]; decide), if_pos h1]
theorem make_out (h : tt (schemeOK s) = true) (h1 : (!(tt (nameOK n)) || decide (¬ (vs.length : Int) = s.length)) = false) (hz : z < s.length) (h2 : ¬ inVI s vs z) : makeS s n vs = ((.empty, zM), 2) := by
  rw [makeS, if_neg (by rw [h]; decide), if_neg (by rw [h1]; decide), if_neg]
  rw [tt_iff]; exact fun h3 => h2 (h3 z hz)
theorem make_yes (h : tt (schemeOK s) = true) (h1 : (!(tt (nameOK n)) || decide (¬ (vs.length : Int) = s.length)) = false) (h2 : ∀ i, i < z → inVI s vs i) (hz : s.length ≤ z) (hz' : z ≤ s.length) : makeS s n vs = ((n, mkM s vs z), 0) := by
  obtain rfl : z = s.length := by omega
  rw [makeS, if_neg (by rw [h]; decide), if_neg (by rw [h1]; decide), if_pos (tt_iff.2 h2)]
theorem make_len (h1 : (!(tt (nameOK n)) || decide (¬ (vs.length : Int) = s.length)) = false) : nameOK n ∧ vs.length = s.length := by
  rw [Bool.or_eq_false_iff, Bool.not_eq_false', tt_iff, decide_eq_false_iff_not, Classical.not_not] at h1
  exact ⟨h1.1, by omega⟩
theorem vls_bad (h : (!(tt (schemeOK s)) || !(tt (cardOK c))) = true) : vlsS s c = ([], 1) := if_pos h
theorem vls_torn (h : (!(tt (schemeOK s)) || !(tt (cardOK c))) = false) (hf : s[Int.toNat ((z : Nat) : Int)]? = some f) (h1 : (valS f c.2).2 = 8) : vlsS s c = ([], 8) := by
  rw [vlsS, if_neg (by rw [h]; decide), if_neg]
  rw [tt_iff]
  intro h2
  have hz : z < s.length := by rw [toN] at hf; exact (List.getElem?_eq_some_iff.1 hf).1
  exact (tornI_iff hf).1 (h2 z hz) h1
theorem vls_yes (h : (!(tt (schemeOK s)) || !(tt (cardOK c))) = false) (h2 : ∀ i, i < z → tornI s c.2 i) (hz : s.length ≤ z) : vlsS s c = (valsF (s.take z) c.2, 0) := by
  rw [vlsS, if_neg (by rw [h]; decide), if_pos (tt_iff.2 fun i hi => h2 i (by omega)), List.take_of_length_le hz]
theorem vls_none (h : (valS f m).2 = 6) : (-1 : Int) = valIn f m := by unfold valIn; rw [h]; rfl
theorem vls_some (h6 : ¬ (valS f m).2 = 6) (h8 : ¬ (valS f m).2 = 8) : (valS f m).1 = valIn f m := by
  have := valS_code f m
  unfold valIn
  rw [if_pos (by omega)]
theorem make_zero (h : (makeS s n vs).2 = 0) : schemeOK s ∧ nameOK n ∧ vs.length = s.length ∧ (∀ i, i < s.length → inVI s vs i) ∧ makeS s n vs = ((n, mkM s vs s.length), 0) := by
  by_cases h1 : tt (schemeOK s) = false
  · rw [make_bad h1] at h; exact absurd h (by decide)
  · rw [Bool.not_eq_false] at h1
    by_cases h2 : (!(tt (nameOK n)) || decide (¬ (vs.length : Int) = s.length)) = true
    · rw [make_name h1 h2] at h; exact absurd h (by decide)
    · rw [Bool.not_eq_true] at h2
      by_cases h3 : ∀ i, i < s.length → inVI s vs i
      · have h4 := make_len h2
        exact ⟨tt_iff.1 h1, h4.1, h4.2, h3, make_yes h1 h2 h3 (Nat.le_refl _) (Nat.le_refl _)⟩
      · rw [makeS, if_neg (by rw [h1]; decide), if_neg (by rw [h2]; decide), if_neg (by rw [tt_iff]; exact h3)] at h
        exact absurd h (by decide)
theorem mkM_ok (hs : schemeOK s) (hv : ∀ i, i < s.length → inVI s vs i) : ∀ z, z ≤ s.length → okM (mkM s vs z) = true
  | 0, _ => okM_zM
  | z + 1, hz => by
    obtain ⟨f, h1, h2⟩ := schemeF hs (i := z) (by omega)
    obtain ⟨g, h3, h4⟩ := hv z (by omega)
    rw [h1] at h3
    obtain rfl := Option.some.inj h3
    rw [mkM, h1]
    dsimp only
    split
    · rename_i h5
      exact okM_join (mkM_ok hs hv z (by omega)) (okM_code h2 ⟨h5, h4.2⟩)
    · exact mkM_ok hs hv z (by omega)
theorem join_part {a b p : DMask} : meetM (joinM a b) p = joinM (meetM a p) (meetM b p) := mask_ext fun i hi => by
  rw [bit_meet, bit_join, bit_join, bit_meet, bit_meet]
  cases bitB a i <;> cases bitB b i <;> cases bitB p i <;> rfl
theorem meet_zM (p : DMask) : meetM zM p = zM := mask_ext fun i hi => by rw [bit_meet, bit_zM]; rfl
theorem join_zM' (x : DMask) : joinM x zM = x := mask_ext fun i hi => by rw [bit_join, bit_zM, Bool.or_false]
theorem code_apart {g : DField} (hf : fieldOK f) (hv : 0 ≤ v ∧ v ≤ topF f) (h : meetM (partF f) (partF g) = zM) : meetM (codeF f v) (partF g) = zM := by
  rw [← code_part hf hv]
  refine mask_ext fun i hi => ?_
  have h1 := congrArg (fun m => bitB m i) h
  rw [bit_meet, bit_zM] at h1
  rw [bit_meet, bit_meet, Bool.and_assoc, h1, Bool.and_false, bit_zM]
theorem mkM_part (hs : schemeOK s) (hv : ∀ i, i < s.length → inVI s vs i) {k : Nat} (hk : s[k]? = some f) : ∀ z, z ≤ s.length → meetM (mkM s vs z) (partF f) = if k < z ∧ 0 ≤ vs.getD k 0 then codeF f (vs.getD k 0) else zM
  | 0, _ => by rw [if_neg (by omega)]; exact meet_zM _
  | z + 1, hz => by
    have ih := mkM_part hs hv hk z (by omega)
    obtain ⟨g, h1, h2⟩ := schemeF hs (i := z) (by omega)
    obtain ⟨g', h3, h4⟩ := hv z (by omega)
    rw [h1] at h3
    obtain rfl := Option.some.inj h3
    rw [mkM, h1]
    dsimp only
    by_cases e : z = k
    · subst e
      rw [h1] at hk
      obtain rfl := Option.some.inj hk
      rw [if_neg (by omega)] at ih
      by_cases h5 : 0 ≤ vs.getD z 0
      · rw [if_pos h5, if_pos ⟨by omega, h5⟩, join_part, ih, join_zM, code_part h2 ⟨h5, h4.2⟩]
      · rw [if_neg h5, if_neg (by omega), ih]
    · have hap := apart' hs e h1 hk
      have e2 : (k < z + 1 ∧ 0 ≤ vs.getD k 0) ↔ (k < z ∧ 0 ≤ vs.getD k 0) := by omega
      by_cases h5 : 0 ≤ vs.getD z 0
      · rw [if_pos h5, join_part, ih, code_apart h2 ⟨h5, h4.2⟩ hap, join_zM']
        simp only [e2]
      · rw [if_neg h5, ih]
        simp only [e2]
theorem make_vals (h : (makeS s n vs).2 = 0) : vlsS s (makeS s n vs).1 = (vs, 0) ∧ cardOK (makeS s n vs).1 := by
  obtain ⟨hs, hn, hl, hv, e⟩ := make_zero h
  have hc : cardOK (makeS s n vs).1 := by rw [e]; exact ⟨hn, mkM_ok hs hv _ (Nat.le_refl _)⟩
  refine ⟨?_, hc⟩
  have key : ∀ (k : Nat) f, s[k]? = some f → ¬ (valS f (makeS s n vs).1.2).2 = 8 ∧ valIn f (makeS s n vs).1.2 = vs.getD k 0 := fun k f hk => by
    have hf := sch_at hs hk
    have hkl := (List.getElem?_eq_some_iff.1 hk).1
    obtain ⟨g, h3, h4⟩ := hv k hkl
    rw [hk] at h3
    obtain rfl := Option.some.inj h3
    have hp := mkM_part hs hv hk s.length (Nat.le_refl _)
    have em : (makeS s n vs).1.2 = mkM s vs s.length := by rw [e]
    rw [em]
    by_cases h5 : 0 ≤ vs.getD k 0
    · rw [if_pos ⟨hkl, h5⟩] at hp
      have h6 := val_code hf ⟨h5, h4.2⟩ hp
      unfold valIn
      rw [h6]
      exact ⟨by dsimp only; omega, rfl⟩
    · rw [if_neg (by omega)] at hp
      have h6 := valS_none hp
      have h7 := h4.1
      unfold valIn
      rw [h6]
      refine ⟨by decide, ?_⟩
      show (if (6 : Int) = 0 then _ else if (6 : Int) = 6 then (-1 : Int) else -2) = _
      rw [if_neg (by decide), if_pos rfl]; omega
  have h8 := vls_yes (s := s) (c := (makeS s n vs).1) (z := s.length) (by rw [tt_iff.2 hs, tt_iff.2 hc]; rfl) (fun i hi => ⟨s[i], List.getElem?_eq_getElem hi, (key i _ (List.getElem?_eq_getElem hi)).1⟩) (Nat.le_refl _)
  rw [h8, List.take_length]
  congr 1
  apply List.ext_getElem
  · rw [valsF_len, hl]
  · intro i hi hj
    have hi' : i < s.length := by rw [valsF_len] at hi; exact hi
    have h9 := (key i _ (List.getElem?_eq_getElem hi')).2
    rw [List.getD_eq_getElem?_getD, List.getElem?_eq_getElem hj] at h9
    simpa [valsF] using h9
end
/-! ### Walks of sorting -/
def revP (x : List Int) (z : Nat) : List Int := (List.range x.length).map fun i => if i < z ∨ x.length ≤ i + z then x.getD (x.length - 1 - i) 0 else x.getD i 0
theorem revP_len (x : List Int) (z : Nat) : (revP x z).length = x.length := by rw [revP, List.length_map, List.length_range]
theorem revP_get (x : List Int) (z : Nat) {i : Nat} (h : i < x.length) : (revP x z)[i]? = some (if i < z ∨ x.length ≤ i + z then x.getD (x.length - 1 - i) 0 else x.getD i 0) := by
  rw [revP, List.getElem?_map, List.getElem?_range h]; rfl
theorem revP_zero (x : List Int) : x = revP x 0 := by
  apply List.ext_getElem?
  intro i
  by_cases h : i < x.length
  · rw [revP_get x 0 h, if_neg (by omega), List.getD_eq_getElem?_getD, List.getElem?_eq_getElem h]; rfl
  · rw [List.getElem?_eq_none (by omega), List.getElem?_eq_none (by rw [revP_len]; omega)]
theorem revP_end {x : List Int} {z : Nat} (h : ¬ ((z : Int) < (x.length : Int) - 1 - (z : Int))) : revP x z = x.reverse := by
  apply List.ext_getElem?
  intro i
  by_cases hi : i < x.length
  · rw [revP_get x z hi, List.getElem?_reverse hi, List.getElem?_eq_getElem (show x.length - 1 - i < x.length by omega)]
    congr 1
    have e : x.getD (x.length - 1 - i) 0 = x[x.length - 1 - i] := by rw [List.getD_eq_getElem?_getD, List.getElem?_eq_getElem (by omega)]; rfl
    split
    · exact e
    · rw [← e, show x.length - 1 - i = i by omega]
  · rw [List.getElem?_eq_none (by rw [revP_len]; omega), List.getElem?_eq_none (by rw [List.length_reverse]; omega)]
theorem revP_at {x : List Int} {z : Nat} (h : (z : Int) < (x.length : Int) - 1 - (z : Int)) : ∃ a b, (revP x z)[Int.toNat ((x.length : Int) - 1 - (z : Int))]? = some a ∧ (revP x z)[Int.toNat ((z : Nat) : Int)]? = some b ∧ ((revP x z).set (Int.toNat ((z : Nat) : Int)) a)[Int.toNat ((x.length : Int) - 1 - (z : Int))]? = some a ∧ ((revP x z).set (Int.toNat ((z : Nat) : Int)) a).set (Int.toNat ((x.length : Int) - 1 - (z : Int))) b = revP x (z + 1) := by
  have e : Int.toNat ((x.length : Int) - 1 - (z : Int)) = x.length - 1 - z := by omega
  rw [e, toN]
  have h1 := revP_get x z (i := x.length - 1 - z) (by omega)
  have h2 := revP_get x z (i := z) (by omega)
  rw [if_neg (by omega)] at h1 h2
  refine ⟨_, _, h1, h2, by rw [List.getElem?_set_ne (by omega)]; exact h1, ?_⟩
  apply List.ext_getElem?
  intro i
  by_cases hi : i < x.length
  · rw [revP_get x (z + 1) hi, List.getElem?_set, List.getElem?_set]
    by_cases h3 : x.length - 1 - z = i
    · rw [if_pos h3, if_pos (by rw [List.length_set, revP_len]; omega), if_pos (by omega)]
      congr 2; omega
    · rw [if_neg h3]
      by_cases h4 : z = i
      · rw [if_pos h4, if_pos (by rw [revP_len]; omega), if_pos (by omega)]
        subst h4; rfl
      · rw [if_neg h4, revP_get x z hi]
        congr 1
        by_cases h5 : i < z ∨ x.length ≤ i + z
        · rw [if_pos h5, if_pos (by omega)]
        · rw [if_neg h5, if_neg (by omega)]
  · rw [List.getElem?_eq_none (by rw [List.length_set, List.length_set, revP_len]; omega), List.getElem?_eq_none (by rw [revP_len]; omega)]
section
variable {f : DField} {z : Nat} {m : DMask}
theorem sortA_dir (h : f.2.1 = 0) : f.2.2.1 + (z : Int) = sortA f z := by rw [sortA, if_pos h]
theorem sortA_oth (h : ¬ f.2.1 = 0) : f.2.2.1 + sortN f - 1 - (z : Int) = sortA f z := by rw [sortA, if_neg h]
theorem hol_part (hf : fieldOK f) : hol (partF f) 96 = (List.range (widthF f).toNat).map fun (k : Nat) => f.2.2.1 + (k : Int) := by
  have hw := field_width hf
  have h0 := hf.2.2.2.2.2
  have hs : (hol (partF f) 96).Pairwise (· < ·) := by
    rw [hol, List.pairwise_map]
    exact (List.pairwise_lt_range.filter _).imp fun h => by omega
  have ht : ((List.range (widthF f).toNat).map fun (k : Nat) => f.2.2.1 + (k : Int)).Pairwise (· < ·) := by
    rw [List.pairwise_map]
    exact List.pairwise_lt_range.imp fun h => by omega
  have hp : (hol (partF f) 96).Perm ((List.range (widthF f).toNat).map fun (k : Nat) => f.2.2.1 + (k : Int)) := (List.perm_ext_iff_of_nodup (hol_nodup _) (ht.imp fun h e => by omega)).2 fun a => by
    rw [hol_in, List.mem_map]
    constructor
    · rintro ⟨h1, h2, h3⟩
      rw [bit_part hf (by omega), Bool.and_eq_true, decide_eq_true_eq, decide_eq_true_eq] at h3
      exact ⟨(a - f.2.2.1).toNat, List.mem_range.2 (by omega), by omega⟩
    · rintro ⟨k, h1, rfl⟩
      have := List.mem_range.1 h1
      refine ⟨by omega, by omega, ?_⟩
      rw [bit_part hf (by omega), Bool.and_eq_true, decide_eq_true_eq, decide_eq_true_eq]
      omega
  exact hp.eq_of_pairwise (fun a b _ _ h1 h2 => absurd h1 (by omega)) hs ht
theorem hol_part_len (hf : fieldOK f) : ((hol (partF f) 96).length : Int) = widthF f := by
  have hw := field_width hf
  rw [hol_part hf, List.length_map, List.length_range]; omega
theorem sort_dir (hf : fieldOK f) (h : f.2.1 = 0) : hol (partF f) 96 = sortH f := by
  rw [hol_part hf, sortH, sortL, sortN, if_neg (by omega)]
  refine List.map_congr_left fun k _ => ?_
  exact sortA_dir h
theorem rev_range {n : Nat} {g g' : Nat → Int} (h : ∀ k, k < n → g' k = g (n - 1 - k)) : ((List.range n).map g).reverse = (List.range n).map g' := by
  apply List.ext_getElem?
  intro i
  by_cases hi : i < n
  · rw [List.getElem?_reverse (by rw [List.length_map, List.length_range]; exact hi), List.length_map, List.length_range, List.getElem?_map, List.getElem?_map, List.getElem?_range (by omega), List.getElem?_range hi]
    simp [h i hi]
  · rw [List.getElem?_eq_none (by rw [List.length_reverse, List.length_map, List.length_range]; omega), List.getElem?_eq_none (by rw [List.length_map, List.length_range]; omega)]
theorem sort_oth (hf : fieldOK f) (h : ¬ f.2.1 = 0) (h3 : ¬ f.2.1 = 3) : (hol (partF f) 96).reverse = sortH f := by
  have hw := field_width hf
  have e : sortN f = widthF f := if_neg h3
  rw [hol_part hf, sortH, sortL, e]
  refine rev_range fun k hk => ?_
  rw [← sortA_oth h, e]
  omega
theorem sort_bin (hf : fieldOK f) (h3 : f.2.1 = 3) {n : Nat} (hn : (n : Int) = (hol (partF f) 96).length - 1) : ((hol (partF f) 96).take n).reverse = sortH f := by
  have hw := field_width hf
  have hl := hol_part_len hf
  have e : sortN f = widthF f - 1 := if_pos h3
  have e2 : (sortN f).toNat = n := by omega
  rw [hol_part hf, sortH, sortL, e2, ← List.map_take, List.take_range, Nat.min_eq_left (by omega)]
  refine rev_range fun k hk => ?_
  rw [← sortA_oth (by omega), e]
  omega
theorem shl_key {z : Nat} (h : z < 62) : IntKind.i64.wrap (1 * 2 ^ (min (Int.toNat ((z : Nat) : Int)) IntKind.i64.bits)) = ((2 ^ z : Nat) : Int) := by
  have e : min (Int.toNat ((z : Nat) : Int)) IntKind.i64.bits = z := by rw [toN]; show min z 64 = z; omega
  have h2 : 2 ^ z < 2 ^ 62 := Nat.pow_lt_pow_right (by omega) h
  rw [e, Int.one_mul, show (2 : Int) ^ z = ((2 ^ z : Nat) : Int) by push_cast; rfl]
  obtain ⟨n, hn⟩ : ∃ n : Nat, n = 2 ^ z := ⟨_, rfl⟩
  rw [← hn] at h2 ⊢
  have h3 : n < 4611686018427387904 := h2
  exact wrap_i64 (by omega)
theorem key_or {l : List Int} {h : Int} (hh : l[Int.toNat ((z : Nat) : Int)]? = some h) (hb : hasM m h = true) : ((keyN m l z ||| 2 ^ z : Nat) : Int) = ((keyN m l (z + 1) : Nat) : Int) := by
  have h1 := keyN_lt m l z
  have h2 := Nat.two_pow_add_eq_or_of_lt h1 1
  rw [← keyN_yes hh hb, Nat.or_comm]
  rw [Nat.mul_one] at h2
  omega
end
def oqI (q : DCard → DCard → Int) (x : List DCard) (i : Nat) : Prop := ∃ a b, x[i]? = some a ∧ x[i + 1]? = some b ∧ ¬ q b a < 0
theorem oqI_iff {q : DCard → DCard → Int} {x : List DCard} {i : Nat} {a b : DCard} (ha : x[i]? = some a) (hb : x[i + 1]? = some b) : oqI q x i ↔ ¬ q b a < 0 := by
  constructor
  · rintro ⟨c, d, h1, h2, h3⟩
    rw [ha] at h1; rw [hb] at h2
    obtain rfl := Option.some.inj h1
    obtain rfl := Option.some.inj h2
    exact h3
  · exact fun h => ⟨a, b, ha, hb, h⟩
theorem oq_get {x : List DCard} {z : Nat} (h : 0 < (x.length : Int) - 1 - (z : Int)) : ∃ a b, x[Int.toNat ((x.length : Int) - 1 - (z : Int) - 1)]? = some a ∧ x[Int.toNat ((x.length : Int) - 1 - (z : Int))]? = some b ∧ ∀ q, oqI q x (x.length - 2 - z) ↔ ¬ q b a < 0 := by
  have h1 : x[x.length - 2 - z]? = some (x[x.length - 2 - z]'(by omega)) := List.getElem?_eq_getElem (by omega)
  have h2 : x[x.length - 2 - z + 1]? = some (x[x.length - 2 - z + 1]'(by omega)) := List.getElem?_eq_getElem (by omega)
  refine ⟨_, _, ?_, ?_, fun q => oqI_iff h1 h2⟩
  · rw [show Int.toNat ((x.length : Int) - 1 - (z : Int) - 1) = x.length - 2 - z by omega]; exact h1
  · rw [show Int.toNat ((x.length : Int) - 1 - (z : Int)) = x.length - 2 - z + 1 by omega]; exact h2
theorem ord_same {f : DField} {x : List DCard} {q : DCard → DCard → Int} (hq : ∀ a b, q a b < 0 ↔ keyF f a.2 < keyF f b.2) : tt (∀ i, i + 1 < x.length → oqI q x i) = tt (ordA f x) := by
  congr 1
  refine propext (forall_congr' fun i => forall_congr' fun hi => ?_)
  unfold oqI ordK
  constructor <;> rintro ⟨a, b, h1, h2, h3⟩ <;> refine ⟨a, b, h1, h2, ?_⟩
  · rw [hq] at h3; omega
  · rw [hq]; omega
theorem cmp_neg (a b : Int) : cmpI a b < 0 ↔ a < b := by unfold cmpI; split <;> (try split) <;> constructor <;> intro h <;> omega
end Go.Proofs.YtlhfmcbmlmhgaaaGreatDoor.VL
