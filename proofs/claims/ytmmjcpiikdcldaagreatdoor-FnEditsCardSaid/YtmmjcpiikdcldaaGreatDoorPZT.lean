/- Proved here: decks that are changed by draws; what a law says of three decks. Plain Lean. -/
import Derived.Test.YtmmjcpiikdcldaaGreatDoorBpa
set_option linter.unusedVariables false
set_option linter.unusedSimpArgs false
namespace Go.Proofs.YtmmjcpiikdcldaaGreatDoor.VL
open Go
theorem okM_less {x y : DMask} (hx : okM x = true) : okM (lessM x y) = true := by
  rw [okM_iff] at *
  intro i h1 h2
  rw [bit_less _ _ h2, hx i h1 h2]; rfl
/-! ### Decks by their names -/
theorem deck_names {x : List DCard} (hx : deckOK x) : (x.map (·.1)).Nodup := by
  rw [List.Nodup, List.pairwise_map, List.pairwise_iff_getElem]
  intro i j hi hj hij h
  have := deck_one hx (List.getElem?_eq_getElem hi) (List.getElem?_eq_getElem hj) h
  omega
theorem deck_card {x : List DCard} (hx : deckOK x) {c : DCard} (hc : c ∈ x) : cardOK c := by
  obtain ⟨i, hi⟩ := List.mem_iff_getElem?.1 hc
  obtain ⟨b, h1, h2, _⟩ := hx.2 i (List.getElem?_eq_some_iff.1 hi).1
  rw [hi] at h1
  obtain rfl := Option.some.inj h1
  exact h2
theorem deck_of {x : List DCard} (hl : x.length ≤ 80) (hc : ∀ c ∈ x, cardOK c) (hn : (x.map (·.1)).Nodup) : deckOK x := by
  refine ⟨hl, fun i hi => ?_⟩
  have hg : x[i]? = some x[i] := List.getElem?_eq_getElem hi
  refine ⟨x[i], hg, hc _ (List.getElem_mem hi), fun k hk => ?_⟩
  have hj : x[k]? = some x[k] := List.getElem?_eq_getElem (by omega)
  refine ⟨x[k], hj, ?_⟩
  rw [eqv_false_iff]
  intro h
  rw [List.Nodup, List.pairwise_map, List.pairwise_iff_getElem] at hn
  exact hn k i (by omega) hi hk h
/-! ### Changes -/
def chI (x : List DCard) (z : Nat) (r : List DCard) : Prop := (r.map (·.1)).Sublist ((x.take z).map (·.1)) ∧ ∀ c ∈ r, okM c.2 = true
theorem chI_nil (x : List DCard) : chI x 0 [] := ⟨by simp, fun c h => by cases h⟩
theorem chI_len {x r : List DCard} {z : Nat} (h : chI x z r) : r.length ≤ z := by
  have := h.1.length_le
  rw [List.length_map, List.length_map, List.length_take] at this
  omega
theorem chI_skip {x r : List DCard} {z : Nat} {e : DCard} (h : chI x z r) (he : x[Int.toNat ((z : Nat) : Int)]? = some e) : chI x (z + 1) r := by
  refine ⟨?_, h.2⟩
  rw [take_more he, List.map_append]
  exact h.1.trans (List.sublist_append_left _ _)
theorem chI_add {x r : List DCard} {z : Nat} {e c : DCard} (h : chI x z r) (he : x[Int.toNat ((z : Nat) : Int)]? = some e) (hn : c.1 = e.1) (hm : okM c.2 = true) : chI x (z + 1) (r ++ [c]) := by
  constructor
  · rw [take_more he, List.map_append, List.map_append]
    refine h.1.append ?_
    rw [List.map_cons, List.map_cons, hn]; exact List.Sublist.refl _
  · intro d hd
    rcases List.mem_append.1 hd with hd | hd
    · exact h.2 d hd
    · rw [List.mem_singleton] at hd; subst hd; exact hm
theorem chI_deck {x r : List DCard} {z : Nat} (hx : deckOK x) (h : chI x z r) : deckOK r := by
  have hs : (r.map (·.1)).Sublist (x.map (·.1)) := h.1.trans ((List.take_sublist z x).map _)
  refine deck_of ?_ (fun c hc => ⟨?_, h.2 c hc⟩) (hs.nodup (deck_names hx))
  · have := hs.length_le
    rw [List.length_map, List.length_map] at this
    have := hx.1
    omega
  · have hm : c.1 ∈ x.map (·.1) := hs.subset (List.mem_map_of_mem hc)
    obtain ⟨d, hd, e⟩ := List.mem_map.1 hm
    rw [← e]; exact (deck_card hx hd).1
theorem chI_new {r : List DCard} {c : DCard} (hr : deckOK r) (hl : r.length ≤ 79) (hc : cardOK c) (hn : findC c.1 r < 0) : deckOK (r ++ [c]) := by
  refine deck_of (by rw [List.length_append]; simp only [List.length_cons, List.length_nil]; omega) (fun d hd => ?_) ?_
  · rcases List.mem_append.1 hd with hd | hd
    · exact deck_card hr hd
    · rw [List.mem_singleton] at hd; subst hd; exact hc
  · rw [List.map_append, List.nodup_append]
    refine ⟨deck_names hr, by simp, fun a ha b hb => ?_⟩
    obtain ⟨d, hd, e⟩ := List.mem_map.1 ha
    rw [List.map_cons, List.map_nil, List.mem_singleton] at hb
    rw [hb, ← e]
    exact findC_neg.1 hn d hd
abbrev newL : List ByteArray := [⟨#[110, 101, 119, 116]⟩, ⟨#[111, 119, 108]⟩, ⟨#[112, 105, 103]⟩]
def txtD (s : DSrc) (l : List ByteArray) : ByteArray := l.getD (Int.toNat (pick s (l.length : Int)).1) .empty
theorem txtD_get {m : Int} {s : DSrc} {l : List ByteArray} (h : srcI m s) (hl : 1 ≤ l.length) : l[Int.toNat (pick s (l.length : Int)).1]? = some (txtD s l) := by
  have := pick_in h (l.length : Int)
  rw [txtD, List.getD_eq_getElem?_getD, List.getElem?_eq_getElem (by omega)]; rfl
theorem newL_ok {m : Int} {s : DSrc} (h : srcI m s) : nameOK (txtD s newL) := by
  have hg := List.mem_of_getElem? (txtD_get h (l := newL) (by decide))
  have all : ∀ b ∈ newL, (b.data.toList.all fun b => decide (97 ≤ b.toNat) && decide (b.toNat ≤ 122)) = true ∧ 1 ≤ b.size ∧ b.size ≤ 16 := by decide +kernel
  have := all _ hg
  exact ⟨low_all this.1, this.2⟩
/-! ### Three decks -/
theorem mem_deck {x : List DCard} (hx : deckOK x) {c : DCard} : c ∈ x ↔ stOf x c.1 = (true, c.2) := by
  by_cases h : findC c.1 x < 0
  · rw [st_no h]
    constructor
    · intro hc; exact absurd rfl (findC_neg.1 h c hc)
    · intro h'; cases h'
  · obtain ⟨b, h1, h2, h3⟩ := findC_of (s := c.1) (y := x) (by omega)
    rw [st_yes h h1]
    constructor
    · intro hc
      obtain ⟨j, hj⟩ := List.mem_iff_getElem?.1 hc
      have := deck_one hx h1 hj h2
      rw [this] at h1
      rw [h1] at hj
      obtain rfl := Option.some.inj hj
      rfl
    · intro h'
      have e : b = c := Prod.ext h2 (Prod.mk.inj h').2
      rw [← e]; exact List.mem_of_getElem? h1
section
variable {base a b : List DCard}
theorem same_mem {x y : List DCard} (hx : deckOK x) (hy : deckOK y) (h : ∀ c, c ∈ x ↔ c ∈ y) : sameC x y = (true, 0) := by
  have nd : ∀ {z : List DCard}, deckOK z → z.Nodup := fun {z} hz => by
    have := deck_names hz
    rw [List.Nodup, List.pairwise_map] at this
    exact this.imp fun h e => h (by rw [e])
  have hp : x.Perm y := (List.perm_ext_iff_of_nodup (nd hx) (nd hy)).2 h
  rw [sameC_yes (by rw [tt_iff.2 hx, tt_iff.2 hy]; rfl)]
  have hw : within x y := fun i hi => (within_iff hy (List.getElem?_eq_getElem hi)).2 ((h _).1 (List.getElem_mem hi))
  rw [tt_iff.2 hw, hp.length_eq]
  simp
end
end Go.Proofs.YtmmjcpiikdcldaaGreatDoor.VL
