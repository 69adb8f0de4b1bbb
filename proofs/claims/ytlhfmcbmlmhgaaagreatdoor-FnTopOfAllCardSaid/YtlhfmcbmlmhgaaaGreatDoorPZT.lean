/- Proved here: decks that are changed by draws; what a law says of three decks. Plain Lean. -/
import Derived.Test.YtlhfmcbmlmhgaaaGreatDoorBpa
set_option linter.unusedVariables false
set_option linter.unusedSimpArgs false
namespace Go.Proofs.YtlhfmcbmlmhgaaaGreatDoor.VL
open Go
theorem okM_less {x y : DMask} (hx : okM x = true) : okM (lessM x y) = true := by
  rw [okM_iff] at *
  intro i h1 h2
  rw [bit_less _ _ h2, hx i h1 h2]; rfl
/-! ### Decks by their names -/
theorem deck_names {x : List DCard} (hx : deckOK x) : (x.map (·.1)).Nodup := by
  rw [List.Nodup, List.pairwise_map, List.pairwise_iff_getElem]
  intro i j hi hj hij h
  have := deck_one hx (List.getElem?_eq_getElem hi) (List.getElem?_eq_getElem hj) h
  omega
theorem deck_card {x : List DCard} (hx : deckOK x) {c : DCard} (hc : c ∈ x) : cardOK c := by
  obtain ⟨i, hi⟩ := List.mem_iff_getElem?.1 hc
  obtain ⟨b, h1, h2, _⟩ := hx.2 i (List.getElem?_eq_some_iff.1 hi).1
  rw [hi] at h1
  obtain rfl := Option.some.inj h1
  exact h2
theorem deck_of {x : List DCard} (hl : x.length ≤ 80) (hc : ∀ c ∈ x, cardOK c) (hn : (x.map (·.1)).Nodup) : deckOK x := by
  refine ⟨hl, fun i hi => ?_⟩
  have hg : x[i]? = some x[i] := List.getElem?_eq_getElem hi
  refine ⟨x[i], hg, hc _ (List.getElem_mem hi), fun k hk => ?_⟩
  have hj : x[k]? = some x[k] := List.getElem?_eq_getElem (by omega)
  refine ⟨x[k], hj, ?_⟩
  rw [eqv_false_iff]
  intro h
  rw [List.Nodup, List.pairwise_map, List.pairwise_iff_getElem] at hn
  exact hn k i (by omega) hi hk h
/-! ### Changes -/
theorem chI_new {r : List DCard} {c : DCard} (hr : deckOK r) (hl : r.length ≤ 79) (hc : cardOK c) (hn : findC c.1 r < 0) : deckOK (r ++ [c]) := by
  refine deck_of (by rw [List.length_append]; simp only [List.length_cons, List.length_nil]; omega) (fun d hd => ?_) ?_
  · rcases List.mem_append.1 hd with hd | hd
    · exact deck_card hr hd
    · rw [List.mem_singleton] at hd; subst hd; exact hc
  · rw [List.map_append, List.nodup_append]
    refine ⟨deck_names hr, by simp, fun a ha b hb => ?_⟩
    obtain ⟨d, hd, e⟩ := List.mem_map.1 ha
    rw [List.map_cons, List.map_nil, List.mem_singleton] at hb
    rw [hb, ← e]
    exact findC_neg.1 hn d hd
/-! ### Three decks -/
theorem mem_deck {x : List DCard} (hx : deckOK x) {c : DCard} : c ∈ x ↔ stOf x c.1 = (true, c.2) := by
  by_cases h : findC c.1 x < 0
  · rw [st_no h]
    constructor
    · intro hc; exact absurd rfl (findC_neg.1 h c hc)
    · intro h'; cases h'
  · obtain ⟨b, h1, h2, h3⟩ := findC_of (s := c.1) (y := x) (by omega)
    rw [st_yes h h1]
    constructor
    · intro hc
      obtain ⟨j, hj⟩ := List.mem_iff_getElem?.1 hc
      have := deck_one hx h1 hj h2
      rw [this] at h1
      rw [h1] at hj
      obtain rfl := Option.some.inj hj
      rfl
    · intro h'
      have e : b = c := Prod.ext h2 (Prod.mk.inj h').2
      rw [← e]; exact List.mem_of_getElem? h1
section
variable {base a b : List DCard}
theorem same_mem {x y : List DCard} (hx : deckOK x) (hy : deckOK y) (h : ∀ c, c ∈ x ↔ c ∈ y) : sameC x y = (true, 0) := by
  have nd : ∀ {z : List DCard}, deckOK z → z.Nodup := fun {z} hz => by
    have := deck_names hz
    rw [List.Nodup, List.pairwise_map] at this
    exact this.imp fun h e => h (by rw [e])
  have hp : x.Perm y := (List.perm_ext_iff_of_nodup (nd hx) (nd hy)).2 h
  rw [sameC_yes (by rw [tt_iff.2 hx, tt_iff.2 hy]; rfl)]
  have hw : within x y := fun i hi => (within_iff hy (List.getElem?_eq_getElem hi)).2 ((h _).1 (List.getElem_mem hi))
  rw [tt_iff.2 hw, hp.length_eq]
  simp
end
end Go.Proofs.YtlhfmcbmlmhgaaaGreatDoor.VL
