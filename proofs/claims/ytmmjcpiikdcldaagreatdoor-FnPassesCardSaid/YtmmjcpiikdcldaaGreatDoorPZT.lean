/- Proved here: decks that are changed by draws; what a law says of three decks. Plain Lean. -/
import Derived.Test.YtmmjcpiikdcldaaGreatDoorBpa
set_option linter.unusedVariables false
set_option linter.unusedSimpArgs false
namespace Go.Proofs.YtmmjcpiikdcldaaGreatDoor.VL
open Go
/-! ### Decks by their names -/
theorem deck_names {x : List DCard} (hx : deckOK x) : (x.map (·.1)).Nodup := by
  rw [List.Nodup, List.pairwise_map, List.pairwise_iff_getElem]
  intro i j hi hj hij h
  have := deck_one hx (List.getElem?_eq_getElem hi) (List.getElem?_eq_getElem hj) h
  omega
theorem deck_card {x : List DCard} (hx : deckOK x) {c : DCard} (hc : c ∈ x) : cardOK c := by
  obtain ⟨i, hi⟩ := List.mem_iff_getElem?.1 hc
  obtain ⟨b, h1, h2, _⟩ := hx.2 i (List.getElem?_eq_some_iff.1 hi).1
  rw [hi] at h1
  obtain rfl := Option.some.inj h1
  exact h2
theorem deck_of {x : List DCard} (hl : x.length ≤ 80) (hc : ∀ c ∈ x, cardOK c) (hn : (x.map (·.1)).Nodup) : deckOK x := by
  refine ⟨hl, fun i hi => ?_⟩
  have hg : x[i]? = some x[i] := List.getElem?_eq_getElem hi
  refine ⟨x[i], hg, hc _ (List.getElem_mem hi), fun k hk => ?_⟩
  have hj : x[k]? = some x[k] := List.getElem?_eq_getElem (by omega)
  refine ⟨x[k], hj, ?_⟩
  rw [eqv_false_iff]
  intro h
  rw [List.Nodup, List.pairwise_map, List.pairwise_iff_getElem] at hn
  exact hn k i (by omega) hi hk h
/-! ### Changes -/
/-! ### Three decks -/
section
variable {base a b : List DCard}
theorem same_mem {x y : List DCard} (hx : deckOK x) (hy : deckOK y) (h : ∀ c, c ∈ x ↔ c ∈ y) : sameC x y = (true, 0) := by
  have nd : ∀ {z : List DCard}, deckOK z → z.Nodup := fun {z} hz => by
    have := deck_names hz
    rw [List.Nodup, List.pairwise_map] at this
    exact this.imp fun h e => h (by rw [e])
  have hp : x.Perm y := (List.perm_ext_iff_of_nodup (nd hx) (nd hy)).2 h
  rw [sameC_yes (by rw [tt_iff.2 hx, tt_iff.2 hy]; rfl)]
  have hw : within x y := fun i hi => (within_iff hy (List.getElem?_eq_getElem hi)).2 ((h _).1 (List.getElem_mem hi))
  rw [tt_iff.2 hw, hp.length_eq]
  simp
end
end Go.Proofs.YtmmjcpiikdcldaaGreatDoor.VL
