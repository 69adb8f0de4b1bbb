/- Proved here: decks that are changed by draws; what a law says of three decks. Plain Lean. -/
import Derived.Test.YtkgboidjghcegaaGreatDoorBpa
set_option linter.unusedVariables false
set_option linter.unusedSimpArgs false
namespace Go.Proofs.YtkgboidjghcegaaGreatDoor.VL
open Go
/-! ### Decks by their names -/
theorem deck_of {x : List DCard} (hl : x.length ≤ 80) (hc : ∀ c ∈ x, cardOK c) (hn : (x.map (·.1)).Nodup) : deckOK x := by
  refine ⟨hl, fun i hi => ?_⟩
  have hg : x[i]? = some x[i] := List.getElem?_eq_getElem hi
  refine ⟨x[i], hg, hc _ (List.getElem_mem hi), fun k hk => ?_⟩
  have hj : x[k]? = some x[k] := List.getElem?_eq_getElem (by omega)
  refine ⟨x[k], hj, ?_⟩
  rw [eqv_false_iff]
  intro h
  rw [List.Nodup, List.pairwise_map, List.pairwise_iff_getElem] at hn
  exact hn k i (by omega) hi hk h
/-! ### Changes -/
/-! ### Three decks -/
section
variable {base a b : List DCard}
end
end Go.Proofs.YtkgboidjghcegaaGreatDoor.VL
