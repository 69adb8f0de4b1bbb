/- Proved here: decks that are changed by draws; what a law says of three decks. Plain Lean. -/
import Derived.Test.YtohcpnobmknglaaDoorBpa
set_option linter.unusedVariables false
set_option linter.unusedSimpArgs false
namespace Go.Proofs.YtohcpnobmknglaaDoor.VL
open Go
/-! ### Decks by their names -/
theorem deck_card {x : List DCard} (hx : deckOK x) {c : DCard} (hc : c ∈ x) : cardOK c := by
  obtain ⟨i, hi⟩ := List.mem_iff_getElem?.1 hc
  obtain ⟨b, h1, h2, _⟩ := hx.2 i (List.getElem?_eq_some_iff.1 hi).1
  rw [hi] at h1
  obtain rfl := Option.some.inj h1
  exact h2
/-! ### Changes -/
/-! ### Three decks -/
section
variable {base a b : List DCard}
end
end Go.Proofs.YtohcpnobmknglaaDoor.VL
