/- Proved here: decks of cards in text, and passes of needles. Plain Lean. -/
import Derived.Test.YtbckpmjiimiceaaDoorPXN
import Derived.Test.YtbckpmjiimiceaaDoorPZK
set_option linter.unusedVariables false
set_option linter.unusedSimpArgs false
namespace Go.Proofs.YtbckpmjiimiceaaDoor.VL
open Go
/-! ### Decks in text -/
/-! ### Lines that are joined -/
/-! ### Passes -/
theorem atS_rng {l : List Int} {i n : Int} (h : ∀ b ∈ l, 0 ≤ b ∧ b ≤ 255) (hi : 0 ≤ i) (hn : 1 ≤ n) : 0 ≤ atS l i n ∧ atS l i n < n := by
  unfold atS
  split
  · omega
  · rename_i h1
    have hl : i.toNat < l.length := by omega
    rw [List.getD_eq_getElem?_getD, List.getElem?_eq_getElem hl]
    have h2 := h _ (List.getElem_mem hl)
    exact tmod_lt' h2.1 (by omega)
end Go.Proofs.YtbckpmjiimiceaaDoor.VL
