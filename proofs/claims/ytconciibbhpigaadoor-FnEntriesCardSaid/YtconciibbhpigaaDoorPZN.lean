/- Proved here: distances of masks, and what a law says of the nearest cards and of equal ones. Plain Lean. -/
import Derived.Test.YtconciibbhpigaaDoorBpa
set_option linter.unusedVariables false
set_option linter.unusedSimpArgs false
namespace Go.Proofs.YtconciibbhpigaaDoor.VL
open Go
/-- Whether a number is in a row. -/
def hasV (v : Int) (l : List Int) : Bool := l.any fun b => b == v
theorem hasV_iff {v : Int} {l : List Int} : hasV v l = true ↔ v ∈ l := by
  rw [hasV, List.any_eq_true]
  constructor
  · rintro ⟨b, h1, h2⟩; rw [beq_iff_eq] at h2; exact h2 ▸ h1
  · exact fun h => ⟨v, h, by simp⟩
/-! ### Equal cards -/
end Go.Proofs.YtconciibbhpigaaDoor.VL
