/- Proved here: queries that are drawn; what a law says of answers. Plain Lean. -/
import Derived.Test.YtohcpnobmknglaaGreatDoorPZT
import Derived.Test.YtohcpnobmknglaaGreatDoorBpa
set_option linter.unusedVariables false
set_option linter.unusedSimpArgs false
namespace Go.Proofs.YtohcpnobmknglaaGreatDoor.VL
open Go
/-! ### Queries that are drawn -/
def hasS (m : DMask) (h : Int) : Bool × Int := if okM m = false then (false, 1) else if inb h 0 95 = false then (false, 2) else (hasM m h, 0)
theorem hasS_in {m : DMask} {h : Int} (h0 : (hasS m h).2 = 0) : okM m = true ∧ inb h 0 95 = true ∧ (hasS m h).1 = hasM m h := by
  unfold hasS at h0 ⊢
  split at h0
  · cases h0
  · rename_i h1
    split at h0
    · cases h0
    · rename_i h2
      rw [if_neg h1, if_neg h2]
      exact ⟨by simpa using h1, by simpa using h2, rfl⟩
theorem hasS_no {m : DMask} {h : Int} (h0 : ¬ (hasS m h).2 = 0) : (hasS m h).1 = false := by
  unfold hasS at h0 ⊢
  split
  · rfl
  · rename_i h1
    rw [if_neg h1] at h0
    split
    · rfl
    · rename_i h2
      rw [if_neg h2] at h0
      exact absurd rfl h0
/-! ### Rows that are set by fold -/
/-! ### Answers in order -/
section
variable {x : List DCard} {q : DQuery} {ids : List Int} {ws : List (Int × Int)}
end
/-! ### The answer that is made -/
section
variable {x : List DCard} {q : DQuery}
end
/-! ### What the law says -/
section
variable {x : List DCard} {q : DQuery}
end
end Go.Proofs.YtohcpnobmknglaaGreatDoor.VL
