/- Proved here: names compared word by word, as they are filed. Plain Lean. -/
import Derived.Test.YtconciibbhpigaaDoorPXL
import Derived.Test.YtconciibbhpigaaDoorPXT
import Derived.Lib.Small
set_option linter.unusedVariables false
set_option linter.unusedSimpArgs false
namespace Go.Proofs.YtconciibbhpigaaDoor.VL
open Go
/-! ### Bytes -/
def alnT : List Bool := (List.range 256).map fun j => (decide (97 ≤ j) && decide (j ≤ 122)) || (decide (48 ≤ j) && decide (j ≤ 57))
def alnB : ByteArray := ⟨#[97, 98, 99, 100, 101, 102, 103, 104, 105, 106, 107, 108, 109, 110, 111, 112, 113, 114, 115, 116, 117, 118, 119, 120, 121, 122, 48, 49, 50, 51, 52, 53, 54, 55, 56, 57]⟩
theorem cut_of {cs : ByteArray} {T : List Bool} (h1 : 2 ≤ cs.size) (h2 : ∀ z, z < cs.size → ((cs[z]?).getD 0).toNat < 128) (h3 : asP cs cs.size = T) : cutOK cs T := by
  refine ⟨h1, ?_, h3⟩
  intro z b h
  rw [toN] at h
  have := h2 z (byte_lt h)
  rw [h] at this
  exact this
theorem cut_aln : cutOK alnB alnT := cut_of (by decide) (by decide +kernel) (by decide +kernel)
theorem alnT_iff (b : UInt8) : alnT.getD (Int.toNat (b.toNat : Int)) false = true ↔ (97 ≤ b.toNat ∧ b.toNat ≤ 122) ∨ (48 ≤ b.toNat ∧ b.toNat ≤ 57) := by
  have hb := b.toNat_lt
  rw [toN, alnT, List.getD_eq_getElem?_getD, List.getElem?_map, List.getElem?_range (by omega)]
  simp
/-! ### Rows compared -/
/-! ### Names -/
/-- What may be a name of an entry. -/
def enW (w : ByteArray) : Prop := w ≠ .empty ∧ ∀ i, i < w.size → inT alnT w i
def enOK (x : ByteArray) : Prop := 1 ≤ x.size ∧ x.size ≤ 24 ∧ ∀ w ∈ splB 32 x, enW w
theorem enW_trim {w : ByteArray} : (eqv w ⟨#[]⟩ || !(eqv (trimT alnT w) ⟨#[]⟩)) = false ↔ enW w := by
  rw [Bool.or_eq_false_iff, eqv_false_iff, Bool.not_eq_false', eqv_iff]
  show (w ≠ .empty ∧ trimT alnT w = .empty) ↔ _
  rw [trimT_iff]; rfl
/-! ### The other way -/
end Go.Proofs.YtconciibbhpigaaDoor.VL
