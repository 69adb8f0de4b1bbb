/- Proved here: what is said of names that are filed, of their guides and drawers (FnFiled). Plain Lean. -/
import Derived.Test.YtconciibbhpigaaDoorPXF
import Derived.Test.YtconciibbhpigaaDoorPZQ
set_option linter.unusedVariables false
set_option linter.unusedSimpArgs false
namespace Go.Proofs.YtconciibbhpigaaDoor.VL
open Go
/-! ### Names that are drawn -/
def calledL : List ByteArray := [⟨#[97, 110, 105, 109, 97, 108]⟩, ⟨#[100, 111, 103]⟩, ⟨#[104, 111, 117, 110, 100]⟩, ⟨#[99, 97, 116]⟩, ⟨#[116, 104, 101, 32, 57, 32, 108, 105, 118, 101, 115]⟩, ⟨#[49, 48, 32, 108, 105, 118, 101, 115]⟩, ⟨#[97, 32, 100, 111, 103]⟩, ⟨#[97, 110, 32, 97, 110, 116]⟩, ⟨#[98, 105, 114, 100, 32, 48, 48, 55]⟩, ⟨#[98, 105, 114, 100, 32, 55]⟩, ⟨#[115, 116, 111, 110, 101]⟩, ⟨#[116, 104, 101]⟩, ⟨#[119, 97, 116, 101, 114, 32, 50, 98]⟩, ⟨#[50, 98]⟩, ⟨#[97]⟩, ⟨#[102, 105, 115, 104]⟩]
def enWb (w : ByteArray) : Bool := decide (0 < w.size) && (bL w).all fun b => alnT.getD b.toNat false
theorem enWb_ok {w : ByteArray} (h : enWb w = true) : enW w := by
  rw [enWb, Bool.and_eq_true, decide_eq_true_eq, List.all_eq_true] at h
  refine ⟨fun e => by rw [e] at h; exact absurd h.1 (by decide), fun i hi => ?_⟩
  exact ⟨_, bt_get hi, h.2 _ (by rw [bytA, List.getD_eq_getElem?_getD, List.getElem?_eq_getElem (by rw [bL_len]; exact hi)]; exact List.getElem_mem _)⟩
def enOKb (x : ByteArray) : Bool := decide (1 ≤ x.size) && decide (x.size ≤ 24) && (splB 32 x).all enWb
theorem enOKb_ok {x : ByteArray} (h : enOKb x = true) : enOK x := by
  rw [enOKb, Bool.and_eq_true, Bool.and_eq_true, decide_eq_true_eq, decide_eq_true_eq, List.all_eq_true] at h
  exact ⟨h.1.1, h.1.2, fun w hw => enWb_ok (h.2 w hw)⟩
theorem called_ok : okNs calledL := fun x hx => enOKb_ok (List.all_eq_true.1 (show calledL.all enOKb = true by decide +kernel) x hx)
/-! ### The law -/
end Go.Proofs.YtconciibbhpigaaDoor.VL
