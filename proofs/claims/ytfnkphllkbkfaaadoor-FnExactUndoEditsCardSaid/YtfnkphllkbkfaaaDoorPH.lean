/- Proved here: places in lists, and decks. Plain Lean, no program. -/
import Derived.Test.YtfnkphllkbkfaaaDoorPG
set_option linter.unusedVariables false
set_option linter.unusedSimpArgs false
namespace Go.Proofs.YtfnkphllkbkfaaaDoor.VL
open Go
/-! ### Places -/
section
variable {α : Type} {q : α → Bool} {x : List α} {z : Nat} {a : α}
/-- The first one that fits, or -1. -/
def idxQ (q : α → Bool) (x : List α) : Int := if x.findIdx q < x.length then (x.findIdx q : Int) else -1
def nI (q : α → Bool) (x : List α) (i : Nat) : Prop := ∃ b, x[i]? = some b ∧ q b = false
theorem nI_iff (ha : x[Int.toNat ((z : Nat) : Int)]? = some a) : nI q x z ↔ q a = false := by
  rw [toN] at ha
  constructor
  · rintro ⟨b, h1, h2⟩
    rw [ha] at h1; obtain rfl := Option.some.inj h1; exact h2
  · exact fun h => ⟨a, ha, h⟩
theorem idxQ_at (h : ∀ i, i < z → nI q x i) (ha : x[Int.toNat ((z : Nat) : Int)]? = some a) (hq : q a = true) : ((z : Nat) : Int) = idxQ q x := by
  rw [toN] at ha
  have hz := (List.getElem?_eq_some_iff.1 ha).1
  have e : x.findIdx q = z := by
    rw [List.findIdx_eq hz]
    refine ⟨by rw [List.getElem?_eq_getElem hz] at ha; rw [Option.some.inj ha]; exact hq, fun j hj => ?_⟩
    obtain ⟨b, h1, h2⟩ := h j hj
    rw [List.getElem?_eq_getElem (by omega)] at h1
    rw [Option.some.inj h1]; exact h2
  rw [idxQ, e, if_pos hz]
theorem idxQ_end (h : ∀ i, i < z → nI q x i) (hz : x.length ≤ z) : -1 = idxQ q x := by
  have e : x.findIdx q = x.length := by
    rw [List.findIdx_eq_length]
    intro b hb
    obtain ⟨i, hi, rfl⟩ := List.mem_iff_getElem.1 hb
    obtain ⟨c, h1, h2⟩ := h i (by omega)
    rw [List.getElem?_eq_getElem hi] at h1
    rw [Option.some.inj h1]; exact h2
  rw [idxQ, e, if_neg (Nat.lt_irrefl _)]
theorem idxQ_any : decide (idxQ q x ≥ 0) = x.any q := by
  rw [Bool.eq_iff_iff, decide_eq_true_eq, List.any_eq_true, ← List.findIdx_lt_length]
  unfold idxQ
  split <;> omega
end
/-! ### Decks -/
/-! ### A deck within another -/
/-! ### Checks -/
end Go.Proofs.YtfnkphllkbkfaaaDoor.VL
