/- Proved here: valid trees: what is looked at knot by knot, and how often knots are named. Plain Lean, no program. -/
import Derived.Test.YtfnkphllkbkfaaaDoorPD
set_option linter.unusedVariables false
set_option linter.unusedSimpArgs false
namespace Go.Proofs.YtfnkphllkbkfaaaDoor.VL
open Go
/-- Is it so? -/
noncomputable def tt (p : Prop) : Bool := @decide p (Classical.propDecidable p)
theorem tt_iff {p : Prop} : tt p = true ↔ p := by unfold tt; exact @decide_eq_true_iff _ (Classical.propDecidable _)
theorem tt_false {p : Prop} : tt p = false ↔ ¬ p := by unfold tt; exact @decide_eq_false_iff_not _ (Classical.propDecidable _)
theorem tt_yes {p : Prop} (h : p) : true = tt p := (tt_iff.2 h).symm
theorem tt_no {p : Prop} (h : ¬ p) : false = tt p := (tt_false.2 h).symm
theorem tt_eq {p : Prop} {b : Bool} (h : b = true ↔ p) : b = tt p := by rw [Bool.eq_iff_iff, tt_iff]; exact h
section
variable {α : Type} {x : List α} {z : Nat} {a b : α}
end
theorem all_step {p : Nat → Prop} {z : Nat} (h : ∀ i, i < z → p i) (hz : p z) : ∀ i, i < z + 1 → p i := fun i hi => by
  rcases Nat.lt_or_ge i z with h1 | h1
  · exact h i h1
  · obtain rfl : i = z := by omega
    exact hz
theorem all_none {p : Nat → Prop} : ∀ i, i < 0 → p i := fun i hi => absurd hi (Nat.not_lt_zero i)
theorem all_end {p : Nat → Prop} {z n : Nat} (h : ∀ i, i < z → p i) (hz : n ≤ z) : ∀ i, i < n → p i := fun i hi => h i (by omega)

/-! ### Leaves -/
/-! ### Knots that ask -/
/-- How many are right at the beginning. -/
noncomputable def pre (p : Nat → Prop) : Nat → Nat
  | 0 => 0
  | n + 1 => @ite _ (∀ i, i < n + 1 → p i) (Classical.propDecidable _) (n + 1) (pre p n)
theorem pre_all {p : Nat → Prop} : ∀ {n : Nat}, (∀ i, i < n → p i) → pre p n = n
  | 0, _ => rfl
  | n + 1, h => by rw [pre, if_pos h]
theorem pre_at {p : Nat → Prop} {z : Nat} (h : ∀ i, i < z → p i) (hz : ¬ p z) : ∀ {n : Nat}, z < n → pre p n = z
  | n + 1, hn => by
    rw [pre, if_neg (fun h' => hz (h' z hn))]
    rcases Nat.lt_or_ge z n with h1 | h1
    · exact pre_at h hz h1
    · obtain rfl : z = n := by omega
      exact pre_all h
section
variable {k : DKnot} {p many : Int} {z : Nat}
end
/-! ### Counts -/
section
variable {b a v : Int} {n : Nat} {l : List Int}
end

/-! ### Trees -/
/-! ### What the walks ask -/
section
variable {x : List DKnot} {z : Nat} {a : DKnot}
end
end Go.Proofs.YtfnkphllkbkfaaaDoor.VL
