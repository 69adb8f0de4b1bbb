/- Proved here: valid trees: what is looked at knot by knot, and how often knots are named. Plain Lean, no program. -/
import Derived.Test.YtcaeabgfgofefaaDoorPD
set_option linter.unusedVariables false
set_option linter.unusedSimpArgs false
namespace Go.Proofs.YtcaeabgfgofefaaDoor.VL
open Go
/-- Is it so? -/
noncomputable def tt (p : Prop) : Bool := @decide p (Classical.propDecidable p)
theorem tt_iff {p : Prop} : tt p = true ↔ p := by unfold tt; exact @decide_eq_true_iff _ (Classical.propDecidable _)
theorem tt_false {p : Prop} : tt p = false ↔ ¬ p := by unfold tt; exact @decide_eq_false_iff_not _ (Classical.propDecidable _)
theorem tt_yes {p : Prop} (h : p) : true = tt p := (tt_iff.2 h).symm
theorem tt_no {p : Prop} (h : ¬ p) : false = tt p := (tt_false.2 h).symm
theorem tt_eq {p : Prop} {b : Bool} (h : b = true ↔ p) : b = tt p := by rw [Bool.eq_iff_iff, tt_iff]; exact h
section
variable {α : Type} {x : List α} {z : Nat} {a b : α}
end
theorem all_step {p : Nat → Prop} {z : Nat} (h : ∀ i, i < z → p i) (hz : p z) : ∀ i, i < z + 1 → p i := fun i hi => by
  rcases Nat.lt_or_ge i z with h1 | h1
  · exact h i h1
  · obtain rfl : i = z := by omega
    exact hz
theorem all_none {p : Nat → Prop} : ∀ i, i < 0 → p i := fun i hi => absurd hi (Nat.not_lt_zero i)
theorem all_end {p : Nat → Prop} {z n : Nat} (h : ∀ i, i < z → p i) (hz : n ≤ z) : ∀ i, i < n → p i := fun i hi => h i (by omega)

/-! ### Leaves -/
/-! ### Knots that ask -/
/-- How many are right at the beginning. -/
noncomputable def pre (p : Nat → Prop) : Nat → Nat
  | 0 => 0
  | n + 1 => @ite _ (∀ i, i < n + 1 → p i) (Classical.propDecidable _) (n + 1) (pre p n)
theorem pre_all {p : Nat → Prop} : ∀ {n : Nat}, (∀ i, i < n → p i) → pre p n = n
  | 0, _ => rfl
  | n + 1, h => by rw [pre, if_pos h]
theorem pre_at {p : Nat → Prop} {z : Nat} (h : ∀ i, i < z → p i) (hz : ¬ p z) : ∀ {n : Nat}, z < n → pre p n = z
  | n + 1, hn => by
    rw [pre, if_neg (fun h' => hz (h' z hn))]
    rcases Nat.lt_or_ge z n with h1 | h1
    · exact pre_at h hz h1
    · obtain rfl : z = n := by omega
      exact pre_all h
section
variable {k : DKnot} {p many : Int} {z : Nat}
end
/-! ### Counts -/
def cntL (b : Int) (n : Nat) (l : List Int) : List Int := (List.range n).map fun j => (if j = 0 then b else 0) + (l.count ((j : Nat) : Int) : Int)
section
variable {b a v : Int} {n : Nat} {l : List Int}
theorem cntL_len : (cntL b n l).length = n := by simp [cntL]
theorem cntL_get (h : 0 ≤ a ∧ a < n) : (cntL b n l)[Int.toNat a]? = some ((if Int.toNat a = 0 then b else 0) + (l.count a : Int)) := by
  have h1 : Int.toNat a < n := by omega
  have h2 : ((Int.toNat a : Nat) : Int) = a := by omega
  rw [cntL, List.getElem?_map, List.getElem?_range h1]
  simp only [Option.map_some, h2]
theorem cntL_in (hb : 0 ≤ b ∧ b ≤ 1) (h : 0 ≤ a ∧ a < n) : ∃ v, (cntL b n l)[Int.toNat a]? = some v ∧ 0 ≤ v ∧ v ≤ 1 + l.length := by
  refine ⟨_, cntL_get h, ?_⟩
  have := List.count_le_length (a := a) (l := l)
  split <;> omega
theorem cntL_step (h : 0 ≤ a ∧ a < n) (hv : (cntL b n l)[Int.toNat a]? = some v) : (cntL b n l).set (Int.toNat a) (v + 1) = cntL b n (l ++ [a]) := by
  rw [cntL_get h] at hv
  obtain rfl := Option.some.inj hv
  apply List.ext_getElem?
  intro j
  rcases Nat.lt_or_ge j n with hj | hj
  · have hg : ∀ l', (cntL b n l')[j]? = some ((if j = 0 then b else 0) + (l'.count ((j : Nat) : Int) : Int)) := fun l' => by
      have := cntL_get (b := b) (l := l') (a := (j : Int)) (n := n) (by omega)
      simpa using this
    rw [hg]
    by_cases hja : j = Int.toNat a
    · subst hja
      have h2 : ((Int.toNat a : Nat) : Int) = a := by omega
      rw [List.getElem?_set_self (by rw [cntL_len]; exact hj), h2, List.count_append, List.count_singleton_self]
      congr 1
      omega
    · rw [List.getElem?_set_ne (Ne.symm hja), hg, List.count_append, List.count_singleton]
      have : ¬ a = (j : Int) := by omega
      simp [this]
  · rw [List.getElem?_eq_none (by simp [cntL]; omega), List.getElem?_eq_none (by simp [cntL]; omega)]
theorem cntL_nil : List.replicate n (0 : Int) = cntL 0 n [] := by
  apply List.ext_getElem?
  intro j
  rcases Nat.lt_or_ge j n with hj | hj
  · have := cntL_get (b := 0) (l := []) (a := (j : Int)) (n := n) (by omega)
    simp only [Int.toNat_natCast, List.count_nil] at this
    rw [this, List.getElem?_replicate, if_pos hj]
    split <;> rfl
  · rw [List.getElem?_eq_none (by simp; omega), List.getElem?_eq_none (by simp [cntL]; omega)]
end

/-! ### Trees -/
/-! ### What the walks ask -/
section
variable {x : List DKnot} {z : Nat} {a : DKnot}
theorem cnt_next {b n v : Int} {m : Nat} {l c : List Int} {y : Nat} (hn : c[Int.toNat ((y : Nat) : Int)]? = some n) (h : 0 ≤ n ∧ n < m) (hv : (cntL b m (l ++ c.take y))[Int.toNat n]? = some v) : (cntL b m (l ++ c.take y)).set (Int.toNat n) (v + 1) = cntL b m (l ++ c.take (y + 1)) := by
  rw [cntL_step h hv, take_more hn, List.append_assoc]
end
end Go.Proofs.YtcaeabgfgofefaaDoor.VL
