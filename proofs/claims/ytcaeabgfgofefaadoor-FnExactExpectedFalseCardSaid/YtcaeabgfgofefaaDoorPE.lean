/- Proved here: valid trees: what is looked at knot by knot, and how often knots are named. Plain Lean, no program. -/
import Derived.Test.YtcaeabgfgofefaaDoorPD
set_option linter.unusedVariables false
set_option linter.unusedSimpArgs false
namespace Go.Proofs.YtcaeabgfgofefaaDoor.VL
open Go
/-- Is it so? -/
noncomputable def tt (p : Prop) : Bool := @decide p (Classical.propDecidable p)
theorem tt_iff {p : Prop} : tt p = true ↔ p := by unfold tt; exact @decide_eq_true_iff _ (Classical.propDecidable _)
theorem tt_false {p : Prop} : tt p = false ↔ ¬ p := by unfold tt; exact @decide_eq_false_iff_not _ (Classical.propDecidable _)
theorem tt_yes {p : Prop} (h : p) : true = tt p := (tt_iff.2 h).symm
theorem tt_no {p : Prop} (h : ¬ p) : false = tt p := (tt_false.2 h).symm
theorem tt_eq {p : Prop} {b : Bool} (h : b = true ↔ p) : b = tt p := by rw [Bool.eq_iff_iff, tt_iff]; exact h
section
variable {α : Type} {x : List α} {z : Nat} {a b : α}
theorem getPr [Inhabited α] (hz : z ≤ x.length) : ∃ b : α, 0 < z → x[Int.toNat ((z : Nat) - 1 : Int)]? = some b := by
  by_cases h : 0 < z
  · exact ⟨x[z - 1], fun _ => by rw [show Int.toNat ((z : Nat) - 1 : Int) = z - 1 by omega]; simp⟩
  · exact ⟨default, fun h' => absurd h' h⟩
theorem getP (hz : 0 < z) (h : x[Int.toNat ((z : Nat) - 1 : Int)]? = some b) : x[z - 1]? = some b := by
  rw [show Int.toNat ((z : Nat) - 1 : Int) = z - 1 by omega] at h; exact h
end
theorem all_step {p : Nat → Prop} {z : Nat} (h : ∀ i, i < z → p i) (hz : p z) : ∀ i, i < z + 1 → p i := fun i hi => by
  rcases Nat.lt_or_ge i z with h1 | h1
  · exact h i h1
  · obtain rfl : i = z := by omega
    exact hz
theorem all_none {p : Nat → Prop} : ∀ i, i < 0 → p i := fun i hi => absurd hi (Nat.not_lt_zero i)
theorem all_end {p : Nat → Prop} {z n : Nat} (h : ∀ i, i < z → p i) (hz : n ≤ z) : ∀ i, i < n → p i := fun i hi => h i (by omega)

/-! ### Leaves -/
def leafI (c : List Int) (i : Nat) : Prop := ∃ a, c[i]? = some a ∧ 0 ≤ a ∧ a ≤ 59 ∧ (0 < i → ∃ b, c[i - 1]? = some b ∧ b < a)
def leafC (c : List Int) : Prop := ∀ i, i < c.length → leafI c i
def leafOK (k : DKnot) : Prop := leafC k.2.2.2 ∧ k.2.1.length = 0 ∧ k.2.2.1.length = 0
theorem leafI_iff {c : List Int} {z : Nat} {a b : Int} (ha : c[Int.toNat ((z : Nat) : Int)]? = some a) (hb : 0 < z → c[Int.toNat ((z : Nat) - 1 : Int)]? = some b) : leafI c z ↔ (0 ≤ a ∧ a ≤ 59 ∧ (0 < z → b < a)) := by
  rw [toN] at ha
  unfold leafI
  constructor
  · rintro ⟨a', h1, h2, h3, h4⟩
    rw [ha] at h1
    obtain rfl := Option.some.inj h1
    refine ⟨h2, h3, fun hz => ?_⟩
    obtain ⟨b', h5, h6⟩ := h4 hz
    rw [getP hz (hb hz)] at h5
    obtain rfl := Option.some.inj h5
    exact h6
  · rintro ⟨h2, h3, h4⟩
    exact ⟨a, ha, h2, h3, fun hz => ⟨b, getP hz (hb hz), h4 hz⟩⟩
/-- The last one that has been seen. -/
def lastV (c : List Int) (z : Nat) : Int := if z = 0 then -1 else c.getD (z - 1) 0
theorem lastV_in {c : List Int} {z : Nat} (h : ∀ i, i < z → leafI c i) : -1 ≤ lastV c z ∧ lastV c z ≤ 59 := by
  unfold lastV
  split
  · omega
  · obtain ⟨a, h1, h2, h3, _⟩ := h (z - 1) (by omega)
    rw [List.getD_eq_getElem?_getD, h1]
    simp only [Option.getD_some]
    omega
theorem lastV_succ {c : List Int} {z : Nat} {a : Int} (ha : c[Int.toNat ((z : Nat) : Int)]? = some a) : a = lastV c (z + 1) := by
  unfold lastV
  rw [if_neg (by omega), show z + 1 - 1 = z by omega, List.getD_eq_getElem?_getD]
  rw [toN] at ha
  rw [ha]; rfl
theorem lastV_iff {c : List Int} {z : Nat} {a : Int} (h : ∀ i, i < z → leafI c i) (ha : c[Int.toNat ((z : Nat) : Int)]? = some a) : leafI c z ↔ inb a (lastV c z + 1) 59 = true := by
  rw [toN] at ha
  simp only [inb, Bool.and_eq_true, decide_eq_true_eq]
  unfold lastV leafI
  constructor
  · rintro ⟨a', h1, h2, h3, h4⟩
    rw [ha] at h1
    obtain rfl := Option.some.inj h1
    split
    · omega
    · obtain ⟨b, h5, h6⟩ := h4 (by omega)
      rw [List.getD_eq_getElem?_getD, h5]
      simp only [Option.getD_some]; omega
  · intro h1
    by_cases hz : z = 0
    · rw [if_pos hz] at h1
      exact ⟨a, ha, by omega, by omega, fun h => absurd h (by omega)⟩
    · rw [if_neg hz] at h1
      obtain ⟨b, h2, h3, h4, _⟩ := h (z - 1) (by omega)
      rw [List.getD_eq_getElem?_getD, h2] at h1
      simp only [Option.getD_some] at h1
      exact ⟨a, ha, by omega, by omega, fun _ => ⟨b, h2, by omega⟩⟩

/-! ### Knots that ask -/
def askI (k : DKnot) (p many : Int) (i : Nat) : Prop := ∃ v n, k.2.1[i]? = some v ∧ k.2.2.1[i]? = some n ∧ -2 ≤ v ∧ (0 < i → ∃ b, k.2.1[i - 1]? = some b ∧ b < v) ∧ p < n ∧ n < many
def askH (k : DKnot) : Prop := 0 ≤ k.1 ∧ k.1 < 12 ∧ k.2.2.2.length = 0 ∧ k.2.1.length ≠ 0 ∧ k.2.2.1.length = k.2.1.length
def askOK (k : DKnot) (p many : Int) : Prop := askH k ∧ ∀ i, i < k.2.1.length → askI k p many i
theorem askI_iff {k : DKnot} {p many : Int} {z : Nat} {v n b : Int} (hv : k.2.1[Int.toNat ((z : Nat) : Int)]? = some v) (hn : k.2.2.1[Int.toNat ((z : Nat) : Int)]? = some n) (hb : 0 < z → k.2.1[Int.toNat ((z : Nat) - 1 : Int)]? = some b) :
    askI k p many z ↔ (-2 ≤ v ∧ (0 < z → b < v) ∧ p < n ∧ n < many) := by
  rw [toN] at hv hn
  unfold askI
  constructor
  · rintro ⟨v', n', h1, h2, h3, h4, h5, h6⟩
    rw [hv] at h1; obtain rfl := Option.some.inj h1
    rw [hn] at h2; obtain rfl := Option.some.inj h2
    refine ⟨h3, fun hz => ?_, h5, h6⟩
    obtain ⟨b', h7, h8⟩ := h4 hz
    rw [getP hz (hb hz)] at h7; obtain rfl := Option.some.inj h7
    exact h8
  · rintro ⟨h3, h4, h5, h6⟩
    exact ⟨v, n, hv, hn, h3, fun hz => ⟨b, getP hz (hb hz), h4 hz⟩, h5, h6⟩
/-- How many are right at the beginning. -/
noncomputable def pre (p : Nat → Prop) : Nat → Nat
  | 0 => 0
  | n + 1 => @ite _ (∀ i, i < n + 1 → p i) (Classical.propDecidable _) (n + 1) (pre p n)
theorem pre_all {p : Nat → Prop} : ∀ {n : Nat}, (∀ i, i < n → p i) → pre p n = n
  | 0, _ => rfl
  | n + 1, h => by rw [pre, if_pos h]
theorem pre_at {p : Nat → Prop} {z : Nat} (h : ∀ i, i < z → p i) (hz : ¬ p z) : ∀ {n : Nat}, z < n → pre p n = z
  | n + 1, hn => by
    rw [pre, if_neg (fun h' => hz (h' z hn))]
    rcases Nat.lt_or_ge z n with h1 | h1
    · exact pre_at h hz h1
    · obtain rfl : z = n := by omega
      exact pre_all h
noncomputable def askN (k : DKnot) (p many : Int) : Nat := @ite _ (askH k) (Classical.propDecidable _) (pre (askI k p many) k.2.1.length) 0
section
variable {k : DKnot} {p many : Int} {z : Nat}
theorem askN_head (h : ¬ askH k) : askN k p many = 0 := if_neg h
theorem askN_at (hH : askH k) (h : ∀ i, i < z → askI k p many i) (hz : ¬ askI k p many z) (hl : z < k.2.1.length) : askN k p many = z := by
  rw [askN, if_pos hH]; exact pre_at h hz hl
theorem askN_all (hH : askH k) (h : ∀ i, i < z → askI k p many i) (hl : k.2.1.length ≤ z) : askN k p many = k.2.1.length := by
  rw [askN, if_pos hH]; exact pre_all (all_end h hl)
theorem ask_head (h : ¬ askH k) : false = tt (askOK k p many) := tt_no fun h' => h h'.1
theorem ask_at (hz : ¬ askI k p many z) (hl : z < k.2.1.length) : false = tt (askOK k p many) := tt_no fun h' => hz (h'.2 z hl)
theorem ask_all (hH : askH k) (h : ∀ i, i < z → askI k p many i) (hl : k.2.1.length ≤ z) : true = tt (askOK k p many) := tt_yes ⟨hH, all_end h hl⟩
end
def knotOK (k : DKnot) (p many : Int) : Prop := (k.1 = -1 ∧ leafOK k) ∨ (k.1 ≠ -1 ∧ askOK k p many)

/-! ### Counts -/
def cntL (b : Int) (n : Nat) (l : List Int) : List Int := (List.range n).map fun j => (if j = 0 then b else 0) + (l.count ((j : Nat) : Int) : Int)
section
variable {b a v : Int} {n : Nat} {l : List Int}
theorem cntL_len : (cntL b n l).length = n := by simp [cntL]
theorem cntL_get (h : 0 ≤ a ∧ a < n) : (cntL b n l)[Int.toNat a]? = some ((if Int.toNat a = 0 then b else 0) + (l.count a : Int)) := by
  have h1 : Int.toNat a < n := by omega
  have h2 : ((Int.toNat a : Nat) : Int) = a := by omega
  rw [cntL, List.getElem?_map, List.getElem?_range h1]
  simp only [Option.map_some, h2]
theorem cntL_in (hb : 0 ≤ b ∧ b ≤ 1) (h : 0 ≤ a ∧ a < n) : ∃ v, (cntL b n l)[Int.toNat a]? = some v ∧ 0 ≤ v ∧ v ≤ 1 + l.length := by
  refine ⟨_, cntL_get h, ?_⟩
  have := List.count_le_length (a := a) (l := l)
  split <;> omega
theorem cntL_step (h : 0 ≤ a ∧ a < n) (hv : (cntL b n l)[Int.toNat a]? = some v) : (cntL b n l).set (Int.toNat a) (v + 1) = cntL b n (l ++ [a]) := by
  rw [cntL_get h] at hv
  obtain rfl := Option.some.inj hv
  apply List.ext_getElem?
  intro j
  rcases Nat.lt_or_ge j n with hj | hj
  · have hg : ∀ l', (cntL b n l')[j]? = some ((if j = 0 then b else 0) + (l'.count ((j : Nat) : Int) : Int)) := fun l' => by
      have := cntL_get (b := b) (l := l') (a := (j : Int)) (n := n) (by omega)
      simpa using this
    rw [hg]
    by_cases hja : j = Int.toNat a
    · subst hja
      have h2 : ((Int.toNat a : Nat) : Int) = a := by omega
      rw [List.getElem?_set_self (by rw [cntL_len]; exact hj), h2, List.count_append, List.count_singleton_self]
      congr 1
      omega
    · rw [List.getElem?_set_ne (Ne.symm hja), hg, List.count_append, List.count_singleton]
      have : ¬ a = (j : Int) := by omega
      simp [this]
  · rw [List.getElem?_eq_none (by simp [cntL]; omega), List.getElem?_eq_none (by simp [cntL]; omega)]
theorem cntL_nil : List.replicate n (0 : Int) = cntL 0 n [] := by
  apply List.ext_getElem?
  intro j
  rcases Nat.lt_or_ge j n with hj | hj
  · have := cntL_get (b := 0) (l := []) (a := (j : Int)) (n := n) (by omega)
    simp only [Int.toNat_natCast, List.count_nil] at this
    rw [this, List.getElem?_replicate, if_pos hj]
    split <;> rfl
  · rw [List.getElem?_eq_none (by simp; omega), List.getElem?_eq_none (by simp [cntL]; omega)]
theorem cntL_one (hn : 0 < n) : (List.replicate n (0 : Int)).set (Int.toNat 0) 1 = cntL 1 n [] := by
  apply List.ext_getElem?
  intro j
  rcases Nat.lt_or_ge j n with hj | hj
  · have := cntL_get (b := 1) (l := []) (a := (j : Int)) (n := n) (by omega)
    simp only [Int.toNat_natCast, List.count_nil] at this
    rw [this]
    by_cases h0 : j = 0
    · subst h0
      show ((List.replicate n (0 : Int)).set 0 1)[0]? = _
      rw [List.getElem?_set_self (by simpa using hj)]
      rfl
    · show ((List.replicate n (0 : Int)).set 0 1)[j]? = _
      rw [List.getElem?_set_ne (by omega), List.getElem?_replicate, if_pos hj, if_neg h0]
      rfl
  · rw [List.getElem?_eq_none (by simp; omega), List.getElem?_eq_none (by simp [cntL]; omega)]
end

/-! ### Trees -/
def nexts (x : List DKnot) : List Int := x.flatMap fun k => k.2.2.1
theorem nexts_more {x : List DKnot} {z : Nat} {a : DKnot} (ha : x[Int.toNat ((z : Nat) : Int)]? = some a) : nexts (x.take (z + 1)) = nexts (x.take z) ++ a.2.2.1 := by
  rw [take_more ha, nexts, nexts, List.flatMap_append]; simp
theorem nexts_len {x : List DKnot} {B : Nat} (h : ∀ k ∈ x, k.2.2.1.length ≤ B) : ∀ z, (nexts (x.take z)).length ≤ z * B
  | 0 => by rw [List.take_zero, Nat.zero_mul]; exact Nat.le_refl 0
  | z + 1 => by
    have ih := nexts_len h z
    rw [Nat.succ_mul]
    rcases Nat.lt_or_ge z x.length with hz | hz
    · obtain ⟨a, ha⟩ := getI (x := x) hz
      rw [nexts_more ha, List.length_append]
      have := h a (mem_getI ha)
      omega
    · rw [List.take_of_length_le (by omega)] at ih ⊢
      omega
theorem nexts_lenK {x : List DKnot} (h : okKS x) {z : Nat} (hz : z ≤ 120) : (nexts (x.take z)).length ≤ 131941395333120 := by
  have h1 := nexts_len (fun k hk => (h.2 k hk).2.1) z
  have h2 : z * 1099511627776 ≤ 120 * 1099511627776 := Nat.mul_le_mul_right _ hz
  omega
def knotI (x : List DKnot) (i : Nat) : Prop := ∃ k, x[i]? = some k ∧ knotOK k i x.length
def treeOK (x : List DKnot) : Prop := 1 ≤ x.length ∧ x.length ≤ 120 ∧ (∀ i, i < x.length → knotI x i) ∧ ∀ j : Nat, 0 < j → j < x.length → (nexts x).count ((j : Nat) : Int) = 1
theorem knotI_iff {x : List DKnot} {z : Nat} {a : DKnot} (ha : x[Int.toNat ((z : Nat) : Int)]? = some a) : knotI x z ↔ knotOK a z x.length := by
  rw [toN] at ha
  unfold knotI
  constructor
  · rintro ⟨k, h1, h2⟩
    rw [ha] at h1; obtain rfl := Option.some.inj h1
    exact h2
  · exact fun h => ⟨a, ha, h⟩
theorem nexts_pos {x : List DKnot} (h : ∀ i, i < x.length → knotI x i) : (nexts x).count 0 = 0 := by
  rw [List.count_eq_zero]
  intro hm
  rw [nexts, List.mem_flatMap] at hm
  obtain ⟨k, hk, h0⟩ := hm
  obtain ⟨i, hi, rfl⟩ := List.getElem_of_mem hk
  obtain ⟨k', h1, h2⟩ := h i hi
  rw [List.getElem?_eq_getElem hi] at h1
  obtain rfl := Option.some.inj h1
  rcases h2 with ⟨_, h3⟩ | ⟨_, h3⟩
  · rw [List.eq_nil_of_length_eq_zero h3.2.2] at h0; cases h0
  · obtain ⟨j, hj, hj0⟩ := List.getElem_of_mem h0
    obtain ⟨v, n, g1, g2, _, _, g3, _⟩ := h3.2 j (by have := h3.1.2.2.2.2; omega)
    rw [List.getElem?_eq_getElem hj] at g2
    have := Option.some.inj g2
    omega
/-- What the counts say. -/
theorem counts_iff {x : List DKnot} (h : ∀ i, i < x.length → knotI x i) (i : Nat) (hi : i < x.length) (b : Int) : (cntL b x.length (nexts x))[i]? = some ((if i = 0 then b else ((nexts x).count ((i : Nat) : Int) : Int))) := by
  have := cntL_get (b := b) (l := nexts x) (a := (i : Int)) (n := x.length) (by omega)
  simp only [Int.toNat_natCast] at this
  rw [this]
  congr 1
  by_cases h0 : i = 0
  · subst h0; rw [if_pos rfl, if_pos rfl, show ((0 : Nat) : Int) = 0 from rfl, nexts_pos h]; simp
  · rw [if_neg h0, if_neg h0]; simp

/-! ### What the walks ask -/
theorem leaf_no {k : DKnot} {z : Nat} (hz : z < k.2.2.2.length) (h : ¬ leafI k.2.2.2 z) : false = tt (leafOK k) := tt_no fun h' => h (h'.1 z hz)
theorem leaf_end {k : DKnot} {z : Nat} (h : ∀ i, i < z → leafI k.2.2.2 i) (hz : k.2.2.2.length ≤ z) : (((k.2.1.length : Nat) : Int) == 0 && ((k.2.2.1.length : Nat) : Int) == 0) = tt (leafOK k) := by
  refine tt_eq ?_
  simp only [Bool.and_eq_true, beq_iff_eq, leafOK]
  exact ⟨fun h' => ⟨all_end h hz, by omega, by omega⟩, fun h' => by omega⟩
theorem knot_leaf {k : DKnot} {p m : Int} (h : k.1 = -1) : knotOK k p m ↔ leafOK k := ⟨fun h' => h'.elim (fun g => g.2) (fun g => absurd h g.1), fun h' => .inl ⟨h, h'⟩⟩
theorem knot_ask {k : DKnot} {p m : Int} (h : k.1 ≠ -1) : knotOK k p m ↔ askOK k p m := ⟨fun h' => h'.elim (fun g => absurd g.1 h) (fun g => g.2), fun h' => .inr ⟨h, h'⟩⟩
theorem knot_next {k : DKnot} {p m n : Int} {z : Nat} (h : knotOK k p m) (hn : k.2.2.1[Int.toNat ((z : Nat) : Int)]? = some n) : p < n ∧ n < m := by
  rw [toN] at hn
  rcases h with ⟨_, h⟩ | ⟨_, h⟩
  · rw [List.eq_nil_of_length_eq_zero h.2.2] at hn; cases hn
  · have hz := (List.getElem?_eq_some_iff.1 hn).1
    obtain ⟨v, n', g1, g2, _, _, g3, g4⟩ := h.2 z (by have := h.1.2.2.2.2; omega)
    rw [hn] at g2
    obtain rfl := Option.some.inj g2
    exact ⟨g3, g4⟩
section
variable {x : List DKnot} {z : Nat} {a : DKnot}
theorem tree_no (ha : x[Int.toNat ((z : Nat) : Int)]? = some a) (hz : z < x.length) (h : ¬ knotOK a z x.length) : false = tt (treeOK x) := tt_no fun h' => h ((knotI_iff ha).1 (h'.2.2.1 z hz))
theorem tree_len (h : ¬ (1 ≤ x.length ∧ x.length ≤ 120)) : false = tt (treeOK x) := tt_no fun h' => h ⟨h'.1, h'.2.1⟩
theorem cnt_leaf {b : Int} (ha : x[Int.toNat ((z : Nat) : Int)]? = some a) (h : leafOK a) : cntL b x.length (nexts (x.take z)) = cntL b x.length (nexts (x.take (z + 1))) := by
  rw [nexts_more ha, List.eq_nil_of_length_eq_zero h.2.2, List.append_nil]
theorem cnt_ask {b : Int} {p m : Int} (ha : x[Int.toNat ((z : Nat) : Int)]? = some a) (h : askOK a p m) : cntL b x.length (nexts (x.take z) ++ a.2.2.1.take (askN a p m)) = cntL b x.length (nexts (x.take (z + 1))) := by
  rw [nexts_more ha, askN_all h.1 h.2 (Nat.le_refl _), List.take_of_length_le (l := a.2.2.1) (by have := h.1.2.2.2.2; omega)]
theorem cnt_all {b : Int} {y : Nat} (ha : x[Int.toNat ((z : Nat) : Int)]? = some a) (h : a.2.2.1.length ≤ y) : cntL b x.length (nexts (x.take z) ++ a.2.2.1.take y) = cntL b x.length (nexts (x.take (z + 1))) := by
  rw [nexts_more ha, List.take_of_length_le h]
theorem cnt_next {b n v : Int} {m : Nat} {l c : List Int} {y : Nat} (hn : c[Int.toNat ((y : Nat) : Int)]? = some n) (h : 0 ≤ n ∧ n < m) (hv : (cntL b m (l ++ c.take y))[Int.toNat n]? = some v) : (cntL b m (l ++ c.take y)).set (Int.toNat n) (v + 1) = cntL b m (l ++ c.take (y + 1)) := by
  rw [cntL_step h hv, take_more hn, List.append_assoc]
theorem tree_count (h : ∀ i, i < x.length → knotI x i) {j : Nat} {v : Int} (hj : j < x.length) (hv : (cntL 1 x.length (nexts x))[Int.toNat ((j : Nat) : Int)]? = some v) (h1 : v ≠ 1) : false = tt (treeOK x) := by
  refine tt_no fun h' => ?_
  rw [toN, counts_iff h j hj] at hv
  have := Option.some.inj hv
  split at this
  · omega
  · have := h'.2.2.2 j (by omega) hj
    omega
theorem tree_yes (hl : 1 ≤ x.length ∧ x.length ≤ 120) (h : ∀ i, i < x.length → knotI x i) (hc : ∀ i, i < x.length → (cntL 1 x.length (nexts x))[i]? = some 1) : true = tt (treeOK x) := by
  refine tt_yes ⟨hl.1, hl.2, h, fun j h0 hj => ?_⟩
  have := hc j hj
  rw [counts_iff h j hj, if_neg (by omega)] at this
  have := Option.some.inj this
  omega
def all1 (x : List Int) : Prop := ∀ i, i < x.length → x[i]? = some 1
noncomputable def idx1 (x : List Int) : Int := if pre (fun i => x[i]? = some 1) x.length = x.length then -1 else (pre (fun i => x[i]? = some 1) x.length : Int)
theorem idx1_at {x : List Int} {z : Nat} {v : Int} (h : ∀ i, i < z → x[i]? = some 1) (hv : x[Int.toNat ((z : Nat) : Int)]? = some v) (h1 : v ≠ 1) : (z : Int) = idx1 x := by
  rw [toN] at hv
  have hz := (List.getElem?_eq_some_iff.1 hv).1
  have := pre_at (p := fun i => x[i]? = some 1) h (fun e => h1 (by rw [hv] at e; exact Option.some.inj e)) hz
  rw [idx1, this, if_neg (by omega)]
theorem idx1_end {x : List Int} {z : Nat} (h : ∀ i, i < z → x[i]? = some 1) (hz : x.length ≤ z) : -1 = idx1 x := by
  rw [idx1, pre_all (all_end h hz), if_pos rfl]
theorem idx1_iff (x : List Int) : decide (idx1 x ≥ 0) = tt (¬ all1 x) := by
  refine tt_eq ?_
  rw [decide_eq_true_iff]
  constructor
  · intro h h'
    rw [idx1, pre_all h', if_pos rfl] at h
    omega
  · intro h
    unfold idx1
    split
    · rename_i e
      exfalso
      refine h fun i hi => ?_
      apply Classical.byContradiction
      intro hne
      -- the first that isn't one
      have hle : ∀ n, pre (fun i => x[i]? = some 1) n ≤ n := fun n => by
        induction n with
        | zero => exact Nat.le_refl 0
        | succ n ih => unfold pre; split <;> omega
      have hall : ∀ n, pre (fun i => x[i]? = some 1) n = n → ∀ i, i < n → x[i]? = some 1 := fun n => by
        cases n with
        | zero => exact fun _ => all_none
        | succ n =>
          intro e i hi
          unfold pre at e
          split at e
          · rename_i h1; exact h1 i hi
          · have := hle n; omega
      exact hne (hall _ e i hi)
    · omega
theorem tree_end (hl : 1 ≤ x.length ∧ x.length ≤ 120) (h : ∀ i, i < z → knotI x i) (hz : x.length ≤ z) : (!(tt (¬ all1 ((cntL 0 x.length (nexts (x.take z))).drop (Int.toNat 1))))) = tt (treeOK x) := by
  refine tt_eq ?_
  rw [Bool.not_eq_true', tt_false, Classical.not_not, List.take_of_length_le hz]
  have h' := all_end h hz
  unfold all1
  rw [List.length_drop, cntL_len]
  show (∀ i, i < x.length - 1 → ((cntL 0 x.length (nexts x)).drop 1)[i]? = some 1) ↔ _
  constructor
  · intro g
    refine ⟨hl.1, hl.2, h', fun j h0 hj => ?_⟩
    have := g (j - 1) (by omega)
    rw [List.getElem?_drop, show 1 + (j - 1) = j by omega, counts_iff h' j hj, if_neg (by omega)] at this
    have := Option.some.inj this
    omega
  · intro g i hi
    rw [List.getElem?_drop, counts_iff h' (1 + i) (by omega), if_neg (by omega), g.2.2.2 (1 + i) (by omega) (by omega)]
    rfl
end
end Go.Proofs.YtcaeabgfgofefaaDoor.VL
