/- Proved here: stable sorting by insertion, by symmetric merges and by rotations within a row. Plain Lean. -/
import Derived.Test.YtbckpmjiimiceaaDoorBpa
set_option linter.unusedVariables false
set_option linter.unusedSimpArgs false
namespace Go.Proofs.YtbckpmjiimiceaaDoor.VL
open Go
section
variable {α : Type}
/-! ### Swaps and rotations -/
theorem swap_get {xs : List α} {i j : Nat} {u v : α} (hi : xs[i]? = some u) (hj : xs[j]? = some v) (hn : i ≠ j) (t : Nat) :
    ((xs.set i v).set j u)[t]? = if t = i then xs[j]? else if t = j then xs[i]? else xs[t]? := by
  have li := (List.getElem?_eq_some_iff.1 hi).1
  have lj := (List.getElem?_eq_some_iff.1 hj).1
  rw [List.getElem?_set, List.getElem?_set, List.length_set]
  by_cases h1 : j = t
  · subst h1; rw [if_pos rfl, if_pos lj, if_neg (Ne.symm hn), if_pos rfl, hi]
  · rw [if_neg h1]
    by_cases h2 : i = t
    · subst h2; rw [if_pos rfl, if_pos li, if_pos rfl, hj]
    · rw [if_neg h2, if_neg (Ne.symm h2), if_neg (Ne.symm h1)]
/-- The places of two parts of the same length, changed as far as told. -/
def swF (a b z : Nat) (t : Nat) : Nat := if a ≤ t ∧ t < a + z then t - a + b else if b ≤ t ∧ t < b + z then t - b + a else t
def ofF (xs : List α) (f : Nat → Nat) : List α := (List.range xs.length).filterMap fun t => xs[f t]?
theorem ofF_get {xs : List α} {f : Nat → Nat} (h : ∀ t, t < xs.length → f t < xs.length) (t : Nat) : (ofF xs f)[t]? = if t < xs.length then xs[f t]? else none := by
  have e : ofF xs f = (List.range xs.length).pmap (fun t ht => xs[f t]'(h t ht)) (fun t ht => List.mem_range.1 ht) := by
    unfold ofF
    have : ∀ (l : List Nat) (hl : ∀ t ∈ l, t < xs.length), l.filterMap (fun t => xs[f t]?) = l.pmap (fun t ht => xs[f t]'(h t ht)) hl := by
      intro l
      induction l with
      | nil => intro _; rfl
      | cons a l ih =>
        intro hl
        have ha := h a (hl a (by simp))
        rw [List.filterMap_cons, List.getElem?_eq_getElem ha, List.pmap_cons, ← ih fun t ht => hl t (by simp [ht])]
    exact this _ _
  rw [e, List.getElem?_pmap]
  by_cases ht : t < xs.length
  · simp [List.getElem?_range ht, ht, h t ht]
  · simp [List.getElem?_eq_none (l := List.range xs.length) (i := t) (by simp; omega), ht]
theorem ofF_at {xs : List α} {f : Nat → Nat} (h : ∀ t, t < xs.length → f t < xs.length) {t : Nat} (ht : t < xs.length) : (ofF xs f)[t]? = xs[f t]? := by rw [ofF_get h, if_pos ht]
theorem ofF_len {xs : List α} {f : Nat → Nat} (h : ∀ t, t < xs.length → f t < xs.length) : (ofF xs f).length = xs.length := by
  apply Nat.le_antisymm
  · apply Nat.le_of_not_lt; intro hl
    have := ofF_get h xs.length
    rw [if_neg (Nat.lt_irrefl _), List.getElem?_eq_none_iff] at this
    omega
  · apply Nat.le_of_not_lt; intro hl
    have := ofF_get h (ofF xs f).length
    rw [if_pos hl, List.getElem?_eq_none (Nat.le_refl _), List.getElem?_eq_getElem (h _ hl)] at this
    cases this
theorem ofF_mem {xs : List α} {f : Nat → Nat} {x : α} (h : x ∈ ofF xs f) : x ∈ xs := by
  obtain ⟨t, _, ht⟩ := List.mem_filterMap.1 h
  exact List.mem_of_getElem? ht
theorem ofF_ext {xs ys : List α} {f : Nat → Nat} (h : ∀ t, t < xs.length → f t < xs.length) (hl : ys.length = xs.length) (hy : ∀ t, t < xs.length → ys[t]? = xs[f t]?) : ys = ofF xs f := by
  apply List.ext_getElem?
  intro t
  rw [ofF_get h]
  split
  · rename_i ht; exact hy t ht
  · exact List.getElem?_eq_none (by omega)
theorem ofF_id {xs : List α} {f : Nat → Nat} (h : ∀ t, t < xs.length → f t = t) : ofF xs f = xs := (ofF_ext (fun t ht => by rw [h t ht]; exact ht) rfl fun t ht => by rw [h t ht]).symm
theorem ofF_comp {xs : List α} {f g : Nat → Nat} (hf : ∀ t, t < xs.length → f t < xs.length) (hg : ∀ t, t < xs.length → g t < xs.length) : ofF (ofF xs f) g = ofF xs (fun t => f (g t)) := by
  have hl := ofF_len hf
  refine ofF_ext (fun t ht => hf _ (hg t ht)) ?_ ?_
  · rw [ofF_len (by rw [hl]; exact hg), hl]
  · intro t ht
    rw [ofF_get (by rw [hl]; exact hg), hl, if_pos ht, ofF_get hf, if_pos (hg t ht)]
theorem ofF_congr {xs : List α} {f g : Nat → Nat} (hf : ∀ t, t < xs.length → f t < xs.length) (h : ∀ t, t < xs.length → g t = f t) : ofF xs g = ofF xs f := by
  refine ofF_ext hf (ofF_len fun t ht => by rw [h t ht]; exact hf t ht) fun t ht => ?_
  rw [ofF_get (fun t ht => by rw [h t ht]; exact hf t ht), if_pos ht, h t ht]
def swR (xs : List α) (a b z : Nat) : List α := ofF xs (swF a b z)
theorem swF_lt {a b z n : Nat} (h : a + z ≤ b) (hb : b + z ≤ n) (t : Nat) (ht : t < n) : swF a b z t < n := by unfold swF; split <;> (try split) <;> omega
theorem swR_len {xs : List α} {a b z : Nat} (h : a + z ≤ b) (hb : b + z ≤ xs.length) : (swR xs a b z).length = xs.length := ofF_len (swF_lt h hb)
theorem swR_zero (xs : List α) (a b : Nat) : swR xs a b 0 = xs := ofF_id fun t ht => by unfold swF; rw [if_neg (by omega), if_neg (by omega)]
theorem swR_step {xs : List α} {a b z : Nat} {u v : α} (h : a + z < b) (hb : b + z < xs.length) (hu : (swR xs a b z)[a + z]? = some u) (hv : (swR xs a b z)[b + z]? = some v) :
    ((swR xs a b z).set (a + z) v).set (b + z) u = swR xs a b (z + 1) := by
  have hz := swF_lt (a := a) (b := b) (z := z) (n := xs.length) (by omega) (by omega)
  refine ofF_ext (swF_lt (by omega) (by omega)) ?_ ?_
  · rw [List.length_set, List.length_set, swR_len (by omega) (by omega)]
  · intro t ht
    rw [swap_get hu hv (by omega), swR, ofF_at hz hb, ofF_at hz (show a + z < xs.length by omega), ofF_at hz ht]
    split
    · subst_vars; congr 1; unfold swF; split <;> (try split) <;> (try split) <;> (try split) <;> omega
    · split
      · subst_vars; congr 1; unfold swF; split <;> (try split) <;> (try split) <;> (try split) <;> omega
      · congr 1; unfold swF; split <;> (try split) <;> (try split) <;> (try split) <;> omega
def roF (a m b : Nat) (t : Nat) : Nat := if a ≤ t ∧ t < a + (b - m) then t - a + m else if a + (b - m) ≤ t ∧ t < b then t - (b - m) else t
def roR (xs : List α) (a m b : Nat) : List α := ofF xs (roF a m b)
theorem roF_lt {a m b n : Nat} (h : a ≤ m) (hm : m ≤ b) (hb : b ≤ n) (t : Nat) (ht : t < n) : roF a m b t < n := by unfold roF; split <;> (try split) <;> omega
theorem roR_len {xs : List α} {a m b : Nat} (h : a ≤ m) (hm : m ≤ b) (hb : b ≤ xs.length) : (roR xs a m b).length = xs.length := ofF_len (roF_lt h hm hb)
theorem ro_more {xs : List α} {m i j : Nat} (hi : i ≤ m) (hj : 0 < j) (hl : m + j ≤ xs.length) (h : j < i) : roR (swR xs (m - i) m j) (m - (i - j)) m (m + j) = roR xs (m - i) m (m + j) := by
  rw [roR, swR, ofF_comp (swF_lt (by omega) (by omega)) (roF_lt (by omega) (by omega) (by omega))]
  refine ofF_congr (roF_lt (by omega) (by omega) (by omega)) fun t ht => ?_
  unfold swF roF
  split <;> split <;> (try split) <;> (try split) <;> (try split) <;> (try split) <;> omega
theorem ro_less {xs : List α} {m i j : Nat} (hi : i ≤ m) (hj : 0 < i) (hl : m + j ≤ xs.length) (h : i < j) : roR (swR xs (m - i) (m + j - i) i) (m - i) m (m + (j - i)) = roR xs (m - i) m (m + j) := by
  rw [roR, swR, ofF_comp (swF_lt (by omega) (by omega)) (roF_lt (by omega) (by omega) (by omega))]
  refine ofF_congr (roF_lt (by omega) (by omega) (by omega)) fun t ht => ?_
  unfold swF roF
  split <;> split <;> (try split) <;> (try split) <;> (try split) <;> (try split) <;> omega
theorem ro_same {xs : List α} {m i : Nat} (hi : i ≤ m) (hl : m + i ≤ xs.length) : swR xs (m - i) m i = roR xs (m - i) m (m + i) := by
  refine ofF_congr (roF_lt (by omega) (by omega) (by omega)) fun t ht => ?_
  unfold swF roF
  split <;> (try split) <;> (try split) <;> (try split) <;> omega
/-- One more place to the right, and to the left. -/
theorem ro_up {xs : List α} {a k : Nat} {u v : α} (h : a ≤ k) (hk : k + 1 < xs.length) (hu : (roR xs a (a + 1) (k + 1))[k]? = some u) (hv : (roR xs a (a + 1) (k + 1))[k + 1]? = some v) :
    ((roR xs a (a + 1) (k + 1)).set k v).set (k + 1) u = roR xs a (a + 1) (k + 2) := by
  have hz := roF_lt (a := a) (m := a + 1) (b := k + 1) (n := xs.length) (by omega) (by omega) (by omega)
  refine ofF_ext (roF_lt (by omega) (by omega) (by omega)) ?_ ?_
  · rw [List.length_set, List.length_set, roR_len (by omega) (by omega) (by omega)]
  · intro t ht
    rw [swap_get hu hv (by omega), roR, ofF_at hz hk, ofF_at hz (show k < xs.length by omega), ofF_at hz ht]
    split
    · subst_vars; congr 1; unfold roF; split <;> (try split) <;> (try split) <;> (try split) <;> omega
    · split
      · subst_vars; congr 1; unfold roF; split <;> (try split) <;> (try split) <;> (try split) <;> omega
      · congr 1; unfold roF; split <;> (try split) <;> (try split) <;> (try split) <;> omega
theorem ro_down {xs : List α} {k m : Nat} {u v : α} (h : k < m) (hk : m < xs.length) (hu : (roR xs (k + 1) m (m + 1))[k + 1]? = some u) (hv : (roR xs (k + 1) m (m + 1))[k]? = some v) :
    ((roR xs (k + 1) m (m + 1)).set (k + 1) v).set k u = roR xs k m (m + 1) := by
  have hz := roF_lt (a := k + 1) (m := m) (b := m + 1) (n := xs.length) (by omega) (by omega) (by omega)
  refine ofF_ext (roF_lt (by omega) (by omega) (by omega)) ?_ ?_
  · rw [List.length_set, List.length_set, roR_len (by omega) (by omega) (by omega)]
  · intro t ht
    rw [swap_get hu hv (by omega), roR, ofF_at hz (show k < xs.length by omega), ofF_at hz (show k + 1 < xs.length by omega), ofF_at hz ht]
    split
    · subst_vars; congr 1; unfold roF; split <;> (try split) <;> (try split) <;> (try split) <;> omega
    · split
      · subst_vars; congr 1; unfold roF; split <;> (try split) <;> (try split) <;> (try split) <;> omega
      · congr 1; unfold roF; split <;> (try split) <;> (try split) <;> (try split) <;> omega
theorem ro_none (xs : List α) (a b : Nat) : roR xs a a b = xs := ofF_id fun t ht => by unfold roF; split <;> (try split) <;> omega
theorem ro_nil (xs : List α) {a m : Nat} (h : a ≤ m) : roR xs a m m = xs := ofF_id fun t ht => by unfold roF; split <;> (try split) <;> omega
/-- A part of a row. -/
def prt (xs : List α) (a b : Nat) : List α := (xs.drop a).take (b - a)
theorem prt_get (xs : List α) (a b t : Nat) : (prt xs a b)[t]? = if t < b - a then xs[a + t]? else none := by rw [prt, List.getElem?_take, List.getElem?_drop]
theorem prt_len {xs : List α} {a b : Nat} (hb : b ≤ xs.length) : (prt xs a b).length = b - a := by rw [prt, List.length_take, List.length_drop]; omega
theorem prt_at {xs : List α} {a b t : Nat} {u : α} (h : (prt xs a b)[t]? = some u) : t < b - a ∧ xs[a + t]? = some u := by
  rw [prt_get] at h
  split at h
  · exact ⟨by assumption, h⟩
  · cases h
theorem prt_app {xs : List α} {a m b : Nat} (h : a ≤ m) (hm : m ≤ b) : prt xs a b = prt xs a m ++ prt xs m b := by
  rw [prt, prt, prt, show b - a = (m - a) + (b - m) by omega, List.take_add, List.drop_drop, show a + (m - a) = m by omega]
theorem prt_nil (xs : List α) (a : Nat) : prt xs a a = [] := by rw [prt, Nat.sub_self, List.take_zero]
theorem prt_mem {xs : List α} {a b : Nat} {x : α} (h : x ∈ prt xs a b) : x ∈ xs := List.mem_of_mem_drop (List.mem_of_mem_take h)
theorem prt_one {xs : List α} {a : Nat} {u : α} (h : xs[a]? = some u) : prt xs a (a + 1) = [u] := by
  have ha := (List.getElem?_eq_some_iff.1 h)
  rw [prt, List.drop_eq_getElem_cons ha.1, show a + 1 - a = 1 by omega, ha.2]; rfl
/-- The parts a..m and m..b are put in another way, the rest stays. -/
theorem row_split {xs : List α} {a b : Nat} (h : a ≤ b) : xs = xs.take a ++ (prt xs a b ++ xs.drop b) := by
  have h1 : xs.drop b = (xs.drop a).drop (b - a) := by rw [List.drop_drop]; congr 1; omega
  rw [prt, h1, List.take_append_drop, List.take_append_drop]
end
end Go.Proofs.YtbckpmjiimiceaaDoor.VL
