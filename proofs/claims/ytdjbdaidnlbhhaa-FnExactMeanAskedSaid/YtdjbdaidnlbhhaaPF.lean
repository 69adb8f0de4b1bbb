/- Proved here: how deep the knots of a tree lie, the deepest, and the mean. Plain Lean, no program. -/
import Derived.Test.YtdjbdaidnlbhhaaPE
set_option linter.unusedVariables false
set_option linter.unusedSimpArgs false
namespace Go.Proofs.Ytdjbdaidnlbhhaa.VL
open Go
/-! ### Depths -/
def dep1 (z : Nat) (d : List Int) (ns : List Int) : List Int := ns.foldl (fun d n => d.set (Int.toNat n) (d.getD z 0 + 1)) d
def depA (x : List DKnot) : Nat → List Int
  | 0 => List.replicate x.length 0
  | z + 1 => dep1 z (depA x z) (x.getD z (0, [], [], [])).2.2.1
def okD (n : Nat) (d : List Int) : Prop := d.length = n ∧ ∀ (j : Nat) v, d[j]? = some v → 0 ≤ v ∧ v ≤ j
theorem getD_of {α : Type} {d : List α} {z : Nat} {v e : α} (h : d[z]? = some v) : d.getD z e = v := by rw [List.getD_eq_getElem?_getD, h]; rfl
theorem depA_succ {x : List DKnot} {z : Nat} {a : DKnot} (ha : x[Int.toNat ((z : Nat) : Int)]? = some a) : depA x (z + 1) = dep1 z (depA x z) a.2.2.1 := by
  rw [toN] at ha
  rw [depA, getD_of ha]
theorem okD_set {n z : Nat} {d : List Int} {m : Int} (h : okD n d) (hm : (z : Int) < m) : okD n (d.set (Int.toNat m) (d.getD z 0 + 1)) := by
  refine ⟨by rw [List.length_set]; exact h.1, fun j v hv => ?_⟩
  rw [List.getElem?_set] at hv
  split at hv
  · rename_i e
    split at hv
    · have := Option.some.inj hv
      have hz : 0 ≤ d.getD z 0 ∧ d.getD z 0 ≤ z := by
        cases hd : d[z]? with
        | none => rw [List.getD_eq_getElem?_getD, hd]; simp
        | some u => rw [getD_of hd]; exact h.2 z u hd
      omega
    · cases hv
  · exact h.2 j v hv
theorem okD_dep1 {n z : Nat} : ∀ {ns : List Int} {d : List Int}, okD n d → (∀ m ∈ ns, (z : Int) < m) → okD n (dep1 z d ns)
  | [], d, h, _ => h
  | m :: ns, d, h, hm => okD_dep1 (ns := ns) (d := d.set (Int.toNat m) (d.getD z 0 + 1)) (okD_set h (hm m (by simp))) (fun m' h' => hm m' (by simp [h']))
section
variable {x : List DKnot} {z y : Nat} {a : DKnot}
theorem next_gt (h : ∀ i, i < x.length → knotI x i) (hz : z < x.length) (ha : x[Int.toNat ((z : Nat) : Int)]? = some a) : ∀ m ∈ a.2.2.1, (z : Int) < m ∧ m < x.length := by
  intro m hm
  obtain ⟨j, hj, rfl⟩ := List.getElem_of_mem hm
  exact knot_next ((knotI_iff ha).1 (h z hz)) (z := j) (by rw [toN]; exact List.getElem?_eq_getElem hj)
theorem okD_depA (h : ∀ i, i < x.length → knotI x i) : ∀ z, z ≤ x.length → okD x.length (depA x z)
  | 0, _ => ⟨by simp [depA], fun j v hv => by
      rw [depA, List.getElem?_replicate] at hv
      split at hv
      · have := Option.some.inj hv; omega
      · cases hv⟩
  | z + 1, hz => by
    obtain ⟨a, ha⟩ := getI (x := x) (z := z) (by omega)
    rw [depA_succ ha]
    exact okD_dep1 (okD_depA h z (by omega)) (fun m hm => (next_gt h (by omega) ha m hm).1)
theorem okD_at (h : ∀ i, i < x.length → knotI x i) (hz : z < x.length) (ha : x[Int.toNat ((z : Nat) : Int)]? = some a) (y : Nat) : okD x.length (dep1 z (depA x z) (a.2.2.1.take y)) :=
  okD_dep1 (okD_depA h z (by omega)) (fun m hm => (next_gt h hz ha m (List.mem_of_mem_take hm)).1)
theorem okD_get {n : Nat} {d : List Int} (h : okD n d) {j : Int} (hj : 0 ≤ j ∧ j < n) : ∃ v, d[Int.toNat j]? = some v ∧ 0 ≤ v ∧ v ≤ j := by
  have hl : Int.toNat j < d.length := by rw [h.1]; omega
  refine ⟨d[Int.toNat j], List.getElem?_eq_getElem hl, ?_⟩
  have := h.2 _ _ (List.getElem?_eq_getElem hl)
  omega
theorem dep_step {n v : Int} (hn : a.2.2.1[Int.toNat ((y : Nat) : Int)]? = some n) (hv : (dep1 z (depA x z) (a.2.2.1.take y))[Int.toNat ((z : Nat) : Int)]? = some v) :
    (dep1 z (depA x z) (a.2.2.1.take y)).set (Int.toNat n) (v + 1) = dep1 z (depA x z) (a.2.2.1.take (y + 1)) := by
  rw [toN] at hv
  rw [take_more hn]
  conv => rhs; rw [dep1, List.foldl_append]
  show _ = (dep1 z (depA x z) (a.2.2.1.take y)).set (Int.toNat n) ((dep1 z (depA x z) (a.2.2.1.take y)).getD z 0 + 1)
  rw [getD_of hv]
theorem dep_end (ha : x[Int.toNat ((z : Nat) : Int)]? = some a) (hy : a.2.2.1.length ≤ y) : dep1 z (depA x z) (a.2.2.1.take y) = depA x (z + 1) := by
  rw [depA_succ ha, List.take_of_length_le hy]
end
theorem depA_len {x : List DKnot} (h : treeOK x) : (depA x x.length).length = x.length := (okD_depA h.2.2.1 _ (Nat.le_refl _)).1

/-! ### The greatest -/
theorem mx_step {x : List Int} {z : Nat} {a b : Int} (ha : x[Int.toNat ((z : Nat) : Int)]? = some a) : max ((x.take z).foldl max b) a = (x.take (z + 1)).foldl max b := by
  rw [take_more ha, List.foldl_append]; rfl
theorem mx_one {x : List Int} (hx : 0 < x.length) : x.getD 0 0 = (x.take 1).foldl max (x.getD 0 0) := by
  cases x with
  | nil => simp at hx
  | cons a r => show a = max a a; omega
theorem mx_zero {x : List Int} (hx : 0 < x.length) : x[Int.toNat 0]? = some (x.getD 0 0) := by
  cases x with
  | nil => simp at hx
  | cons a r => rfl
theorem mx_same {x : List Int} (hx : 0 < x.length) (h : 0 ≤ x.getD 0 0) : x.foldl max (x.getD 0 0) = x.foldl max 0 := by
  cases x with
  | nil => rfl
  | cons a r =>
    show r.foldl max (max a a) = r.foldl max (max 0 a)
    have : 0 ≤ a := h
    rw [show max a a = a by omega, show max 0 a = a by omega]
noncomputable def deepS (x : List DKnot) : Int × Int := if tt (treeOK x) = true then ((depA x x.length).foldl max 0, 0) else (0, 1)
theorem deepS_no {x : List DKnot} (h : tt (treeOK x) = false) : deepS x = (0, 1) := by rw [deepS, h]; rfl
theorem deepS_yes {x : List DKnot} (h : treeOK x) : deepS x = ((depA x x.length).foldl max 0, 0) := by rw [deepS, if_pos (tt_iff.2 h)]
theorem deepS_max {x : List DKnot} (h : treeOK x) : (depA x x.length).foldl max ((depA x x.length).getD 0 0) = (depA x x.length).foldl max 0 := by
  have hl := depA_len h
  have h1 := h.1
  refine mx_same (by omega) ?_
  have hk := okD_depA h.2.2.1 x.length (Nat.le_refl _)
  obtain ⟨v, hv, h0, _⟩ := okD_get hk (j := 0) (by omega)
  rw [getD_of (z := 0) hv]; exact h0

/-! ### The mean -/
def sumD (x : List DKnot) (d : List Int) : Nat → Int
  | 0 => 0
  | z + 1 => sumD x d z + ((x.getD z (0, [], [], [])).2.2.2.length : Int) * d.getD z 0
def sumC (x : List DKnot) : Nat → Int
  | 0 => 0
  | z + 1 => sumC x z + ((x.getD z (0, [], [], [])).2.2.2.length : Int)
section
variable {x : List DKnot} {z : Nat} {a : DKnot} {d : List Int} {v : Int}
theorem sumD_succ (ha : x[Int.toNat ((z : Nat) : Int)]? = some a) (hv : d[Int.toNat ((z : Nat) : Int)]? = some v) : sumD x d (z + 1) = sumD x d z + (a.2.2.2.length : Int) * v := by
  rw [toN] at ha hv; rw [sumD, getD_of ha, getD_of hv]
theorem sumC_succ (ha : x[Int.toNat ((z : Nat) : Int)]? = some a) : sumC x (z + 1) = sumC x z + (a.2.2.2.length : Int) := by
  rw [toN] at ha; rw [sumC, getD_of ha]
theorem card_mul (hn : okKS x) (ha : x[Int.toNat ((z : Nat) : Int)]? = some a) (hv : 0 ≤ v ∧ v ≤ 120) : 0 ≤ (a.2.2.2.length : Int) * v ∧ (a.2.2.2.length : Int) * v ≤ 1099511627776 * 120 := by
  have := (hn.2 a (mem_getI ha)).2.2
  exact mul_in (by omega) hv
theorem sumC_in (hn : okKS x) : ∀ z, z ≤ x.length → 0 ≤ sumC x z ∧ sumC x z ≤ z * 1099511627776
  | 0, _ => by simp [sumC]
  | z + 1, hz => by
    obtain ⟨a, ha⟩ := getI (x := x) (z := z) (by omega)
    have ih := sumC_in hn z (by omega)
    have := (hn.2 a (mem_getI ha)).2.2
    rw [sumC_succ ha]
    omega
theorem sumD_in (hn : okKS x) (hd : okD x.length d) (hl : x.length ≤ 120) : ∀ z, z ≤ x.length → 0 ≤ sumD x d z ∧ sumD x d z ≤ z * 131941395333120
  | 0, _ => by simp [sumD]
  | z + 1, hz => by
    obtain ⟨a, ha⟩ := getI (x := x) (z := z) (by omega)
    obtain ⟨v, hv, h0, h1⟩ := okD_get hd (j := (z : Int)) (by omega)
    have ih := sumD_in hn hd hl z (by omega)
    have := card_mul (v := v) hn ha (by omega)
    rw [sumD_succ ha hv]
    omega
end
def shr (p q : Int) : Int × Int := (p.tdiv ((Int.gcd p q : Nat) : Int), q.tdiv ((Int.gcd p q : Nat) : Int))
theorem gcd_pos' {p q : Int} (h : 0 < q) : 0 < ((Int.gcd p q : Nat) : Int) := by
  have : Int.gcd p q ≠ 0 := by
    intro h0
    have := (Int.gcd_eq_zero_iff.1 h0).2
    omega
  omega
theorem tdiv_le' {p g : Int} (hp : 0 ≤ p) (hg : 0 < g) : 0 ≤ p.tdiv g ∧ p.tdiv g ≤ p := by
  rw [Int.tdiv_eq_ediv_of_nonneg hp]
  exact ⟨Int.ediv_nonneg hp (by omega), Int.ediv_le_self _ hp⟩
noncomputable def meanS (x : List DKnot) : (Int × Int) × Int :=
  if tt (treeOK x) = true then (if sumC x x.length = 0 then ((0, 0), 6) else (shr (sumD x (depA x x.length) x.length) (sumC x x.length), 0)) else ((0, 0), 1)
theorem meanS_no {x : List DKnot} (h : tt (treeOK x) = false) : meanS x = ((0, 0), 1) := by rw [meanS, h]; rfl
theorem meanS_none {x : List DKnot} (h : treeOK x) (h0 : sumC x x.length = 0) : meanS x = ((0, 0), 6) := by rw [meanS, if_pos (tt_iff.2 h), if_pos h0]
theorem meanS_yes {x : List DKnot} (h : treeOK x) (h0 : ¬ sumC x x.length = 0) : meanS x = (shr (sumD x (depA x x.length) x.length) (sumC x x.length), 0) := by rw [meanS, if_pos (tt_iff.2 h), if_neg h0]
end Go.Proofs.Ytdjbdaidnlbhhaa.VL
