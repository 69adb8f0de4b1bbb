/- Proved here: what the walks of a stable sort ask at each step. Plain Lean. -/
import Derived.Test.YtbckpmjiimiceaaDoorPXM
import Derived.Test.YtbckpmjiimiceaaDoorBpa
set_option linter.unusedVariables false
set_option linter.unusedSimpArgs false
namespace Go.Proofs.YtbckpmjiimiceaaDoor.VL
open Go
section
variable {α : Type} {q : α → α → Int} {p : α → Prop} {xs : List α}
theorem atN {n : Nat} {i : Int} {x : α} (h : xs[n]? = some x) (e : i = n) : xs[i.toNat]? = some x := by subst e; exact h
theorem setN {n : Nat} {i j : Int} {u v : α} (h : xs[n]? = some u) (e : j = n) (hn : i.toNat ≠ n) : (xs.set i.toNat v)[j.toNat]? = some u := by
  subst e
  rw [toN, List.getElem?_set, if_neg hn]; exact h
theorem halfW (i j : Nat) (h : i + j ≤ 4000000) : IntKind.i64.wrap (((BitVec.ofInt 64 ((i : Int) + (j : Int))) >>> (Int.toNat 1)).toNat : Int) = (((i + j) / 2 : Nat) : Int) := by
  have h1 : (BitVec.ofInt 64 ((i : Int) + (j : Int))).toNat = i + j := by
    rw [BitVec.toNat_ofInt]; omega
  rw [BitVec.toNat_ushiftRight, h1, show Int.toNat 1 = 1 from rfl, Nat.shiftRight_eq_div_pow]
  exact wrap_i64 (by omega)
/-! ### Insertion, step by step -/
theorem isR_prt {a i : Nat} (hi : i ≤ xs.length) : (isR q (prt xs a i)).length = i - a := by rw [isR, isR_len, prt_len hi]; simp
theorem isR_sub {a i : Nat} {y : α} (h : y ∈ isR q (prt xs a i)) : y ∈ xs := prt_mem (by rw [isR, isR_mem] at h; simpa using h)
theorem is_zero {a : Nat} : xs = xs.take a ++ (isort q (prt xs a (a + 1)) ++ xs.drop (a + 1)) := by
  have h1 : isort q (prt xs a (a + 1)) = prt xs a (a + 1) := by
    cases h : xs[a]? with
    | none => rw [prt, List.drop_eq_nil_of_le (List.getElem?_eq_none_iff.1 h)]; simp [isort, isR]
    | some u => rw [prt_one h]; rfl
  rw [h1]; exact row_split (by omega)
theorem is_init {a i : Nat} {x : α} (hx : xs[i]? = some x) : xs.take a ++ (isort q (prt xs a i) ++ xs.drop i) = xs.take a ++ (midS (isR q (prt xs a i)) 0 x ++ xs.drop (i + 1)) := by
  obtain ⟨hi, rfl⟩ := List.getElem?_eq_some_iff.1 hx
  rw [mid_zero, isort, List.drop_eq_getElem_cons hi]; simp only [List.append_assoc, List.cons_append, List.nil_append]
theorem is_next {a i k : Nat} {x : α} (ha : a ≤ i) (hx : xs[i]? = some x) (h : ∀ z ∈ (isR q (prt xs a i)).take k, q x z < 0) (he : (isR q (prt xs a i)).length ≤ k ∨ ∃ z, (isR q (prt xs a i))[k]? = some z ∧ ¬ q x z < 0) :
    xs.take a ++ (midS (isR q (prt xs a i)) k x ++ xs.drop (i + 1)) = xs.take a ++ (isort q (prt xs a (i + 1)) ++ xs.drop (i + 1)) := by
  rw [mid_end h he, prt_app (a := a) (m := i) (b := i + 1) ha (by omega), prt_one hx, isort_more]
theorem is_fin {a b i : Nat} (h : a ≤ b) (hi : b ≤ i) (h2 : i ≤ b ∨ i = a + 1) : xs.take a ++ (isort q (prt xs a i) ++ xs.drop i) = isS q xs a b := by
  rcases Nat.eq_or_lt_of_le hi with rfl | h3
  · rfl
  · obtain rfl : a = b := by omega
    obtain rfl : i = a + 1 := by omega
    rw [← is_zero, isS, prt_nil]; simp [isort, isR]
theorem all_more {T : List α} {k : Nat} {x y : α} (h : ∀ z ∈ T.take k, q x z < 0) (hy : T[Int.toNat ((k : Nat) : Int)]? = some y) (hl : q x y < 0) : ∀ z ∈ T.take (k + 1), q x z < 0 := by
  rw [take_more hy]
  intro z hz
  rcases List.mem_append.1 hz with h1 | h1
  · exact h z h1
  · rw [List.mem_singleton.1 h1]; exact hl
/-! ### Halving -/
def bsI (L R : Nat → Prop) (lo hi : Nat) (z : Nat × Nat) : Prop := lo ≤ z.1 ∧ z.1 ≤ z.2 ∧ z.2 ≤ hi ∧ (z.1 = lo ∨ L (z.1 - 1)) ∧ (z.2 = hi ∨ R z.2)
theorem bs_zero {L R : Nat → Prop} {lo hi : Nat} (h : lo ≤ hi) : bsI L R lo hi (lo, hi) := ⟨Nat.le_refl _, h, Nat.le_refl _, .inl rfl, .inl rfl⟩
theorem bs_up {L R : Nat → Prop} {lo hi : Nat} {z : Nat × Nat} (hI : bsI L R lo hi z) (hz : z.1 < z.2) (h : L ((z.1 + z.2) / 2)) : bsI L R lo hi ((z.1 + z.2) / 2 + 1, z.2) := by
  obtain ⟨h1, h2, h3, h4, h5⟩ := hI
  exact ⟨by simp only []; omega, by simp only []; omega, h3, .inr h, h5⟩
theorem bs_dn {L R : Nat → Prop} {lo hi : Nat} {z : Nat × Nat} (hI : bsI L R lo hi z) (hz : z.1 < z.2) (h : R ((z.1 + z.2) / 2)) : bsI L R lo hi (z.1, (z.1 + z.2) / 2) := by
  obtain ⟨h1, h2, h3, h4, h5⟩ := hI
  exact ⟨h1, by simp only []; omega, by simp only []; omega, h4, .inr h⟩
/-! ### Merges -/
theorem sm_left' (ht : TPre q p) (hp : ∀ x ∈ xs, p x) {a m b i k : Nat} {x : α} (hx : xs[a]? = some x) (hm : m = a + 1) (hk : k + 1 = i) (hb : b ≤ xs.length) (hs : srtQ q (prt xs m b)) {z : Nat × Nat} (hi : z.1 = i) (hz : ¬ z.1 < z.2)
    (hI : bsI (fun t => ∃ u, xs[t]? = some u ∧ q u x < 0) (fun t => ∃ u, xs[t]? = some u ∧ ¬ q u x < 0) m b z) : roR xs a (a + 1) (k + 1) = smS q xs a m b := by
  obtain ⟨h1, h2, h3, h4, h5⟩ := hI
  obtain ⟨z1, z2⟩ := z
  simp only [] at *
  subst hm hk hi
  obtain rfl : k + 1 = z2 := by omega
  exact sm_left ht hp hx hb ⟨h1, h3⟩ hs h4 h5
theorem sm_right' (ht : TPre q p) (hp : ∀ x ∈ xs, p x) {a m b i : Nat} {y : α} (hy : xs[m]? = some y) (hb : b = m + 1) (hs : srtQ q (prt xs a m)) {z : Nat × Nat} (hi : z.1 = i) (hz : ¬ z.1 < z.2)
    (hI : bsI (fun t => ∃ u, xs[t]? = some u ∧ ¬ q y u < 0) (fun t => ∃ u, xs[t]? = some u ∧ q y u < 0) a m z) : roR xs i m (m + 1) = smS q xs a m b := by
  obtain ⟨h1, h2, h3, h4, h5⟩ := hI
  obtain ⟨z1, z2⟩ := z
  simp only [] at *
  subst hb hi
  obtain rfl : z1 = z2 := by omega
  exact sm_right ht hp hy ⟨h1, h3⟩ hs h4 h5
/-- Where the search begins and ends. -/
def loM (a m b : Nat) : Nat := if (a + b) / 2 < m then (a + b) / 2 + m - b else a
def hiM (a m b : Nat) : Nat := if (a + b) / 2 < m then (a + b) / 2 else m
theorem loM_in {a m b : Nat} (h : a < m ∧ m < b) : a ≤ loM a m b ∧ loM a m b ≤ hiM a m b ∧ hiM a m b ≤ m ∧ hiM a m b ≤ (a + b) / 2 ∧ m ≤ (a + b) / 2 + m - hiM a m b ∧ (a + b) / 2 + m - loM a m b ≤ b ∧ (hiM a m b = m ∨ (a + b) / 2 + m - hiM a m b = m) ∧ (loM a m b = a ∨ (a + b) / 2 + m - loM a m b = b) := by
  unfold loM hiM; split <;> omega
def symL (q : α → α → Int) (xs : List α) (n : Nat) (c : Nat) : Prop := ∃ u v, xs[n - 1 - c]? = some u ∧ xs[c]? = some v ∧ ¬ q u v < 0
def symR (q : α → α → Int) (xs : List α) (n : Nat) (c : Nat) : Prop := ∃ u v, xs[n - 1 - c]? = some u ∧ xs[c]? = some v ∧ q u v < 0
theorem sm_main' (ht : TPre q p) (hp : ∀ x ∈ xs, p x) {a m b st en mid : Nat} (h : a < m ∧ m < b) (hb : b ≤ xs.length) (hs : srtQ q (prt xs a m)) (hs' : srtQ q (prt xs m b)) {z : Nat × Nat} (hz : ¬ z.1 < z.2) (e1 : mid = (a + b) / 2) (e2 : st = z.1) (e3 : en = mid + m - st)
    (hI : bsI (symL q xs ((a + b) / 2 + m)) (symR q xs ((a + b) / 2 + m)) (loM a m b) (hiM a m b) z) :
    (a ≤ st ∧ st ≤ m ∧ m ≤ en ∧ en ≤ b ∧ st ≤ mid ∧ mid ≤ en ∧ st + en = mid + m) ∧
    smS q (smS q (roR xs st m en) a st mid) mid en b = smS q xs a m b ∧ srtQ q (prt (roR xs st m en) a st) ∧ srtQ q (prt (roR xs st m en) st mid) ∧ srtQ q (prt (smS q (roR xs st m en) a st mid) mid en) ∧ srtQ q (prt (smS q (roR xs st m en) a st mid) en b) := by
  obtain ⟨i1, i2, i3, i4, i5⟩ := hI
  obtain ⟨z1, z2⟩ := z
  simp only [] at *
  subst e1 e2 e3
  obtain rfl : st = z2 := by omega
  have hl := loM_in h
  refine ⟨by omega, sm_main ht hp hb ⟨by omega, by omega⟩ ⟨by omega, by omega⟩ (by omega) hs hs' ?_ ?_⟩
  · rcases i4 with i4 | ⟨u, v, hu, hv, hn⟩
    · omega
    · by_cases hst : st = a
      · exact .inl hst
      · refine .inr (.inr ⟨u, v, ?_, hv, hn⟩)
        rw [← hu]; congr 1; omega
  · rcases i5 with i5 | ⟨u, v, hu, hv, hn⟩
    · omega
    · by_cases hst : (a + b) / 2 + m - st = m
      · exact .inr (.inl hst)
      · refine .inr (.inr ⟨u, v, ?_, hv, hn⟩)
        rw [← hu]; congr 1; omega
theorem sy_no1 {a m b : Nat} (h : ¬ (a < m ∧ m < b)) (h2 : a ≤ m ∧ m ≤ b) : xs = roR xs a m b := by
  rcases (show a = m ∨ m = b by omega) with rfl | rfl
  · exact (ro_none xs a b).symm
  · exact (ro_nil xs h2.1).symm
theorem sy_no2 {a m b : Nat} (h : ¬ (a < m ∧ m < b)) (h2 : a ≤ m) (h3 : m ≤ b) : xs = smS q xs a m b := by
  rcases (show a = m ∨ m = b by omega) with rfl | rfl
  · exact (sm_none h3).symm
  · exact (sm_nil h2).symm
theorem sy_no3 {a m b : Nat} (h : ¬ (a < m ∧ m < b)) (h2 : a ≤ m ∧ m ≤ b) : xs = smS q xs a m b := sy_no2 h h2.1 h2.2
theorem ro_mem {a m b : Nat} (hp : ∀ x ∈ xs, p x) : ∀ x ∈ roR xs a m b, p x := fun x hx => hp x (ofF_mem hx)
theorem smp_mem {a m b : Nat} (hp : ∀ x ∈ xs, p x) : ∀ x ∈ smS q xs a m b, p x := fun x hx => hp x (sm_mem hx)
theorem bl_sub {X : List α} {a s r : Nat} (hp : ∀ x ∈ xs, p x) (hI : blS q s xs = X ++ blS q s (xs.drop a)) : (∀ x ∈ X ++ xs.drop a, p x) ∧ (∀ x ∈ X ++ blS q r (xs.drop a), p x) := by
  have h1 : ∀ x ∈ X, p x := fun x hx => hp x (bl_mem (q := q) (s := s) (by rw [hI]; simp [hx]))
  constructor
  · intro x hx
    rcases List.mem_append.1 hx with h | h
    · exact h1 x h
    · exact hp x (List.mem_of_mem_drop h)
  · intro x hx
    rcases List.mem_append.1 hx with h | h
    · exact h1 x h
    · exact hp x (List.mem_of_mem_drop (bl_mem h))
theorem bl_dlen {X : List α} {a r : Nat} (hX : X.length = a) (ha : a ≤ xs.length) : (X ++ xs.drop a).length = xs.length ∧ (X ++ blS q r (xs.drop a)).length = xs.length := by
  rw [List.length_append, List.length_append, bl_len, List.length_drop]; omega
end
end Go.Proofs.YtbckpmjiimiceaaDoor.VL
