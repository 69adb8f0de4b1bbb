/- Proved here: how many bits of a word are set: by the words' own sums, and by halving. Plain Lean, no program. -/
import Derived.Test.YtfnkphllkbkfaaaDoorBvb
set_option linter.unusedVariables false
namespace Go.Proofs.YtfnkphllkbkfaaaDoor.VL
open Go
def dsum (B : Nat) : Nat → Nat → Nat
  | 0, _ => 0
  | n + 1, x => x % B + dsum B n (x / B)
/-- All digits are at most c. -/
def dle (B c : Nat) : Nat → Nat → Prop
  | 0, x => x = 0
  | n + 1, x => x % B ≤ c ∧ dle B c n (x / B)
theorem last {z : Nat} (h : dle 256 8 8 z) : (z + z / 256 + (z + z / 256) / 65536 + (z + z / 256 + (z + z / 256) / 65536) / 4294967296) % 128 = dsum 256 8 z := by
  simp only [dle, Nat.div_div_eq_div_mul] at h
  obtain ⟨h0, h1, h2, h3, h4, h5, h6, h7, h8⟩ := h
  simp only [dsum, Nat.div_div_eq_div_mul]
  simp only [Nat.reduceMul] at *
  obtain ⟨a0, e0⟩ : ∃ d, d = z % 256 := ⟨_, rfl⟩
  obtain ⟨a1, e1⟩ : ∃ d, d = z / 256 % 256 := ⟨_, rfl⟩
  obtain ⟨a2, e2⟩ : ∃ d, d = z / 65536 % 256 := ⟨_, rfl⟩
  obtain ⟨a3, e3⟩ : ∃ d, d = z / 16777216 % 256 := ⟨_, rfl⟩
  obtain ⟨a4, e4⟩ : ∃ d, d = z / 4294967296 % 256 := ⟨_, rfl⟩
  obtain ⟨a5, e5⟩ : ∃ d, d = z / 1099511627776 % 256 := ⟨_, rfl⟩
  obtain ⟨a6, e6⟩ : ∃ d, d = z / 281474976710656 % 256 := ⟨_, rfl⟩
  obtain ⟨a7, e7⟩ : ∃ d, d = z / 72057594037927936 % 256 := ⟨_, rfl⟩
  rw [← e0] at h0 ⊢
  rw [← e1] at h1 ⊢
  rw [← e2] at h2 ⊢
  rw [← e3] at h3 ⊢
  rw [← e4] at h4 ⊢
  rw [← e5] at h5 ⊢
  rw [← e6] at h6 ⊢
  rw [← e7] at h7 ⊢
  have hz : z = a0 + 256 * a1 + 65536 * a2 + 16777216 * a3 + 4294967296 * a4 + 1099511627776 * a5 + 281474976710656 * a6 + 72057594037927936 * a7 := by omega
  clear e0 e1 e2 e3 e4 e5 e6 e7 h8
  subst hz
  have f1 : (a0 + 256 * a1 + 65536 * a2 + 16777216 * a3 + 4294967296 * a4 + 1099511627776 * a5 + 281474976710656 * a6 + 72057594037927936 * a7) / 256 = a1 + 256 * a2 + 65536 * a3 + 16777216 * a4 + 4294967296 * a5 + 1099511627776 * a6 + 281474976710656 * a7 := by omega
  rw [f1]
  have f2 : (a0 + 256 * a1 + 65536 * a2 + 16777216 * a3 + 4294967296 * a4 + 1099511627776 * a5 + 281474976710656 * a6 + 72057594037927936 * a7 + (a1 + 256 * a2 + 65536 * a3 + 16777216 * a4 + 4294967296 * a5 + 1099511627776 * a6 + 281474976710656 * a7)) / 65536 = (a2 + a3) + 256 * (a3 + a4) + 65536 * (a4 + a5) + 16777216 * (a5 + a6) + 4294967296 * (a6 + a7) + 1099511627776 * a7 := by omega
  rw [f2]
  have f3 : (a0 + 256 * a1 + 65536 * a2 + 16777216 * a3 + 4294967296 * a4 + 1099511627776 * a5 + 281474976710656 * a6 + 72057594037927936 * a7 + (a1 + 256 * a2 + 65536 * a3 + 16777216 * a4 + 4294967296 * a5 + 1099511627776 * a6 + 281474976710656 * a7) + ((a2 + a3) + 256 * (a3 + a4) + 65536 * (a4 + a5) + 16777216 * (a5 + a6) + 4294967296 * (a6 + a7) + 1099511627776 * a7)) / 4294967296 = (a4 + a5 + a6 + a7) + 256 * (a5 + a6 + a7) + 65536 * (a6 + a7) + 16777216 * a7 := by clear f1 f2; omega
  rw [f3]
  clear f1 f2 f3
  omega

end Go.Proofs.YtfnkphllkbkfaaaDoor.VL
/- Proved here: what the functions of the first texts compute, in plain Lean: no program. -/
set_option linter.unusedVariables false
set_option linter.unusedSimpArgs false
namespace Go.Proofs.YtfnkphllkbkfaaaDoor.VL
open Go
abbrev kKnot : Kd (Int × List Int × List Int × List Int) := Kd.pair (Kd.int .i16) (Kd.pair (Kd.slice (Kd.int .i64)) (Kd.pair (Kd.slice (Kd.int .i16)) (Kd.slice (Kd.int .i64))))
def inb (x lo hi : Int) : Bool := decide (x ≥ lo) && decide (x ≤ hi)
/-! ### Shares -/
end Go.Proofs.YtfnkphllkbkfaaaDoor.VL
/- Proved here: equality of lists place by place, and copies of lists place by place. Plain Lean, no program. -/
set_option linter.unusedVariables false
set_option linter.unusedSimpArgs false
namespace Go.Proofs.YtfnkphllkbkfaaaDoor.VL
open Go
section
variable {α : Type} {x y : List α} {z : Nat} {a b : α}
theorem getI (h : z < x.length) : ∃ a, x[Int.toNat ((z : Nat) : Int)]? = some a := ⟨x[z], by simp [h]⟩
theorem toN (z : Nat) : Int.toNat ((z : Nat) : Int) = z := rfl
theorem take_more (ha : x[Int.toNat ((z : Nat) : Int)]? = some a) : x.take (z + 1) = x.take z ++ [a] := by
  rw [toN] at ha
  rw [List.take_add_one, ha]; rfl
theorem eqs_step (h : x.take z = y.take z) (ha : x[Int.toNat ((z : Nat) : Int)]? = some a) (hb : y[Int.toNat ((z : Nat) : Int)]? = some b) (e : a = b) : x.take (z + 1) = y.take (z + 1) := by
  rw [take_more ha, take_more hb, h, e]
theorem eqs_ne (ha : x[Int.toNat ((z : Nat) : Int)]? = some a) (hb : y[Int.toNat ((z : Nat) : Int)]? = some b) (e : a ≠ b) : false = eqv x y := by
  refine (eqv_ne ?_).symm
  rintro rfl
  rw [ha] at hb
  exact e (Option.some.inj hb)
theorem eqs_len (h : x.length ≠ y.length) : false = eqv x y := (eqv_ne (fun e => h (by rw [e]))).symm
theorem eqs_all (h : x.take z = y.take z) (hz : x.length ≤ z) (hl : x.length = y.length) : true = eqv x y := by
  rw [List.take_of_length_le hz, List.take_of_length_le (by omega)] at h
  rw [h, eqv_self]
/-- A copy, as far as it has come. -/
def cpy (x : List α) (z : Nat) (d : α) : List α := x.take z ++ List.replicate (x.length - z) d
theorem cpy_len {d : α} (h : z ≤ x.length) : (cpy x z d).length = x.length := by
  rw [cpy, List.length_append, List.length_take, List.length_replicate]; omega
theorem cpy_get {d : α} (h : z < x.length) : (cpy x z d)[Int.toNat ((z : Nat) : Int)]? = some d := by
  rw [toN, cpy, List.getElem?_append_right (by simp; omega), List.length_take, Nat.min_eq_left (by omega), Nat.sub_self, List.getElem?_replicate, if_pos (by omega)]
theorem cpy_step {d : α} (ha : x[Int.toNat ((z : Nat) : Int)]? = some a) : (cpy x z d).set (Int.toNat ((z : Nat) : Int)) a = cpy x (z + 1) d := by
  have hz : z < x.length := by
    rw [toN] at ha
    exact (List.getElem?_eq_some_iff.1 ha).1
  rw [cpy, cpy, take_more ha, toN, List.set_append_right _ _ (by simp; omega), List.length_take, Nat.min_eq_left (by omega), Nat.sub_self]
  have : x.length - z = (x.length - (z + 1)) + 1 := by omega
  rw [this, List.replicate_succ, List.set_cons_zero, List.append_assoc]
  rfl
theorem cpy_end {d : α} (hz : x.length ≤ z) : cpy x z d = x := by
  rw [cpy, List.take_of_length_le hz, show x.length - z = 0 by omega]
  simp
end
/-- What is left of a budget. -/
def szL {α : Type} (x : List α) (l : Int) : Int := if l - x.length < 0 then -1 else l - x.length
theorem szL_in {α : Type} (x : List α) {l : Int} (hl : 0 ≤ l ∧ l ≤ 1048576) : szL x l ≤ 1048576 ∧ -1 ≤ szL x l ∧ (0 ≤ szL x l → (x.length : Int) ≤ l) := by
  unfold szL; split <;> omega
/-! ### Masks -/
section
variable {x y : BitVec 64 × BitVec 64} {z : Nat}
end
/-! ### Answers -/
end Go.Proofs.YtfnkphllkbkfaaaDoor.VL
/- Proved here: budgets and equality of knots. Plain Lean, no program. -/
set_option linter.unusedVariables false
set_option linter.unusedSimpArgs false
namespace Go.Proofs.YtfnkphllkbkfaaaDoor.VL
open Go
abbrev DKnot := Int × List Int × List Int × List Int
def okK (x : DKnot) : Prop := x.2.1.length ≤ 1099511627776 ∧ x.2.2.1.length ≤ 1099511627776 ∧ x.2.2.2.length ≤ 1099511627776
def okKS (x : List DKnot) : Prop := x.length ≤ 1099511627776 ∧ ∀ k ∈ x, okK k
def szK (x : DKnot) (l : Int) : Int := if szL x.2.1 l < 0 then -1 else if szL x.2.2.1 (szL x.2.1 l) < 0 then -1 else szL x.2.2.2 (szL x.2.2.1 (szL x.2.1 l))
theorem szK_in (x : DKnot) {l : Int} (hl : 0 ≤ l ∧ l ≤ 1048576) : szK x l ≤ 1048576 ∧ -1 ≤ szK x l ∧ (0 ≤ szK x l → okK x) := by
  unfold szK okK
  have h1 := szL_in x.2.1 hl
  split
  · omega
  · have h2 := szL_in x.2.2.1 (l := szL x.2.1 l) (by omega)
    split
    · omega
    · have h3 := szL_in x.2.2.2 (l := szL x.2.2.1 (szL x.2.1 l)) (by omega)
      omega
def szKs : List DKnot → Int → Int
  | [], l => l
  | k :: r, l => if szK k l < 0 then -1 else szKs r (szK k l)
def szKS (x : List DKnot) (l : Int) : Int := if l - x.length < 0 then -1 else szKs x (l - x.length)
theorem szKs_in : ∀ (x : List DKnot) {l : Int}, 0 ≤ l ∧ l ≤ 1048576 → szKs x l ≤ 1048576 ∧ -1 ≤ szKs x l ∧ (0 ≤ szKs x l → ∀ k ∈ x, okK k)
  | [], l, hl => by unfold szKs; exact ⟨by omega, by omega, fun _ k hk => by cases hk⟩
  | k :: r, l, hl => by
    unfold szKs
    have h1 := szK_in k hl
    split
    · exact ⟨by omega, by omega, fun h => absurd h (by omega)⟩
    · have h2 := szKs_in r (l := szK k l) (by omega)
      refine ⟨h2.1, h2.2.1, fun h k' hk => ?_⟩
      rcases List.mem_cons.1 hk with rfl | hk
      · exact h1.2.2 (by omega)
      · exact h2.2.2 h k' hk
theorem szKS_in (x : List DKnot) {l : Int} (hl : 0 ≤ l ∧ l ≤ 1048576) : szKS x l ≤ 1048576 ∧ -1 ≤ szKS x l ∧ (0 ≤ szKS x l → okKS x) := by
  unfold szKS
  split
  · exact ⟨by omega, by omega, fun h => absurd h (by omega)⟩
  · have h := szKs_in x (l := l - x.length) (by omega)
    exact ⟨h.1, h.2.1, fun h0 => ⟨by omega, h.2.2 h0⟩⟩
section
variable {x : List DKnot} {l : Int} {p : Nat × Int} {a : DKnot}
theorem drop_getI {α : Type} {x : List α} {z : Nat} {a : α} (ha : x[Int.toNat ((z : Nat) : Int)]? = some a) : x.drop z = a :: x.drop (z + 1) := by
  rw [toN] at ha
  obtain ⟨h, rfl⟩ := List.getElem?_eq_some_iff.1 ha
  exact List.drop_eq_getElem_cons h
theorem mem_getI {α : Type} {x : List α} {z : Int} {a : α} (ha : x[Int.toNat z]? = some a) : a ∈ x := List.mem_of_getElem? ha
theorem szKs_step (hI : p.1 ≤ x.length ∧ 0 ≤ p.2 ∧ p.2 ≤ 1048576 ∧ szKs (x.drop p.1) p.2 = szKs x (l - x.length)) (hz : p.1 < x.length) (ha : x[Int.toNat ((p.1 : Nat) : Int)]? = some a) (h : ¬ szK a p.2 < 0) :
    p.1 + 1 ≤ x.length ∧ 0 ≤ szK a p.2 ∧ szK a p.2 ≤ 1048576 ∧ szKs (x.drop (p.1 + 1)) (szK a p.2) = szKs x (l - x.length) := by
  refine ⟨by omega, by omega, (szK_in a ⟨hI.2.1, hI.2.2.1⟩).1, ?_⟩
  rw [← hI.2.2.2, drop_getI ha, szKs, if_neg h]
theorem szKs_ne (hl : ¬ l - x.length < 0) (hI : p.1 ≤ x.length ∧ 0 ≤ p.2 ∧ p.2 ≤ 1048576 ∧ szKs (x.drop p.1) p.2 = szKs x (l - x.length)) (ha : x[Int.toNat ((p.1 : Nat) : Int)]? = some a) (h : szK a p.2 < 0) : -1 = szKS x l := by
  rw [szKS, if_neg hl, ← hI.2.2.2, drop_getI ha, szKs, if_pos h]
theorem szKs_end (hl : ¬ l - x.length < 0) (hI : p.1 ≤ x.length ∧ 0 ≤ p.2 ∧ p.2 ≤ 1048576 ∧ szKs (x.drop p.1) p.2 = szKs x (l - x.length)) (hz : x.length ≤ p.1) : p.2 = szKS x l := by
  rw [szKS, if_neg hl, ← hI.2.2.2, List.drop_of_length_le hz]
  rfl
end
end Go.Proofs.YtfnkphllkbkfaaaDoor.VL
/- Proved here: valid trees: what is looked at knot by knot, and how often knots are named. Plain Lean, no program. -/
set_option linter.unusedVariables false
set_option linter.unusedSimpArgs false
namespace Go.Proofs.YtfnkphllkbkfaaaDoor.VL
open Go
/-- Is it so? -/
noncomputable def tt (p : Prop) : Bool := @decide p (Classical.propDecidable p)
theorem tt_iff {p : Prop} : tt p = true ↔ p := by unfold tt; exact @decide_eq_true_iff _ (Classical.propDecidable _)
theorem tt_false {p : Prop} : tt p = false ↔ ¬ p := by unfold tt; exact @decide_eq_false_iff_not _ (Classical.propDecidable _)
theorem tt_yes {p : Prop} (h : p) : true = tt p := (tt_iff.2 h).symm
theorem tt_no {p : Prop} (h : ¬ p) : false = tt p := (tt_false.2 h).symm
theorem tt_eq {p : Prop} {b : Bool} (h : b = true ↔ p) : b = tt p := by rw [Bool.eq_iff_iff, tt_iff]; exact h
section
variable {α : Type} {x : List α} {z : Nat} {a b : α}
theorem getPr [Inhabited α] (hz : z ≤ x.length) : ∃ b : α, 0 < z → x[Int.toNat ((z : Nat) - 1 : Int)]? = some b := by
  by_cases h : 0 < z
  · exact ⟨x[z - 1], fun _ => by rw [show Int.toNat ((z : Nat) - 1 : Int) = z - 1 by omega]; simp⟩
  · exact ⟨default, fun h' => absurd h' h⟩
theorem getP (hz : 0 < z) (h : x[Int.toNat ((z : Nat) - 1 : Int)]? = some b) : x[z - 1]? = some b := by
  rw [show Int.toNat ((z : Nat) - 1 : Int) = z - 1 by omega] at h; exact h
end
theorem all_step {p : Nat → Prop} {z : Nat} (h : ∀ i, i < z → p i) (hz : p z) : ∀ i, i < z + 1 → p i := fun i hi => by
  rcases Nat.lt_or_ge i z with h1 | h1
  · exact h i h1
  · obtain rfl : i = z := by omega
    exact hz
theorem all_none {p : Nat → Prop} : ∀ i, i < 0 → p i := fun i hi => absurd hi (Nat.not_lt_zero i)
theorem all_end {p : Nat → Prop} {z n : Nat} (h : ∀ i, i < z → p i) (hz : n ≤ z) : ∀ i, i < n → p i := fun i hi => h i (by omega)

/-! ### Leaves -/
def leafI (c : List Int) (i : Nat) : Prop := ∃ a, c[i]? = some a ∧ 0 ≤ a ∧ a ≤ 59 ∧ (0 < i → ∃ b, c[i - 1]? = some b ∧ b < a)
def leafC (c : List Int) : Prop := ∀ i, i < c.length → leafI c i
def leafOK (k : DKnot) : Prop := leafC k.2.2.2 ∧ k.2.1.length = 0 ∧ k.2.2.1.length = 0
theorem leafI_iff {c : List Int} {z : Nat} {a b : Int} (ha : c[Int.toNat ((z : Nat) : Int)]? = some a) (hb : 0 < z → c[Int.toNat ((z : Nat) - 1 : Int)]? = some b) : leafI c z ↔ (0 ≤ a ∧ a ≤ 59 ∧ (0 < z → b < a)) := by
  rw [toN] at ha
  unfold leafI
  constructor
  · rintro ⟨a', h1, h2, h3, h4⟩
    rw [ha] at h1
    obtain rfl := Option.some.inj h1
    refine ⟨h2, h3, fun hz => ?_⟩
    obtain ⟨b', h5, h6⟩ := h4 hz
    rw [getP hz (hb hz)] at h5
    obtain rfl := Option.some.inj h5
    exact h6
  · rintro ⟨h2, h3, h4⟩
    exact ⟨a, ha, h2, h3, fun hz => ⟨b, getP hz (hb hz), h4 hz⟩⟩
/-- The last one that has been seen. -/
def lastV (c : List Int) (z : Nat) : Int := if z = 0 then -1 else c.getD (z - 1) 0
theorem lastV_in {c : List Int} {z : Nat} (h : ∀ i, i < z → leafI c i) : -1 ≤ lastV c z ∧ lastV c z ≤ 59 := by
  unfold lastV
  split
  · omega
  · obtain ⟨a, h1, h2, h3, _⟩ := h (z - 1) (by omega)
    rw [List.getD_eq_getElem?_getD, h1]
    simp only [Option.getD_some]
    omega
theorem lastV_succ {c : List Int} {z : Nat} {a : Int} (ha : c[Int.toNat ((z : Nat) : Int)]? = some a) : a = lastV c (z + 1) := by
  unfold lastV
  rw [if_neg (by omega), show z + 1 - 1 = z by omega, List.getD_eq_getElem?_getD]
  rw [toN] at ha
  rw [ha]; rfl
theorem lastV_iff {c : List Int} {z : Nat} {a : Int} (h : ∀ i, i < z → leafI c i) (ha : c[Int.toNat ((z : Nat) : Int)]? = some a) : leafI c z ↔ inb a (lastV c z + 1) 59 = true := by
  rw [toN] at ha
  simp only [inb, Bool.and_eq_true, decide_eq_true_eq]
  unfold lastV leafI
  constructor
  · rintro ⟨a', h1, h2, h3, h4⟩
    rw [ha] at h1
    obtain rfl := Option.some.inj h1
    split
    · omega
    · obtain ⟨b, h5, h6⟩ := h4 (by omega)
      rw [List.getD_eq_getElem?_getD, h5]
      simp only [Option.getD_some]; omega
  · intro h1
    by_cases hz : z = 0
    · rw [if_pos hz] at h1
      exact ⟨a, ha, by omega, by omega, fun h => absurd h (by omega)⟩
    · rw [if_neg hz] at h1
      obtain ⟨b, h2, h3, h4, _⟩ := h (z - 1) (by omega)
      rw [List.getD_eq_getElem?_getD, h2] at h1
      simp only [Option.getD_some] at h1
      exact ⟨a, ha, by omega, by omega, fun _ => ⟨b, h2, by omega⟩⟩

/-! ### Knots that ask -/
def askI (k : DKnot) (p many : Int) (i : Nat) : Prop := ∃ v n, k.2.1[i]? = some v ∧ k.2.2.1[i]? = some n ∧ -2 ≤ v ∧ (0 < i → ∃ b, k.2.1[i - 1]? = some b ∧ b < v) ∧ p < n ∧ n < many
def askH (k : DKnot) : Prop := 0 ≤ k.1 ∧ k.1 < 12 ∧ k.2.2.2.length = 0 ∧ k.2.1.length ≠ 0 ∧ k.2.2.1.length = k.2.1.length
def askOK (k : DKnot) (p many : Int) : Prop := askH k ∧ ∀ i, i < k.2.1.length → askI k p many i
theorem askI_iff {k : DKnot} {p many : Int} {z : Nat} {v n b : Int} (hv : k.2.1[Int.toNat ((z : Nat) : Int)]? = some v) (hn : k.2.2.1[Int.toNat ((z : Nat) : Int)]? = some n) (hb : 0 < z → k.2.1[Int.toNat ((z : Nat) - 1 : Int)]? = some b) :
    askI k p many z ↔ (-2 ≤ v ∧ (0 < z → b < v) ∧ p < n ∧ n < many) := by
  rw [toN] at hv hn
  unfold askI
  constructor
  · rintro ⟨v', n', h1, h2, h3, h4, h5, h6⟩
    rw [hv] at h1; obtain rfl := Option.some.inj h1
    rw [hn] at h2; obtain rfl := Option.some.inj h2
    refine ⟨h3, fun hz => ?_, h5, h6⟩
    obtain ⟨b', h7, h8⟩ := h4 hz
    rw [getP hz (hb hz)] at h7; obtain rfl := Option.some.inj h7
    exact h8
  · rintro ⟨h3, h4, h5, h6⟩
    exact ⟨v, n, hv, hn, h3, fun hz => ⟨b, getP hz (hb hz), h4 hz⟩, h5, h6⟩
/-- How many are right at the beginning. -/
noncomputable def pre (p : Nat → Prop) : Nat → Nat
  | 0 => 0
  | n + 1 => @ite _ (∀ i, i < n + 1 → p i) (Classical.propDecidable _) (n + 1) (pre p n)
theorem pre_all {p : Nat → Prop} : ∀ {n : Nat}, (∀ i, i < n → p i) → pre p n = n
  | 0, _ => rfl
  | n + 1, h => by rw [pre, if_pos h]
theorem pre_at {p : Nat → Prop} {z : Nat} (h : ∀ i, i < z → p i) (hz : ¬ p z) : ∀ {n : Nat}, z < n → pre p n = z
  | n + 1, hn => by
    rw [pre, if_neg (fun h' => hz (h' z hn))]
    rcases Nat.lt_or_ge z n with h1 | h1
    · exact pre_at h hz h1
    · obtain rfl : z = n := by omega
      exact pre_all h
noncomputable def askN (k : DKnot) (p many : Int) : Nat := @ite _ (askH k) (Classical.propDecidable _) (pre (askI k p many) k.2.1.length) 0
section
variable {k : DKnot} {p many : Int} {z : Nat}
theorem askN_head (h : ¬ askH k) : askN k p many = 0 := if_neg h
theorem askN_at (hH : askH k) (h : ∀ i, i < z → askI k p many i) (hz : ¬ askI k p many z) (hl : z < k.2.1.length) : askN k p many = z := by
  rw [askN, if_pos hH]; exact pre_at h hz hl
theorem askN_all (hH : askH k) (h : ∀ i, i < z → askI k p many i) (hl : k.2.1.length ≤ z) : askN k p many = k.2.1.length := by
  rw [askN, if_pos hH]; exact pre_all (all_end h hl)
theorem ask_head (h : ¬ askH k) : false = tt (askOK k p many) := tt_no fun h' => h h'.1
theorem ask_at (hz : ¬ askI k p many z) (hl : z < k.2.1.length) : false = tt (askOK k p many) := tt_no fun h' => hz (h'.2 z hl)
theorem ask_all (hH : askH k) (h : ∀ i, i < z → askI k p many i) (hl : k.2.1.length ≤ z) : true = tt (askOK k p many) := tt_yes ⟨hH, all_end h hl⟩
end
def knotOK (k : DKnot) (p many : Int) : Prop := (k.1 = -1 ∧ leafOK k) ∨ (k.1 ≠ -1 ∧ askOK k p many)

/-! ### Counts -/
def cntL (b : Int) (n : Nat) (l : List Int) : List Int := (List.range n).map fun j => (if j = 0 then b else 0) + (l.count ((j : Nat) : Int) : Int)
section
variable {b a v : Int} {n : Nat} {l : List Int}
theorem cntL_len : (cntL b n l).length = n := by simp [cntL]
theorem cntL_get (h : 0 ≤ a ∧ a < n) : (cntL b n l)[Int.toNat a]? = some ((if Int.toNat a = 0 then b else 0) + (l.count a : Int)) := by
  have h1 : Int.toNat a < n := by omega
  have h2 : ((Int.toNat a : Nat) : Int) = a := by omega
  rw [cntL, List.getElem?_map, List.getElem?_range h1]
  simp only [Option.map_some, h2]
theorem cntL_in (hb : 0 ≤ b ∧ b ≤ 1) (h : 0 ≤ a ∧ a < n) : ∃ v, (cntL b n l)[Int.toNat a]? = some v ∧ 0 ≤ v ∧ v ≤ 1 + l.length := by
  refine ⟨_, cntL_get h, ?_⟩
  have := List.count_le_length (a := a) (l := l)
  split <;> omega
theorem cntL_step (h : 0 ≤ a ∧ a < n) (hv : (cntL b n l)[Int.toNat a]? = some v) : (cntL b n l).set (Int.toNat a) (v + 1) = cntL b n (l ++ [a]) := by
  rw [cntL_get h] at hv
  obtain rfl := Option.some.inj hv
  apply List.ext_getElem?
  intro j
  rcases Nat.lt_or_ge j n with hj | hj
  · have hg : ∀ l', (cntL b n l')[j]? = some ((if j = 0 then b else 0) + (l'.count ((j : Nat) : Int) : Int)) := fun l' => by
      have := cntL_get (b := b) (l := l') (a := (j : Int)) (n := n) (by omega)
      simpa using this
    rw [hg]
    by_cases hja : j = Int.toNat a
    · subst hja
      have h2 : ((Int.toNat a : Nat) : Int) = a := by omega
      rw [List.getElem?_set_self (by rw [cntL_len]; exact hj), h2, List.count_append, List.count_singleton_self]
      congr 1
      omega
    · rw [List.getElem?_set_ne (Ne.symm hja), hg, List.count_append, List.count_singleton]
      have : ¬ a = (j : Int) := by omega
      simp [this]
  · rw [List.getElem?_eq_none (by simp [cntL]; omega), List.getElem?_eq_none (by simp [cntL]; omega)]
theorem cntL_nil : List.replicate n (0 : Int) = cntL 0 n [] := by
  apply List.ext_getElem?
  intro j
  rcases Nat.lt_or_ge j n with hj | hj
  · have := cntL_get (b := 0) (l := []) (a := (j : Int)) (n := n) (by omega)
    simp only [Int.toNat_natCast, List.count_nil] at this
    rw [this, List.getElem?_replicate, if_pos hj]
    split <;> rfl
  · rw [List.getElem?_eq_none (by simp; omega), List.getElem?_eq_none (by simp [cntL]; omega)]
theorem cntL_one (hn : 0 < n) : (List.replicate n (0 : Int)).set (Int.toNat 0) 1 = cntL 1 n [] := by
  apply List.ext_getElem?
  intro j
  rcases Nat.lt_or_ge j n with hj | hj
  · have := cntL_get (b := 1) (l := []) (a := (j : Int)) (n := n) (by omega)
    simp only [Int.toNat_natCast, List.count_nil] at this
    rw [this]
    by_cases h0 : j = 0
    · subst h0
      show ((List.replicate n (0 : Int)).set 0 1)[0]? = _
      rw [List.getElem?_set_self (by simpa using hj)]
      rfl
    · show ((List.replicate n (0 : Int)).set 0 1)[j]? = _
      rw [List.getElem?_set_ne (by omega), List.getElem?_replicate, if_pos hj, if_neg h0]
      rfl
  · rw [List.getElem?_eq_none (by simp; omega), List.getElem?_eq_none (by simp [cntL]; omega)]
end

/-! ### Trees -/
def nexts (x : List DKnot) : List Int := x.flatMap fun k => k.2.2.1
theorem nexts_more {x : List DKnot} {z : Nat} {a : DKnot} (ha : x[Int.toNat ((z : Nat) : Int)]? = some a) : nexts (x.take (z + 1)) = nexts (x.take z) ++ a.2.2.1 := by
  rw [take_more ha, nexts, nexts, List.flatMap_append]; simp
theorem nexts_len {x : List DKnot} {B : Nat} (h : ∀ k ∈ x, k.2.2.1.length ≤ B) : ∀ z, (nexts (x.take z)).length ≤ z * B
  | 0 => by rw [List.take_zero, Nat.zero_mul]; exact Nat.le_refl 0
  | z + 1 => by
    have ih := nexts_len h z
    rw [Nat.succ_mul]
    rcases Nat.lt_or_ge z x.length with hz | hz
    · obtain ⟨a, ha⟩ := getI (x := x) hz
      rw [nexts_more ha, List.length_append]
      have := h a (mem_getI ha)
      omega
    · rw [List.take_of_length_le (by omega)] at ih ⊢
      omega
theorem nexts_lenK {x : List DKnot} (h : okKS x) {z : Nat} (hz : z ≤ 120) : (nexts (x.take z)).length ≤ 131941395333120 := by
  have h1 := nexts_len (fun k hk => (h.2 k hk).2.1) z
  have h2 : z * 1099511627776 ≤ 120 * 1099511627776 := Nat.mul_le_mul_right _ hz
  omega
def knotI (x : List DKnot) (i : Nat) : Prop := ∃ k, x[i]? = some k ∧ knotOK k i x.length
def treeOK (x : List DKnot) : Prop := 1 ≤ x.length ∧ x.length ≤ 120 ∧ (∀ i, i < x.length → knotI x i) ∧ ∀ j : Nat, 0 < j → j < x.length → (nexts x).count ((j : Nat) : Int) = 1
theorem knotI_iff {x : List DKnot} {z : Nat} {a : DKnot} (ha : x[Int.toNat ((z : Nat) : Int)]? = some a) : knotI x z ↔ knotOK a z x.length := by
  rw [toN] at ha
  unfold knotI
  constructor
  · rintro ⟨k, h1, h2⟩
    rw [ha] at h1; obtain rfl := Option.some.inj h1
    exact h2
  · exact fun h => ⟨a, ha, h⟩
theorem nexts_pos {x : List DKnot} (h : ∀ i, i < x.length → knotI x i) : (nexts x).count 0 = 0 := by
  rw [List.count_eq_zero]
  intro hm
  rw [nexts, List.mem_flatMap] at hm
  obtain ⟨k, hk, h0⟩ := hm
  obtain ⟨i, hi, rfl⟩ := List.getElem_of_mem hk
  obtain ⟨k', h1, h2⟩ := h i hi
  rw [List.getElem?_eq_getElem hi] at h1
  obtain rfl := Option.some.inj h1
  rcases h2 with ⟨_, h3⟩ | ⟨_, h3⟩
  · rw [List.eq_nil_of_length_eq_zero h3.2.2] at h0; cases h0
  · obtain ⟨j, hj, hj0⟩ := List.getElem_of_mem h0
    obtain ⟨v, n, g1, g2, _, _, g3, _⟩ := h3.2 j (by have := h3.1.2.2.2.2; omega)
    rw [List.getElem?_eq_getElem hj] at g2
    have := Option.some.inj g2
    omega
/-- What the counts say. -/
theorem counts_iff {x : List DKnot} (h : ∀ i, i < x.length → knotI x i) (i : Nat) (hi : i < x.length) (b : Int) : (cntL b x.length (nexts x))[i]? = some ((if i = 0 then b else ((nexts x).count ((i : Nat) : Int) : Int))) := by
  have := cntL_get (b := b) (l := nexts x) (a := (i : Int)) (n := x.length) (by omega)
  simp only [Int.toNat_natCast] at this
  rw [this]
  congr 1
  by_cases h0 : i = 0
  · subst h0; rw [if_pos rfl, if_pos rfl, show ((0 : Nat) : Int) = 0 from rfl, nexts_pos h]; simp
  · rw [if_neg h0, if_neg h0]; simp

/-! ### What the walks ask -/
theorem leaf_no {k : DKnot} {z : Nat} (hz : z < k.2.2.2.length) (h : ¬ leafI k.2.2.2 z) : false = tt (leafOK k) := tt_no fun h' => h (h'.1 z hz)
theorem leaf_end {k : DKnot} {z : Nat} (h : ∀ i, i < z → leafI k.2.2.2 i) (hz : k.2.2.2.length ≤ z) : (((k.2.1.length : Nat) : Int) == 0 && ((k.2.2.1.length : Nat) : Int) == 0) = tt (leafOK k) := by
  refine tt_eq ?_
  simp only [Bool.and_eq_true, beq_iff_eq, leafOK]
  exact ⟨fun h' => ⟨all_end h hz, by omega, by omega⟩, fun h' => by omega⟩
theorem knot_leaf {k : DKnot} {p m : Int} (h : k.1 = -1) : knotOK k p m ↔ leafOK k := ⟨fun h' => h'.elim (fun g => g.2) (fun g => absurd h g.1), fun h' => .inl ⟨h, h'⟩⟩
theorem knot_ask {k : DKnot} {p m : Int} (h : k.1 ≠ -1) : knotOK k p m ↔ askOK k p m := ⟨fun h' => h'.elim (fun g => absurd g.1 h) (fun g => g.2), fun h' => .inr ⟨h, h'⟩⟩
theorem knot_next {k : DKnot} {p m n : Int} {z : Nat} (h : knotOK k p m) (hn : k.2.2.1[Int.toNat ((z : Nat) : Int)]? = some n) : p < n ∧ n < m := by
  rw [toN] at hn
  rcases h with ⟨_, h⟩ | ⟨_, h⟩
  · rw [List.eq_nil_of_length_eq_zero h.2.2] at hn; cases hn
  · have hz := (List.getElem?_eq_some_iff.1 hn).1
    obtain ⟨v, n', g1, g2, _, _, g3, g4⟩ := h.2 z (by have := h.1.2.2.2.2; omega)
    rw [hn] at g2
    obtain rfl := Option.some.inj g2
    exact ⟨g3, g4⟩
section
variable {x : List DKnot} {z : Nat} {a : DKnot}
theorem tree_no (ha : x[Int.toNat ((z : Nat) : Int)]? = some a) (hz : z < x.length) (h : ¬ knotOK a z x.length) : false = tt (treeOK x) := tt_no fun h' => h ((knotI_iff ha).1 (h'.2.2.1 z hz))
theorem tree_len (h : ¬ (1 ≤ x.length ∧ x.length ≤ 120)) : false = tt (treeOK x) := tt_no fun h' => h ⟨h'.1, h'.2.1⟩
theorem cnt_leaf {b : Int} (ha : x[Int.toNat ((z : Nat) : Int)]? = some a) (h : leafOK a) : cntL b x.length (nexts (x.take z)) = cntL b x.length (nexts (x.take (z + 1))) := by
  rw [nexts_more ha, List.eq_nil_of_length_eq_zero h.2.2, List.append_nil]
theorem cnt_ask {b : Int} {p m : Int} (ha : x[Int.toNat ((z : Nat) : Int)]? = some a) (h : askOK a p m) : cntL b x.length (nexts (x.take z) ++ a.2.2.1.take (askN a p m)) = cntL b x.length (nexts (x.take (z + 1))) := by
  rw [nexts_more ha, askN_all h.1 h.2 (Nat.le_refl _), List.take_of_length_le (l := a.2.2.1) (by have := h.1.2.2.2.2; omega)]
theorem cnt_all {b : Int} {y : Nat} (ha : x[Int.toNat ((z : Nat) : Int)]? = some a) (h : a.2.2.1.length ≤ y) : cntL b x.length (nexts (x.take z) ++ a.2.2.1.take y) = cntL b x.length (nexts (x.take (z + 1))) := by
  rw [nexts_more ha, List.take_of_length_le h]
theorem cnt_next {b n v : Int} {m : Nat} {l c : List Int} {y : Nat} (hn : c[Int.toNat ((y : Nat) : Int)]? = some n) (h : 0 ≤ n ∧ n < m) (hv : (cntL b m (l ++ c.take y))[Int.toNat n]? = some v) : (cntL b m (l ++ c.take y)).set (Int.toNat n) (v + 1) = cntL b m (l ++ c.take (y + 1)) := by
  rw [cntL_step h hv, take_more hn, List.append_assoc]
theorem tree_count (h : ∀ i, i < x.length → knotI x i) {j : Nat} {v : Int} (hj : j < x.length) (hv : (cntL 1 x.length (nexts x))[Int.toNat ((j : Nat) : Int)]? = some v) (h1 : v ≠ 1) : false = tt (treeOK x) := by
  refine tt_no fun h' => ?_
  rw [toN, counts_iff h j hj] at hv
  have := Option.some.inj hv
  split at this
  · omega
  · have := h'.2.2.2 j (by omega) hj
    omega
theorem tree_yes (hl : 1 ≤ x.length ∧ x.length ≤ 120) (h : ∀ i, i < x.length → knotI x i) (hc : ∀ i, i < x.length → (cntL 1 x.length (nexts x))[i]? = some 1) : true = tt (treeOK x) := by
  refine tt_yes ⟨hl.1, hl.2, h, fun j h0 hj => ?_⟩
  have := hc j hj
  rw [counts_iff h j hj, if_neg (by omega)] at this
  have := Option.some.inj this
  omega
def all1 (x : List Int) : Prop := ∀ i, i < x.length → x[i]? = some 1
noncomputable def idx1 (x : List Int) : Int := if pre (fun i => x[i]? = some 1) x.length = x.length then -1 else (pre (fun i => x[i]? = some 1) x.length : Int)
theorem idx1_at {x : List Int} {z : Nat} {v : Int} (h : ∀ i, i < z → x[i]? = some 1) (hv : x[Int.toNat ((z : Nat) : Int)]? = some v) (h1 : v ≠ 1) : (z : Int) = idx1 x := by
  rw [toN] at hv
  have hz := (List.getElem?_eq_some_iff.1 hv).1
  have := pre_at (p := fun i => x[i]? = some 1) h (fun e => h1 (by rw [hv] at e; exact Option.some.inj e)) hz
  rw [idx1, this, if_neg (by omega)]
theorem idx1_end {x : List Int} {z : Nat} (h : ∀ i, i < z → x[i]? = some 1) (hz : x.length ≤ z) : -1 = idx1 x := by
  rw [idx1, pre_all (all_end h hz), if_pos rfl]
theorem idx1_iff (x : List Int) : decide (idx1 x ≥ 0) = tt (¬ all1 x) := by
  refine tt_eq ?_
  rw [decide_eq_true_iff]
  constructor
  · intro h h'
    rw [idx1, pre_all h', if_pos rfl] at h
    omega
  · intro h
    unfold idx1
    split
    · rename_i e
      exfalso
      refine h fun i hi => ?_
      apply Classical.byContradiction
      intro hne
      -- the first that isn't one
      have hle : ∀ n, pre (fun i => x[i]? = some 1) n ≤ n := fun n => by
        induction n with
        | zero => exact Nat.le_refl 0
        | succ n ih => unfold pre; split <;> omega
      have hall : ∀ n, pre (fun i => x[i]? = some 1) n = n → ∀ i, i < n → x[i]? = some 1 := fun n => by
        cases n with
        | zero => exact fun _ => all_none
        | succ n =>
          intro e i hi
          unfold pre at e
          split at e
          · rename_i h1; exact h1 i hi
          · have := hle n; omega
      exact hne (hall _ e i hi)
    · omega
theorem tree_end (hl : 1 ≤ x.length ∧ x.length ≤ 120) (h : ∀ i, i < z → knotI x i) (hz : x.length ≤ z) : (!(tt (¬ all1 ((cntL 0 x.length (nexts (x.take z))).drop (Int.toNat 1))))) = tt (treeOK x) := by
  refine tt_eq ?_
  rw [Bool.not_eq_true', tt_false, Classical.not_not, List.take_of_length_le hz]
  have h' := all_end h hz
  unfold all1
  rw [List.length_drop, cntL_len]
  show (∀ i, i < x.length - 1 → ((cntL 0 x.length (nexts x)).drop 1)[i]? = some 1) ↔ _
  constructor
  · intro g
    refine ⟨hl.1, hl.2, h', fun j h0 hj => ?_⟩
    have := g (j - 1) (by omega)
    rw [List.getElem?_drop, show 1 + (j - 1) = j by omega, counts_iff h' j hj, if_neg (by omega)] at this
    have := Option.some.inj this
    omega
  · intro g i hi
    rw [List.getElem?_drop, counts_iff h' (1 + i) (by omega), if_neg (by omega), g.2.2.2 (1 + i) (by omega) (by omega)]
    rfl
end
end Go.Proofs.YtfnkphllkbkfaaaDoor.VL
/- Proved here: budgets of lists, names, cards and decks. Plain Lean, no program. -/
set_option linter.unusedVariables false
set_option linter.unusedSimpArgs false
namespace Go.Proofs.YtfnkphllkbkfaaaDoor.VL
open Go
/-! ### Budgets -/
section
variable {α : Type} {f : α → Int → Int} {q : α → Prop} {x : List α} {l : Int} {p : Nat × Int} {a : α}
end
/-! ### Names -/
abbrev DMask := BitVec 64 × BitVec 64
abbrev DCard := ByteArray × DMask
/-! ### Hashes -/
end Go.Proofs.YtfnkphllkbkfaaaDoor.VL
/- Proved here: places in lists, and decks. Plain Lean, no program. -/
set_option linter.unusedVariables false
set_option linter.unusedSimpArgs false
namespace Go.Proofs.YtfnkphllkbkfaaaDoor.VL
open Go
/-! ### Places -/
section
variable {α : Type} {q : α → Bool} {x : List α} {z : Nat} {a : α}
/-- The first one that fits, or -1. -/
def idxQ (q : α → Bool) (x : List α) : Int := if x.findIdx q < x.length then (x.findIdx q : Int) else -1
end
/-! ### Decks -/
/-! ### A deck within another -/
/-- The card of the same name. -/
noncomputable def findC (s : ByteArray) (y : List DCard) : Int := idxQ (fun b => eqv b.1 s) y
def wiI (x y : List DCard) (i : Nat) : Prop := ∃ a, x[i]? = some a ∧ 0 ≤ findC a.1 y ∧ y[Int.toNat (findC a.1 y)]? = some a
def within (x y : List DCard) : Prop := ∀ i, i < x.length → wiI x y i
/-! ### Checks -/
end Go.Proofs.YtfnkphllkbkfaaaDoor.VL
/- Proved here: holes of masks, answers and their first fault. Plain Lean, no program. -/
set_option linter.unusedVariables false
set_option linter.unusedSimpArgs false
namespace Go.Proofs.YtfnkphllkbkfaaaDoor.VL
open Go
/-! ### Masks -/
abbrev DQuery := DMask × DMask
/-! ### The first fault of an answer -/
section
variable {α : Type} {f : α → Int} {n : Int} {l : List α} {z : Nat} {a b : α}
end
abbrev DAns' := DQuery × List Int × List (Int × Int)
section
variable {x : List DCard} {v : DAns'} {z : Nat}
end
section
variable {x : List DCard} {v : DAns'} {z : Nat}
end
section
variable {x : List DCard} {v : DAns'}
end
end Go.Proofs.YtfnkphllkbkfaaaDoor.VL
/- Proved here: lists of words, lots, and how many false drops are expected of them. Plain Lean, no program. -/
set_option linter.unusedVariables false
set_option linter.unusedSimpArgs false
namespace Go.Proofs.YtfnkphllkbkfaaaDoor.VL
open Go
section
variable {α : Type} {q : α → Prop} {x : List α} {z : Nat} {a : α}
end
/-! ### Expected false drops -/
section
variable {mx : Int × Int × Int} {x : List (List ByteArray)} {m : Int}
end
end Go.Proofs.YtfnkphllkbkfaaaDoor.VL
/- Proved here: fields and schemes, and tables of cards. Plain Lean, no program. -/
set_option linter.unusedVariables false
set_option linter.unusedSimpArgs false
namespace Go.Proofs.YtfnkphllkbkfaaaDoor.VL
open Go
/-! ### Masks that are made -/
/-! ### Fields -/
abbrev DField := ByteArray × Int × Int × Int
section
variable {f : DField} {M : Int}
end
/-! ### Schemes -/
section
variable {x : List DField} {z : Nat} {f : DField}
end
/-! ### Tables -/
section
variable {s : List DField} {x : List DCard} {l : List Int}
end
/-! ### Counting cards -/
section
variable {α : Type} {q : α → Bool} {x : List α} {z : Nat} {a : α}
end
section
variable {x : List DCard} {a b : Int}
end
end Go.Proofs.YtfnkphllkbkfaaaDoor.VL
/- Proved here: masks bit by bit, and what holes have how many cards. Plain Lean, no program. -/
set_option linter.unusedVariables false
set_option linter.unusedSimpArgs false
namespace Go.Proofs.YtfnkphllkbkfaaaDoor.VL
open Go
/-! ### Bits -/
/-! ### How many cards a hole has -/
end Go.Proofs.YtfnkphllkbkfaaaDoor.VL
/- Proved here: lists of holes, marks that are written into rows, and the text of a mark. Plain Lean, no program. -/
set_option linter.unusedVariables false
set_option linter.unusedSimpArgs false
namespace Go.Proofs.YtfnkphllkbkfaaaDoor.VL
open Go
/-! ### Holes -/
/-! ### Marks -/
/-! ### The text of a mark -/
theorem tmod10 (n : Nat) : 0 ≤ (n : Int).tmod 10 ∧ (n : Int).tmod 10 < 10 := by
  rw [Int.tmod_eq_emod_of_nonneg (by omega)]; omega
theorem tdiv10 (n : Nat) : (n : Int).tdiv 10 = ((n / 10 : Nat) : Int) := by
  rw [Int.tdiv_eq_ediv_of_nonneg (by omega)]; omega
end Go.Proofs.YtfnkphllkbkfaaaDoor.VL
/- Proved here: marks of rows of cards, edits, texts and witnesses. Plain Lean, no program. -/
set_option linter.unusedVariables false
set_option linter.unusedSimpArgs false
namespace Go.Proofs.YtfnkphllkbkfaaaDoor.VL
open Go
section
variable {α : Type} {f : Int → α} {w k : Int} {x : List α} {z n : Nat} {a : α}
end
/-! ### Limbs -/
/-! ### What is written -/
end Go.Proofs.YtfnkphllkbkfaaaDoor.VL
/- Proved here: the nearest cards. Plain Lean, no program. -/
set_option linter.unusedVariables false
set_option linter.unusedSimpArgs false
namespace Go.Proofs.YtfnkphllkbkfaaaDoor.VL
open Go
section
variable {m : DMask} {x : List DCard} {z : Nat} {c : DCard}
end
end Go.Proofs.YtfnkphllkbkfaaaDoor.VL
/- Proved here: cards with equal notches, and marks in rows of rows. Plain Lean, no program. -/
set_option linter.unusedVariables false
set_option linter.unusedSimpArgs false
namespace Go.Proofs.YtfnkphllkbkfaaaDoor.VL
open Go
section
variable {x : List DCard} {m : DMask} {y z : Nat} {c : DCard}
end
/-! ### Marks in rows of rows -/
section
variable {x : List (List Int)} {a : List Int} {z : Nat} {k : Int}
end
end Go.Proofs.YtfnkphllkbkfaaaDoor.VL
/- Proved here: how deep the knots of a tree lie, the deepest, and the mean. Plain Lean, no program. -/
set_option linter.unusedVariables false
set_option linter.unusedSimpArgs false
namespace Go.Proofs.YtfnkphllkbkfaaaDoor.VL
open Go
/-! ### Depths -/
section
variable {x : List DKnot} {z y : Nat} {a : DKnot}
end
/-! ### The greatest -/
/-! ### The mean -/
section
variable {x : List DKnot} {z : Nat} {a : DKnot} {d : List Int} {v : Int}
end
def shr (p q : Int) : Int × Int := (p.tdiv ((Int.gcd p q : Nat) : Int), q.tdiv ((Int.gcd p q : Nat) : Int))
end Go.Proofs.YtfnkphllkbkfaaaDoor.VL
/- Proved here: marks in knots, and ways through trees. Plain Lean, no program. -/
set_option linter.unusedVariables false
set_option linter.unusedSimpArgs false
namespace Go.Proofs.YtfnkphllkbkfaaaDoor.VL
open Go
/-! ### A way through a tree -/
section
variable {x : List DKnot} {q : List Int} {f i : Nat} {st v n : Int} {k : DKnot}
end
section
variable {x : List DKnot} {q : List Int} {k : DKnot}
end
end Go.Proofs.YtfnkphllkbkfaaaDoor.VL
/- Proved here: the codes of values in fields, and what value a mask keeps. Plain Lean, no program. -/
set_option linter.unusedVariables false
set_option linter.unusedSimpArgs false
namespace Go.Proofs.YtfnkphllkbkfaaaDoor.VL
open Go
/-! ### Powers -/
/-! ### Notches -/
/-! ### Digits -/
/-! ### Codes -/
section
variable {f : DField} {m : DMask} {z : Nat}
end
end Go.Proofs.YtfnkphllkbkfaaaDoor.VL
/- Proved here: edits of decks. Plain Lean, no program. -/
set_option linter.unusedVariables false
set_option linter.unusedSimpArgs false
namespace Go.Proofs.YtfnkphllkbkfaaaDoor.VL
open Go
abbrev DEdit := Int × ByteArray × Int × DMask
section
variable {e : DEdit}
end
section
variable {x : List DCard} {e : DEdit} {a : DCard}
end
section
variable {c : BitVec 64} {x : List DCard} {e : DEdit}
end
end Go.Proofs.YtfnkphllkbkfaaaDoor.VL
/- Proved here: rows of edits, and decks that are merged. Plain Lean, no program. -/
set_option linter.unusedVariables false
set_option linter.unusedSimpArgs false
namespace Go.Proofs.YtfnkphllkbkfaaaDoor.VL
open Go
/-! ### All of a row -/
section
variable {α : Type} {q : α → Bool} {x : List α} {z : Nat} {a : α}
end
/-! ### Undoing -/
section
variable {l : List DEdit} {z : Nat} {e : DEdit}
end
/-! ### One edit behind another -/
section
variable {x y : List DCard} {l : List DEdit}
end
/-! ### Edits between decks -/
section
variable {a b : List DCard}
end
/-! ### Names of several decks -/
/-! ### States -/
section
variable {base a b : List DCard}
end
section
variable {base a b : List DCard} {s : ByteArray}
end
end Go.Proofs.YtfnkphllkbkfaaaDoor.VL
/- Proved here: numbers and edits in text. Plain Lean, no program. -/
set_option linter.unusedVariables false
set_option linter.unusedSimpArgs false
namespace Go.Proofs.YtfnkphllkbkfaaaDoor.VL
open Go
def bsp : ByteArray := ⟨#[32]⟩
def bnl : ByteArray := ⟨#[10]⟩
/-- A number's decimal text. -/
def decB (n : Nat) : ByteArray := if h : n < 10 then bOf [48 + (n : Int).tmod 10] else decB (n / 10) ++ bOf [48 + (n : Int).tmod 10]
termination_by n
decreasing_by omega
theorem decB_lt {n : Nat} (h : n < 10) : bOf [48 + (n : Int).tmod 10] = decB n := by rw [decB, dif_pos h]
theorem decB_ge {n : Nat} (h : ¬ n < 10) : decB (n / 10) ++ bOf [48 + (n : Int).tmod 10] = decB n := by rw [decB.eq_1 n, dif_neg h]
theorem bsz (d : Array UInt8) : ByteArray.size ⟨d⟩ = d.size := rfl
theorem decB_le : ∀ n : Nat, (decB n).size ≤ n + 1 := by
  intro n
  induction n using Nat.strongRecOn with
  | _ n ih =>
    rw [decB]
    split
    · rw [bOf_size]; simp
    · have := ih (n / 10) (by omega)
      rw [ByteArray.size_append, bOf_size]; simp only [List.length_cons, List.length_nil]; omega
theorem bOf_one' (a : Int) : (bOf [a]).size = 1 := bOf_size _
theorem foldl_more {α β : Type} {f : β → α → β} {b : β} {x : List α} {z : Nat} {a : α} (ha : x[Int.toNat ((z : Nat) : Int)]? = some a) : f ((x.take z).foldl f b) a = (x.take (z + 1)).foldl f b := by
  rw [take_more ha, List.foldl_append]; rfl
/-! ### A card's text -/
/-! ### Edits -/
end Go.Proofs.YtfnkphllkbkfaaaDoor.VL
