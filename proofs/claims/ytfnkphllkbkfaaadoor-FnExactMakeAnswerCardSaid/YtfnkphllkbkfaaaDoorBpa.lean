/- Proved here: how many bits of a word are set: by the words' own sums, and by halving. Plain Lean, no program. -/
import Derived.Test.YtfnkphllkbkfaaaDoorBvb
set_option linter.unusedVariables false
namespace Go.Proofs.YtfnkphllkbkfaaaDoor.VL
open Go
def dsum (B : Nat) : Nat → Nat → Nat
  | 0, _ => 0
  | n + 1, x => x % B + dsum B n (x / B)
/-- All digits are at most c. -/
def dle (B c : Nat) : Nat → Nat → Prop
  | 0, x => x = 0
  | n + 1, x => x % B ≤ c ∧ dle B c n (x / B)
theorem last {z : Nat} (h : dle 256 8 8 z) : (z + z / 256 + (z + z / 256) / 65536 + (z + z / 256 + (z + z / 256) / 65536) / 4294967296) % 128 = dsum 256 8 z := by
  simp only [dle, Nat.div_div_eq_div_mul] at h
  obtain ⟨h0, h1, h2, h3, h4, h5, h6, h7, h8⟩ := h
  simp only [dsum, Nat.div_div_eq_div_mul]
  simp only [Nat.reduceMul] at *
  obtain ⟨a0, e0⟩ : ∃ d, d = z % 256 := ⟨_, rfl⟩
  obtain ⟨a1, e1⟩ : ∃ d, d = z / 256 % 256 := ⟨_, rfl⟩
  obtain ⟨a2, e2⟩ : ∃ d, d = z / 65536 % 256 := ⟨_, rfl⟩
  obtain ⟨a3, e3⟩ : ∃ d, d = z / 16777216 % 256 := ⟨_, rfl⟩
  obtain ⟨a4, e4⟩ : ∃ d, d = z / 4294967296 % 256 := ⟨_, rfl⟩
  obtain ⟨a5, e5⟩ : ∃ d, d = z / 1099511627776 % 256 := ⟨_, rfl⟩
  obtain ⟨a6, e6⟩ : ∃ d, d = z / 281474976710656 % 256 := ⟨_, rfl⟩
  obtain ⟨a7, e7⟩ : ∃ d, d = z / 72057594037927936 % 256 := ⟨_, rfl⟩
  rw [← e0] at h0 ⊢
  rw [← e1] at h1 ⊢
  rw [← e2] at h2 ⊢
  rw [← e3] at h3 ⊢
  rw [← e4] at h4 ⊢
  rw [← e5] at h5 ⊢
  rw [← e6] at h6 ⊢
  rw [← e7] at h7 ⊢
  have hz : z = a0 + 256 * a1 + 65536 * a2 + 16777216 * a3 + 4294967296 * a4 + 1099511627776 * a5 + 281474976710656 * a6 + 72057594037927936 * a7 := by omega
  clear e0 e1 e2 e3 e4 e5 e6 e7 h8
  subst hz
  have f1 : (a0 + 256 * a1 + 65536 * a2 + 16777216 * a3 + 4294967296 * a4 + 1099511627776 * a5 + 281474976710656 * a6 + 72057594037927936 * a7) / 256 = a1 + 256 * a2 + 65536 * a3 + 16777216 * a4 + 4294967296 * a5 + 1099511627776 * a6 + 281474976710656 * a7 := by omega
  rw [f1]
  have f2 : (a0 + 256 * a1 + 65536 * a2 + 16777216 * a3 + 4294967296 * a4 + 1099511627776 * a5 + 281474976710656 * a6 + 72057594037927936 * a7 + (a1 + 256 * a2 + 65536 * a3 + 16777216 * a4 + 4294967296 * a5 + 1099511627776 * a6 + 281474976710656 * a7)) / 65536 = (a2 + a3) + 256 * (a3 + a4) + 65536 * (a4 + a5) + 16777216 * (a5 + a6) + 4294967296 * (a6 + a7) + 1099511627776 * a7 := by omega
  rw [f2]
  have f3 : (a0 + 256 * a1 + 65536 * a2 + 16777216 * a3 + 4294967296 * a4 + 1099511627776 * a5 + 281474976710656 * a6 + 72057594037927936 * a7 + (a1 + 256 * a2 + 65536 * a3 + 16777216 * a4 + 4294967296 * a5 + 1099511627776 * a6 + 281474976710656 * a7) + ((a2 + a3) + 256 * (a3 + a4) + 65536 * (a4 + a5) + 16777216 * (a5 + a6) + 4294967296 * (a6 + a7) + 1099511627776 * a7)) / 4294967296 = (a4 + a5 + a6 + a7) + 256 * (a5 + a6 + a7) + 65536 * (a6 + a7) + 16777216 * a7 := by clear f1 f2; omega
  rw [f3]
  clear f1 f2 f3
  omega

end Go.Proofs.YtfnkphllkbkfaaaDoor.VL
/- Proved here: what the functions of the first texts compute, in plain Lean: no program. -/
set_option linter.unusedVariables false
set_option linter.unusedSimpArgs false
namespace Go.Proofs.YtfnkphllkbkfaaaDoor.VL
open Go
abbrev kMask : Kd (BitVec 64 × BitVec 64) := Kd.pair Kd.u64 Kd.u64
abbrev kWit : Kd (Int × Int) := Kd.pair (Kd.int .i64) (Kd.int .i16)
abbrev kQuery : Kd ((BitVec 64 × BitVec 64) × (BitVec 64 × BitVec 64)) := Kd.pair kMask kMask
abbrev kAns : Kd (((BitVec 64 × BitVec 64) × (BitVec 64 × BitVec 64)) × List Int × List (Int × Int)) := Kd.pair kQuery (Kd.pair (Kd.slice (Kd.int .i64)) (Kd.slice kWit))
abbrev kCard : Kd (ByteArray × BitVec 64 × BitVec 64) := Kd.pair Kd.str kMask
def toM (x : BitVec 64 × BitVec 64) (z : Nat) : BitVec 64 × BitVec 64 := (if 0 < z then x.1 else 0#64, if 1 < z then x.2 else 0#64)
theorem toM_step (x : BitVec 64 × BitVec 64) {z : Nat} (h : z < 2) : (if Int.toNat (z : Int) = 0 then (if Int.toNat (z : Int) = 0 then x.1 else x.2, (toM x z).2) else ((toM x z).1, if Int.toNat (z : Int) = 0 then x.1 else x.2)) = toM x (z + 1) := by
  rcases (by omega : z = 0 ∨ z = 1) with rfl | rfl <;> rfl
def okM (x : BitVec 64 × BitVec 64) : Bool := x.2 >>> 32 == 0#64
def lessM (x y : BitVec 64 × BitVec 64) : BitVec 64 × BitVec 64 := (x.1 &&& ~~~y.1, x.2 &&& ~~~y.2)
def inb (x lo hi : Int) : Bool := decide (x ≥ lo) && decide (x ≤ hi)
/-! ### Shares -/
end Go.Proofs.YtfnkphllkbkfaaaDoor.VL
/- Proved here: equality of lists place by place, and copies of lists place by place. Plain Lean, no program. -/
set_option linter.unusedVariables false
set_option linter.unusedSimpArgs false
namespace Go.Proofs.YtfnkphllkbkfaaaDoor.VL
open Go
section
variable {α : Type} {x y : List α} {z : Nat} {a b : α}
theorem getI (h : z < x.length) : ∃ a, x[Int.toNat ((z : Nat) : Int)]? = some a := ⟨x[z], by simp [h]⟩
theorem toN (z : Nat) : Int.toNat ((z : Nat) : Int) = z := rfl
theorem take_more (ha : x[Int.toNat ((z : Nat) : Int)]? = some a) : x.take (z + 1) = x.take z ++ [a] := by
  rw [toN] at ha
  rw [List.take_add_one, ha]; rfl
theorem eqs_step (h : x.take z = y.take z) (ha : x[Int.toNat ((z : Nat) : Int)]? = some a) (hb : y[Int.toNat ((z : Nat) : Int)]? = some b) (e : a = b) : x.take (z + 1) = y.take (z + 1) := by
  rw [take_more ha, take_more hb, h, e]
theorem eqs_ne (ha : x[Int.toNat ((z : Nat) : Int)]? = some a) (hb : y[Int.toNat ((z : Nat) : Int)]? = some b) (e : a ≠ b) : false = eqv x y := by
  refine (eqv_ne ?_).symm
  rintro rfl
  rw [ha] at hb
  exact e (Option.some.inj hb)
theorem eqs_len (h : x.length ≠ y.length) : false = eqv x y := (eqv_ne (fun e => h (by rw [e]))).symm
theorem eqs_all (h : x.take z = y.take z) (hz : x.length ≤ z) (hl : x.length = y.length) : true = eqv x y := by
  rw [List.take_of_length_le hz, List.take_of_length_le (by omega)] at h
  rw [h, eqv_self]
/-- A copy, as far as it has come. -/
def cpy (x : List α) (z : Nat) (d : α) : List α := x.take z ++ List.replicate (x.length - z) d
theorem cpy_get {d : α} (h : z < x.length) : (cpy x z d)[Int.toNat ((z : Nat) : Int)]? = some d := by
  rw [toN, cpy, List.getElem?_append_right (by simp; omega), List.length_take, Nat.min_eq_left (by omega), Nat.sub_self, List.getElem?_replicate, if_pos (by omega)]
theorem cpy_step {d : α} (ha : x[Int.toNat ((z : Nat) : Int)]? = some a) : (cpy x z d).set (Int.toNat ((z : Nat) : Int)) a = cpy x (z + 1) d := by
  have hz : z < x.length := by
    rw [toN] at ha
    exact (List.getElem?_eq_some_iff.1 ha).1
  rw [cpy, cpy, take_more ha, toN, List.set_append_right _ _ (by simp; omega), List.length_take, Nat.min_eq_left (by omega), Nat.sub_self]
  have : x.length - z = (x.length - (z + 1)) + 1 := by omega
  rw [this, List.replicate_succ, List.set_cons_zero, List.append_assoc]
  rfl
theorem cpy_end {d : α} (hz : x.length ≤ z) : cpy x z d = x := by
  rw [cpy, List.take_of_length_le hz, show x.length - z = 0 by omega]
  simp
end
/-! ### Masks -/
section
variable {x y : BitVec 64 × BitVec 64} {z : Nat}
theorem eqM_step (hI : z ≤ 2 ∧ (0 < z → x.1 = y.1) ∧ (1 < z → x.2 = y.2)) (hz : z < 2) (h : (if Int.toNat (z : Int) = 0 then x.1 else x.2) = (if Int.toNat (z : Int) = 0 then y.1 else y.2)) : z + 1 ≤ 2 ∧ (0 < z + 1 → x.1 = y.1) ∧ (1 < z + 1 → x.2 = y.2) := by
  rcases (by omega : z = 0 ∨ z = 1) with rfl | rfl
  · exact ⟨by omega, fun _ => by simpa using h, fun h => by omega⟩
  · exact ⟨by omega, fun _ => hI.2.1 (by omega), fun _ => by simpa using h⟩
theorem eqM_zero (x y : BitVec 64 × BitVec 64) : 0 ≤ 2 ∧ (0 < 0 → x.1 = y.1) ∧ (1 < 0 → x.2 = y.2) := ⟨by omega, fun h => absurd h (by omega), fun h => absurd h (by omega)⟩
theorem eqM_ne (hz : z < 2) (h : (if Int.toNat (z : Int) = 0 then x.1 else x.2) ≠ (if Int.toNat (z : Int) = 0 then y.1 else y.2)) : false = eqv x y := by
  refine (eqv_ne ?_).symm
  rintro rfl
  exact h rfl
theorem eqM_all (hI : z ≤ 2 ∧ (0 < z → x.1 = y.1) ∧ (1 < z → x.2 = y.2)) (hz : ¬ z < 2) : true = eqv x y := by
  rw [show x = y from Prod.ext (hI.2.1 (by omega)) (hI.2.2 (by omega)), eqv_self]
end
/-! ### Answers -/
end Go.Proofs.YtfnkphllkbkfaaaDoor.VL
/- Proved here: budgets and equality of knots. Plain Lean, no program. -/
set_option linter.unusedVariables false
set_option linter.unusedSimpArgs false
namespace Go.Proofs.YtfnkphllkbkfaaaDoor.VL
open Go
abbrev DKnot := Int × List Int × List Int × List Int
section
variable {x : List DKnot} {l : Int} {p : Nat × Int} {a : DKnot}
theorem drop_getI {α : Type} {x : List α} {z : Nat} {a : α} (ha : x[Int.toNat ((z : Nat) : Int)]? = some a) : x.drop z = a :: x.drop (z + 1) := by
  rw [toN] at ha
  obtain ⟨h, rfl⟩ := List.getElem?_eq_some_iff.1 ha
  exact List.drop_eq_getElem_cons h
end
end Go.Proofs.YtfnkphllkbkfaaaDoor.VL
/- Proved here: valid trees: what is looked at knot by knot, and how often knots are named. Plain Lean, no program. -/
set_option linter.unusedVariables false
set_option linter.unusedSimpArgs false
namespace Go.Proofs.YtfnkphllkbkfaaaDoor.VL
open Go
/-- Is it so? -/
noncomputable def tt (p : Prop) : Bool := @decide p (Classical.propDecidable p)
theorem tt_iff {p : Prop} : tt p = true ↔ p := by unfold tt; exact @decide_eq_true_iff _ (Classical.propDecidable _)
theorem tt_false {p : Prop} : tt p = false ↔ ¬ p := by unfold tt; exact @decide_eq_false_iff_not _ (Classical.propDecidable _)
theorem tt_yes {p : Prop} (h : p) : true = tt p := (tt_iff.2 h).symm
theorem tt_no {p : Prop} (h : ¬ p) : false = tt p := (tt_false.2 h).symm
theorem tt_eq {p : Prop} {b : Bool} (h : b = true ↔ p) : b = tt p := by rw [Bool.eq_iff_iff, tt_iff]; exact h
section
variable {α : Type} {x : List α} {z : Nat} {a b : α}
end
theorem all_step {p : Nat → Prop} {z : Nat} (h : ∀ i, i < z → p i) (hz : p z) : ∀ i, i < z + 1 → p i := fun i hi => by
  rcases Nat.lt_or_ge i z with h1 | h1
  · exact h i h1
  · obtain rfl : i = z := by omega
    exact hz
theorem all_none {p : Nat → Prop} : ∀ i, i < 0 → p i := fun i hi => absurd hi (Nat.not_lt_zero i)
theorem all_end {p : Nat → Prop} {z n : Nat} (h : ∀ i, i < z → p i) (hz : n ≤ z) : ∀ i, i < n → p i := fun i hi => h i (by omega)

/-! ### Leaves -/
/-! ### Knots that ask -/
/-- How many are right at the beginning. -/
noncomputable def pre (p : Nat → Prop) : Nat → Nat
  | 0 => 0
  | n + 1 => @ite _ (∀ i, i < n + 1 → p i) (Classical.propDecidable _) (n + 1) (pre p n)
theorem pre_all {p : Nat → Prop} : ∀ {n : Nat}, (∀ i, i < n → p i) → pre p n = n
  | 0, _ => rfl
  | n + 1, h => by rw [pre, if_pos h]
theorem pre_at {p : Nat → Prop} {z : Nat} (h : ∀ i, i < z → p i) (hz : ¬ p z) : ∀ {n : Nat}, z < n → pre p n = z
  | n + 1, hn => by
    rw [pre, if_neg (fun h' => hz (h' z hn))]
    rcases Nat.lt_or_ge z n with h1 | h1
    · exact pre_at h hz h1
    · obtain rfl : z = n := by omega
      exact pre_all h
section
variable {k : DKnot} {p many : Int} {z : Nat}
end
/-! ### Counts -/
section
variable {b a v : Int} {n : Nat} {l : List Int}
end

/-! ### Trees -/
/-! ### What the walks ask -/
section
variable {x : List DKnot} {z : Nat} {a : DKnot}
end
end Go.Proofs.YtfnkphllkbkfaaaDoor.VL
/- Proved here: budgets of lists, names, cards and decks. Plain Lean, no program. -/
set_option linter.unusedVariables false
set_option linter.unusedSimpArgs false
namespace Go.Proofs.YtfnkphllkbkfaaaDoor.VL
open Go
/-! ### Budgets -/
def szs {α : Type} (f : α → Int → Int) : List α → Int → Int
  | [], l => l
  | k :: r, l => if f k l < 0 then -1 else szs f r (f k l)
def szSS {α : Type} (f : α → Int → Int) (x : List α) (l : Int) : Int := if l - x.length < 0 then -1 else szs f x (l - x.length)
/-- A budget that tells that the data is small. -/
def okSz {α : Type} (f : α → Int → Int) (p : α → Prop) : Prop := ∀ k l, 0 ≤ l ∧ l ≤ 1048576 → f k l ≤ 1048576 ∧ -1 ≤ f k l ∧ (0 ≤ f k l → p k)
section
variable {α : Type} {f : α → Int → Int} {q : α → Prop} {x : List α} {l : Int} {p : Nat × Int} {a : α}
theorem szs_in (hf : okSz f q) : ∀ (x : List α) {l : Int}, 0 ≤ l ∧ l ≤ 1048576 → szs f x l ≤ 1048576 ∧ -1 ≤ szs f x l ∧ (0 ≤ szs f x l → ∀ k ∈ x, q k)
  | [], l, hl => by unfold szs; exact ⟨by omega, by omega, fun _ k hk => by cases hk⟩
  | k :: r, l, hl => by
    unfold szs
    have h1 := hf k l hl
    split
    · exact ⟨by omega, by omega, fun h => absurd h (by omega)⟩
    · have h2 := szs_in hf r (l := f k l) (by omega)
      refine ⟨h2.1, h2.2.1, fun h k' hk => ?_⟩
      rcases List.mem_cons.1 hk with rfl | hk
      · exact h1.2.2 (by omega)
      · exact h2.2.2 h k' hk
theorem szSS_in (hf : okSz f q) (x : List α) {l : Int} (hl : 0 ≤ l ∧ l ≤ 1048576) : szSS f x l ≤ 1048576 ∧ -1 ≤ szSS f x l ∧ (0 ≤ szSS f x l → x.length ≤ 1048576 ∧ ∀ k ∈ x, q k) := by
  unfold szSS
  split
  · exact ⟨by omega, by omega, fun h => absurd h (by omega)⟩
  · have h := szs_in hf x (l := l - x.length) (by omega)
    exact ⟨h.1, h.2.1, fun h0 => ⟨by omega, h.2.2 h0⟩⟩
theorem okSz_list (hf : okSz f q) : okSz (szSS f) (fun x => x.length ≤ 1048576 ∧ ∀ k ∈ x, q k) := fun x l hl => szSS_in hf x hl
theorem szs_step (hf : okSz f q) (hI : p.1 ≤ x.length ∧ 0 ≤ p.2 ∧ p.2 ≤ 1048576 ∧ szs f (x.drop p.1) p.2 = szs f x (l - x.length)) (hz : p.1 < x.length) (ha : x[Int.toNat ((p.1 : Nat) : Int)]? = some a) (h : ¬ f a p.2 < 0) :
    p.1 + 1 ≤ x.length ∧ 0 ≤ f a p.2 ∧ f a p.2 ≤ 1048576 ∧ szs f (x.drop (p.1 + 1)) (f a p.2) = szs f x (l - x.length) := by
  refine ⟨by omega, by omega, (hf a p.2 ⟨hI.2.1, hI.2.2.1⟩).1, ?_⟩
  rw [← hI.2.2.2, drop_getI ha, szs, if_neg h]
theorem szs_ne (hl : ¬ l - x.length < 0) (hI : p.1 ≤ x.length ∧ 0 ≤ p.2 ∧ p.2 ≤ 1048576 ∧ szs f (x.drop p.1) p.2 = szs f x (l - x.length)) (ha : x[Int.toNat ((p.1 : Nat) : Int)]? = some a) (h : f a p.2 < 0) : -1 = szSS f x l := by
  rw [szSS, if_neg hl, ← hI.2.2.2, drop_getI ha, szs, if_pos h]
theorem szs_end (hl : ¬ l - x.length < 0) (hI : p.1 ≤ x.length ∧ 0 ≤ p.2 ∧ p.2 ≤ 1048576 ∧ szs f (x.drop p.1) p.2 = szs f x (l - x.length)) (hz : x.length ≤ p.1) : p.2 = szSS f x l := by
  rw [szSS, if_neg hl, ← hI.2.2.2, List.drop_of_length_le hz]
  rfl
end
def szB (s : ByteArray) (l : Int) : Int := if l - s.size < 0 then -1 else l - s.size
theorem szB_in : okSz szB (fun s => s.size ≤ 1048576) := fun s l hl => by unfold szB; split <;> omega

/-! ### Names -/
def lowI (s : ByteArray) (i : Nat) : Prop := ∃ b, s[i]? = some b ∧ 97 ≤ b.toNat ∧ b.toNat ≤ 122
def lowS (s : ByteArray) : Prop := ∀ i, i < s.size → lowI s i
def nameOK (s : ByteArray) : Prop := lowS s ∧ 1 ≤ s.size ∧ s.size ≤ 16
theorem byteI {s : ByteArray} {z : Nat} (h : z < s.size) : ∃ b, s[Int.toNat ((z : Nat) : Int)]? = some b := ⟨s[z], getElem?_pos s z h⟩
theorem byte_lt {s : ByteArray} {z : Nat} {b : UInt8} (h : s[z]? = some b) : z < s.size := by
  rcases Nat.lt_or_ge z s.size with h1 | h1
  · exact h1
  · rw [getElem?_neg s z (by omega)] at h; cases h
theorem lowI_iff {s : ByteArray} {z : Nat} {b : UInt8} (hb : s[Int.toNat ((z : Nat) : Int)]? = some b) : lowI s z ↔ (97 ≤ b.toNat ∧ b.toNat ≤ 122) := by
  rw [toN] at hb
  unfold lowI
  constructor
  · rintro ⟨b', h1, h2⟩
    rw [hb] at h1; obtain rfl := Option.some.inj h1
    exact h2
  · exact fun h => ⟨b, hb, h⟩
theorem name_no {s : ByteArray} {z : Nat} (hz : z < s.size) (h : ¬ lowI s z) : false = tt (nameOK s) := tt_no fun h' => h (h'.1 z hz)
theorem name_end {s : ByteArray} {z : Nat} (h : ∀ i, i < z → lowI s i) (hz : s.size ≤ z) : inb (s.size : Int) 1 16 = tt (nameOK s) := by
  refine tt_eq ?_
  simp only [inb, Bool.and_eq_true, decide_eq_true_eq, nameOK]
  exact ⟨fun h' => ⟨all_end h hz, by omega, by omega⟩, fun h' => by omega⟩
theorem byte_data {s : ByteArray} (i : Nat) : s[i]? = s.data[i]? := by
  rcases Nat.lt_or_ge i s.size with h | h
  · rw [getElem?_pos s i h, Array.getElem?_eq_getElem (by exact h)]; rfl
  · rw [getElem?_neg s i (by omega), Array.getElem?_eq_none (by exact h)]
theorem ext_get {s : ByteArray} {i j k : Nat} (h : i + k < j) (hj : j ≤ s.size) : (s.extract i j)[k]? = s[i + k]? := by
  rw [byte_data, byte_data, ByteArray.data_extract, Array.getElem?_extract]
  have : j ≤ s.data.size := hj
  rw [if_pos (by omega)]
theorem ext_size {s : ByteArray} {i j : Nat} (hj : j ≤ s.size) : (s.extract i j).size = j - i := by
  rw [ByteArray.size_extract]; omega
theorem ext_all (s : ByteArray) : s.extract 0 s.size = s := by
  apply ByteArray.ext
  rw [ByteArray.data_extract]
  exact Array.extract_size
theorem ext_ext {s : ByteArray} {a b c d : Nat} (hb : b ≤ s.size) (hd : a + d ≤ b) : (s.extract a b).extract c d = s.extract (a + c) (a + d) := by
  apply ByteArray.ext
  rw [ByteArray.data_extract, ByteArray.data_extract, ByteArray.data_extract, Array.extract_extract]
  congr 1
  omega
theorem size_zero {s : ByteArray} : s = ByteArray.empty ↔ s.size = 0 := by
  constructor
  · rintro rfl; rfl
  · intro h
    apply ByteArray.ext
    exact Array.eq_empty_of_size_eq_zero h
/-- The letters, as a table. -/
def lowT : List Bool := (List.range 256).map fun j => decide (97 ≤ j) && decide (j ≤ 122)
theorem lowT_iff (b : UInt8) : lowT.getD (Int.toNat (b.toNat : Int)) false = true ↔ 97 ≤ b.toNat ∧ b.toNat ≤ 122 := by
  have hb := b.toNat_lt
  rw [toN, lowT, List.getD_eq_getElem?_getD, List.getElem?_map, List.getElem?_range (by omega)]
  simp
def abc : ByteArray := ⟨#[97, 98, 99, 100, 101, 102, 103, 104, 105, 106, 107, 108, 109, 110, 111, 112, 113, 114, 115, 116, 117, 118, 119, 120, 121, 122]⟩
/-- A set of letters, as far as it has been made. -/
def asP (s : ByteArray) : Nat → List Bool
  | 0 => List.replicate 256 false
  | z + 1 => (asP s z).set ((s[z]?).getD 0).toNat true
theorem asP_step {s : ByteArray} {z : Nat} {b : UInt8} (hb : s[Int.toNat ((z : Nat) : Int)]? = some b) : (asP s z).set (Int.toNat (b.toNat : Int)) true = asP s (z + 1) := by
  rw [toN] at hb
  rw [asP, hb]; rfl
theorem asP_abc : asP abc abc.size = lowT := by decide +kernel
theorem abc_lt : ∀ z b, abc[Int.toNat ((z : Nat) : Int)]? = some b → b.toNat < 128 := by
  intro z b h
  rw [toN] at h
  have hz := byte_lt h
  have h2 : ∀ z, z < 26 → ((abc[z]?).getD 0).toNat < 128 := by decide +kernel
  have := h2 z hz
  rw [h] at this
  exact this
/-- What is left where the last ones that fit are dropped. -/
noncomputable def rkp (p : Nat → Prop) : Nat → Nat
  | 0 => 0
  | n + 1 => @ite _ (p n) (Classical.propDecidable _) (rkp p n) (n + 1)
theorem rkp_at {p : Nat → Prop} {z : Nat} : ∀ {n : Nat}, z ≤ n → (∀ i, z ≤ i → i < n → p i) → (z = 0 ∨ ¬ p (z - 1)) → rkp p n = z
  | 0, hz, _, _ => by rw [rkp]; omega
  | n + 1, hz, h, h0 => by
    rcases Nat.lt_or_ge n z with h1 | h1
    · obtain rfl : z = n + 1 := by omega
      rw [rkp, if_neg (by simpa using h0)]
    · rw [rkp, if_pos (h n h1 (by omega))]
      exact rkp_at h1 (fun i h2 h3 => h i h2 (by omega)) h0
noncomputable def trimR (s : ByteArray) : ByteArray := s.extract 0 (rkp (lowI s) s.size)
noncomputable def trimL (s : ByteArray) : ByteArray := s.extract (pre (lowI s) s.size) s.size
noncomputable def trimA (s : ByteArray) : ByteArray := if s.size = 0 then s else trimL (trimR s)
theorem trim_none {s : ByteArray} (h : (eqv s ByteArray.empty || eqv abc ByteArray.empty) = true) : s = trimA s := by
  rw [Bool.or_eq_true, eqv_iff, eqv_iff] at h
  rcases h with h | h
  · unfold trimA; rw [if_pos (size_zero.1 h)]
  · exact absurd (size_zero.1 h) (by decide)
theorem trim_some {s : ByteArray} (h : (eqv s ByteArray.empty || eqv abc ByteArray.empty) = false) : trimL (trimR s) = trimA s := by
  unfold trimA; rw [if_neg (fun h0 => eqv_false_iff.1 (Bool.or_eq_false_iff.1 h).1 (size_zero.2 h0))]
theorem rkp_le (p : Nat → Prop) : ∀ n, rkp p n ≤ n
  | 0 => Nat.le_refl 0
  | n + 1 => by unfold rkp; split; exact Nat.le_succ_of_le (rkp_le p n); exact Nat.le_refl _
theorem rkp_zero {p : Nat → Prop} : ∀ {n : Nat}, rkp p n = 0 → ∀ i, i < n → p i
  | 0, _, i, hi => absurd hi (Nat.not_lt_zero i)
  | n + 1, h, i, hi => by
    unfold rkp at h
    split at h
    · rename_i hp
      rcases Nat.lt_or_ge i n with h1 | h1
      · exact rkp_zero h i h1
      · obtain rfl : i = n := by omega
        exact hp
    · omega
theorem rkp_last {p : Nat → Prop} : ∀ {n : Nat}, 0 < rkp p n → ¬ p (rkp p n - 1)
  | 0, h => absurd h (by simp [rkp])
  | n + 1, h => by
    unfold rkp at h ⊢
    split at h
    · rename_i hp; rw [if_pos hp]; exact rkp_last h
    · rename_i hp; rw [if_neg hp]; simpa using hp
theorem pre_le (p : Nat → Prop) : ∀ n, pre p n ≤ n
  | 0 => Nat.le_refl 0
  | n + 1 => by unfold pre; split; exact Nat.le_refl _; exact Nat.le_succ_of_le (pre_le p n)
theorem pre_full {p : Nat → Prop} : ∀ {n : Nat}, pre p n = n → ∀ i, i < n → p i
  | 0, _, i, hi => absurd hi (Nat.not_lt_zero i)
  | n + 1, h, i, hi => by
    unfold pre at h
    split at h
    · rename_i h1; exact h1 i hi
    · have := pre_le p n; omega
theorem trimA_iff (s : ByteArray) : trimA s = ByteArray.empty ↔ lowS s := by
  rw [size_zero]
  unfold trimA
  split
  · rename_i h
    exact ⟨fun _ i hi => absurd hi (by omega), fun _ => h⟩
  · rename_i h
    have hk := rkp_le (lowI s) s.size
    have hsz : (trimR s).size = rkp (lowI s) s.size := by unfold trimR; rw [ext_size hk]; omega
    have hget : ∀ i, i < rkp (lowI s) s.size → (trimR s)[i]? = s[i]? := fun i hi => by
      unfold trimR; rw [ext_get (by omega) hk, Nat.zero_add]
    have hj := pre_le (lowI (trimR s)) (trimR s).size
    unfold trimL
    rw [ext_size (Nat.le_refl _)]
    constructor
    · intro h0
      have hf := pre_full (p := lowI (trimR s)) (n := (trimR s).size) (by omega)
      rcases Nat.eq_zero_or_pos (rkp (lowI s) s.size) with h1 | h1
      · exact rkp_zero h1
      · exfalso
        refine rkp_last h1 ?_
        obtain ⟨b, h2, h3⟩ := hf (rkp (lowI s) s.size - 1) (by omega)
        rw [hget _ (by omega)] at h2
        exact ⟨b, h2, h3⟩
    · intro hl
      have h1 : rkp (lowI s) s.size = 0 := rkp_at (Nat.zero_le _) (fun i _ hi => hl i hi) (.inl rfl)
      omega
theorem name_trim (s : ByteArray) : (decide ((s.size : Int) ≥ 1) && decide ((s.size : Int) ≤ 16) && eqv (trimA s) ByteArray.empty) = tt (nameOK s) := by
  refine tt_eq ?_
  rw [Bool.and_eq_true, eqv_iff, trimA_iff]
  simp only [Bool.and_eq_true, decide_eq_true_eq, nameOK]
  exact ⟨fun h => ⟨h.2, by omega, by omega⟩, fun h => ⟨⟨by omega, by omega⟩, h.1⟩⟩
abbrev DMask := BitVec 64 × BitVec 64
abbrev DCard := ByteArray × DMask
def cardOK (c : DCard) : Prop := nameOK c.1 ∧ okM c.2 = true
theorem card_and (c : DCard) : (tt (nameOK c.1) && okM c.2) = tt (cardOK c) := by
  refine tt_eq ?_
  rw [Bool.and_eq_true, tt_iff]; rfl
/-! ### Hashes -/
end Go.Proofs.YtfnkphllkbkfaaaDoor.VL
/- Proved here: places in lists, and decks. Plain Lean, no program. -/
set_option linter.unusedVariables false
set_option linter.unusedSimpArgs false
namespace Go.Proofs.YtfnkphllkbkfaaaDoor.VL
open Go
/-! ### Places -/
section
variable {α : Type} {q : α → Bool} {x : List α} {z : Nat} {a : α}
/-- The first one that fits, or -1. -/
def idxQ (q : α → Bool) (x : List α) : Int := if x.findIdx q < x.length then (x.findIdx q : Int) else -1
def nI (q : α → Bool) (x : List α) (i : Nat) : Prop := ∃ b, x[i]? = some b ∧ q b = false
theorem nI_iff (ha : x[Int.toNat ((z : Nat) : Int)]? = some a) : nI q x z ↔ q a = false := by
  rw [toN] at ha
  constructor
  · rintro ⟨b, h1, h2⟩
    rw [ha] at h1; obtain rfl := Option.some.inj h1; exact h2
  · exact fun h => ⟨a, ha, h⟩
theorem idxQ_at (h : ∀ i, i < z → nI q x i) (ha : x[Int.toNat ((z : Nat) : Int)]? = some a) (hq : q a = true) : ((z : Nat) : Int) = idxQ q x := by
  rw [toN] at ha
  have hz := (List.getElem?_eq_some_iff.1 ha).1
  have e : x.findIdx q = z := by
    rw [List.findIdx_eq hz]
    refine ⟨by rw [List.getElem?_eq_getElem hz] at ha; rw [Option.some.inj ha]; exact hq, fun j hj => ?_⟩
    obtain ⟨b, h1, h2⟩ := h j hj
    rw [List.getElem?_eq_getElem (by omega)] at h1
    rw [Option.some.inj h1]; exact h2
  rw [idxQ, e, if_pos hz]
theorem idxQ_end (h : ∀ i, i < z → nI q x i) (hz : x.length ≤ z) : -1 = idxQ q x := by
  have e : x.findIdx q = x.length := by
    rw [List.findIdx_eq_length]
    intro b hb
    obtain ⟨i, hi, rfl⟩ := List.mem_iff_getElem.1 hb
    obtain ⟨c, h1, h2⟩ := h i (by omega)
    rw [List.getElem?_eq_getElem hi] at h1
    rw [Option.some.inj h1]; exact h2
  rw [idxQ, e, if_neg (Nat.lt_irrefl _)]
theorem idxQ_any : decide (idxQ q x ≥ 0) = x.any q := by
  rw [Bool.eq_iff_iff, decide_eq_true_eq, List.any_eq_true, ← List.findIdx_lt_length]
  unfold idxQ
  split <;> omega
theorem any_iff : x.any q = false ↔ ∀ i, i < x.length → nI q x i := by
  rw [List.any_eq_false]
  constructor
  · intro h i hi
    exact ⟨x[i], List.getElem?_eq_getElem hi, by simpa using h _ (List.getElem_mem hi)⟩
  · intro h b hb
    obtain ⟨i, hi, rfl⟩ := List.mem_iff_getElem.1 hb
    obtain ⟨c, h1, h2⟩ := h i hi
    rw [List.getElem?_eq_getElem hi] at h1
    rw [Option.some.inj h1, h2]; decide
end
/-! ### Decks -/
def szC (c : DCard) (l : Int) : Int := szB c.1 l
theorem okSzC : okSz szC (fun c => c.1.size ≤ 1048576) := fun c l hl => szB_in c.1 l hl
def deckI (x : List DCard) (i : Nat) : Prop := ∃ c, x[i]? = some c ∧ cardOK c ∧ ∀ k, k < i → nI (fun b => eqv b.1 c.1) x k
def deckOK (x : List DCard) : Prop := x.length ≤ 80 ∧ ∀ i, i < x.length → deckI x i
theorem deckI_iff {x : List DCard} {z : Nat} {a : DCard} (ha : x[Int.toNat ((z : Nat) : Int)]? = some a) : deckI x z ↔ cardOK a ∧ ∀ k, k < z → nI (fun b => eqv b.1 a.1) x k := by
  rw [toN] at ha
  constructor
  · rintro ⟨c, h1, h2⟩
    rw [ha] at h1; obtain rfl := Option.some.inj h1; exact h2
  · exact fun h => ⟨a, ha, h⟩
theorem take_any {α : Type} {q : α → Bool} {x : List α} {z : Nat} (hz : z ≤ x.length) : (x.take z).any q = false ↔ ∀ k, k < z → nI q x k := by
  rw [any_iff, List.length_take, Nat.min_eq_left hz]
  exact ⟨fun h k hk => by obtain ⟨b, h1, h2⟩ := h k hk; rw [List.getElem?_take, if_pos hk] at h1; exact ⟨b, h1, h2⟩,
    fun h k hk => by obtain ⟨b, h1, h2⟩ := h k hk; exact ⟨b, by rw [List.getElem?_take, if_pos hk]; exact h1, h2⟩⟩
theorem deckI_any {x : List DCard} {z : Nat} {a : DCard} (hz : z ≤ x.length) (ha : x[Int.toNat ((z : Nat) : Int)]? = some a) : deckI x z ↔ (!(tt (cardOK a)) || (x.take z).any (fun b => eqv b.1 a.1)) = false := by
  rw [deckI_iff ha, Bool.or_eq_false_iff, Bool.not_eq_false', tt_iff, take_any hz]
theorem deck_no {x : List DCard} {z : Nat} (hz : z < x.length) (h : ¬ deckI x z) : false = tt (deckOK x) := tt_no fun h' => h (h'.2 z hz)
theorem deck_len {x : List DCard} (h : 80 < x.length) : false = tt (deckOK x) := tt_no fun h' => absurd h'.1 (by omega)
theorem deck_yes {x : List DCard} (h : x.length ≤ 80) {z : Nat} (hI : ∀ i, i < z → deckI x i) (hz : x.length ≤ z) : true = tt (deckOK x) := tt_yes ⟨h, all_end hI hz⟩
/-! ### A deck within another -/
/-! ### Checks -/
end Go.Proofs.YtfnkphllkbkfaaaDoor.VL
/- Proved here: holes of masks, answers and their first fault. Plain Lean, no program. -/
set_option linter.unusedVariables false
set_option linter.unusedSimpArgs false
namespace Go.Proofs.YtfnkphllkbkfaaaDoor.VL
open Go
/-! ### Masks -/
def limb (m : DMask) (i : Int) : BitVec 64 := if Int.toNat (i.tdiv 64) = 0 then m.1 else m.2
def hasM (m : DMask) (i : Int) : Bool := (limb m i >>> Int.toNat (i.tmod 64)) % 2#64 == 1#64
theorem and_one (x : BitVec 64) : x &&& 1#64 = x % 2#64 := by
  apply BitVec.eq_of_toNat_eq
  rw [BitVec.toNat_and, BitVec.toNat_umod]
  exact Nat.and_one_is_mod _
theorem rem64 {i : Int} (h : 0 ≤ i) : (BitVec.ofInt 64 (i.tmod 64)).toNat = Int.toNat (i.tmod 64) := by
  rw [Int.tmod_eq_emod_of_nonneg h, BitVec.toNat_ofInt]
  have h1 : 0 ≤ i % 64 := Int.emod_nonneg _ (by decide)
  have h2 : i % 64 < 64 := Int.emod_lt_of_pos _ (by decide)
  generalize i % 64 = r at *
  have e : r % (2 ^ 64 : Nat) = r := Int.emod_eq_of_lt h1 (by show r < 18446744073709551616; omega)
  rw [e]
theorem div64 {i : Int} (h : 0 ≤ i ∧ i < 128) : 0 ≤ i.tdiv 64 ∧ i.tdiv 64 < 2 := by
  rw [Int.tdiv_eq_ediv_of_nonneg h.1]; omega
theorem mod64 {i : Int} (h : 0 ≤ i) : 0 ≤ i.tmod 64 := Int.tmod_nonneg _ h
def meetM (x y : DMask) : DMask := (x.1 &&& y.1, x.2 &&& y.2)
noncomputable def withinM (x y : DMask) : Bool := eqv (lessM x y) (0#64, 0#64)
abbrev DQuery := DMask × DMask
noncomputable def dropsQ (q : DQuery) (m : DMask) : Bool := withinM q.1 m && eqv (meetM q.2 m) (0#64, 0#64)
noncomputable def queryOK (q : DQuery) : Bool := okM q.1 && okM q.2 && eqv (meetM q.1 q.2) (0#64, 0#64)
def showsQ (q : DQuery) (m : DMask) (h : Int) : Bool := (hasM q.1 h && !(hasM m h)) || (hasM q.2 h && hasM m h)
/-! ### The first fault of an answer -/
section
variable {α : Type} {f : α → Int} {n : Int} {l : List α} {z : Nat} {a b : α}
end
abbrev DAns' := DQuery × List Int × List (Int × Int)
section
variable {x : List DCard} {v : DAns'} {z : Nat}
end
section
variable {x : List DCard} {v : DAns'} {z : Nat}
end
section
variable {x : List DCard} {v : DAns'}
end
theorem deck_bad {x : List DCard} {b : Bool} (h : (!(tt (deckOK x)) || b) = false) : x.length ≤ 80 := by
  rw [Bool.or_eq_false_iff, Bool.not_eq_false', tt_iff] at h; exact h.1.1
end Go.Proofs.YtfnkphllkbkfaaaDoor.VL
/- Proved here: lists of words, lots, and how many false drops are expected of them. Plain Lean, no program. -/
set_option linter.unusedVariables false
set_option linter.unusedSimpArgs false
namespace Go.Proofs.YtfnkphllkbkfaaaDoor.VL
open Go
section
variable {α : Type} {q : α → Prop} {x : List α} {z : Nat} {a : α}
end
/-! ### Expected false drops -/
section
variable {mx : Int × Int × Int} {x : List (List ByteArray)} {m : Int}
end
end Go.Proofs.YtfnkphllkbkfaaaDoor.VL
/- Proved here: fields and schemes, and tables of cards. Plain Lean, no program. -/
set_option linter.unusedVariables false
set_option linter.unusedSimpArgs false
namespace Go.Proofs.YtfnkphllkbkfaaaDoor.VL
open Go
/-! ### Masks that are made -/
def zM : DMask := (0#64, 0#64)
/-! ### Fields -/
abbrev DField := ByteArray × Int × Int × Int
section
variable {f : DField} {M : Int}
end
/-! ### Schemes -/
section
variable {x : List DField} {z : Nat} {f : DField}
end
/-! ### Tables -/
section
variable {s : List DField} {x : List DCard} {l : List Int}
end
/-! ### Counting cards -/
section
variable {α : Type} {q : α → Bool} {x : List α} {z : Nat} {a : α}
end
section
variable {x : List DCard} {a b : Int}
end
end Go.Proofs.YtfnkphllkbkfaaaDoor.VL
/- Proved here: masks bit by bit, and what holes have how many cards. Plain Lean, no program. -/
set_option linter.unusedVariables false
set_option linter.unusedSimpArgs false
namespace Go.Proofs.YtfnkphllkbkfaaaDoor.VL
open Go
/-! ### Bits -/
def bitB (m : DMask) (i : Nat) : Bool := if i < 64 then m.1.getLsbD i else m.2.getLsbD (i - 64)
theorem shr_bit (x : BitVec 64) (k : Nat) : ((x >>> k) % 2#64 == 1#64) = x.getLsbD k := by
  rw [Bool.eq_iff_iff, beq_iff_eq, BitVec.getLsbD, Nat.testBit_eq_decide_div_mod_eq, decide_eq_true_eq]
  constructor
  · intro h
    have := congrArg BitVec.toNat h
    rw [BitVec.toNat_umod, BitVec.toNat_ushiftRight, Nat.shiftRight_eq_div_pow] at this
    exact this
  · intro h
    apply BitVec.eq_of_toNat_eq
    rw [BitVec.toNat_umod, BitVec.toNat_ushiftRight, Nat.shiftRight_eq_div_pow]
    exact h
theorem hasM_bit (m : DMask) {i : Nat} (hi : i < 128) : hasM m (i : Int) = bitB m i := by
  have h1 : Int.toNat ((i : Int).tdiv 64) = i / 64 := by rw [Int.tdiv_eq_ediv_of_nonneg (by omega)]; omega
  have h2 : Int.toNat ((i : Int).tmod 64) = i % 64 := by rw [Int.tmod_eq_emod_of_nonneg (by omega)]; omega
  unfold hasM limb bitB
  rw [h1, h2, shr_bit]
  rcases Nat.lt_or_ge i 64 with h | h
  · rw [if_pos (by omega), if_pos h, Nat.mod_eq_of_lt h]
  · rw [if_neg (by omega), if_neg (by omega), show i % 64 = i - 64 by omega]
theorem mask_ext {a b : DMask} (h : ∀ i, i < 128 → bitB a i = bitB b i) : a = b := by
  have h1 : a.1 = b.1 := by
    apply BitVec.eq_of_getLsbD_eq
    intro i hi
    have := h i (by omega)
    unfold bitB at this
    rw [if_pos hi, if_pos hi] at this; exact this
  have h2 : a.2 = b.2 := by
    apply BitVec.eq_of_getLsbD_eq
    intro i hi
    have := h (i + 64) (by omega)
    unfold bitB at this
    rw [if_neg (by omega), if_neg (by omega), Nat.add_sub_cancel] at this; exact this
  exact Prod.ext h1 h2
theorem bit_zM (i : Nat) : bitB zM i = false := by unfold bitB zM; split <;> simp
theorem bit_meet (a b : DMask) (i : Nat) : bitB (meetM a b) i = (bitB a i && bitB b i) := by unfold bitB meetM; split <;> simp
theorem bit_less (a b : DMask) {i : Nat} (hi : i < 128) : bitB (lessM a b) i = (bitB a i && !(bitB b i)) := by
  unfold bitB lessM
  split
  · rename_i h; show (a.1 &&& ~~~b.1).getLsbD i = _; rw [BitVec.getLsbD_and, BitVec.getLsbD_not, decide_eq_true h, Bool.true_and]
  · show (a.2 &&& ~~~b.2).getLsbD (i - 64) = _; rw [BitVec.getLsbD_and, BitVec.getLsbD_not, decide_eq_true (by omega), Bool.true_and]
/-! ### How many cards a hole has -/
end Go.Proofs.YtfnkphllkbkfaaaDoor.VL
/- Proved here: lists of holes, marks that are written into rows, and the text of a mark. Plain Lean, no program. -/
set_option linter.unusedVariables false
set_option linter.unusedSimpArgs false
namespace Go.Proofs.YtfnkphllkbkfaaaDoor.VL
open Go
/-! ### Holes -/
/-! ### Marks -/
def mrk (n : Nat) (k : Int) : List Int := (List.range n).map fun i => k + ((i : Nat) : Int)
theorem mrk_len (n : Nat) (k : Int) : (mrk n k).length = n := by simp [mrk]
theorem mrk_get {n z : Nat} {k : Int} (h : z < n) : (mrk n k)[Int.toNat (z : Int)]? = some (k + (z : Int)) := by
  rw [toN, mrk, List.getElem?_map, List.getElem?_range h]; rfl
def markI (x : List Int) (z : Nat) (k : Int) : List Int := mrk z k ++ x.drop z
theorem markI_len {x : List Int} {z : Nat} {k : Int} (h : z ≤ x.length) : (markI x z k).length = x.length := by
  rw [markI, List.length_append, mrk_len, List.length_drop]; omega
theorem markI_step {x : List Int} {z : Nat} {k : Int} (h : z < x.length) : (markI x z k).set (Int.toNat (z : Int)) (k + (z : Int)) = markI x (z + 1) k := by
  have hd : x.drop z = x[z] :: x.drop (z + 1) := List.drop_eq_getElem_cons h
  rw [toN, markI, markI, List.set_append_right _ _ (by rw [mrk_len]; exact Nat.le_refl z), mrk_len, Nat.sub_self, hd, List.set_cons_zero]
  rw [mrk, mrk, List.range_succ, List.map_append, List.append_assoc]; rfl
theorem markI_end {x : List Int} {z : Nat} {k : Int} (h : x.length ≤ z) (h' : z ≤ x.length) : markI x z k = mrk x.length k := by
  obtain rfl : z = x.length := by omega
  rw [markI, List.drop_length, List.append_nil]
/-! ### The text of a mark -/
theorem tmod10 (n : Nat) : 0 ≤ (n : Int).tmod 10 ∧ (n : Int).tmod 10 < 10 := by
  rw [Int.tmod_eq_emod_of_nonneg (by omega)]; omega
theorem tdiv10 (n : Nat) : (n : Int).tdiv 10 = ((n / 10 : Nat) : Int) := by
  rw [Int.tdiv_eq_ediv_of_nonneg (by omega)]; omega
def mtd (n : Nat) (s : ByteArray) : ByteArray := if h : n = 0 then s else mtd (n / 10) (bOf [48 + (n : Int).tmod 10] ++ s)
termination_by n
decreasing_by omega
theorem mtd_zero (s : ByteArray) : mtd 0 s = s := by rw [mtd, dif_pos rfl]
theorem mtd_more {n : Nat} (h : 0 < n) (s : ByteArray) : mtd n s = mtd (n / 10) (bOf [48 + (n : Int).tmod 10] ++ s) := by rw [mtd, dif_neg (by omega)]
def mtx (k : Int) : ByteArray := if k ≤ 0 then ⟨#[109, 48]⟩ else ⟨#[109]⟩ ++ mtd k.toNat .empty
theorem bOf_one (a : Int) (s : ByteArray) : (bOf [a] ++ s).size = s.size + 1 := by
  rw [ByteArray.size_append, bOf_size]; simp; omega
end Go.Proofs.YtfnkphllkbkfaaaDoor.VL
/- Proved here: marks of rows of cards, edits, texts and witnesses. Plain Lean, no program. -/
set_option linter.unusedVariables false
set_option linter.unusedSimpArgs false
namespace Go.Proofs.YtfnkphllkbkfaaaDoor.VL
open Go
section
variable {α : Type} {f : Int → α} {w k : Int} {x : List α} {z n : Nat} {a : α}
def mkL (f : Int → α) (w : Int) (n : Nat) (k : Int) : List α := (List.range n).map fun i => f (k + w * ((i : Nat) : Int))
theorem mkL_len : (mkL f w n k).length = n := by simp [mkL]
theorem mkL_get (h : z < n) : (mkL f w n k)[Int.toNat (z : Int)]? = some (f (k + w * (z : Int))) := by
  rw [toN, mkL, List.getElem?_map, List.getElem?_range h]; rfl
def mkR (f : Int → α) (w : Int) (x : List α) (z : Nat) (k : Int) : List α := mkL f w z k ++ x.drop z
theorem mkR_zero : x = mkR f w x 0 k := by simp [mkR, mkL]
theorem mkR_len (h : z ≤ x.length) : (mkR f w x z k).length = x.length := by
  rw [mkR, List.length_append, mkL_len, List.length_drop]; omega
theorem mkR_step (h : z < x.length) : (mkR f w x z k).set (Int.toNat (z : Int)) (f (k + w * (z : Int))) = mkR f w x (z + 1) k := by
  have hd : x.drop z = x[z] :: x.drop (z + 1) := List.drop_eq_getElem_cons h
  rw [toN, mkR, mkR, List.set_append_right _ _ (by rw [mkL_len]; exact Nat.le_refl z), mkL_len, Nat.sub_self, hd, List.set_cons_zero]
  rw [mkL, mkL, List.range_succ, List.map_append, List.append_assoc]; rfl
theorem mkR_end (h : x.length ≤ z) (h' : z ≤ x.length) : mkR f w x z k = mkL f w x.length k := by
  obtain rfl : z = x.length := by omega
  rw [mkR, List.drop_length, List.append_nil]
theorem set_get {l : List α} (h : z < l.length) (a : α) : (l.set (Int.toNat (z : Int)) a)[Int.toNat (z : Int)]? = some a := by
  rw [toN, List.getElem?_set_self h]
theorem set_len {l : List α} {i : Nat} (a : α) : (l.set i a).length = l.length := List.length_set
end
/-! ### Limbs -/
def mjp (k : Int) : DMask := (BitVec.ofInt 64 k, BitVec.ofInt 64 (k + 1))
def mj (m : DMask) (k : Int) : Nat → DMask
  | 0 => m
  | 1 => (BitVec.ofInt 64 k, m.2)
  | _ => mjp k
theorem mj_step {m : DMask} {k : Int} {j : Nat} (h : j < 2) : (if Int.toNat (j : Int) = 0 then (BitVec.ofInt 64 (k + (j : Int)), (mj m k j).2) else ((mj m k j).1, BitVec.ofInt 64 (k + (j : Int)))) = mj m k (j + 1) := by
  rcases (by omega : j = 0 ∨ j = 1) with rfl | rfl
  · show (BitVec.ofInt 64 (k + ((0 : Nat) : Int)), m.2) = (BitVec.ofInt 64 k, m.2)
    rw [show k + ((0 : Nat) : Int) = k by omega]
  · show (BitVec.ofInt 64 k, BitVec.ofInt 64 (k + ((1 : Nat) : Int))) = mjp k
    rfl
/-! ### What is written -/
def fC (k : Int) : DCard := (mtx k, mjp (k + 1))
def fW (k : Int) : Int × Int := (k, IntKind.i16.wrap (k + 1))
end Go.Proofs.YtfnkphllkbkfaaaDoor.VL
/- Proved here: the nearest cards. Plain Lean, no program. -/
set_option linter.unusedVariables false
set_option linter.unusedSimpArgs false
namespace Go.Proofs.YtfnkphllkbkfaaaDoor.VL
open Go
section
variable {m : DMask} {x : List DCard} {z : Nat} {c : DCard}
end
end Go.Proofs.YtfnkphllkbkfaaaDoor.VL
/- Proved here: cards with equal notches, and marks in rows of rows. Plain Lean, no program. -/
set_option linter.unusedVariables false
set_option linter.unusedSimpArgs false
namespace Go.Proofs.YtfnkphllkbkfaaaDoor.VL
open Go
section
variable {x : List DCard} {m : DMask} {y z : Nat} {c : DCard}
end
/-! ### Marks in rows of rows -/
section
variable {x : List (List Int)} {a : List Int} {z : Nat} {k : Int}
end
end Go.Proofs.YtfnkphllkbkfaaaDoor.VL
/- Proved here: the answer that is made. Plain Lean, no program. -/
set_option linter.unusedVariables false
set_option linter.unusedSimpArgs false
namespace Go.Proofs.YtfnkphllkbkfaaaDoor.VL
open Go
theorem okM_bit {m : DMask} (h : okM m = true) {i : Nat} (hi : 96 ≤ i) : bitB m i = false := by
  have h1 : m.2 >>> 32 = 0#64 := by simpa [okM] using h
  unfold bitB
  rw [if_neg (by omega)]
  have h2 : (m.2 >>> 32).getLsbD (i - 64 - 32) = false := by rw [h1]; simp
  rw [BitVec.getLsbD_ushiftRight] at h2
  rwa [show 32 + (i - 64 - 32) = i - 64 by omega] at h2
theorem mask_not {a b : DMask} (h : a ≠ b) : ∃ i, i < 128 ∧ bitB a i ≠ bitB b i := by
  apply Classical.byContradiction
  intro h'
  exact h (mask_ext fun i hi => Classical.byContradiction fun hne => h' ⟨i, hi, hne⟩)
/-- What doesn't drop has a witness. -/
theorem drops_not {q : DQuery} {m : DMask} (hq : queryOK q = true) (h : dropsQ q m = false) : ∃ i : Nat, i < 96 ∧ showsQ q m (i : Int) = true := by
  unfold queryOK at hq
  simp only [Bool.and_eq_true] at hq
  have key : ∀ i : Nat, i < 128 → ((bitB q.1 i && !(bitB m i)) || (bitB q.2 i && bitB m i)) = true → ∃ i : Nat, i < 96 ∧ showsQ q m (i : Int) = true := by
    intro i hi hb
    have h96 : i < 96 := by
      apply Classical.byContradiction
      intro hn
      rw [okM_bit hq.1.1 (by omega), okM_bit hq.1.2 (by omega)] at hb
      simp at hb
    exact ⟨i, h96, by unfold showsQ; rw [hasM_bit _ hi, hasM_bit _ hi, hasM_bit _ hi]; exact hb⟩
  unfold dropsQ withinM at h
  rw [Bool.and_eq_false_iff] at h
  rcases h with h | h
  · have h1 : lessM q.1 m ≠ zM := fun e => by rw [show eqv (lessM q.1 m) (0#64, 0#64) = true from eqv_iff.2 e] at h; cases h
    obtain ⟨i, hi, hb⟩ := mask_not h1
    rw [bit_less _ _ hi, bit_zM] at hb
    exact key i hi (by simp at hb ⊢; exact .inl hb)
  · have h1 : meetM q.2 m ≠ zM := fun e => by rw [show eqv (meetM q.2 m) (0#64, 0#64) = true from eqv_iff.2 e] at h; cases h
    obtain ⟨i, hi, hb⟩ := mask_not h1
    rw [bit_meet, bit_zM] at hb
    exact key i hi (by simp at hb ⊢; exact .inr hb)
def firstW (q : DQuery) (m : DMask) : Nat := ((List.range 96).find? fun (h : Nat) => showsQ q m (h : Int)).getD 0
theorem firstW_at {q : DQuery} {m : DMask} {y : Nat} (hy : y < 96) (h : showsQ q m (y : Int) = true) (hb : ∀ i, i < y → showsQ q m ((i : Nat) : Int) = false) : firstW q m = y := by
  have : (List.range 96).find? (fun (h : Nat) => showsQ q m (h : Int)) = some y := by
    rw [List.find?_range_eq_some]
    refine ⟨h, by simpa using hy, fun j hj => by rw [hb j hj]; rfl⟩
  rw [firstW, this]; rfl
theorem wit_lt {q : DQuery} {m : DMask} {y w : Nat} (hw : w < 96) (hsw : showsQ q m (w : Int) = true) (hb : ∀ i, i < y + 1 → showsQ q m ((i : Nat) : Int) = false) : y + 1 < 96 := by
  have : ¬ w < y + 1 := fun h => by rw [hb w h] at hsw; cases hsw
  omega
noncomputable def hitsP (q : DQuery) (x : List DCard) : Nat → List Int
  | 0 => []
  | z + 1 => match x[z]? with
    | some c => if dropsQ q c.2 = true then hitsP q x z ++ [(z : Int)] else hitsP q x z
    | none => hitsP q x z
noncomputable def witsP (q : DQuery) (x : List DCard) : Nat → List (Int × Int)
  | 0 => []
  | z + 1 => match x[z]? with
    | some c => if dropsQ q c.2 = true then witsP q x z else witsP q x z ++ [((z : Int), (firstW q c.2 : Int))]
    | none => witsP q x z
section
variable {q : DQuery} {x : List DCard} {z : Nat} {c : DCard}
theorem hits_yes (hc : x[Int.toNat ((z : Nat) : Int)]? = some c) (h : dropsQ q c.2 = true) : hitsP q x z ++ [(z : Int)] = hitsP q x (z + 1) := by
  rw [toN] at hc; rw [hitsP, hc]; exact (if_pos h).symm
theorem hits_no (hc : x[Int.toNat ((z : Nat) : Int)]? = some c) (h : dropsQ q c.2 = false) : hitsP q x z = hitsP q x (z + 1) := by
  rw [toN] at hc; rw [hitsP.eq_2, hc]; exact (if_neg (by rw [h]; decide)).symm
theorem wits_yes (hc : x[Int.toNat ((z : Nat) : Int)]? = some c) (h : dropsQ q c.2 = true) : witsP q x z = witsP q x (z + 1) := by
  rw [toN] at hc; rw [witsP.eq_2, hc]; exact (if_pos h).symm
theorem wits_no {y : Nat} (hc : x[Int.toNat ((z : Nat) : Int)]? = some c) (h : dropsQ q c.2 = false) (hy : firstW q c.2 = y) : witsP q x z ++ [((z : Int), (y : Int))] = witsP q x (z + 1) := by
  rw [toN] at hc; rw [witsP.eq_2, hc, ← hy]; exact (if_neg (by rw [h]; decide)).symm
theorem hits_len (q : DQuery) (x : List DCard) : ∀ z : Nat, (hitsP q x z).length ≤ z
  | 0 => by simp [hitsP]
  | z + 1 => by
    have := hits_len q x z
    rw [hitsP]
    (repeat' split) <;> simp <;> omega
theorem wits_len (q : DQuery) (x : List DCard) : ∀ z : Nat, (witsP q x z).length ≤ z
  | 0 => by simp [witsP]
  | z + 1 => by
    have := wits_len q x z
    rw [witsP]
    (repeat' split) <;> simp <;> omega
end
def zAns : DAns' := ((zM, zM), [], [])
noncomputable def ansR (q : DQuery) (x : List DCard) (z : Nat) : DAns' := (q, hitsP q x z, witsP q x z)
noncomputable def mkA (x : List DCard) (q : DQuery) : DAns' × Int := if (!(tt (deckOK x)) || !(queryOK q)) = true then (zAns, 1) else (ansR q x x.length, 0)
theorem mkA_no {x : List DCard} {q : DQuery} (h : (!(tt (deckOK x)) || !(queryOK q)) = true) : mkA x q = (zAns, 1) := by rw [mkA, if_pos h]
theorem mkA_yes {x : List DCard} {q : DQuery} (h : (!(tt (deckOK x)) || !(queryOK q)) = false) : mkA x q = (ansR q x x.length, 0) := by rw [mkA, if_neg (by rw [h]; decide)]
theorem mkA_in {x : List DCard} {q : DQuery} (h : (!(tt (deckOK x)) || !(queryOK q)) = false) : x.length ≤ 80 ∧ queryOK q = true := by
  refine ⟨deck_bad h, ?_⟩
  rw [Bool.or_eq_false_iff, Bool.not_eq_false', Bool.not_eq_false'] at h
  exact h.2
theorem mkA_len (x : List DCard) (q : DQuery) : (mkA x q).1.2.1.length ≤ 80 ∧ (mkA x q).1.2.2.length ≤ 80 := by
  unfold mkA
  split
  · exact ⟨by decide, by decide⟩
  · rename_i h
    have h1 := mkA_in (Bool.eq_false_iff.2 h)
    have h2 := hits_len q x x.length
    have h3 := wits_len q x x.length
    exact ⟨Nat.le_trans h2 h1.1, Nat.le_trans h3 h1.1⟩
end Go.Proofs.YtfnkphllkbkfaaaDoor.VL
