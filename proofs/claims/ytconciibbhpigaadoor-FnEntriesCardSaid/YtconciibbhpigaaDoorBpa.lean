/- Proved here: how many bits of a word are set: by the words' own sums, and by halving. Plain Lean, no program. -/
import Derived.Test.YtconciibbhpigaaDoorBvb
set_option linter.unusedVariables false
namespace Go.Proofs.YtconciibbhpigaaDoor.VL
open Go
def dsum (B : Nat) : Nat → Nat → Nat
  | 0, _ => 0
  | n + 1, x => x % B + dsum B n (x / B)
/-- All digits are at most c. -/
def dle (B c : Nat) : Nat → Nat → Prop
  | 0, x => x = 0
  | n + 1, x => x % B ≤ c ∧ dle B c n (x / B)
theorem last {z : Nat} (h : dle 256 8 8 z) : (z + z / 256 + (z + z / 256) / 65536 + (z + z / 256 + (z + z / 256) / 65536) / 4294967296) % 128 = dsum 256 8 z := by
  simp only [dle, Nat.div_div_eq_div_mul] at h
  obtain ⟨h0, h1, h2, h3, h4, h5, h6, h7, h8⟩ := h
  simp only [dsum, Nat.div_div_eq_div_mul]
  simp only [Nat.reduceMul] at *
  obtain ⟨a0, e0⟩ : ∃ d, d = z % 256 := ⟨_, rfl⟩
  obtain ⟨a1, e1⟩ : ∃ d, d = z / 256 % 256 := ⟨_, rfl⟩
  obtain ⟨a2, e2⟩ : ∃ d, d = z / 65536 % 256 := ⟨_, rfl⟩
  obtain ⟨a3, e3⟩ : ∃ d, d = z / 16777216 % 256 := ⟨_, rfl⟩
  obtain ⟨a4, e4⟩ : ∃ d, d = z / 4294967296 % 256 := ⟨_, rfl⟩
  obtain ⟨a5, e5⟩ : ∃ d, d = z / 1099511627776 % 256 := ⟨_, rfl⟩
  obtain ⟨a6, e6⟩ : ∃ d, d = z / 281474976710656 % 256 := ⟨_, rfl⟩
  obtain ⟨a7, e7⟩ : ∃ d, d = z / 72057594037927936 % 256 := ⟨_, rfl⟩
  rw [← e0] at h0 ⊢
  rw [← e1] at h1 ⊢
  rw [← e2] at h2 ⊢
  rw [← e3] at h3 ⊢
  rw [← e4] at h4 ⊢
  rw [← e5] at h5 ⊢
  rw [← e6] at h6 ⊢
  rw [← e7] at h7 ⊢
  have hz : z = a0 + 256 * a1 + 65536 * a2 + 16777216 * a3 + 4294967296 * a4 + 1099511627776 * a5 + 281474976710656 * a6 + 72057594037927936 * a7 := by omega
  clear e0 e1 e2 e3 e4 e5 e6 e7 h8
  subst hz
  have f1 : (a0 + 256 * a1 + 65536 * a2 + 16777216 * a3 + 4294967296 * a4 + 1099511627776 * a5 + 281474976710656 * a6 + 72057594037927936 * a7) / 256 = a1 + 256 * a2 + 65536 * a3 + 16777216 * a4 + 4294967296 * a5 + 1099511627776 * a6 + 281474976710656 * a7 := by omega
  rw [f1]
  have f2 : (a0 + 256 * a1 + 65536 * a2 + 16777216 * a3 + 4294967296 * a4 + 1099511627776 * a5 + 281474976710656 * a6 + 72057594037927936 * a7 + (a1 + 256 * a2 + 65536 * a3 + 16777216 * a4 + 4294967296 * a5 + 1099511627776 * a6 + 281474976710656 * a7)) / 65536 = (a2 + a3) + 256 * (a3 + a4) + 65536 * (a4 + a5) + 16777216 * (a5 + a6) + 4294967296 * (a6 + a7) + 1099511627776 * a7 := by omega
  rw [f2]
  have f3 : (a0 + 256 * a1 + 65536 * a2 + 16777216 * a3 + 4294967296 * a4 + 1099511627776 * a5 + 281474976710656 * a6 + 72057594037927936 * a7 + (a1 + 256 * a2 + 65536 * a3 + 16777216 * a4 + 4294967296 * a5 + 1099511627776 * a6 + 281474976710656 * a7) + ((a2 + a3) + 256 * (a3 + a4) + 65536 * (a4 + a5) + 16777216 * (a5 + a6) + 4294967296 * (a6 + a7) + 1099511627776 * a7)) / 4294967296 = (a4 + a5 + a6 + a7) + 256 * (a5 + a6 + a7) + 65536 * (a6 + a7) + 16777216 * a7 := by clear f1 f2; omega
  rw [f3]
  clear f1 f2 f3
  omega

end Go.Proofs.YtconciibbhpigaaDoor.VL
/- Proved here: what the functions of the first texts compute, in plain Lean: no program. -/
set_option linter.unusedVariables false
set_option linter.unusedSimpArgs false
namespace Go.Proofs.YtconciibbhpigaaDoor.VL
open Go
def inb (x lo hi : Int) : Bool := decide (x ≥ lo) && decide (x ≤ hi)
/-! ### Shares -/
end Go.Proofs.YtconciibbhpigaaDoor.VL
/- Proved here: equality of lists place by place, and copies of lists place by place. Plain Lean, no program. -/
set_option linter.unusedVariables false
set_option linter.unusedSimpArgs false
namespace Go.Proofs.YtconciibbhpigaaDoor.VL
open Go
section
variable {α : Type} {x y : List α} {z : Nat} {a b : α}
theorem getI (h : z < x.length) : ∃ a, x[Int.toNat ((z : Nat) : Int)]? = some a := ⟨x[z], by simp [h]⟩
theorem toN (z : Nat) : Int.toNat ((z : Nat) : Int) = z := rfl
theorem take_more (ha : x[Int.toNat ((z : Nat) : Int)]? = some a) : x.take (z + 1) = x.take z ++ [a] := by
  rw [toN] at ha
  rw [List.take_add_one, ha]; rfl
theorem eqs_step (h : x.take z = y.take z) (ha : x[Int.toNat ((z : Nat) : Int)]? = some a) (hb : y[Int.toNat ((z : Nat) : Int)]? = some b) (e : a = b) : x.take (z + 1) = y.take (z + 1) := by
  rw [take_more ha, take_more hb, h, e]
theorem eqs_ne (ha : x[Int.toNat ((z : Nat) : Int)]? = some a) (hb : y[Int.toNat ((z : Nat) : Int)]? = some b) (e : a ≠ b) : false = eqv x y := by
  refine (eqv_ne ?_).symm
  rintro rfl
  rw [ha] at hb
  exact e (Option.some.inj hb)
theorem eqs_len (h : x.length ≠ y.length) : false = eqv x y := (eqv_ne (fun e => h (by rw [e]))).symm
theorem eqs_all (h : x.take z = y.take z) (hz : x.length ≤ z) (hl : x.length = y.length) : true = eqv x y := by
  rw [List.take_of_length_le hz, List.take_of_length_le (by omega)] at h
  rw [h, eqv_self]
end
/-! ### Masks -/
section
variable {x y : BitVec 64 × BitVec 64} {z : Nat}
end
/-! ### Answers -/
end Go.Proofs.YtconciibbhpigaaDoor.VL
/- Proved here: budgets and equality of knots. Plain Lean, no program. -/
set_option linter.unusedVariables false
set_option linter.unusedSimpArgs false
namespace Go.Proofs.YtconciibbhpigaaDoor.VL
open Go
abbrev DKnot := Int × List Int × List Int × List Int
section
variable {x : List DKnot} {l : Int} {p : Nat × Int} {a : DKnot}
theorem mem_getI {α : Type} {x : List α} {z : Int} {a : α} (ha : x[Int.toNat z]? = some a) : a ∈ x := List.mem_of_getElem? ha
end
end Go.Proofs.YtconciibbhpigaaDoor.VL
/- Proved here: valid trees: what is looked at knot by knot, and how often knots are named. Plain Lean, no program. -/
set_option linter.unusedVariables false
set_option linter.unusedSimpArgs false
namespace Go.Proofs.YtconciibbhpigaaDoor.VL
open Go
/-- Is it so? -/
noncomputable def tt (p : Prop) : Bool := @decide p (Classical.propDecidable p)
theorem tt_iff {p : Prop} : tt p = true ↔ p := by unfold tt; exact @decide_eq_true_iff _ (Classical.propDecidable _)
theorem tt_false {p : Prop} : tt p = false ↔ ¬ p := by unfold tt; exact @decide_eq_false_iff_not _ (Classical.propDecidable _)
section
variable {α : Type} {x : List α} {z : Nat} {a b : α}
end
theorem all_step {p : Nat → Prop} {z : Nat} (h : ∀ i, i < z → p i) (hz : p z) : ∀ i, i < z + 1 → p i := fun i hi => by
  rcases Nat.lt_or_ge i z with h1 | h1
  · exact h i h1
  · obtain rfl : i = z := by omega
    exact hz
theorem all_none {p : Nat → Prop} : ∀ i, i < 0 → p i := fun i hi => absurd hi (Nat.not_lt_zero i)
theorem all_end {p : Nat → Prop} {z n : Nat} (h : ∀ i, i < z → p i) (hz : n ≤ z) : ∀ i, i < n → p i := fun i hi => h i (by omega)

/-! ### Leaves -/
/-! ### Knots that ask -/
/-- How many are right at the beginning. -/
noncomputable def pre (p : Nat → Prop) : Nat → Nat
  | 0 => 0
  | n + 1 => @ite _ (∀ i, i < n + 1 → p i) (Classical.propDecidable _) (n + 1) (pre p n)
theorem pre_all {p : Nat → Prop} : ∀ {n : Nat}, (∀ i, i < n → p i) → pre p n = n
  | 0, _ => rfl
  | n + 1, h => by rw [pre, if_pos h]
theorem pre_at {p : Nat → Prop} {z : Nat} (h : ∀ i, i < z → p i) (hz : ¬ p z) : ∀ {n : Nat}, z < n → pre p n = z
  | n + 1, hn => by
    rw [pre, if_neg (fun h' => hz (h' z hn))]
    rcases Nat.lt_or_ge z n with h1 | h1
    · exact pre_at h hz h1
    · obtain rfl : z = n := by omega
      exact pre_all h
section
variable {k : DKnot} {p many : Int} {z : Nat}
end
/-! ### Counts -/
def cntL (b : Int) (n : Nat) (l : List Int) : List Int := (List.range n).map fun j => (if j = 0 then b else 0) + (l.count ((j : Nat) : Int) : Int)
section
variable {b a v : Int} {n : Nat} {l : List Int}
end

/-! ### Trees -/
/-! ### What the walks ask -/
section
variable {x : List DKnot} {z : Nat} {a : DKnot}
end
end Go.Proofs.YtconciibbhpigaaDoor.VL
/- Proved here: budgets of lists, names, cards and decks. Plain Lean, no program. -/
set_option linter.unusedVariables false
set_option linter.unusedSimpArgs false
namespace Go.Proofs.YtconciibbhpigaaDoor.VL
open Go
/-! ### Budgets -/
section
variable {α : Type} {f : α → Int → Int} {q : α → Prop} {x : List α} {l : Int} {p : Nat × Int} {a : α}
end
/-! ### Names -/
def low (b : UInt8) : Prop := 97 ≤ b.toNat ∧ b.toNat ≤ 122
theorem byteI {s : ByteArray} {z : Nat} (h : z < s.size) : ∃ b, s[Int.toNat ((z : Nat) : Int)]? = some b := ⟨s[z], getElem?_pos s z h⟩
theorem byte_lt {s : ByteArray} {z : Nat} {b : UInt8} (h : s[z]? = some b) : z < s.size := by
  rcases Nat.lt_or_ge z s.size with h1 | h1
  · exact h1
  · rw [getElem?_neg s z (by omega)] at h; cases h
theorem byte_data {s : ByteArray} (i : Nat) : s[i]? = s.data[i]? := by
  rcases Nat.lt_or_ge i s.size with h | h
  · rw [getElem?_pos s i h, Array.getElem?_eq_getElem (by exact h)]; rfl
  · rw [getElem?_neg s i (by omega), Array.getElem?_eq_none (by exact h)]
theorem ext_get {s : ByteArray} {i j k : Nat} (h : i + k < j) (hj : j ≤ s.size) : (s.extract i j)[k]? = s[i + k]? := by
  rw [byte_data, byte_data, ByteArray.data_extract, Array.getElem?_extract]
  have : j ≤ s.data.size := hj
  rw [if_pos (by omega)]
theorem ext_size {s : ByteArray} {i j : Nat} (hj : j ≤ s.size) : (s.extract i j).size = j - i := by
  rw [ByteArray.size_extract]; omega
theorem ext_all (s : ByteArray) : s.extract 0 s.size = s := by
  apply ByteArray.ext
  rw [ByteArray.data_extract]
  exact Array.extract_size
theorem ext_ext {s : ByteArray} {a b c d : Nat} (hb : b ≤ s.size) (hd : a + d ≤ b) : (s.extract a b).extract c d = s.extract (a + c) (a + d) := by
  apply ByteArray.ext
  rw [ByteArray.data_extract, ByteArray.data_extract, ByteArray.data_extract, Array.extract_extract]
  congr 1
  omega
theorem size_zero {s : ByteArray} : s = ByteArray.empty ↔ s.size = 0 := by
  constructor
  · rintro rfl; rfl
  · intro h
    apply ByteArray.ext
    exact Array.eq_empty_of_size_eq_zero h
/-- A set of letters, as far as it has been made. -/
def asP (s : ByteArray) : Nat → List Bool
  | 0 => List.replicate 256 false
  | z + 1 => (asP s z).set ((s[z]?).getD 0).toNat true
theorem asP_step {s : ByteArray} {z : Nat} {b : UInt8} (hb : s[Int.toNat ((z : Nat) : Int)]? = some b) : (asP s z).set (Int.toNat (b.toNat : Int)) true = asP s (z + 1) := by
  rw [toN] at hb
  rw [asP, hb]; rfl
/-- What is left where the last ones that fit are dropped. -/
noncomputable def rkp (p : Nat → Prop) : Nat → Nat
  | 0 => 0
  | n + 1 => @ite _ (p n) (Classical.propDecidable _) (rkp p n) (n + 1)
theorem rkp_at {p : Nat → Prop} {z : Nat} : ∀ {n : Nat}, z ≤ n → (∀ i, z ≤ i → i < n → p i) → (z = 0 ∨ ¬ p (z - 1)) → rkp p n = z
  | 0, hz, _, _ => by rw [rkp]; omega
  | n + 1, hz, h, h0 => by
    rcases Nat.lt_or_ge n z with h1 | h1
    · obtain rfl : z = n + 1 := by omega
      rw [rkp, if_neg (by simpa using h0)]
    · rw [rkp, if_pos (h n h1 (by omega))]
      exact rkp_at h1 (fun i h2 h3 => h i h2 (by omega)) h0
theorem rkp_le (p : Nat → Prop) : ∀ n, rkp p n ≤ n
  | 0 => Nat.le_refl 0
  | n + 1 => by unfold rkp; split; exact Nat.le_succ_of_le (rkp_le p n); exact Nat.le_refl _
theorem rkp_zero {p : Nat → Prop} : ∀ {n : Nat}, rkp p n = 0 → ∀ i, i < n → p i
  | 0, _, i, hi => absurd hi (Nat.not_lt_zero i)
  | n + 1, h, i, hi => by
    unfold rkp at h
    split at h
    · rename_i hp
      rcases Nat.lt_or_ge i n with h1 | h1
      · exact rkp_zero h i h1
      · obtain rfl : i = n := by omega
        exact hp
    · omega
theorem rkp_last {p : Nat → Prop} : ∀ {n : Nat}, 0 < rkp p n → ¬ p (rkp p n - 1)
  | 0, h => absurd h (by simp [rkp])
  | n + 1, h => by
    unfold rkp at h ⊢
    split at h
    · rename_i hp; rw [if_pos hp]; exact rkp_last h
    · rename_i hp; rw [if_neg hp]; simpa using hp
theorem pre_le (p : Nat → Prop) : ∀ n, pre p n ≤ n
  | 0 => Nat.le_refl 0
  | n + 1 => by unfold pre; split; exact Nat.le_refl _; exact Nat.le_succ_of_le (pre_le p n)
theorem pre_full {p : Nat → Prop} : ∀ {n : Nat}, pre p n = n → ∀ i, i < n → p i
  | 0, _, i, hi => absurd hi (Nat.not_lt_zero i)
  | n + 1, h, i, hi => by
    unfold pre at h
    split at h
    · rename_i h1; exact h1 i hi
    · have := pre_le p n; omega
abbrev DMask := BitVec 64 × BitVec 64
abbrev DCard := ByteArray × DMask
/-! ### Hashes -/
end Go.Proofs.YtconciibbhpigaaDoor.VL
/- Proved here: places in lists, and decks. Plain Lean, no program. -/
set_option linter.unusedVariables false
set_option linter.unusedSimpArgs false
namespace Go.Proofs.YtconciibbhpigaaDoor.VL
open Go
/-! ### Places -/
section
variable {α : Type} {q : α → Bool} {x : List α} {z : Nat} {a : α}
/-- The first one that fits, or -1. -/
def idxQ (q : α → Bool) (x : List α) : Int := if x.findIdx q < x.length then (x.findIdx q : Int) else -1
def nI (q : α → Bool) (x : List α) (i : Nat) : Prop := ∃ b, x[i]? = some b ∧ q b = false
theorem nI_iff (ha : x[Int.toNat ((z : Nat) : Int)]? = some a) : nI q x z ↔ q a = false := by
  rw [toN] at ha
  constructor
  · rintro ⟨b, h1, h2⟩
    rw [ha] at h1; obtain rfl := Option.some.inj h1; exact h2
  · exact fun h => ⟨a, ha, h⟩
theorem idxQ_at (h : ∀ i, i < z → nI q x i) (ha : x[Int.toNat ((z : Nat) : Int)]? = some a) (hq : q a = true) : ((z : Nat) : Int) = idxQ q x := by
  rw [toN] at ha
  have hz := (List.getElem?_eq_some_iff.1 ha).1
  have e : x.findIdx q = z := by
    rw [List.findIdx_eq hz]
    refine ⟨by rw [List.getElem?_eq_getElem hz] at ha; rw [Option.some.inj ha]; exact hq, fun j hj => ?_⟩
    obtain ⟨b, h1, h2⟩ := h j hj
    rw [List.getElem?_eq_getElem (by omega)] at h1
    rw [Option.some.inj h1]; exact h2
  rw [idxQ, e, if_pos hz]
theorem idxQ_end (h : ∀ i, i < z → nI q x i) (hz : x.length ≤ z) : -1 = idxQ q x := by
  have e : x.findIdx q = x.length := by
    rw [List.findIdx_eq_length]
    intro b hb
    obtain ⟨i, hi, rfl⟩ := List.mem_iff_getElem.1 hb
    obtain ⟨c, h1, h2⟩ := h i (by omega)
    rw [List.getElem?_eq_getElem hi] at h1
    rw [Option.some.inj h1]; exact h2
  rw [idxQ, e, if_neg (Nat.lt_irrefl _)]
theorem idxQ_any : decide (idxQ q x ≥ 0) = x.any q := by
  rw [Bool.eq_iff_iff, decide_eq_true_eq, List.any_eq_true, ← List.findIdx_lt_length]
  unfold idxQ
  split <;> omega
theorem any_iff : x.any q = false ↔ ∀ i, i < x.length → nI q x i := by
  rw [List.any_eq_false]
  constructor
  · intro h i hi
    exact ⟨x[i], List.getElem?_eq_getElem hi, by simpa using h _ (List.getElem_mem hi)⟩
  · intro h b hb
    obtain ⟨i, hi, rfl⟩ := List.mem_iff_getElem.1 hb
    obtain ⟨c, h1, h2⟩ := h i hi
    rw [List.getElem?_eq_getElem hi] at h1
    rw [Option.some.inj h1, h2]; decide
end
/-! ### Decks -/
/-! ### A deck within another -/
/-- The card of the same name. -/
noncomputable def findC (s : ByteArray) (y : List DCard) : Int := idxQ (fun b => eqv b.1 s) y
def wiI (x y : List DCard) (i : Nat) : Prop := ∃ a, x[i]? = some a ∧ 0 ≤ findC a.1 y ∧ y[Int.toNat (findC a.1 y)]? = some a
def within (x y : List DCard) : Prop := ∀ i, i < x.length → wiI x y i
/-! ### Checks -/
end Go.Proofs.YtconciibbhpigaaDoor.VL
/- Proved here: holes of masks, answers and their first fault. Plain Lean, no program. -/
set_option linter.unusedVariables false
set_option linter.unusedSimpArgs false
namespace Go.Proofs.YtconciibbhpigaaDoor.VL
open Go
/-! ### Masks -/
abbrev DQuery := DMask × DMask
/-! ### The first fault of an answer -/
section
variable {α : Type} {f : α → Int} {n : Int} {l : List α} {z : Nat} {a b : α}
end
abbrev DAns' := DQuery × List Int × List (Int × Int)
section
variable {x : List DCard} {v : DAns'} {z : Nat}
end
section
variable {x : List DCard} {v : DAns'} {z : Nat}
end
section
variable {x : List DCard} {v : DAns'}
end
end Go.Proofs.YtconciibbhpigaaDoor.VL
/- Proved here: lists of words, lots, and how many false drops are expected of them. Plain Lean, no program. -/
set_option linter.unusedVariables false
set_option linter.unusedSimpArgs false
namespace Go.Proofs.YtconciibbhpigaaDoor.VL
open Go
section
variable {α : Type} {q : α → Prop} {x : List α} {z : Nat} {a : α}
end
/-! ### Expected false drops -/
section
variable {mx : Int × Int × Int} {x : List (List ByteArray)} {m : Int}
end
end Go.Proofs.YtconciibbhpigaaDoor.VL
/- Proved here: fields and schemes, and tables of cards. Plain Lean, no program. -/
set_option linter.unusedVariables false
set_option linter.unusedSimpArgs false
namespace Go.Proofs.YtconciibbhpigaaDoor.VL
open Go
/-! ### Masks that are made -/
def zM : DMask := (0#64, 0#64)
/-! ### Fields -/
abbrev DField := ByteArray × Int × Int × Int
section
variable {f : DField} {M : Int}
end
/-! ### Schemes -/
section
variable {x : List DField} {z : Nat} {f : DField}
end
/-! ### Tables -/
section
variable {s : List DField} {x : List DCard} {l : List Int}
end
/-! ### Counting cards -/
section
variable {α : Type} {q : α → Bool} {x : List α} {z : Nat} {a : α}
end
section
variable {x : List DCard} {a b : Int}
end
end Go.Proofs.YtconciibbhpigaaDoor.VL
/- Proved here: masks bit by bit, and what holes have how many cards. Plain Lean, no program. -/
set_option linter.unusedVariables false
set_option linter.unusedSimpArgs false
namespace Go.Proofs.YtconciibbhpigaaDoor.VL
open Go
/-! ### Bits -/
def bitB (m : DMask) (i : Nat) : Bool := if i < 64 then m.1.getLsbD i else m.2.getLsbD (i - 64)
/-! ### How many cards a hole has -/
end Go.Proofs.YtconciibbhpigaaDoor.VL
/- Proved here: lists of holes, marks that are written into rows, and the text of a mark. Plain Lean, no program. -/
set_option linter.unusedVariables false
set_option linter.unusedSimpArgs false
namespace Go.Proofs.YtconciibbhpigaaDoor.VL
open Go
/-! ### Holes -/
def hol (m : DMask) (z : Nat) : List Int := ((List.range z).filter (bitB m)).map fun (h : Nat) => (h : Int)
/-! ### Marks -/
/-! ### The text of a mark -/
end Go.Proofs.YtconciibbhpigaaDoor.VL
/- Proved here: the nearest cards. Plain Lean, no program. -/
set_option linter.unusedVariables false
set_option linter.unusedSimpArgs false
namespace Go.Proofs.YtconciibbhpigaaDoor.VL
open Go
section
variable {m : DMask} {x : List DCard} {z : Nat} {c : DCard}
end
end Go.Proofs.YtconciibbhpigaaDoor.VL
/- Proved here: marks of rows of cards, edits, texts and witnesses. Plain Lean, no program. -/
set_option linter.unusedVariables false
set_option linter.unusedSimpArgs false
namespace Go.Proofs.YtconciibbhpigaaDoor.VL
open Go
section
variable {α : Type} {f : Int → α} {w k : Int} {x : List α} {z n : Nat} {a : α}
end
/-! ### Limbs -/
/-! ### What is written -/
end Go.Proofs.YtconciibbhpigaaDoor.VL
/- Proved here: the codes of values in fields, and what value a mask keeps. Plain Lean, no program. -/
set_option linter.unusedVariables false
set_option linter.unusedSimpArgs false
namespace Go.Proofs.YtconciibbhpigaaDoor.VL
open Go
/-! ### Powers -/
/-! ### Notches -/
/-! ### Digits -/
/-! ### Codes -/
section
variable {f : DField} {m : DMask} {z : Nat}
end
end Go.Proofs.YtconciibbhpigaaDoor.VL
/- Proved here: edits of decks. Plain Lean, no program. -/
set_option linter.unusedVariables false
set_option linter.unusedSimpArgs false
namespace Go.Proofs.YtconciibbhpigaaDoor.VL
open Go
abbrev DEdit := Int × ByteArray × Int × DMask
section
variable {e : DEdit}
end
/-- The card at a place. -/
def cAt (x : List DCard) (k : Int) : DCard := x.getD k.toNat (.empty, zM)
section
variable {x : List DCard} {e : DEdit} {a : DCard}
end
section
variable {c : BitVec 64} {x : List DCard} {e : DEdit}
end
end Go.Proofs.YtconciibbhpigaaDoor.VL
/- Proved here: rows of edits, and decks that are merged. Plain Lean, no program. -/
set_option linter.unusedVariables false
set_option linter.unusedSimpArgs false
namespace Go.Proofs.YtconciibbhpigaaDoor.VL
open Go
/-! ### All of a row -/
section
variable {α : Type} {q : α → Bool} {x : List α} {z : Nat} {a : α}
end
/-! ### Undoing -/
section
variable {l : List DEdit} {z : Nat} {e : DEdit}
end
/-! ### One edit behind another -/
section
variable {x y : List DCard} {l : List DEdit}
end
/-! ### Edits between decks -/
section
variable {a b : List DCard}
end
/-! ### Names of several decks -/
noncomputable def isNew (prev : List (List DCard)) (s : ByteArray) : Bool := prev.all fun y => decide (findC s y < 0)
noncomputable def nmOf : List (List DCard) → List (List DCard) → List ByteArray
  | _, [] => []
  | prev, x :: r => (x.map (·.1)).filter (isNew prev) ++ nmOf (prev ++ [x]) r
noncomputable def names (ds : List (List DCard)) : List ByteArray := nmOf [] ds
/-! ### States -/
abbrev DState := Bool × DMask
noncomputable def stOf (x : List DCard) (s : ByteArray) : DState := if findC s x < 0 then (false, zM) else (true, (cAt x (findC s x)).2)
section
variable {base a b : List DCard}
end
/-- What becomes of a card. -/
noncomputable def pickS (base a b : List DCard) (s : ByteArray) : DState := if stOf b s = stOf base s then stOf a s else stOf b s
noncomputable def pickC (base a b : List DCard) (s : ByteArray) : List DCard := if (pickS base a b s).1 = true then [(s, (pickS base a b s).2)] else []
noncomputable def merged (base a b : List DCard) : List DCard := (names [base, a, b]).flatMap (pickC base a b)
section
variable {base a b : List DCard} {s : ByteArray}
end
end Go.Proofs.YtconciibbhpigaaDoor.VL
/- Proved here: numbers and edits in text. Plain Lean, no program. -/
set_option linter.unusedVariables false
set_option linter.unusedSimpArgs false
namespace Go.Proofs.YtconciibbhpigaaDoor.VL
open Go
def bnl : ByteArray := ⟨#[10]⟩
/-! ### A card's text -/
/-! ### Edits -/
end Go.Proofs.YtconciibbhpigaaDoor.VL
/- Proved here: choices that are read from bytes, schemes and decks that are drawn. Plain Lean. -/
set_option linter.unusedVariables false
set_option linter.unusedSimpArgs false
namespace Go.Proofs.YtconciibbhpigaaDoor.VL
open Go
abbrev DSrc := List Int × Int × BitVec 64
def srcI (m : Int) (s : DSrc) : Prop := (∀ b ∈ s.1, 0 ≤ b ∧ b ≤ 255) ∧ s.1.length ≤ 1000000 ∧ 0 ≤ s.2.1 ∧ s.2.1 ≤ m
theorem srcI.le {m n : Int} {s : DSrc} (h : srcI m s) (hmn : m ≤ n) : srcI n s := ⟨h.1, h.2.1, h.2.2.1, by have := h.2.2.2; omega⟩
def nxtB (s : DSrc) : Int := if s.2.1 < (s.1.length : Int) then s.1.getD s.2.1.toNat 0 else 0
def nxtS (s : DSrc) : DSrc := (s.1, s.2.1 + 1, s.2.2 * 6364136223846793005#64 + BitVec.ofInt 64 (nxtB s) + 1442695040888963407#64)
/-- The next number, and what is left. -/
def nxt (s : DSrc) : Int × DSrc := (if s.2.1 + 1 ≤ (s.1.length : Int) then nxtB s else ((((nxtS s).2.2 >>> 40 &&& 255#64).toNat : Nat) : Int), nxtS s)
theorem nxtB_yes {s : DSrc} {b : Int} (h : s.2.1 < (s.1.length : Int)) (hb : s.1[Int.toNat s.2.1]? = some b) : nxtB s = b := by
  rw [nxtB, if_pos h, List.getD_eq_getElem?_getD, hb]; rfl
theorem nxtB_no {s : DSrc} (h : ¬ s.2.1 < (s.1.length : Int)) : nxtB s = 0 := if_neg h
theorem and_255 (x : BitVec 64) : 0 ≤ (((x &&& 255#64).toNat : Nat) : Int) ∧ (((x &&& 255#64).toNat : Nat) : Int) ≤ 255 := by
  have : (x &&& 255#64).toNat ≤ 255 := by rw [BitVec.toNat_and]; exact Nat.and_le_right
  omega
theorem nxtB_in {m : Int} {s : DSrc} (h : srcI m s) : 0 ≤ nxtB s ∧ nxtB s ≤ 255 := by
  unfold nxtB
  split
  · rename_i h1
    have h2 := h.2.2.1
    have h3 : s.1[s.2.1.toNat]? = some s.1[s.2.1.toNat] := List.getElem?_eq_getElem (by omega)
    rw [List.getD_eq_getElem?_getD, h3]
    exact h.1 _ (List.getElem_mem _)
  · omega
theorem nxt_in {m : Int} {s : DSrc} (h : srcI m s) : 0 ≤ (nxt s).1 ∧ (nxt s).1 ≤ 255 := by
  unfold nxt
  split
  · exact nxtB_in h
  · exact and_255 _
theorem nxt_src {m : Int} {s : DSrc} (h : srcI m s) : srcI (m + 1) (nxt s).2 := ⟨h.1, h.2.1, by show 0 ≤ s.2.1 + 1; have := h.2.2.1; omega, by show s.2.1 + 1 ≤ m + 1; have := h.2.2.2; omega⟩
theorem nxt_at {s : DSrc} (h : s.2.1 + 1 ≤ (s.1.length : Int)) : (nxt s).1 = nxtB s := if_pos h
theorem nxt_end {s : DSrc} (h : ¬ s.2.1 + 1 ≤ (s.1.length : Int)) : (nxt s).1 = ((((nxtS s).2.2 >>> 40 &&& 255#64).toNat : Nat) : Int) := if_neg h
/-- A number from 0 to n - 1. -/
def pick (s : DSrc) (n : Int) : Int × DSrc := if n ≤ 1 then (0, s) else if n > 200 then (((nxt s).1 * 256 + (nxt (nxt s).2).1).tmod n, (nxt (nxt s).2).2) else ((nxt s).1.tmod n, (nxt s).2)
theorem pick_1 {s : DSrc} {n : Int} (h : n ≤ 1) : pick s n = (0, s) := if_pos h
theorem pick_2 {s : DSrc} {n : Int} (h : ¬ n ≤ 1) (h1 : n > 200) : pick s n = (((nxt s).1 * 256 + (nxt (nxt s).2).1).tmod n, (nxt (nxt s).2).2) := by rw [pick, if_neg h, if_pos h1]
theorem pick_3 {s : DSrc} {n : Int} (h : ¬ n ≤ 1) (h1 : ¬ n > 200) : pick s n = ((nxt s).1.tmod n, (nxt s).2) := by rw [pick, if_neg h, if_neg h1]
theorem tmod_lt' {a n : Int} (ha : 0 ≤ a) (hn : 0 < n) : 0 ≤ a.tmod n ∧ a.tmod n < n := by
  rw [Int.tmod_eq_emod_of_nonneg ha]
  exact ⟨Int.emod_nonneg _ (by omega), Int.emod_lt_of_pos _ hn⟩
theorem pick_in {m : Int} {s : DSrc} (h : srcI m s) (n : Int) : 0 ≤ (pick s n).1 ∧ (1 ≤ n → (pick s n).1 < n) ∧ (n ≤ 1 → (pick s n).1 = 0) := by
  have h1 := nxt_in h
  have h2 := nxt_in (nxt_src h)
  by_cases h3 : n ≤ 1
  · rw [pick_1 h3]; exact ⟨Int.le_refl 0, fun h4 => (by show (0 : Int) < n; omega), fun _ => rfl⟩
  · by_cases h4 : n > 200
    · rw [pick_2 h3 h4]
      have := tmod_lt' (a := (nxt s).1 * 256 + (nxt (nxt s).2).1) (n := n) (by omega) (by omega)
      exact ⟨this.1, fun _ => this.2, fun h5 => absurd h5 h3⟩
    · rw [pick_3 h3 h4]
      have := tmod_lt' (a := (nxt s).1) (n := n) (by omega) (by omega)
      exact ⟨this.1, fun _ => this.2, fun h5 => absurd h5 h3⟩
theorem pick_src {m : Int} {s : DSrc} (h : srcI m s) (n : Int) : srcI (m + 2) (pick s n).2 := by
  by_cases h3 : n ≤ 1
  · rw [pick_1 h3]; exact h.le (by omega)
  · by_cases h4 : n > 200
    · rw [pick_2 h3 h4]; exact (nxt_src (nxt_src h)).le (by omega)
    · rw [pick_3 h3 h4]; exact (nxt_src h).le (by omega)
/-- Names of cards and fields. -/
def nmL : List ByteArray := [⟨#[97, 110, 116]⟩, ⟨#[98, 101, 101]⟩, ⟨#[99, 111, 119]⟩, ⟨#[100, 111, 103]⟩, ⟨#[101, 101, 108]⟩, ⟨#[102, 111, 120]⟩, ⟨#[103, 110, 117]⟩, ⟨#[104, 101, 110]⟩, ⟨#[105, 98, 105, 115]⟩, ⟨#[106, 97, 121]⟩, ⟨#[107, 105, 116, 101]⟩, ⟨#[108, 97, 114, 107]⟩]
def nm (i : Nat) : ByteArray := nmL.getD i .empty
/-! ### Schemes that are drawn -/
/-! ### Decks that are drawn -/
end Go.Proofs.YtconciibbhpigaaDoor.VL
/- Proved here: decks and masks that are drawn; distances; what a law says of the nearest cards. Plain Lean. -/
set_option linter.unusedVariables false
set_option linter.unusedSimpArgs false
namespace Go.Proofs.YtconciibbhpigaaDoor.VL
open Go
end Go.Proofs.YtconciibbhpigaaDoor.VL
/- Proved here: cards with equal notches, and marks in rows of rows. Plain Lean, no program. -/
set_option linter.unusedVariables false
set_option linter.unusedSimpArgs false
namespace Go.Proofs.YtconciibbhpigaaDoor.VL
open Go
section
variable {x : List DCard} {m : DMask} {y z : Nat} {c : DCard}
end
/-! ### Marks in rows of rows -/
section
variable {x : List (List Int)} {a : List Int} {z : Nat} {k : Int}
end
end Go.Proofs.YtconciibbhpigaaDoor.VL
/- Proved here: the answer that is made. Plain Lean, no program. -/
set_option linter.unusedVariables false
set_option linter.unusedSimpArgs false
namespace Go.Proofs.YtconciibbhpigaaDoor.VL
open Go
section
variable {q : DQuery} {x : List DCard} {z : Nat} {c : DCard}
end
end Go.Proofs.YtconciibbhpigaaDoor.VL
/- Proved here: how deep the knots of a tree lie, the deepest, and the mean. Plain Lean, no program. -/
set_option linter.unusedVariables false
set_option linter.unusedSimpArgs false
namespace Go.Proofs.YtconciibbhpigaaDoor.VL
open Go
/-! ### Depths -/
section
variable {x : List DKnot} {z y : Nat} {a : DKnot}
end
/-! ### The greatest -/
/-! ### The mean -/
section
variable {x : List DKnot} {z : Nat} {a : DKnot} {d : List Int} {v : Int}
end
def shr (p q : Int) : Int × Int := (p.tdiv ((Int.gcd p q : Nat) : Int), q.tdiv ((Int.gcd p q : Nat) : Int))
end Go.Proofs.YtconciibbhpigaaDoor.VL
/- Proved here: marks in knots, and ways through trees. Plain Lean, no program. -/
set_option linter.unusedVariables false
set_option linter.unusedSimpArgs false
namespace Go.Proofs.YtconciibbhpigaaDoor.VL
open Go
/-! ### A way through a tree -/
noncomputable def idxV (v : Int) (l : List Int) : Int := idxQ (fun b => b == v) l
section
variable {x : List DKnot} {q : List Int} {f i : Nat} {st v n : Int} {k : DKnot}
end
section
variable {x : List DKnot} {q : List Int} {k : DKnot}
end
end Go.Proofs.YtconciibbhpigaaDoor.VL
/- Proved here: values with how many cards have them: counted one by one, and out of the sorted list. Plain Lean. -/
set_option linter.unusedVariables false
set_option linter.unusedSimpArgs false
namespace Go.Proofs.YtconciibbhpigaaDoor.VL
open Go
/-- All indices. -/
def idxL (n : Nat) : List Int := (List.range n).map fun i => ((i : Nat) : Int)
/-! ### Codes -/
section
variable {s : List DField} {x : List DCard} {a b i : Int} {f : DField} {z : Nat}
/-! ### What is told of a field -/
end
section
variable {s : List DField} {x : List DCard} {i : Int} {f : DField} {z : Nat}
end
end Go.Proofs.YtconciibbhpigaaDoor.VL
/- Proved here: cards that a tree leads to their leaves: told by what comes to each leaf, and by numbers. Plain Lean. -/
set_option linter.unusedVariables false
set_option linter.unusedSimpArgs false
namespace Go.Proofs.YtconciibbhpigaaDoor.VL
open Go
section
variable {s : List DField} {cs : List DCard} {x : List DKnot} {z : Nat} {c : DCard} {k : DKnot}
end
theorem any_yes {α : Type} {q : α → Bool} {l : List α} {z : Nat} {a : α} (ha : l[Int.toNat ((z : Nat) : Int)]? = some a) (h : q a = true) : l.any q = true := by
  rw [List.any_eq_true]; exact ⟨a, mem_getI ha, h⟩
theorem any_none {α : Type} {q : α → Bool} {l : List α} {z : Nat} (h : ∀ i, i < z → nI q l i) (hz : l.length ≤ z) : l.any q = false := any_iff.2 (all_end h hz)
end Go.Proofs.YtconciibbhpigaaDoor.VL
