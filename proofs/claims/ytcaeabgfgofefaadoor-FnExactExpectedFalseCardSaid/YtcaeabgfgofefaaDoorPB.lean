/- Proved here: what the functions of the first texts compute, in plain Lean: no program. -/
import Derived.Test.YtcaeabgfgofefaaDoorPA
set_option linter.unusedVariables false
set_option linter.unusedSimpArgs false
namespace Go.Proofs.YtcaeabgfgofefaaDoor.VL
open Go
abbrev kMask : Kd (BitVec 64 × BitVec 64) := Kd.pair Kd.u64 Kd.u64
abbrev kShare : Kd (Int × Int) := Kd.pair (Kd.int .i64) (Kd.int .i64)
abbrev kWit : Kd (Int × Int) := Kd.pair (Kd.int .i64) (Kd.int .i16)
abbrev kQuery : Kd ((BitVec 64 × BitVec 64) × (BitVec 64 × BitVec 64)) := Kd.pair kMask kMask
abbrev kAns : Kd (((BitVec 64 × BitVec 64) × (BitVec 64 × BitVec 64)) × List Int × List (Int × Int)) := Kd.pair kQuery (Kd.pair (Kd.slice (Kd.int .i64)) (Kd.slice kWit))
abbrev kKnot : Kd (Int × List Int × List Int × List Int) := Kd.pair (Kd.int .i16) (Kd.pair (Kd.slice (Kd.int .i64)) (Kd.pair (Kd.slice (Kd.int .i16)) (Kd.slice (Kd.int .i64))))
abbrev kCard : Kd (ByteArray × BitVec 64 × BitVec 64) := Kd.pair Kd.str kMask
abbrev kField : Kd (ByteArray × Int × Int × Int) := Kd.pair Kd.str (Kd.pair (Kd.int .i8) (Kd.pair (Kd.int .i16) (Kd.int .i16)))
abbrev kMix : Kd (Int × Int × Int) := Kd.pair (Kd.int .i16) (Kd.pair (Kd.int .i16) (Kd.int .i16))
def toM (x : BitVec 64 × BitVec 64) (z : Nat) : BitVec 64 × BitVec 64 := (if 0 < z then x.1 else 0#64, if 1 < z then x.2 else 0#64)
theorem toM_step (x : BitVec 64 × BitVec 64) {z : Nat} (h : z < 2) : (if Int.toNat (z : Int) = 0 then (if Int.toNat (z : Int) = 0 then x.1 else x.2, (toM x z).2) else ((toM x z).1, if Int.toNat (z : Int) = 0 then x.1 else x.2)) = toM x (z + 1) := by
  rcases (by omega : z = 0 ∨ z = 1) with rfl | rfl <;> rfl
def okM (x : BitVec 64 × BitVec 64) : Bool := x.2 >>> 32 == 0#64
def lessM (x y : BitVec 64 × BitVec 64) : BitVec 64 × BitVec 64 := (x.1 &&& ~~~y.1, x.2 &&& ~~~y.2)
def cntM (x : BitVec 64 × BitVec 64) : Int := pop x.1 + pop x.2
def pcs (x : BitVec 64 × BitVec 64) (z : Nat) : Int := match z with | 0 => 0 | 1 => pop x.1 | _ => pop x.1 + pop x.2
theorem cntM_in (x : BitVec 64 × BitVec 64) : 0 ≤ cntM x ∧ cntM x ≤ 128 := by have := pop_in x.1; have := pop_in x.2; unfold cntM; omega
theorem pcs_in (x : BitVec 64 × BitVec 64) (z : Nat) : 0 ≤ pcs x z ∧ pcs x z ≤ 128 := by have := pop_in x.1; have := pop_in x.2; unfold pcs; split <;> omega
theorem pcs_step (x : BitVec 64 × BitVec 64) {z : Nat} (h : z < 2) : pcs x z + pop (if Int.toNat (z : Int) = 0 then x.1 else x.2) = pcs x (z + 1) ∧ 0 ≤ pcs x z ∧ pcs x z ≤ 128 := by
  refine ⟨?_, pcs_in x z⟩
  rcases (by omega : z = 0 ∨ z = 1) with rfl | rfl
  · show 0 + pop x.1 = pop x.1; omega
  · rfl
theorem rem2_in (x : BitVec 64) : (x % 2#64).toNat ≤ 1 := by rw [BitVec.toNat_umod]; show _ % 2 ≤ 1; omega
theorem half_lt {x : BitVec 64} (h : 0 < x.toNat) : (x / 2#64).toNat < x.toNat := by rw [BitVec.toNat_udiv]; show _ / 2 < _; omega
def distM (x y : BitVec 64 × BitVec 64) : Int := cntM (lessM x y) + cntM (lessM y x)
def distS (x y : BitVec 64 × BitVec 64) : Int × Int := if !(okM x) || !(okM y) then (0, 1) else (distM x y, 0)
def miss (a b : Int) : Nat → Int
  | 0 => 1000000000
  | z + 1 => (miss a b z * (a - b)).tdiv a
def hitC (p : Int) : Nat → Int
  | 0 => 1000000000
  | z + 1 => (hitC p z * (1000000000 - p)).tdiv 1000000000
def chance (a b n m : Int) : Int := hitC (miss a b n.toNat) (b * m).toNat
theorem mul_in {p q P Q : Int} (hp : 0 ≤ p ∧ p ≤ P) (hq : 0 ≤ q ∧ q ≤ Q) : 0 ≤ p * q ∧ p * q ≤ P * Q :=
  ⟨Int.mul_nonneg hp.1 hq.1, Int.mul_le_mul hp.2 hq.2 hq.1 (by omega)⟩
theorem bm_in {b m : Int} (h : 0 ≤ b ∧ b ≤ 96 ∧ 0 ≤ m ∧ m ≤ 12) : 0 ≤ b * m ∧ b * m ≤ 1152 := by
  have := mul_in (p := b) (q := m) (P := 96) (Q := 12) (by omega) (by omega); omega
theorem tdiv_in {p q a P : Int} (ha : 0 < a) (hp : 0 ≤ p ∧ p ≤ P) (hq : 0 ≤ q ∧ q ≤ a) : 0 ≤ (p * q).tdiv a ∧ (p * q).tdiv a ≤ P := by
  have h1 := mul_in hp hq
  refine ⟨Int.tdiv_nonneg h1.1 (by omega), ?_⟩
  have h2 : (p * q).tdiv a ≤ (P * a).tdiv a := by
    rw [Int.tdiv_eq_ediv_of_nonneg h1.1, Int.tdiv_eq_ediv_of_nonneg (by omega)]
    exact Int.ediv_le_ediv ha h1.2
  rw [Int.mul_tdiv_cancel _ (by omega)] at h2
  exact h2
theorem miss_in {a b : Int} (h : 0 < a ∧ a ≤ 96 ∧ 0 ≤ b ∧ b ≤ a) : ∀ z, 0 ≤ miss a b z ∧ miss a b z ≤ 1000000000
  | 0 => by simp [miss]
  | z + 1 => tdiv_in h.1 (miss_in h z) (by omega)
theorem miss_mul {a b : Int} (h : 0 < a ∧ a ≤ 96 ∧ 0 ≤ b ∧ b ≤ a) (z : Nat) : 0 ≤ miss a b z * (a - b) ∧ miss a b z * (a - b) ≤ 1000000000 * 96 :=
  mul_in (miss_in h z) (by omega)
theorem hit_in {p : Int} (h : 0 ≤ p ∧ p ≤ 1000000000) : ∀ z, 0 ≤ hitC p z ∧ hitC p z ≤ 1000000000
  | 0 => by simp [hitC]
  | z + 1 => tdiv_in (by decide) (hit_in h z) (by omega)
theorem hit_mul {p : Int} (h : 0 ≤ p ∧ p ≤ 1000000000) (z : Nat) : 0 ≤ hitC p z * (1000000000 - p) ∧ hitC p z * (1000000000 - p) ≤ 1000000000 * 1000000000 :=
  mul_in (hit_in h z) (by omega)

def inb (x lo hi : Int) : Bool := decide (x ≥ lo) && decide (x ≤ hi)
theorem okMix {x : Int × Int × Int} (h : (kMix).ok x) : (-32768 ≤ x.1 ∧ x.1 ≤ 32767) ∧ (-32768 ≤ x.2.1 ∧ x.2.1 ≤ 32767) ∧ (-32768 ≤ x.2.2 ∧ x.2.2 ≤ 32767) := by
  obtain ⟨h1, h2⟩ := ok_pair h
  obtain ⟨h2, h3⟩ := ok_pair h2
  exact ⟨ok_i16 h1, ok_i16 h2, ok_i16 h3⟩
def mixS (x : Int × Int × Int) : Bool := inb x.2.1 4 96 && inb x.2.2 1 8 && decide (IntKind.i16.wrap (2 * x.2.2) ≤ x.2.1) && inb x.1 0 (96 - x.2.1)
def falseS (x : Int × Int × Int) (n m : Int) : Int × Int := if !(mixS x) then (0, 1) else if !(inb n 0 100) || !(inb m 0 12) then (0, 2) else (chance x.2.1 x.2.2 n m, 0)
def mixI (x : Int × Int × Int) : Bool := decide (x.2.1 ≥ 4) && decide (x.2.1 ≤ 96) && decide (x.2.2 ≥ 1) && decide (x.2.2 ≤ 8) && decide (x.2.2 ≤ IntKind.i16.wrap (x.2.1.tdiv 2)) && decide (x.1 ≥ 0) && decide (x.1 ≤ IntKind.i16.wrap (96 - x.2.1))
def falseI (x : Int × Int × Int) (n m : Int) : Int × Int := if !(mixI x) then (0, 1) else if decide (n < 0) || decide (n > 100) || decide (m < 0) || decide (m > 12) then (0, 2) else (chance x.2.1 x.2.2 n m, 0)
theorem mixS_in {x : Int × Int × Int} (h : mixS x = true) : 4 ≤ x.2.1 ∧ x.2.1 ≤ 96 ∧ 1 ≤ x.2.2 ∧ x.2.2 ≤ 8 ∧ 2 * x.2.2 ≤ x.2.1 := by
  simp only [mixS, inb, Bool.and_eq_true, decide_eq_true_eq] at h
  obtain ⟨⟨⟨⟨h1, h2⟩, h3, h4⟩, h5⟩, h6⟩ := h
  rw [nw16 (by omega)] at h5
  omega
theorem mixI_same {x : Int × Int × Int} (hx : (-32768 ≤ x.1 ∧ x.1 ≤ 32767) ∧ (-32768 ≤ x.2.1 ∧ x.2.1 ≤ 32767) ∧ (-32768 ≤ x.2.2 ∧ x.2.2 ≤ 32767)) : mixI x = mixS x := by
  rw [Bool.eq_iff_iff]
  simp only [mixS, mixI, inb, Bool.and_eq_true, decide_eq_true_eq]
  constructor
  · rintro ⟨⟨⟨⟨⟨⟨h1, h2⟩, h3⟩, h4⟩, h5⟩, h6⟩, h7⟩
    rw [nw16 (by omega)] at h7
    rw [Int.tdiv_eq_ediv_of_nonneg (by omega), nw16 (by omega)] at h5
    rw [nw16 (by omega)]
    omega
  · rintro ⟨⟨⟨⟨h1, h2⟩, h3, h4⟩, h5⟩, h6⟩
    rw [nw16 (by omega)] at h5
    rw [Int.tdiv_eq_ediv_of_nonneg (by omega), nw16 (by omega), nw16 (by omega)]
    omega
theorem mixI_in {x : Int × Int × Int} (hx : (-32768 ≤ x.1 ∧ x.1 ≤ 32767) ∧ (-32768 ≤ x.2.1 ∧ x.2.1 ≤ 32767) ∧ (-32768 ≤ x.2.2 ∧ x.2.2 ≤ 32767)) (h : mixI x = true) : 4 ≤ x.2.1 ∧ x.2.1 ≤ 96 ∧ 1 ≤ x.2.2 ∧ x.2.2 ≤ 8 ∧ 2 * x.2.2 ≤ x.2.1 :=
  mixS_in (by rw [← mixI_same hx]; exact h)
theorem false_same {x : Int × Int × Int} (hx : (-32768 ≤ x.1 ∧ x.1 ≤ 32767) ∧ (-32768 ≤ x.2.1 ∧ x.2.1 ≤ 32767) ∧ (-32768 ≤ x.2.2 ∧ x.2.2 ≤ 32767)) (n m : Int) : falseI x n m = falseS x n m := by
  unfold falseI falseS
  rw [mixI_same hx]
  have : (decide (n < 0) || decide (n > 100) || decide (m < 0) || decide (m > 12)) = (!(inb n 0 100) || !(inb m 0 12)) := by
    rw [Bool.eq_iff_iff]
    simp only [inb, Bool.or_eq_true, Bool.not_eq_true', Bool.and_eq_false_iff, decide_eq_true_eq, decide_eq_false_iff_not]
    omega
  rw [this]

/-! ### Shares -/
theorem gcd_inv {a b : Int} {p : Int × Int} (h : 0 ≤ p.1 ∧ 0 ≤ p.2 ∧ Int.gcd p.1 p.2 = Int.gcd a b) (h0 : 0 < p.2) : 0 ≤ p.2 ∧ 0 ≤ p.1.tmod p.2 ∧ Int.gcd p.2 (p.1.tmod p.2) = Int.gcd a b := by
  refine ⟨h.2.1, Int.tmod_nonneg _ h.1, ?_⟩
  rw [← h.2.2]
  unfold Int.gcd
  rw [Int.natAbs_tmod, Nat.gcd_comm p.1.natAbs, Nat.gcd_rec p.2.natAbs p.1.natAbs, Nat.gcd_comm]
theorem gcd_dec {a b : Int} {p : Int × Int} (h : 0 ≤ p.1 ∧ 0 ≤ p.2 ∧ Int.gcd p.1 p.2 = Int.gcd a b) (h0 : 0 < p.2) : (p.1.tmod p.2).toNat < p.2.toNat := by
  have := Int.tmod_lt_of_pos p.1 h0
  have := Int.tmod_nonneg p.2 h.1
  omega
theorem gcd_end {a b : Int} {p : Int × Int} (h : 0 ≤ p.1 ∧ 0 ≤ p.2 ∧ Int.gcd p.1 p.2 = Int.gcd a b) (h0 : p.2 ≤ 0) : p.1 = ((Int.gcd a b : Nat) : Int) := by
  have : p.2 = 0 := by omega
  rw [← h.2.2, this]
  simp only [Int.gcd_zero]
  omega
def toldS (x : Int × Int) : Bool := inb x.2 1 1000000000 && inb x.1 0 x.2 && (((Int.gcd x.1 x.2 : Nat) : Int) == 1)
theorem told_in {x : Int × Int} (h : toldS x = true) : 1 ≤ x.2 ∧ x.2 ≤ 1000000000 ∧ 0 ≤ x.1 ∧ x.1 ≤ x.2 := by
  simp only [toldS, inb, Bool.and_eq_true, decide_eq_true_eq] at h
  omega
theorem told_mul {x y : Int × Int} (h : toldS x = true) (h' : toldS y = true) : 0 ≤ x.1 * y.2 ∧ x.1 * y.2 ≤ 1000000000 * 1000000000 := by
  have := told_in h; have := told_in h'
  exact mul_in (by omega) (by omega)
def cmpI (a b : Int) : Int := if a < b then -1 else if a > b then 1 else 0
def cmpS (x y : Int × Int) : Int × Int := if !(toldS x) || !(toldS y) then (0, 1) else (cmpI (x.1 * y.2) (y.1 * x.2), 0)
end Go.Proofs.YtcaeabgfgofefaaDoor.VL
