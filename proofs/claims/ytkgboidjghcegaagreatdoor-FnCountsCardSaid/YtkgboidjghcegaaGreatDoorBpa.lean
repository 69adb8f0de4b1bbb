/- Proved here: how many bits of a word are set: by the words' own sums, and by halving. Plain Lean, no program. -/
import Derived.Test.YtkgboidjghcegaaGreatDoorBvb
set_option linter.unusedVariables false
namespace Go.Proofs.YtkgboidjghcegaaGreatDoor.VL
open Go
def ev (B : Nat) : Nat → Nat → Nat
  | 0, _ => 0
  | n + 1, x => x % B + B * B * ev B n (x / (B * B))
def msk (B : Nat) : Nat → Nat
  | 0 => 0
  | n + 1 => (B - 1) + B * B * msk B n
def dsum (B : Nat) : Nat → Nat → Nat
  | 0, _ => 0
  | n + 1, x => x % B + dsum B n (x / B)
def prs (B : Nat) : Nat → Nat → Nat
  | 0, _ => 0
  | n + 1, x => (x % B + x / B % B) + B * B * prs B n (x / (B * B))
/-- All digits are at most c. -/
def dle (B c : Nat) : Nat → Nat → Prop
  | 0, x => x = 0
  | n + 1, x => x % B ≤ c ∧ dle B c n (x / B)
theorem and_msk {w B : Nat} (hB : B = 2 ^ w) (hw : 0 < w) : ∀ n x, x &&& msk B n = ev B n x
  | 0, x => by simp [msk, ev]
  | n + 1, x => by
    have hpos : 0 < B := by rw [hB]; exact Nat.two_pow_pos w
    have hBB : B * B = 2 ^ (w + w) := by rw [hB, Nat.pow_add]
    have e1 : msk B (n + 1) % (B * B) = B - 1 := by
      rw [msk, Nat.add_mul_mod_self_left, Nat.mod_eq_of_lt]
      have : B * 1 ≤ B * B := Nat.mul_le_mul_left _ hpos
      omega
    have e2 : msk B (n + 1) / (B * B) = msk B n := by
      rw [msk, Nat.add_mul_div_left _ _ (Nat.mul_pos hpos hpos), Nat.div_eq_of_lt, Nat.zero_add]
      have : B * 1 ≤ B * B := Nat.mul_le_mul_left _ hpos
      omega
    have h1 : (x &&& msk B (n + 1)) % (B * B) = x % B := by
      rw [hBB, Nat.and_mod_two_pow, ← hBB, e1, hB, Nat.and_two_pow_sub_one_eq_mod, Nat.mod_mod_of_dvd]
      exact ⟨2 ^ w, rfl⟩
    have h2 : (x &&& msk B (n + 1)) / (B * B) = ev B n (x / (B * B)) := by
      rw [hBB, Nat.and_div_two_pow, ← hBB, e2]
      exact and_msk hB hw n _
    rw [ev, ← h1, ← h2]
    exact (Nat.mod_add_div _ _).symm
theorem ev_prs (B : Nat) : ∀ n x, ev B n (x / B) + ev B n x = prs B n x
  | 0, x => rfl
  | n + 1, x => by
    rw [ev, ev, prs, ← ev_prs B n (x / (B * B))]
    have : x / B / (B * B) = x / (B * B) / B := by rw [Nat.div_div_eq_div_mul, Nat.div_div_eq_div_mul, Nat.mul_comm]
    rw [this, Nat.mul_add]
    omega
theorem dsum_prs {B : Nat} (hB : 2 ≤ B) : ∀ n x, dsum (B * B) n (prs B n x) = dsum B (n + n) x
  | 0, x => rfl
  | n + 1, x => by
    have h1 := Nat.mod_lt x (show 0 < B by omega)
    have h2 := Nat.mod_lt (x / B) (show 0 < B by omega)
    have h3 : 2 * B ≤ B * B := Nat.mul_le_mul_right _ hB
    have e1 : prs B (n + 1) x % (B * B) = x % B + x / B % B := by
      rw [prs, Nat.add_mul_mod_self_left, Nat.mod_eq_of_lt (by omega)]
    have e2 : prs B (n + 1) x / (B * B) = prs B n (x / (B * B)) := by
      rw [prs, Nat.add_mul_div_left _ _ (by omega), Nat.div_eq_of_lt (by omega), Nat.zero_add]
    rw [dsum, e1, e2, dsum_prs hB n, show n + 1 + (n + 1) = n + n + 1 + 1 by omega, dsum, dsum, Nat.div_div_eq_div_mul]
    omega
theorem dle_prs {B c : Nat} (hB : 2 ≤ B) : ∀ n x, dle B c (n + n) x → dle (B * B) (c + c) n (prs B n x)
  | 0, x, h => rfl
  | n + 1, x, h => by
    have h1 := Nat.mod_lt x (show 0 < B by omega)
    have h2 := Nat.mod_lt (x / B) (show 0 < B by omega)
    have h3 : 2 * B ≤ B * B := Nat.mul_le_mul_right _ hB
    have e1 : prs B (n + 1) x % (B * B) = x % B + x / B % B := by
      rw [prs, Nat.add_mul_mod_self_left, Nat.mod_eq_of_lt (by omega)]
    have e2 : prs B (n + 1) x / (B * B) = prs B n (x / (B * B)) := by
      rw [prs, Nat.add_mul_div_left _ _ (by omega), Nat.div_eq_of_lt (by omega), Nat.zero_add]
    rw [show n + 1 + (n + 1) = n + n + 1 + 1 by omega] at h
    obtain ⟨g1, g2, g3⟩ := h
    rw [Nat.div_div_eq_div_mul] at g3
    refine ⟨?_, ?_⟩
    · rw [e1]; omega
    · rw [e2]; exact dle_prs hB n _ g3
theorem dle_two : ∀ n x, x < 2 ^ n → dle 2 1 n x
  | 0, x, h => by simp at h; exact h
  | n + 1, x, h => ⟨by omega, dle_two n _ (by rw [Nat.pow_succ] at h; omega)⟩
theorem dle_lt {B c : Nat} (hc : c < B) : ∀ n x, dle B c n x → x < B ^ n
  | 0, x, h => by rw [show x = 0 from h]; simp
  | n + 1, x, h => by
    have := dle_lt hc n _ h.2
    rw [Nat.pow_succ]
    exact (Nat.div_lt_iff_lt_mul (by omega)).1 this
/-- The third step sums first and masks then. -/
theorem third : ∀ n x, dle 16 4 (n + n) x → ev 16 n (x / 16 + x) = prs 16 n x
  | 0, x, h => rfl
  | n + 1, x, h => by
    rw [show n + 1 + (n + 1) = n + n + 1 + 1 by omega] at h
    obtain ⟨g1, g2, g3⟩ := h
    rw [Nat.div_div_eq_div_mul] at g3
    have h4 : x / (16 * 16) % 16 ≤ 4 := by
      cases n with
      | zero => have : x / (16 * 16) = 0 := g3; omega
      | succ n => rw [show n + 1 + (n + 1) = n + n + 1 + 1 by omega] at g3; exact g3.1
    rw [ev, prs, ← third n _ g3]
    simp only [show (16 * 16 : Nat) = 256 from rfl] at *
    obtain ⟨y, hy⟩ : ∃ y, y = x / 256 := ⟨_, rfl⟩
    obtain ⟨d0, hd0⟩ : ∃ d, d = x % 16 := ⟨_, rfl⟩
    obtain ⟨d1, hd1⟩ : ∃ d, d = x / 16 % 16 := ⟨_, rfl⟩
    have hx : x = d0 + 16 * d1 + 256 * y := by omega
    rw [← hd0, ← hd1, ← hy]
    rw [← hy] at h4
    have k0 : d0 ≤ 4 := by omega
    have k1 : d1 ≤ 4 := by omega
    clear hd0 hd1 g1 g2 g3 hy
    subst hx
    have e1 : (d0 + 16 * d1 + 256 * y) / 16 = d1 + 16 * y := by omega
    rw [e1]
    have e2 : (d1 + 16 * y + (d0 + 16 * d1 + 256 * y)) / 256 = y / 16 + y := by omega
    have e3 : (d1 + 16 * y + (d0 + 16 * d1 + 256 * y)) % 16 = d0 + d1 := by omega
    rw [e2, e3]
theorem last {z : Nat} (h : dle 256 8 8 z) : (z + z / 256 + (z + z / 256) / 65536 + (z + z / 256 + (z + z / 256) / 65536) / 4294967296) % 128 = dsum 256 8 z := by
  simp only [dle, Nat.div_div_eq_div_mul] at h
  obtain ⟨h0, h1, h2, h3, h4, h5, h6, h7, h8⟩ := h
  simp only [dsum, Nat.div_div_eq_div_mul]
  simp only [Nat.reduceMul] at *
  obtain ⟨a0, e0⟩ : ∃ d, d = z % 256 := ⟨_, rfl⟩
  obtain ⟨a1, e1⟩ : ∃ d, d = z / 256 % 256 := ⟨_, rfl⟩
  obtain ⟨a2, e2⟩ : ∃ d, d = z / 65536 % 256 := ⟨_, rfl⟩
  obtain ⟨a3, e3⟩ : ∃ d, d = z / 16777216 % 256 := ⟨_, rfl⟩
  obtain ⟨a4, e4⟩ : ∃ d, d = z / 4294967296 % 256 := ⟨_, rfl⟩
  obtain ⟨a5, e5⟩ : ∃ d, d = z / 1099511627776 % 256 := ⟨_, rfl⟩
  obtain ⟨a6, e6⟩ : ∃ d, d = z / 281474976710656 % 256 := ⟨_, rfl⟩
  obtain ⟨a7, e7⟩ : ∃ d, d = z / 72057594037927936 % 256 := ⟨_, rfl⟩
  rw [← e0] at h0 ⊢
  rw [← e1] at h1 ⊢
  rw [← e2] at h2 ⊢
  rw [← e3] at h3 ⊢
  rw [← e4] at h4 ⊢
  rw [← e5] at h5 ⊢
  rw [← e6] at h6 ⊢
  rw [← e7] at h7 ⊢
  have hz : z = a0 + 256 * a1 + 65536 * a2 + 16777216 * a3 + 4294967296 * a4 + 1099511627776 * a5 + 281474976710656 * a6 + 72057594037927936 * a7 := by omega
  clear e0 e1 e2 e3 e4 e5 e6 e7 h8
  subst hz
  have f1 : (a0 + 256 * a1 + 65536 * a2 + 16777216 * a3 + 4294967296 * a4 + 1099511627776 * a5 + 281474976710656 * a6 + 72057594037927936 * a7) / 256 = a1 + 256 * a2 + 65536 * a3 + 16777216 * a4 + 4294967296 * a5 + 1099511627776 * a6 + 281474976710656 * a7 := by omega
  rw [f1]
  have f2 : (a0 + 256 * a1 + 65536 * a2 + 16777216 * a3 + 4294967296 * a4 + 1099511627776 * a5 + 281474976710656 * a6 + 72057594037927936 * a7 + (a1 + 256 * a2 + 65536 * a3 + 16777216 * a4 + 4294967296 * a5 + 1099511627776 * a6 + 281474976710656 * a7)) / 65536 = (a2 + a3) + 256 * (a3 + a4) + 65536 * (a4 + a5) + 16777216 * (a5 + a6) + 4294967296 * (a6 + a7) + 1099511627776 * a7 := by omega
  rw [f2]
  have f3 : (a0 + 256 * a1 + 65536 * a2 + 16777216 * a3 + 4294967296 * a4 + 1099511627776 * a5 + 281474976710656 * a6 + 72057594037927936 * a7 + (a1 + 256 * a2 + 65536 * a3 + 16777216 * a4 + 4294967296 * a5 + 1099511627776 * a6 + 281474976710656 * a7) + ((a2 + a3) + 256 * (a3 + a4) + 65536 * (a4 + a5) + 16777216 * (a5 + a6) + 4294967296 * (a6 + a7) + 1099511627776 * a7)) / 4294967296 = (a4 + a5 + a6 + a7) + 256 * (a5 + a6 + a7) + 65536 * (a6 + a7) + 16777216 * a7 := by clear f1 f2; omega
  rw [f3]
  clear f1 f2 f3
  omega

/-- How many bits are set. -/
def pop (x : BitVec 64) : Int := (dsum 2 64 x.toNat : Nat)
theorem dsum_zero (B : Nat) : ∀ n, dsum B n 0 = 0
  | 0 => rfl
  | n + 1 => by rw [dsum, Nat.zero_mod, Nat.zero_div, dsum_zero B n]
theorem dsum_more {B : Nat} (hB : 0 < B) : ∀ n x, x < B ^ n → dsum B (n + 1) x = dsum B n x
  | 0, x, h => by
    have : x = 0 := by simpa using h
    subst this; rw [dsum_zero, dsum_zero]
  | n + 1, x, h => by
    rw [dsum, dsum_more hB n (x / B) (Nat.div_lt_of_lt_mul (by rw [Nat.pow_succ, Nat.mul_comm] at h; exact h)), ← dsum]
theorem dsum_le : ∀ n x, dsum 2 n x ≤ n
  | 0, x => Nat.le_refl 0
  | n + 1, x => by rw [dsum]; have := dsum_le n (x / 2); omega
theorem pop_in (x : BitVec 64) : 0 ≤ pop x ∧ pop x ≤ 64 := by
  have := dsum_le 64 x.toNat
  unfold pop; omega
theorem pop_step (x : BitVec 64) : pop x = ((x % 2#64).toNat : Int) + pop (x / 2#64) := by
  unfold pop
  rw [← dsum_more (by omega) 64 x.toNat x.isLt, dsum]
  rw [BitVec.toNat_udiv, BitVec.toNat_umod]
  simp
theorem pop_of_zero {x : BitVec 64} (h : ¬ x.toNat > (0#64).toNat) : pop x = 0 := by
  have : x = 0 := BitVec.eq_of_toNat_eq (by simp at h; simpa using h)
  subst this; rfl
def ones1 (x : BitVec 64) : BitVec 64 := (x >>> 1 &&& 6148914691236517205#64) + (x &&& 6148914691236517205#64)
def ones2 (x : BitVec 64) : BitVec 64 := (x >>> 2 &&& 3689348814741910323#64) + (x &&& 3689348814741910323#64)
def ones3 (x : BitVec 64) : BitVec 64 := (x >>> 4 + x) &&& 1085102592571150095#64
def ones4 (x : BitVec 64) : BitVec 64 := (x + x >>> 8) + (x + x >>> 8) >>> 16 + ((x + x >>> 8) + (x + x >>> 8) >>> 16) >>> 32
theorem ones1_eq (x : BitVec 64) : (ones1 x).toNat = prs 2 32 x.toNat := by
  unfold ones1
  have hd := dle_prs (B := 2) (c := 1) (by omega) 32 x.toNat (dle_two 64 _ x.isLt)
  have hlt := dle_lt (by omega) 32 _ hd
  rw [BitVec.toNat_add, BitVec.toNat_and, BitVec.toNat_and, BitVec.toNat_ushiftRight, Nat.shiftRight_eq_div_pow]
  rw [show (6148914691236517205#64).toNat = msk 2 32 from rfl, and_msk (w := 1) rfl (by omega), and_msk (w := 1) rfl (by omega)]
  rw [show (2 : Nat) ^ 1 = 2 from rfl, ev_prs, Nat.mod_eq_of_lt hlt]
theorem ones2_eq (x : BitVec 64) (h : dle 4 2 32 x.toNat) : (ones2 x).toNat = prs 4 16 x.toNat := by
  unfold ones2
  have hd := dle_prs (B := 4) (c := 2) (by omega) 16 x.toNat h
  have hlt := dle_lt (by omega) 16 _ hd
  rw [BitVec.toNat_add, BitVec.toNat_and, BitVec.toNat_and, BitVec.toNat_ushiftRight, Nat.shiftRight_eq_div_pow]
  rw [show (3689348814741910323#64).toNat = msk 4 16 from rfl, and_msk (w := 2) rfl (by omega), and_msk (w := 2) rfl (by omega)]
  rw [show (2 : Nat) ^ 2 = 4 from rfl, ev_prs, Nat.mod_eq_of_lt hlt]
theorem ones3_eq (x : BitVec 64) (h : dle 16 4 16 x.toNat) : (ones3 x).toNat = prs 16 8 x.toNat := by
  unfold ones3
  have hx : x.toNat ≤ 4919131752989213764 := by
    simp only [dle, Nat.div_div_eq_div_mul] at h
    simp only [Nat.reduceMul] at h
    omega
  rw [BitVec.toNat_and, BitVec.toNat_add, BitVec.toNat_ushiftRight, Nat.shiftRight_eq_div_pow]
  rw [Nat.mod_eq_of_lt (by omega), show (1085102592571150095#64).toNat = msk 16 8 from rfl, and_msk (w := 4) rfl (by omega)]
  exact third 8 _ h
theorem ones4_eq (x : BitVec 64) (h : dle 256 8 8 x.toNat) : (ones4 x).toNat < 9223372036854775808 ∧ (ones4 x).toNat % 128 = dsum 256 8 x.toNat := by
  unfold ones4
  have hx : x.toNat ≤ 578721382704613384 := by
    simp only [dle, Nat.div_div_eq_div_mul] at h
    simp only [Nat.reduceMul] at h
    omega
  have e1 : (x + x >>> 8).toNat = x.toNat + x.toNat / 256 := by
    rw [BitVec.toNat_add, BitVec.toNat_ushiftRight, Nat.shiftRight_eq_div_pow]
    exact Nat.mod_eq_of_lt (by omega)
  have e2 : ((x + x >>> 8) + (x + x >>> 8) >>> 16).toNat = x.toNat + x.toNat / 256 + (x.toNat + x.toNat / 256) / 65536 := by
    rw [BitVec.toNat_add, BitVec.toNat_ushiftRight, Nat.shiftRight_eq_div_pow, e1]
    exact Nat.mod_eq_of_lt (by omega)
  have e3 : ((x + x >>> 8) + (x + x >>> 8) >>> 16 + ((x + x >>> 8) + (x + x >>> 8) >>> 16) >>> 32).toNat
      = x.toNat + x.toNat / 256 + (x.toNat + x.toNat / 256) / 65536 + (x.toNat + x.toNat / 256 + (x.toNat + x.toNat / 256) / 65536) / 4294967296 := by
    rw [BitVec.toNat_add, BitVec.toNat_ushiftRight, Nat.shiftRight_eq_div_pow, e2]
    exact Nat.mod_eq_of_lt (by omega)
  rw [e3]
  exact ⟨by omega, last h⟩
theorem ones_eq (x : BitVec 64) : (ones4 (ones3 (ones2 (ones1 x)))).toNat < 9223372036854775808 ∧ (((ones4 (ones3 (ones2 (ones1 x)))).toNat &&& 127 : Nat) : Int) = pop x := by
  have d1 := dle_prs (B := 2) (c := 1) (by omega) 32 x.toNat (dle_two 64 _ x.isLt)
  rw [← ones1_eq] at d1
  have d2 := dle_prs (B := 4) (c := 2) (by omega) 16 _ d1
  rw [← ones2_eq _ d1] at d2
  have d3 := dle_prs (B := 16) (c := 4) (by omega) 8 _ d2
  rw [← ones3_eq _ d2] at d3
  obtain ⟨h1, h2⟩ := ones4_eq _ d3
  refine ⟨h1, ?_⟩
  rw [show (127 : Nat) = 2 ^ 7 - 1 from rfl, Nat.and_two_pow_sub_one_eq_mod]
  rw [show (2 : Nat) ^ 7 = 128 from rfl, h2, ones3_eq _ d2]
  have s3 := dsum_prs (B := 16) (by omega) 8 (ones2 (ones1 x)).toNat
  rw [s3, ones2_eq _ d1]
  have s2 := dsum_prs (B := 4) (by omega) 16 (ones1 x).toNat
  rw [s2, ones1_eq]
  have s1 := dsum_prs (B := 2) (by omega) 32 x.toNat
  rw [s1]
  rfl
theorem ones_wrap (x : BitVec 64) : IntKind.i64.wrap ((ones4 (ones3 (ones2 (ones1 x)))).toNat : Int) = ((ones4 (ones3 (ones2 (ones1 x)))).toNat : Int) := wrap_i64 (by have := (ones_eq x).1; omega)
end Go.Proofs.YtkgboidjghcegaaGreatDoor.VL
/- Proved here: what the functions of the first texts compute, in plain Lean: no program. -/
set_option linter.unusedVariables false
set_option linter.unusedSimpArgs false
namespace Go.Proofs.YtkgboidjghcegaaGreatDoor.VL
open Go
abbrev kMask : Kd (BitVec 64 × BitVec 64) := Kd.pair Kd.u64 Kd.u64
abbrev kShare : Kd (Int × Int) := Kd.pair (Kd.int .i64) (Kd.int .i64)
abbrev kCard : Kd (ByteArray × BitVec 64 × BitVec 64) := Kd.pair Kd.str kMask
abbrev kField : Kd (ByteArray × Int × Int × Int) := Kd.pair Kd.str (Kd.pair (Kd.int .i8) (Kd.pair (Kd.int .i16) (Kd.int .i16)))
def okM (x : BitVec 64 × BitVec 64) : Bool := x.2 >>> 32 == 0#64
def lessM (x y : BitVec 64 × BitVec 64) : BitVec 64 × BitVec 64 := (x.1 &&& ~~~y.1, x.2 &&& ~~~y.2)
def cntM (x : BitVec 64 × BitVec 64) : Int := pop x.1 + pop x.2
def pcs (x : BitVec 64 × BitVec 64) (z : Nat) : Int := match z with | 0 => 0 | 1 => pop x.1 | _ => pop x.1 + pop x.2
theorem pcs_in (x : BitVec 64 × BitVec 64) (z : Nat) : 0 ≤ pcs x z ∧ pcs x z ≤ 128 := by have := pop_in x.1; have := pop_in x.2; unfold pcs; split <;> omega
theorem pcs_step (x : BitVec 64 × BitVec 64) {z : Nat} (h : z < 2) : pcs x z + pop (if Int.toNat (z : Int) = 0 then x.1 else x.2) = pcs x (z + 1) ∧ 0 ≤ pcs x z ∧ pcs x z ≤ 128 := by
  refine ⟨?_, pcs_in x z⟩
  rcases (by omega : z = 0 ∨ z = 1) with rfl | rfl
  · show 0 + pop x.1 = pop x.1; omega
  · rfl
theorem rem2_in (x : BitVec 64) : (x % 2#64).toNat ≤ 1 := by rw [BitVec.toNat_umod]; show _ % 2 ≤ 1; omega
theorem half_lt {x : BitVec 64} (h : 0 < x.toNat) : (x / 2#64).toNat < x.toNat := by rw [BitVec.toNat_udiv]; show _ / 2 < _; omega
def distM (x y : BitVec 64 × BitVec 64) : Int := cntM (lessM x y) + cntM (lessM y x)
theorem mul_in {p q P Q : Int} (hp : 0 ≤ p ∧ p ≤ P) (hq : 0 ≤ q ∧ q ≤ Q) : 0 ≤ p * q ∧ p * q ≤ P * Q :=
  ⟨Int.mul_nonneg hp.1 hq.1, Int.mul_le_mul hp.2 hq.2 hq.1 (by omega)⟩
def inb (x lo hi : Int) : Bool := decide (x ≥ lo) && decide (x ≤ hi)
/-! ### Shares -/
theorem gcd_inv {a b : Int} {p : Int × Int} (h : 0 ≤ p.1 ∧ 0 ≤ p.2 ∧ Int.gcd p.1 p.2 = Int.gcd a b) (h0 : 0 < p.2) : 0 ≤ p.2 ∧ 0 ≤ p.1.tmod p.2 ∧ Int.gcd p.2 (p.1.tmod p.2) = Int.gcd a b := by
  refine ⟨h.2.1, Int.tmod_nonneg _ h.1, ?_⟩
  rw [← h.2.2]
  unfold Int.gcd
  rw [Int.natAbs_tmod, Nat.gcd_comm p.1.natAbs, Nat.gcd_rec p.2.natAbs p.1.natAbs, Nat.gcd_comm]
theorem gcd_dec {a b : Int} {p : Int × Int} (h : 0 ≤ p.1 ∧ 0 ≤ p.2 ∧ Int.gcd p.1 p.2 = Int.gcd a b) (h0 : 0 < p.2) : (p.1.tmod p.2).toNat < p.2.toNat := by
  have := Int.tmod_lt_of_pos p.1 h0
  have := Int.tmod_nonneg p.2 h.1
  omega
theorem gcd_end {a b : Int} {p : Int × Int} (h : 0 ≤ p.1 ∧ 0 ≤ p.2 ∧ Int.gcd p.1 p.2 = Int.gcd a b) (h0 : p.2 ≤ 0) : p.1 = ((Int.gcd a b : Nat) : Int) := by
  have : p.2 = 0 := by omega
  rw [← h.2.2, this]
  simp only [Int.gcd_zero]
  omega
def toldS (x : Int × Int) : Bool := inb x.2 1 1000000000 && inb x.1 0 x.2 && (((Int.gcd x.1 x.2 : Nat) : Int) == 1)
theorem told_in {x : Int × Int} (h : toldS x = true) : 1 ≤ x.2 ∧ x.2 ≤ 1000000000 ∧ 0 ≤ x.1 ∧ x.1 ≤ x.2 := by
  simp only [toldS, inb, Bool.and_eq_true, decide_eq_true_eq] at h
  omega
theorem told_mul {x y : Int × Int} (h : toldS x = true) (h' : toldS y = true) : 0 ≤ x.1 * y.2 ∧ x.1 * y.2 ≤ 1000000000 * 1000000000 := by
  have := told_in h; have := told_in h'
  exact mul_in (by omega) (by omega)
def cmpI (a b : Int) : Int := if a < b then -1 else if a > b then 1 else 0
def cmpS (x y : Int × Int) : Int × Int := if !(toldS x) || !(toldS y) then (0, 1) else (cmpI (x.1 * y.2) (y.1 * x.2), 0)
end Go.Proofs.YtkgboidjghcegaaGreatDoor.VL
/- Proved here: equality of lists place by place, and copies of lists place by place. Plain Lean, no program. -/
set_option linter.unusedVariables false
set_option linter.unusedSimpArgs false
namespace Go.Proofs.YtkgboidjghcegaaGreatDoor.VL
open Go
section
variable {α : Type} {x y : List α} {z : Nat} {a b : α}
theorem getI (h : z < x.length) : ∃ a, x[Int.toNat ((z : Nat) : Int)]? = some a := ⟨x[z], by simp [h]⟩
theorem toN (z : Nat) : Int.toNat ((z : Nat) : Int) = z := rfl
theorem take_more (ha : x[Int.toNat ((z : Nat) : Int)]? = some a) : x.take (z + 1) = x.take z ++ [a] := by
  rw [toN] at ha
  rw [List.take_add_one, ha]; rfl
theorem eqs_step (h : x.take z = y.take z) (ha : x[Int.toNat ((z : Nat) : Int)]? = some a) (hb : y[Int.toNat ((z : Nat) : Int)]? = some b) (e : a = b) : x.take (z + 1) = y.take (z + 1) := by
  rw [take_more ha, take_more hb, h, e]
theorem eqs_ne (ha : x[Int.toNat ((z : Nat) : Int)]? = some a) (hb : y[Int.toNat ((z : Nat) : Int)]? = some b) (e : a ≠ b) : false = eqv x y := by
  refine (eqv_ne ?_).symm
  rintro rfl
  rw [ha] at hb
  exact e (Option.some.inj hb)
theorem eqs_len (h : x.length ≠ y.length) : false = eqv x y := (eqv_ne (fun e => h (by rw [e]))).symm
theorem eqs_all (h : x.take z = y.take z) (hz : x.length ≤ z) (hl : x.length = y.length) : true = eqv x y := by
  rw [List.take_of_length_le hz, List.take_of_length_le (by omega)] at h
  rw [h, eqv_self]
end
/-! ### Masks -/
section
variable {x y : BitVec 64 × BitVec 64} {z : Nat}
end
/-! ### Answers -/
end Go.Proofs.YtkgboidjghcegaaGreatDoor.VL
/- Proved here: budgets and equality of knots. Plain Lean, no program. -/
set_option linter.unusedVariables false
set_option linter.unusedSimpArgs false
namespace Go.Proofs.YtkgboidjghcegaaGreatDoor.VL
open Go
abbrev DKnot := Int × List Int × List Int × List Int
section
variable {x : List DKnot} {l : Int} {p : Nat × Int} {a : DKnot}
theorem mem_getI {α : Type} {x : List α} {z : Int} {a : α} (ha : x[Int.toNat z]? = some a) : a ∈ x := List.mem_of_getElem? ha
end
end Go.Proofs.YtkgboidjghcegaaGreatDoor.VL
/- Proved here: valid trees: what is looked at knot by knot, and how often knots are named. Plain Lean, no program. -/
set_option linter.unusedVariables false
set_option linter.unusedSimpArgs false
namespace Go.Proofs.YtkgboidjghcegaaGreatDoor.VL
open Go
/-- Is it so? -/
noncomputable def tt (p : Prop) : Bool := @decide p (Classical.propDecidable p)
theorem tt_iff {p : Prop} : tt p = true ↔ p := by unfold tt; exact @decide_eq_true_iff _ (Classical.propDecidable _)
theorem tt_false {p : Prop} : tt p = false ↔ ¬ p := by unfold tt; exact @decide_eq_false_iff_not _ (Classical.propDecidable _)
theorem tt_yes {p : Prop} (h : p) : true = tt p := (tt_iff.2 h).symm
theorem tt_no {p : Prop} (h : ¬ p) : false = tt p := (tt_false.2 h).symm
theorem tt_eq {p : Prop} {b : Bool} (h : b = true ↔ p) : b = tt p := by rw [Bool.eq_iff_iff, tt_iff]; exact h
section
variable {α : Type} {x : List α} {z : Nat} {a b : α}
end
theorem all_step {p : Nat → Prop} {z : Nat} (h : ∀ i, i < z → p i) (hz : p z) : ∀ i, i < z + 1 → p i := fun i hi => by
  rcases Nat.lt_or_ge i z with h1 | h1
  · exact h i h1
  · obtain rfl : i = z := by omega
    exact hz
theorem all_none {p : Nat → Prop} : ∀ i, i < 0 → p i := fun i hi => absurd hi (Nat.not_lt_zero i)
theorem all_end {p : Nat → Prop} {z n : Nat} (h : ∀ i, i < z → p i) (hz : n ≤ z) : ∀ i, i < n → p i := fun i hi => h i (by omega)

/-! ### Leaves -/
/-! ### Knots that ask -/
/-- How many are right at the beginning. -/
noncomputable def pre (p : Nat → Prop) : Nat → Nat
  | 0 => 0
  | n + 1 => @ite _ (∀ i, i < n + 1 → p i) (Classical.propDecidable _) (n + 1) (pre p n)
theorem pre_all {p : Nat → Prop} : ∀ {n : Nat}, (∀ i, i < n → p i) → pre p n = n
  | 0, _ => rfl
  | n + 1, h => by rw [pre, if_pos h]
theorem pre_at {p : Nat → Prop} {z : Nat} (h : ∀ i, i < z → p i) (hz : ¬ p z) : ∀ {n : Nat}, z < n → pre p n = z
  | n + 1, hn => by
    rw [pre, if_neg (fun h' => hz (h' z hn))]
    rcases Nat.lt_or_ge z n with h1 | h1
    · exact pre_at h hz h1
    · obtain rfl : z = n := by omega
      exact pre_all h
section
variable {k : DKnot} {p many : Int} {z : Nat}
end
/-! ### Counts -/
section
variable {b a v : Int} {n : Nat} {l : List Int}
end

/-! ### Trees -/
/-! ### What the walks ask -/
section
variable {x : List DKnot} {z : Nat} {a : DKnot}
end
end Go.Proofs.YtkgboidjghcegaaGreatDoor.VL
/- Proved here: budgets of lists, names, cards and decks. Plain Lean, no program. -/
set_option linter.unusedVariables false
set_option linter.unusedSimpArgs false
namespace Go.Proofs.YtkgboidjghcegaaGreatDoor.VL
open Go
/-! ### Budgets -/
section
variable {α : Type} {f : α → Int → Int} {q : α → Prop} {x : List α} {l : Int} {p : Nat × Int} {a : α}
end
/-! ### Names -/
def lowI (s : ByteArray) (i : Nat) : Prop := ∃ b, s[i]? = some b ∧ 97 ≤ b.toNat ∧ b.toNat ≤ 122
def lowS (s : ByteArray) : Prop := ∀ i, i < s.size → lowI s i
def nameOK (s : ByteArray) : Prop := lowS s ∧ 1 ≤ s.size ∧ s.size ≤ 16
theorem byteI {s : ByteArray} {z : Nat} (h : z < s.size) : ∃ b, s[Int.toNat ((z : Nat) : Int)]? = some b := ⟨s[z], getElem?_pos s z h⟩
theorem byte_lt {s : ByteArray} {z : Nat} {b : UInt8} (h : s[z]? = some b) : z < s.size := by
  rcases Nat.lt_or_ge z s.size with h1 | h1
  · exact h1
  · rw [getElem?_neg s z (by omega)] at h; cases h
theorem lowI_iff {s : ByteArray} {z : Nat} {b : UInt8} (hb : s[Int.toNat ((z : Nat) : Int)]? = some b) : lowI s z ↔ (97 ≤ b.toNat ∧ b.toNat ≤ 122) := by
  rw [toN] at hb
  unfold lowI
  constructor
  · rintro ⟨b', h1, h2⟩
    rw [hb] at h1; obtain rfl := Option.some.inj h1
    exact h2
  · exact fun h => ⟨b, hb, h⟩
theorem name_no {s : ByteArray} {z : Nat} (hz : z < s.size) (h : ¬ lowI s z) : false = tt (nameOK s) := tt_no fun h' => h (h'.1 z hz)
theorem name_end {s : ByteArray} {z : Nat} (h : ∀ i, i < z → lowI s i) (hz : s.size ≤ z) : inb (s.size : Int) 1 16 = tt (nameOK s) := by
  refine tt_eq ?_
  simp only [inb, Bool.and_eq_true, decide_eq_true_eq, nameOK]
  exact ⟨fun h' => ⟨all_end h hz, by omega, by omega⟩, fun h' => by omega⟩
theorem byte_data {s : ByteArray} (i : Nat) : s[i]? = s.data[i]? := by
  rcases Nat.lt_or_ge i s.size with h | h
  · rw [getElem?_pos s i h, Array.getElem?_eq_getElem (by exact h)]; rfl
  · rw [getElem?_neg s i (by omega), Array.getElem?_eq_none (by exact h)]
theorem ext_get {s : ByteArray} {i j k : Nat} (h : i + k < j) (hj : j ≤ s.size) : (s.extract i j)[k]? = s[i + k]? := by
  rw [byte_data, byte_data, ByteArray.data_extract, Array.getElem?_extract]
  have : j ≤ s.data.size := hj
  rw [if_pos (by omega)]
theorem ext_size {s : ByteArray} {i j : Nat} (hj : j ≤ s.size) : (s.extract i j).size = j - i := by
  rw [ByteArray.size_extract]; omega
theorem ext_all (s : ByteArray) : s.extract 0 s.size = s := by
  apply ByteArray.ext
  rw [ByteArray.data_extract]
  exact Array.extract_size
theorem ext_ext {s : ByteArray} {a b c d : Nat} (hb : b ≤ s.size) (hd : a + d ≤ b) : (s.extract a b).extract c d = s.extract (a + c) (a + d) := by
  apply ByteArray.ext
  rw [ByteArray.data_extract, ByteArray.data_extract, ByteArray.data_extract, Array.extract_extract]
  congr 1
  omega
theorem size_zero {s : ByteArray} : s = ByteArray.empty ↔ s.size = 0 := by
  constructor
  · rintro rfl; rfl
  · intro h
    apply ByteArray.ext
    exact Array.eq_empty_of_size_eq_zero h
/-- The letters, as a table. -/
def lowT : List Bool := (List.range 256).map fun j => decide (97 ≤ j) && decide (j ≤ 122)
theorem lowT_iff (b : UInt8) : lowT.getD (Int.toNat (b.toNat : Int)) false = true ↔ 97 ≤ b.toNat ∧ b.toNat ≤ 122 := by
  have hb := b.toNat_lt
  rw [toN, lowT, List.getD_eq_getElem?_getD, List.getElem?_map, List.getElem?_range (by omega)]
  simp
def abc : ByteArray := ⟨#[97, 98, 99, 100, 101, 102, 103, 104, 105, 106, 107, 108, 109, 110, 111, 112, 113, 114, 115, 116, 117, 118, 119, 120, 121, 122]⟩
/-- A set of letters, as far as it has been made. -/
def asP (s : ByteArray) : Nat → List Bool
  | 0 => List.replicate 256 false
  | z + 1 => (asP s z).set ((s[z]?).getD 0).toNat true
theorem asP_step {s : ByteArray} {z : Nat} {b : UInt8} (hb : s[Int.toNat ((z : Nat) : Int)]? = some b) : (asP s z).set (Int.toNat (b.toNat : Int)) true = asP s (z + 1) := by
  rw [toN] at hb
  rw [asP, hb]; rfl
theorem asP_abc : asP abc abc.size = lowT := by decide +kernel
theorem abc_lt : ∀ z b, abc[Int.toNat ((z : Nat) : Int)]? = some b → b.toNat < 128 := by
  intro z b h
  rw [toN] at h
  have hz := byte_lt h
  have h2 : ∀ z, z < 26 → ((abc[z]?).getD 0).toNat < 128 := by decide +kernel
  have := h2 z hz
  rw [h] at this
  exact this
/-- What is left where the last ones that fit are dropped. -/
noncomputable def rkp (p : Nat → Prop) : Nat → Nat
  | 0 => 0
  | n + 1 => @ite _ (p n) (Classical.propDecidable _) (rkp p n) (n + 1)
theorem rkp_at {p : Nat → Prop} {z : Nat} : ∀ {n : Nat}, z ≤ n → (∀ i, z ≤ i → i < n → p i) → (z = 0 ∨ ¬ p (z - 1)) → rkp p n = z
  | 0, hz, _, _ => by rw [rkp]; omega
  | n + 1, hz, h, h0 => by
    rcases Nat.lt_or_ge n z with h1 | h1
    · obtain rfl : z = n + 1 := by omega
      rw [rkp, if_neg (by simpa using h0)]
    · rw [rkp, if_pos (h n h1 (by omega))]
      exact rkp_at h1 (fun i h2 h3 => h i h2 (by omega)) h0
theorem rkp_le (p : Nat → Prop) : ∀ n, rkp p n ≤ n
  | 0 => Nat.le_refl 0
  | n + 1 => by unfold rkp; split; exact Nat.le_succ_of_le (rkp_le p n); exact Nat.le_refl _
theorem rkp_zero {p : Nat → Prop} : ∀ {n : Nat}, rkp p n = 0 → ∀ i, i < n → p i
  | 0, _, i, hi => absurd hi (Nat.not_lt_zero i)
  | n + 1, h, i, hi => by
    unfold rkp at h
    split at h
    · rename_i hp
      rcases Nat.lt_or_ge i n with h1 | h1
      · exact rkp_zero h i h1
      · obtain rfl : i = n := by omega
        exact hp
    · omega
theorem rkp_last {p : Nat → Prop} : ∀ {n : Nat}, 0 < rkp p n → ¬ p (rkp p n - 1)
  | 0, h => absurd h (by simp [rkp])
  | n + 1, h => by
    unfold rkp at h ⊢
    split at h
    · rename_i hp; rw [if_pos hp]; exact rkp_last h
    · rename_i hp; rw [if_neg hp]; simpa using hp
theorem pre_le (p : Nat → Prop) : ∀ n, pre p n ≤ n
  | 0 => Nat.le_refl 0
  | n + 1 => by unfold pre; split; exact Nat.le_refl _; exact Nat.le_succ_of_le (pre_le p n)
theorem pre_full {p : Nat → Prop} : ∀ {n : Nat}, pre p n = n → ∀ i, i < n → p i
  | 0, _, i, hi => absurd hi (Nat.not_lt_zero i)
  | n + 1, h, i, hi => by
    unfold pre at h
    split at h
    · rename_i h1; exact h1 i hi
    · have := pre_le p n; omega
abbrev DMask := BitVec 64 × BitVec 64
abbrev DCard := ByteArray × DMask
def cardOK (c : DCard) : Prop := nameOK c.1 ∧ okM c.2 = true
theorem card_and (c : DCard) : (tt (nameOK c.1) && okM c.2) = tt (cardOK c) := by
  refine tt_eq ?_
  rw [Bool.and_eq_true, tt_iff]; rfl
/-! ### Hashes -/
end Go.Proofs.YtkgboidjghcegaaGreatDoor.VL
/- Proved here: places in lists, and decks. Plain Lean, no program. -/
set_option linter.unusedVariables false
set_option linter.unusedSimpArgs false
namespace Go.Proofs.YtkgboidjghcegaaGreatDoor.VL
open Go
/-! ### Places -/
section
variable {α : Type} {q : α → Bool} {x : List α} {z : Nat} {a : α}
/-- The first one that fits, or -1. -/
def idxQ (q : α → Bool) (x : List α) : Int := if x.findIdx q < x.length then (x.findIdx q : Int) else -1
def nI (q : α → Bool) (x : List α) (i : Nat) : Prop := ∃ b, x[i]? = some b ∧ q b = false
theorem nI_iff (ha : x[Int.toNat ((z : Nat) : Int)]? = some a) : nI q x z ↔ q a = false := by
  rw [toN] at ha
  constructor
  · rintro ⟨b, h1, h2⟩
    rw [ha] at h1; obtain rfl := Option.some.inj h1; exact h2
  · exact fun h => ⟨a, ha, h⟩
theorem idxQ_at (h : ∀ i, i < z → nI q x i) (ha : x[Int.toNat ((z : Nat) : Int)]? = some a) (hq : q a = true) : ((z : Nat) : Int) = idxQ q x := by
  rw [toN] at ha
  have hz := (List.getElem?_eq_some_iff.1 ha).1
  have e : x.findIdx q = z := by
    rw [List.findIdx_eq hz]
    refine ⟨by rw [List.getElem?_eq_getElem hz] at ha; rw [Option.some.inj ha]; exact hq, fun j hj => ?_⟩
    obtain ⟨b, h1, h2⟩ := h j hj
    rw [List.getElem?_eq_getElem (by omega)] at h1
    rw [Option.some.inj h1]; exact h2
  rw [idxQ, e, if_pos hz]
theorem idxQ_end (h : ∀ i, i < z → nI q x i) (hz : x.length ≤ z) : -1 = idxQ q x := by
  have e : x.findIdx q = x.length := by
    rw [List.findIdx_eq_length]
    intro b hb
    obtain ⟨i, hi, rfl⟩ := List.mem_iff_getElem.1 hb
    obtain ⟨c, h1, h2⟩ := h i (by omega)
    rw [List.getElem?_eq_getElem hi] at h1
    rw [Option.some.inj h1]; exact h2
  rw [idxQ, e, if_neg (Nat.lt_irrefl _)]
theorem idxQ_any : decide (idxQ q x ≥ 0) = x.any q := by
  rw [Bool.eq_iff_iff, decide_eq_true_eq, List.any_eq_true, ← List.findIdx_lt_length]
  unfold idxQ
  split <;> omega
theorem any_iff : x.any q = false ↔ ∀ i, i < x.length → nI q x i := by
  rw [List.any_eq_false]
  constructor
  · intro h i hi
    exact ⟨x[i], List.getElem?_eq_getElem hi, by simpa using h _ (List.getElem_mem hi)⟩
  · intro h b hb
    obtain ⟨i, hi, rfl⟩ := List.mem_iff_getElem.1 hb
    obtain ⟨c, h1, h2⟩ := h i hi
    rw [List.getElem?_eq_getElem hi] at h1
    rw [Option.some.inj h1, h2]; decide
theorem foldl_next {β : Type} {f : β → α → β} {i : β} (ha : x[Int.toNat ((z : Nat) : Int)]? = some a) : f ((x.take z).foldl f i) a = (x.take (z + 1)).foldl f i := by
  rw [toN] at ha
  rw [List.take_add_one, ha, Option.toList_some, List.foldl_append]; rfl
end
/-! ### Decks -/
def deckI (x : List DCard) (i : Nat) : Prop := ∃ c, x[i]? = some c ∧ cardOK c ∧ ∀ k, k < i → nI (fun b => eqv b.1 c.1) x k
def deckOK (x : List DCard) : Prop := x.length ≤ 80 ∧ ∀ i, i < x.length → deckI x i
theorem take_any {α : Type} {q : α → Bool} {x : List α} {z : Nat} (hz : z ≤ x.length) : (x.take z).any q = false ↔ ∀ k, k < z → nI q x k := by
  rw [any_iff, List.length_take, Nat.min_eq_left hz]
  exact ⟨fun h k hk => by obtain ⟨b, h1, h2⟩ := h k hk; rw [List.getElem?_take, if_pos hk] at h1; exact ⟨b, h1, h2⟩,
    fun h k hk => by obtain ⟨b, h1, h2⟩ := h k hk; exact ⟨b, by rw [List.getElem?_take, if_pos hk]; exact h1, h2⟩⟩
/-! ### A deck within another -/
/-- The card of the same name. -/
noncomputable def findC (s : ByteArray) (y : List DCard) : Int := idxQ (fun b => eqv b.1 s) y
def wiI (x y : List DCard) (i : Nat) : Prop := ∃ a, x[i]? = some a ∧ 0 ≤ findC a.1 y ∧ y[Int.toNat (findC a.1 y)]? = some a
def within (x y : List DCard) : Prop := ∀ i, i < x.length → wiI x y i
/-! ### Checks -/
end Go.Proofs.YtkgboidjghcegaaGreatDoor.VL
/- Proved here: holes of masks, answers and their first fault. Plain Lean, no program. -/
set_option linter.unusedVariables false
set_option linter.unusedSimpArgs false
namespace Go.Proofs.YtkgboidjghcegaaGreatDoor.VL
open Go
/-! ### Masks -/
def limb (m : DMask) (i : Int) : BitVec 64 := if Int.toNat (i.tdiv 64) = 0 then m.1 else m.2
def hasM (m : DMask) (i : Int) : Bool := (limb m i >>> Int.toNat (i.tmod 64)) % 2#64 == 1#64
theorem rem64 {i : Int} (h : 0 ≤ i) : (BitVec.ofInt 64 (i.tmod 64)).toNat = Int.toNat (i.tmod 64) := by
  rw [Int.tmod_eq_emod_of_nonneg h, BitVec.toNat_ofInt]
  have h1 : 0 ≤ i % 64 := Int.emod_nonneg _ (by decide)
  have h2 : i % 64 < 64 := Int.emod_lt_of_pos _ (by decide)
  generalize i % 64 = r at *
  have e : r % (2 ^ 64 : Nat) = r := Int.emod_eq_of_lt h1 (by show r < 18446744073709551616; omega)
  rw [e]
theorem div64 {i : Int} (h : 0 ≤ i ∧ i < 128) : 0 ≤ i.tdiv 64 ∧ i.tdiv 64 < 2 := by
  rw [Int.tdiv_eq_ediv_of_nonneg h.1]; omega
theorem mod64 {i : Int} (h : 0 ≤ i) : 0 ≤ i.tmod 64 := Int.tmod_nonneg _ h
def meetM (x y : DMask) : DMask := (x.1 &&& y.1, x.2 &&& y.2)
abbrev DQuery := DMask × DMask
/-! ### The first fault of an answer -/
section
variable {α : Type} {f : α → Int} {n : Int} {l : List α} {z : Nat} {a b : α}
end
abbrev DAns' := DQuery × List Int × List (Int × Int)
section
variable {x : List DCard} {v : DAns'} {z : Nat}
end
section
variable {x : List DCard} {v : DAns'} {z : Nat}
end
section
variable {x : List DCard} {v : DAns'}
end
end Go.Proofs.YtkgboidjghcegaaGreatDoor.VL
/- Proved here: lists of words, lots, and how many false drops are expected of them. Plain Lean, no program. -/
set_option linter.unusedVariables false
set_option linter.unusedSimpArgs false
namespace Go.Proofs.YtkgboidjghcegaaGreatDoor.VL
open Go
/-- A list whose elements all fit. -/
def allI {α : Type} (q : α → Prop) (x : List α) (i : Nat) : Prop := ∃ a, x[i]? = some a ∧ q a
section
variable {α : Type} {q : α → Prop} {x : List α} {z : Nat} {a : α}
theorem allI_iff (ha : x[Int.toNat ((z : Nat) : Int)]? = some a) : allI q x z ↔ q a := by
  rw [toN] at ha
  constructor
  · rintro ⟨b, h1, h2⟩
    rw [ha] at h1; obtain rfl := Option.some.inj h1; exact h2
  · exact fun h => ⟨a, ha, h⟩
def allL (q : α → Prop) (x : List α) : Prop := ∀ i, i < x.length → allI q x i
theorem allL_mem (h : allL q x) (ha : a ∈ x) : q a := by
  obtain ⟨i, hi⟩ := List.mem_iff_getElem?.1 ha
  have h2 := h i (List.getElem?_eq_some_iff.1 hi).1
  exact (allI_iff (z := i) (by rw [toN]; exact hi)).1 h2
theorem allL_any : (!(x.any fun a => !(tt (q a)))) = tt (allL q x) := by
  refine tt_eq ?_
  rw [Bool.not_eq_true', any_iff]
  unfold allL
  refine forall_congr' fun i => forall_congr' fun hi => ?_
  have ha := List.getElem?_eq_getElem hi
  rw [allI_iff (by rw [toN]; exact ha), nI_iff (by rw [toN]; exact ha), Bool.not_eq_false', tt_iff]
end
noncomputable def err2 (p : Prop) : Int := if tt p = true then 0 else 2
theorem err2_no {p : Prop} (h : ¬ p) : 2 = err2 p := by rw [err2, tt_false.2 h]; rfl
theorem err2_yes {p : Prop} (h : p) : 0 = err2 p := by rw [err2, tt_iff.2 h]; rfl
/-! ### Expected false drops -/
section
variable {mx : Int × Int × Int} {x : List (List ByteArray)} {m : Int}
end
end Go.Proofs.YtkgboidjghcegaaGreatDoor.VL
/- Proved here: fields and schemes, and tables of cards. Plain Lean, no program. -/
set_option linter.unusedVariables false
set_option linter.unusedSimpArgs false
namespace Go.Proofs.YtkgboidjghcegaaGreatDoor.VL
open Go
/-! ### Masks that are made -/
def zM : DMask := (0#64, 0#64)
def joinM (x y : DMask) : DMask := (x.1 ||| y.1, x.2 ||| y.2)
def bitM (i : Int) : DMask := if Int.toNat (i.tdiv 64) = 0 then (1#64 <<< Int.toNat (i.tmod 64), 0#64) else (0#64, 1#64 <<< Int.toNat (i.tmod 64))
theorem bit_of {i : Int} (h : 0 ≤ i) : (if Int.toNat (i.tdiv 64) = 0 then (1#64 <<< Int.toNat ((BitVec.ofInt 64 (i.tmod 64)).toNat : Int), (0#64, 0#64).2) else ((0#64, 0#64).1, 1#64 <<< Int.toNat ((BitVec.ofInt 64 (i.tmod 64)).toNat : Int))) = bitM i := by
  rw [rem64 h]; rfl
def withM (m : DMask) (l : List Int) : DMask := l.foldl (fun m h => joinM m (bitM h)) m
theorem with_step {m : DMask} {l : List Int} {z : Nat} {h : Int} (hh : l[Int.toNat ((z : Nat) : Int)]? = some h) :
    (if Int.toNat (h.tdiv 64) = 0 then ((if Int.toNat (h.tdiv 64) = 0 then (withM m (l.take z)).1 else (withM m (l.take z)).2) ||| 1#64 <<< Int.toNat (h.tmod 64), (withM m (l.take z)).2) else ((withM m (l.take z)).1, (if Int.toNat (h.tdiv 64) = 0 then (withM m (l.take z)).1 else (withM m (l.take z)).2) ||| 1#64 <<< Int.toNat (h.tmod 64))) = withM m (l.take (z + 1)) := by
  have e : withM m (l.take (z + 1)) = joinM (withM m (l.take z)) (bitM h) := (foldl_next (f := fun m h => joinM m (bitM h)) hh).symm
  rw [e, joinM, bitM]
  split <;> simp
def rngM (a : Int) : Nat → DMask
  | 0 => zM
  | k + 1 => joinM (rngM a k) (bitM (a + k))
/-! ### Fields -/
abbrev DField := ByteArray × Int × Int × Int
def widthF (f : DField) : Int := if f.2.1 = 1 then 4 * f.2.2.2 else if f.2.1 = 2 then 5 * f.2.2.2 else if f.2.1 = 3 then f.2.2.2 + 1 else f.2.2.2
def mostF (c : Int) : Int := if c = 0 then 24 else if c = 1 then 4 else if c = 2 then 4 else if c = 3 then 12 else 0
def partF (f : DField) : DMask := rngM f.2.2.1 (Int.toNat (widthF f))
def fieldOK (f : DField) : Prop := nameOK f.1 ∧ 0 ≤ f.2.1 ∧ f.2.1 ≤ 3 ∧ 1 ≤ f.2.2.2 ∧ f.2.2.2 ≤ mostF f.2.1 ∧ 0 ≤ f.2.2.1 ∧ f.2.2.1 + widthF f ≤ 96
theorem okField {f : DField} (h : (kField).ok f) : (-128 ≤ f.2.1 ∧ f.2.1 ≤ 127) ∧ (-32768 ≤ f.2.2.1 ∧ f.2.2.1 ≤ 32767) ∧ (-32768 ≤ f.2.2.2 ∧ f.2.2.2 ≤ 32767) := by
  obtain ⟨h1, h2⟩ := ok_pair h
  obtain ⟨h2, h3⟩ := ok_pair h2
  obtain ⟨h3, h4⟩ := ok_pair h3
  exact ⟨ok_int h2, ok_i16 h3, ok_i16 h4⟩
theorem width_in {f : DField} (h : (-128 ≤ f.2.1 ∧ f.2.1 ≤ 127) ∧ (-32768 ≤ f.2.2.1 ∧ f.2.2.1 ≤ 32767) ∧ (-32768 ≤ f.2.2.2 ∧ f.2.2.2 ≤ 32767)) : -200000 ≤ widthF f ∧ widthF f ≤ 200000 := by
  unfold widthF; (repeat' split) <;> omega
theorem mostF_in (c : Int) : 0 ≤ mostF c ∧ mostF c ≤ 24 ∧ (mostF c ≠ 0 → 0 ≤ c ∧ c ≤ 3) := by unfold mostF; (repeat' split) <;> omega
theorem field_width {f : DField} (h : fieldOK f) : 1 ≤ widthF f ∧ widthF f ≤ 96 := by
  obtain ⟨h1, h2, h3, h4, h5, h6, h7⟩ := h
  constructor
  · unfold widthF; (repeat' split) <;> omega
  · omega
section
variable {f : DField} {M : Int}
theorem field_name (h : tt (nameOK f.1) = false) : false = tt (fieldOK f) := tt_no fun h' => tt_false.1 h h'.1
theorem field_most (h : inb f.2.2.2 1 M = false) (hm : mostF f.2.1 = M) : false = tt (fieldOK f) := tt_no fun h' => by
  simp only [inb, Bool.and_eq_false_iff, decide_eq_false_iff_not] at h
  have := h'.2.2.2
  omega
theorem field_last (h : inb f.2.2.2 1 M = true) (hn : tt (nameOK f.1) = true) (hm : mostF f.2.1 = M) : inb f.2.2.1 0 (96 - widthF f) = tt (fieldOK f) := by
  refine tt_eq ?_
  simp only [inb, Bool.and_eq_true, decide_eq_true_eq] at h ⊢
  have := mostF_in f.2.1
  exact ⟨fun h' => ⟨tt_iff.1 hn, by omega, by omega, by omega, by omega, by omega, by omega⟩, fun h' => by have := h'.2.2.2.2.2; omega⟩
def mostL : List Int := [24, 4, 4, 12]
theorem mostL_get {c : Int} (h : 0 ≤ c ∧ c ≤ 3) : mostL.getD (Int.toNat c) 0 = mostF c := by
  rcases (by omega : c = 0 ∨ c = 1 ∨ c = 2 ∨ c = 3) with rfl | rfl | rfl | rfl <;> rfl
theorem fieldI_no (h : (!(tt (nameOK f.1)) || decide (f.2.1 < 0) || decide (f.2.1 > 3) || decide (f.2.2.1 < 0) || decide (f.2.2.2 < 1)) = true) : false = tt (fieldOK f) := tt_no fun h' => by
  simp only [Bool.or_eq_true, Bool.not_eq_true', decide_eq_true_eq] at h
  obtain ⟨h1, h2, h3, h4, h5, h6, h7⟩ := h'
  rcases h with (((h | h) | h) | h) | h
  · exact tt_false.1 h h1
  all_goals omega
theorem fieldI_yes (h : (!(tt (nameOK f.1)) || decide (f.2.1 < 0) || decide (f.2.1 > 3) || decide (f.2.2.1 < 0) || decide (f.2.2.2 < 1)) = false) : nameOK f.1 ∧ (0 ≤ f.2.1 ∧ f.2.1 ≤ 3) ∧ 0 ≤ f.2.2.1 ∧ 1 ≤ f.2.2.2 := by
  simp only [Bool.or_eq_false_iff, Bool.not_eq_false', decide_eq_false_iff_not] at h
  exact ⟨tt_iff.1 h.1.1.1.1, by omega, by omega, by omega⟩
theorem fieldI_most (hy : nameOK f.1 ∧ (0 ≤ f.2.1 ∧ f.2.1 ≤ 3) ∧ 0 ≤ f.2.2.1 ∧ 1 ≤ f.2.2.2) (h : decide (f.2.2.2 ≤ mostL.getD (Int.toNat f.2.1) 0) = false) : false = tt (fieldOK f) := tt_no fun h' => by
  have := of_decide_eq_false h
  rw [mostL_get hy.2.1] at this
  exact this h'.2.2.2.2.1
theorem fieldI_last (hy : nameOK f.1 ∧ (0 ≤ f.2.1 ∧ f.2.1 ≤ 3) ∧ 0 ≤ f.2.2.1 ∧ 1 ≤ f.2.2.2) (h : decide (f.2.2.2 ≤ mostL.getD (Int.toNat f.2.1) 0) = true) : decide (f.2.2.1 + widthF f ≤ 96) = tt (fieldOK f) := by
  refine tt_eq ?_
  have := of_decide_eq_true h
  rw [mostL_get hy.2.1] at this
  rw [decide_eq_true_eq]
  exact ⟨fun h' => ⟨hy.1, by omega, by omega, by omega, this, by omega, h'⟩, fun h' => h'.2.2.2.2.2.2⟩
end
/-! ### Schemes -/
def jp (x : List DField) : DMask := x.foldl (fun m f => joinM m (partF f)) zM
theorem jp_next {x : List DField} {z : Nat} {f : DField} (hf : x[Int.toNat ((z : Nat) : Int)]? = some f) : joinM (jp (x.take z)) (partF f) = jp (x.take (z + 1)) := foldl_next (f := fun m f => joinM m (partF f)) hf
def schI (x : List DField) (i : Nat) : Prop := ∃ f, x[i]? = some f ∧ fieldOK f ∧ meetM (jp (x.take i)) (partF f) = zM ∧ ∀ k, k < i → nI (fun b => eqv b.1 f.1) x k
def schemeOK (x : List DField) : Prop := x.length ≤ 12 ∧ ∀ i, i < x.length → schI x i
section
variable {x : List DField} {z : Nat} {f : DField}
theorem schI_iff (hf : x[Int.toNat ((z : Nat) : Int)]? = some f) : schI x z ↔ fieldOK f ∧ meetM (jp (x.take z)) (partF f) = zM ∧ ∀ k, k < z → nI (fun b => eqv b.1 f.1) x k := by
  rw [toN] at hf
  constructor
  · rintro ⟨c, h1, h2⟩
    rw [hf] at h1; obtain rfl := Option.some.inj h1; exact h2
  · exact fun h => ⟨f, hf, h⟩
theorem sch_no (hz : z < x.length) (h : ¬ schI x z) : false = tt (schemeOK x) := tt_no fun h' => h (h'.2 z hz)
theorem sch_len (h : 12 < x.length) : false = tt (schemeOK x) := tt_no fun h' => absurd h'.1 (by omega)
theorem sch_yes (h : x.length ≤ 12) (hI : ∀ i, i < z → schI x i) (hz : x.length ≤ z) : true = tt (schemeOK x) := tt_yes ⟨h, all_end hI hz⟩
theorem sch_field (hs : schemeOK x) (hf : x[Int.toNat ((z : Nat) : Int)]? = some f) : fieldOK f := by
  have hz : z < x.length := by rw [toN] at hf; exact (List.getElem?_eq_some_iff.1 hf).1
  exact ((schI_iff hf).1 (hs.2 z hz)).1
end
/-! ### Tables -/
noncomputable def tabE (s : List DField) (x : List DCard) : Int := if (!(tt (schemeOK s)) || !(tt (allL cardOK x))) = true then 1 else if 60 < x.length then 2 else 0
def inI (n : Nat) (c : Int) : Prop := 0 ≤ c ∧ c < n
noncomputable def tabF (s : List DField) (x : List DCard) (l : List Int) : Int := if tabE s x = 0 then err2 (allL (inI s.length) l) else tabE s x
section
variable {s : List DField} {x : List DCard} {l : List Int}
theorem tabE_one (h : (!(tt (schemeOK s)) || !(tt (allL cardOK x))) = true) : 1 = tabE s x := by rw [tabE, if_pos h]
theorem tabE_two (h : (!(tt (schemeOK s)) || !(tt (allL cardOK x))) = false) (h2 : 60 < x.length) : 2 = tabE s x := by rw [tabE, if_neg (by rw [h]; decide), if_pos h2]
theorem tabE_zero (h : (!(tt (schemeOK s)) || !(tt (allL cardOK x))) = false) (h2 : x.length ≤ 60) : 0 = tabE s x := by rw [tabE, if_neg (by rw [h]; decide), if_neg (by omega)]
theorem tabE_ok (h : tabE s x = 0) : schemeOK s ∧ allL cardOK x ∧ x.length ≤ 60 := by
  unfold tabE at h
  split at h
  · cases h
  · rename_i h1
    rw [Bool.not_eq_true, Bool.or_eq_false_iff, Bool.not_eq_false', Bool.not_eq_false', tt_iff, tt_iff] at h1
    split at h
    · cases h
    · exact ⟨h1.1, h1.2, by omega⟩
theorem tabF_of (h : 0 = tabE s x) : tabF s x l = err2 (allL (inI s.length) l) := by rw [tabF, if_pos h.symm]
theorem tabF_not {e : Int} (h : e = tabE s x) (he : e ≠ 0) : e = tabF s x l := by rw [tabF, if_neg (by omega)]; exact h
theorem tabF_nil : tabF s x [] = tabE s x := by
  unfold tabF
  split
  · rename_i h; rw [h]; exact (err2_yes (fun i hi => absurd hi (Nat.not_lt_zero i))).symm
  · rfl
end
/-! ### Counting cards -/
section
variable {α : Type} {q : α → Bool} {x : List α} {z : Nat} {a : α}
def cntQ (q : α → Bool) (x : List α) : Int := x.foldl (fun n c => if q c = true then n + 1 else n) 0
end
section
variable {x : List DCard} {a b : Int}
end
end Go.Proofs.YtkgboidjghcegaaGreatDoor.VL
/- Proved here: masks bit by bit, and what holes have how many cards. Plain Lean, no program. -/
set_option linter.unusedVariables false
set_option linter.unusedSimpArgs false
namespace Go.Proofs.YtkgboidjghcegaaGreatDoor.VL
open Go
/-! ### Bits -/
def bitB (m : DMask) (i : Nat) : Bool := if i < 64 then m.1.getLsbD i else m.2.getLsbD (i - 64)
theorem mask_ext {a b : DMask} (h : ∀ i, i < 128 → bitB a i = bitB b i) : a = b := by
  have h1 : a.1 = b.1 := by
    apply BitVec.eq_of_getLsbD_eq
    intro i hi
    have := h i (by omega)
    unfold bitB at this
    rw [if_pos hi, if_pos hi] at this; exact this
  have h2 : a.2 = b.2 := by
    apply BitVec.eq_of_getLsbD_eq
    intro i hi
    have := h (i + 64) (by omega)
    unfold bitB at this
    rw [if_neg (by omega), if_neg (by omega), Nat.add_sub_cancel] at this; exact this
  exact Prod.ext h1 h2
theorem bit_join (a b : DMask) (i : Nat) : bitB (joinM a b) i = (bitB a i || bitB b i) := by unfold bitB joinM; split <;> simp
theorem shl_bit {j i : Nat} (hj : j < 64) : (1#64 <<< j).getLsbD i = decide (i = j) := by
  rw [BitVec.getLsbD_shiftLeft, BitVec.getLsbD_one]
  rw [Bool.eq_iff_iff]
  simp
  omega
theorem bit_bit {j : Nat} (hj : j < 128) (i : Nat) (hi : i < 128) : bitB (bitM (j : Int)) i = decide (i = j) := by
  have h1 : Int.toNat ((j : Int).tdiv 64) = j / 64 := by rw [Int.tdiv_eq_ediv_of_nonneg (by omega)]; omega
  have h2 : Int.toNat ((j : Int).tmod 64) = j % 64 := by rw [Int.tmod_eq_emod_of_nonneg (by omega)]; omega
  rcases Nat.lt_or_ge j 64 with h | h
  · have hb : bitM (j : Int) = (1#64 <<< (j % 64), 0#64) := by unfold bitM; rw [h1, h2, if_pos (by omega)]
    rw [hb]; unfold bitB
    split
    · show (1#64 <<< (j % 64)).getLsbD i = _; rw [shl_bit (by omega)]; simp only [decide_eq_decide]; omega
    · show (0#64).getLsbD (i - 64) = _; rw [BitVec.getLsbD_zero]; exact (decide_eq_false (by omega)).symm
  · have hb : bitM (j : Int) = (0#64, 1#64 <<< (j % 64)) := by unfold bitM; rw [h1, h2, if_neg (by omega)]
    rw [hb]; unfold bitB
    split
    · show (0#64).getLsbD i = _; rw [BitVec.getLsbD_zero]; exact (decide_eq_false (by omega)).symm
    · show (1#64 <<< (j % 64)).getLsbD (i - 64) = _; rw [shl_bit (by omega)]; simp only [decide_eq_decide]; omega
/-! ### How many cards a hole has -/
def hasH (h : Int) (c : DCard) : Bool := hasM c.2 h
def cntH (x : List DCard) (h : Int) : Int := cntQ (hasH h) x
def tally (x : List DCard) (z : Nat) : List Int := (List.range z).map fun (h : Nat) => cntH x (h : Int)
end Go.Proofs.YtkgboidjghcegaaGreatDoor.VL
/- Proved here: lists of holes, marks that are written into rows, and the text of a mark. Plain Lean, no program. -/
set_option linter.unusedVariables false
set_option linter.unusedSimpArgs false
namespace Go.Proofs.YtkgboidjghcegaaGreatDoor.VL
open Go
/-! ### Holes -/
/-! ### Marks -/
/-! ### The text of a mark -/
theorem tmod10 (n : Nat) : 0 ≤ (n : Int).tmod 10 ∧ (n : Int).tmod 10 < 10 := by
  rw [Int.tmod_eq_emod_of_nonneg (by omega)]; omega
theorem tdiv10 (n : Nat) : (n : Int).tdiv 10 = ((n / 10 : Nat) : Int) := by
  rw [Int.tdiv_eq_ediv_of_nonneg (by omega)]; omega
end Go.Proofs.YtkgboidjghcegaaGreatDoor.VL
/- Proved here: the nearest cards. Plain Lean, no program. -/
set_option linter.unusedVariables false
set_option linter.unusedSimpArgs false
namespace Go.Proofs.YtkgboidjghcegaaGreatDoor.VL
open Go
def dst (m : DMask) (c : DCard) : Int := distM c.2 m
section
variable {m : DMask} {x : List DCard} {z : Nat} {c : DCard}
end
end Go.Proofs.YtkgboidjghcegaaGreatDoor.VL
/- Proved here: the codes of values in fields, and what value a mask keeps. Plain Lean, no program. -/
set_option linter.unusedVariables false
set_option linter.unusedSimpArgs false
namespace Go.Proofs.YtkgboidjghcegaaGreatDoor.VL
open Go
/-! ### Powers -/
theorem tdv_le {p g : Int} (hp : 0 ≤ p) (hg : 0 < g) : 0 ≤ p.tdiv g ∧ p.tdiv g ≤ p := by
  rw [Int.tdiv_eq_ediv_of_nonneg hp]
  exact ⟨Int.ediv_nonneg hp (by omega), Int.ediv_le_self _ hp⟩
theorem pow_le (b : Int) (hb : 1 ≤ b ∧ b ≤ 10) : ∀ z : Nat, z ≤ 12 → 1 ≤ b ^ z ∧ b ^ z ≤ 10 ^ z
  | 0, _ => by simp
  | z + 1, hz => by
    have ih := pow_le b hb z (by omega)
    have h1 : b ^ (z + 1) = b ^ z * b := Int.pow_succ _ _
    have h2 : (10 : Int) ^ (z + 1) = 10 ^ z * 10 := Int.pow_succ _ _
    rw [h1, h2]
    have h3 : b ^ z * 1 ≤ b ^ z * b := Int.mul_le_mul_of_nonneg_left hb.1 (by omega)
    have h4 : b ^ z * b ≤ 10 ^ z * b := Int.mul_le_mul_of_nonneg_right ih.2 (by omega)
    have h5 : (10 : Int) ^ z * b ≤ 10 ^ z * 10 := Int.mul_le_mul_of_nonneg_left hb.2 (by omega)
    omega
theorem ten_le : ∀ z : Nat, z ≤ 12 → (10 : Int) ^ z ≤ 1000000000000 := by
  intro z hz
  have : ∀ z, z ≤ 12 → (10 : Int) ^ z ≤ 1000000000000 := by decide
  exact this z hz
theorem pow_in {b : Int} (hb : 1 ≤ b ∧ b ≤ 10) {z : Nat} (hz : z ≤ 12) : 1 ≤ b ^ z ∧ b ^ z ≤ 1000000000000 := by
  have h1 := pow_le b hb z hz
  have h2 := ten_le z hz
  omega
theorem pow_mul {b : Int} (hb : 1 ≤ b ∧ b ≤ 10) {z : Nat} (hz : z ≤ 12) : 0 ≤ b ^ z * b ∧ b ^ z * b ≤ 10000000000000 := by
  have h1 := pow_in hb hz
  constructor
  · exact Int.mul_nonneg (by omega) (by omega)
  · have := Int.mul_le_mul_of_nonneg_left (a := b) (b := 10) (c := b ^ z) hb.2 (by omega)
    omega
theorem pow_next (b : Int) (z : Nat) : b ^ z * b = b ^ (z + 1) := (Int.pow_succ _ _).symm
def topF (f : DField) : Int := if f.2.1 = 0 then f.2.2.2 - 1 else if f.2.1 = 3 then 2 ^ f.2.2.2.toNat - 1 else 10 ^ f.2.2.2.toNat - 1
theorem two_pow_le : ∀ z : Nat, z ≤ 12 → (2 : Int) ^ z ≤ 4096 := by decide
theorem ten_pow_le : ∀ z : Nat, z ≤ 4 → (10 : Int) ^ z ≤ 10000 := by decide
theorem top_in {f : DField} (h : fieldOK f) : 0 ≤ topF f ∧ topF f ≤ 9999 := by
  obtain ⟨_, h1, h2, h3, h4, _⟩ := h
  have hn : mostF f.2.1 ≤ 24 ∧ (f.2.1 ≠ 0 → mostF f.2.1 ≤ 12) ∧ (f.2.1 ≠ 0 → f.2.1 ≠ 3 → mostF f.2.1 ≤ 4) := by
    unfold mostF; refine ⟨?_, ?_, ?_⟩ <;> (repeat' split) <;> omega
  unfold topF
  split
  · omega
  · split
    · have h5 := two_pow_le f.2.2.2.toNat (by omega)
      have h6 := (pow_in (b := 2) (by omega) (z := f.2.2.2.toNat) (by omega)).1
      omega
    · have h5 := ten_pow_le f.2.2.2.toNat (by omega)
      have h6 := (pow_in (b := 10) (by omega) (z := f.2.2.2.toNat) (by omega)).1
      omega
theorem size_in {f : DField} (h : fieldOK f) : 1 ≤ f.2.2.2 ∧ f.2.2.2 ≤ 24 ∧ (f.2.1 ≠ 0 → f.2.2.2 ≤ 12) ∧ (f.2.1 ≠ 0 → f.2.1 ≠ 3 → f.2.2.2 ≤ 4) ∧ 0 ≤ f.2.2.1 ∧ f.2.2.1 + widthF f ≤ 96 := by
  obtain ⟨_, h1, h2, h3, h4, h5, h6⟩ := h
  have hn : mostF f.2.1 ≤ 24 ∧ (f.2.1 ≠ 0 → mostF f.2.1 ≤ 12) ∧ (f.2.1 ≠ 0 → f.2.1 ≠ 3 → mostF f.2.1 ≤ 4) := by
    unfold mostF; refine ⟨?_, ?_, ?_⟩ <;> (repeat' split) <;> omega
  refine ⟨h3, by omega, fun h => by have := hn.2.1 h; omega, fun h h' => by have := hn.2.2 h h'; omega, h5, h6⟩
/-! ### Notches -/
def ntB (holes bits : Int) (k : Nat) : Bool := (bits.tdiv (2 ^ (holes - 1 - (k : Int)).toNat)).tmod 2 == 1
def ntc (m : DMask) (s holes bits : Int) : Nat → DMask
  | 0 => m
  | k + 1 => if ntB holes bits k = true then joinM (ntc m s holes bits k) (bitM (s + (k : Int))) else ntc m s holes bits k
theorem ntc_yes {m : DMask} {s holes bits : Int} {k : Nat} (h : ntB holes bits k = true) : joinM (ntc m s holes bits k) (bitM (s + (k : Int))) = ntc m s holes bits (k + 1) := by rw [ntc, if_pos h]
theorem ntc_no {m : DMask} {s holes bits : Int} {k : Nat} (h : ntB holes bits k = false) : ntc m s holes bits k = ntc m s holes bits (k + 1) := by rw [ntc, if_neg (by rw [h]; decide)]
/-- The same bit by shifts. -/
theorem ntB_shr {n : Nat} {size : Int} {k : Nat} (hk : (k : Int) < size) : ((((n >>> (size - 1 - (k : Int)).toNat) &&& 1 : Nat) : Int) == 1) = ntB size (n : Int) k := by
  unfold ntB
  have h1 : ((n : Int).tdiv (2 ^ (size - 1 - (k : Int)).toNat)).tmod 2 = (((n >>> (size - 1 - (k : Int)).toNat) &&& 1 : Nat) : Int) := by
    generalize (size - 1 - (k : Int)).toNat = j
    rw [Nat.and_one_is_mod, Nat.shiftRight_eq_div_pow, Int.tdiv_eq_ediv_of_nonneg (by omega), Int.tmod_eq_emod_of_nonneg (Int.ediv_nonneg (by omega) (Int.le_of_lt (Int.pow_pos (by omega))))]
    push_cast
    rfl
  rw [h1]
/-! ### Digits -/
def sumB : List Int := [12, 1, 2, 3, 4, 5, 6, 8, 9, 10]
def pairB : List Int := [24, 20, 18, 17, 12, 10, 9, 6, 5, 3]
def sumHs : List (List Int) := [[0, 1], [3], [2], [2, 3], [1], [1, 3], [1, 2], [0], [0, 3], [0, 2]]
def pairHs : List (List Int) := [[0, 1], [0, 2], [0, 3], [0, 4], [1, 2], [1, 3], [1, 4], [2, 3], [2, 4], [3, 4]]
def digH (k d : Int) : List Int := (if k = 1 then sumHs else pairHs).getD d.toNat []
def digB (k : Int) : List Int := if k = 2 then pairB else sumB
def wid (k : Int) : Int := if k = 2 then 5 else 4
def shf (s : Int) (l : List Int) : List Int := l.map (fun h => s + h)
theorem ntc_dig (m : DMask) (s : Int) {k d b : Int} (hk : k = 1 ∨ k = 2) (hd : 0 ≤ d ∧ d < 10) (hb : (digB k)[d.toNat]? = some b) : ntc m s (wid k) b (wid k).toNat = withM m (shf s (digH k d)) := by
  obtain ⟨n, rfl⟩ : ∃ n : Nat, d = n := ⟨d.toNat, by omega⟩
  have hn : n < 10 := by omega
  rw [toN] at hb
  have key : ∀ (w : Int) (L : List Int) (hs : List Nat), w = 4 ∨ w = 5 → (∀ j, j < w.toNat → ntB w b j = hs.contains j) → (List.range w.toNat).filter (fun j => hs.contains j) = hs → L = hs.map (fun (j : Nat) => (j : Int)) → ntc m s w b w.toNat = withM m (shf s L) := by
    intro w L hs hw h1 h2 h3
    have h4 : ∀ j, j ≤ w.toNat → ntc m s w b j = withM m (shf s (((List.range j).filter (fun j => hs.contains j)).map (fun (j : Nat) => (j : Int)))) := by
      intro j
      induction j with
      | zero => intro _; simp [ntc, withM, shf]
      | succ j ih =>
        intro hj
        rw [ntc, ih (by omega), h1 j (by omega), List.range_succ, List.filter_append, List.filter_cons]
        cases hc : hs.contains j with
        | true => simp [withM, shf, List.foldl_append]
        | false => simp [withM, shf]
    rw [h4 _ (Nat.le_refl _), h2, h3]
  rcases hk with rfl | rfl
  · have hc : ∀ n : Nat, n < 10 → ∀ b, (digB 1)[n]? = some b → ∃ hs : List Nat, (∀ j, j < 4 → ntB 4 b j = hs.contains j) ∧ (List.range 4).filter (fun j => hs.contains j) = hs ∧ digH 1 (n : Int) = hs.map (fun (j : Nat) => (j : Int)) := by
      intro n hn b hb
      refine ⟨(digH 1 (n : Int)).map Int.toNat, ?_⟩
      have : b = ((digB 1)[n]?).getD 0 := by rw [hb]; rfl
      subst this
      revert n
      decide
    obtain ⟨hs, h1, h2, h3⟩ := hc n hn b hb
    exact key 4 _ hs (.inl rfl) h1 h2 h3
  · have hc : ∀ n : Nat, n < 10 → ∀ b, (digB 2)[n]? = some b → ∃ hs : List Nat, (∀ j, j < 5 → ntB 5 b j = hs.contains j) ∧ (List.range 5).filter (fun j => hs.contains j) = hs ∧ digH 2 (n : Int) = hs.map (fun (j : Nat) => (j : Int)) := by
      intro n hn b hb
      refine ⟨(digH 2 (n : Int)).map Int.toNat, ?_⟩
      have : b = ((digB 2)[n]?).getD 0 := by rw [hb]; rfl
      subst this
      revert n
      decide
    obtain ⟨hs, h1, h2, h3⟩ := hc n hn b hb
    exact key 5 _ hs (.inr rfl) h1 h2 h3
theorem digH_in {k d h : Int} (hh : h ∈ digH k d) : 0 ≤ h ∧ h < 5 ∧ (k = 1 → h < 4) := by
  unfold digH at hh
  have h1 : ∀ l ∈ sumHs, ∀ h ∈ l, 0 ≤ h ∧ h < 4 := by decide
  have h2 : ∀ l ∈ pairHs, ∀ h ∈ l, 0 ≤ h ∧ h < 5 := by decide
  rw [List.getD_eq_getElem?_getD] at hh
  split at hh
  · cases hl : sumHs[d.toNat]? with
    | none => rw [hl] at hh; cases hh
    | some l =>
      rw [hl] at hh
      have := h1 l (List.mem_of_getElem? hl) h hh
      omega
  · rename_i hk
    cases hl : pairHs[d.toNat]? with
    | none => rw [hl] at hh; cases hh
    | some l =>
      rw [hl] at hh
      have := h2 l (List.mem_of_getElem? hl) h hh
      exact ⟨this.1, this.2, fun e => absurd e hk⟩
theorem digH_lt {k d h : Int} (hk : k = 1 ∨ k = 2) (hh : h ∈ digH k d) : 0 ≤ h ∧ h < wid k := by
  have h1 := digH_in hh
  rcases hk with hk | hk
  · have := h1.2.2 hk; subst hk; exact ⟨h1.1, this⟩
  · subst hk; exact ⟨h1.1, h1.2.1⟩
theorem digH_len (k d : Int) : (digH k d).length ≤ 2 := by
  unfold digH
  have h1 : ∀ l ∈ sumHs, l.length ≤ 2 := by decide
  have h2 : ∀ l ∈ pairHs, l.length ≤ 2 := by decide
  rw [List.getD_eq_getElem?_getD]
  split
  · cases hl : sumHs[d.toNat]? with
    | none => exact Nat.zero_le _
    | some l => exact h1 l (List.mem_of_getElem? hl)
  · cases hl : pairHs[d.toNat]? with
    | none => exact Nat.zero_le _
    | some l => exact h2 l (List.mem_of_getElem? hl)
theorem digB_get {k d : Int} (hd : 0 ≤ d ∧ d < 10) : ∃ b, (digB k)[d.toNat]? = some b ∧ 0 ≤ b ∧ b < 32 := by
  obtain ⟨n, rfl⟩ : ∃ n : Nat, d = n := ⟨d.toNat, by omega⟩
  have hn : n < 10 := by omega
  rw [toN]
  unfold digB
  split
  · have : ∀ n : Nat, n < 10 → ∃ b, pairB[n]? = some b ∧ 0 ≤ b ∧ b < 32 := by decide +kernel
    exact this n hn
  · have : ∀ n : Nat, n < 10 → ∃ b, sumB[n]? = some b ∧ 0 ≤ b ∧ b < 32 := by decide +kernel
    exact this n hn
/-- The digit at a place. -/
def digA (f : DField) (v : Int) (k : Nat) : Int := (v.tdiv (10 ^ (f.2.2.2 - 1 - (k : Int)).toNat)).tmod 10
/-- What a place's digit notches. -/
def plH (f : DField) (v : Int) (k : Nat) : List Int := shf (f.2.2.1 + wid f.2.1 * (k : Int)) (digH f.2.1 (digA f v k))
def upH (f : DField) (v : Int) (k : Nat) : List Int := (List.range k).flatMap (plH f v)
theorem with_app (m : DMask) (a b : List Int) : withM (withM m a) b = withM m (a ++ b) := by rw [withM, withM, withM, List.foldl_append]
theorem upH_next (m : DMask) (f : DField) (v : Int) (k : Nat) : withM (withM m (upH f v k)) (plH f v k) = withM m (upH f v (k + 1)) := by
  rw [with_app, upH, upH, List.range_succ, List.flatMap_append]; simp
/-- From the last place down. -/
def dnH (f : DField) (v : Int) (n : Nat) : Nat → List Int
  | 0 => []
  | k + 1 => dnH f v n k ++ plH f v (n - 1 - k)
theorem dnH_mem (f : DField) (v : Int) (n : Nat) : ∀ {k : Nat}, k ≤ n → ∀ a, a ∈ dnH f v n k ↔ ∃ j, n - k ≤ j ∧ j < n ∧ a ∈ plH f v j
  | 0, _, a => by
    simp only [dnH, List.not_mem_nil, false_iff]
    rintro ⟨j, h1, h2, _⟩
    omega
  | k + 1, hk, a => by
    rw [dnH, List.mem_append, dnH_mem f v n (by omega)]
    constructor
    · rintro (⟨j, h1, h2, h3⟩ | h)
      · exact ⟨j, by omega, h2, h3⟩
      · exact ⟨n - 1 - k, by omega, by omega, h⟩
    · rintro ⟨j, h1, h2, h3⟩
      by_cases h4 : j = n - 1 - k
      · subst h4; exact .inr h3
      · exact .inl ⟨j, by omega, h2, h3⟩
theorem bit_with (l : List Int) (hl : ∀ h ∈ l, 0 ≤ h ∧ h < 128) : ∀ (m : DMask) {i : Nat}, i < 128 → bitB (withM m l) i = (bitB m i || l.contains (i : Int)) := by
  induction l with
  | nil => intro m i hi; simp [withM]
  | cons h l ih =>
    intro m i hi
    have h1 := hl h (by simp)
    obtain ⟨n, rfl⟩ : ∃ n : Nat, h = n := ⟨h.toNat, by omega⟩
    show bitB (withM (joinM m (bitM (n : Int))) l) i = _
    rw [ih (fun a ha => hl a (by simp [ha])) _ hi, bit_join, bit_bit (by omega) i hi, List.contains_cons, Bool.or_assoc]
    congr 2
    rw [Bool.eq_iff_iff, decide_eq_true_eq, beq_iff_eq]
    omega
theorem with_same {m : DMask} {a b : List Int} (ha : ∀ h ∈ a, 0 ≤ h ∧ h < 128) (hab : ∀ h, h ∈ a ↔ h ∈ b) : withM m a = withM m b := by
  apply mask_ext
  intro i hi
  rw [bit_with a ha m hi, bit_with b (fun h hh => ha h ((hab h).2 hh)) m hi]
  congr 1
  rw [Bool.eq_iff_iff, List.contains_iff_mem, List.contains_iff_mem]
  exact hab _
theorem plH_in {f : DField} (hf : fieldOK f) (hk : f.2.1 = 1 ∨ f.2.1 = 2) {v : Int} {k : Nat} (h : (k : Int) < f.2.2.2) {a : Int} (ha : a ∈ plH f v k) : 0 ≤ a ∧ a < 96 := by
  rw [plH, shf, List.mem_map] at ha
  obtain ⟨d, hd, rfl⟩ := ha
  have h1 := digH_in hd
  have h2 := size_in hf
  unfold widthF at h2
  unfold wid
  rcases hk with hk | hk
  · rw [hk] at h2 ⊢; simp at h2 ⊢; have := h1.2.2 hk; omega
  · rw [hk] at h2 ⊢; simp at h2 ⊢; omega
theorem dig_same {f : DField} (hf : fieldOK f) (hk : f.2.1 = 1 ∨ f.2.1 = 2) {v : Int} {n : Nat} (hn : (n : Int) = f.2.2.2) : withM zM (dnH f v n n) = withM zM (upH f v n) := by
  refine with_same (fun h hh => ?_) (fun h => ?_)
  · rw [dnH_mem f v n (Nat.le_refl _)] at hh
    obtain ⟨j, h1, h2, h3⟩ := hh
    have := plH_in hf hk (by omega) h3
    omega
  · rw [dnH_mem f v n (Nat.le_refl _), upH, List.mem_flatMap]
    constructor
    · rintro ⟨j, h1, h2, h3⟩; exact ⟨j, List.mem_range.2 h2, h3⟩
    · rintro ⟨j, h1, h2⟩; exact ⟨j, by omega, List.mem_range.1 h1, h2⟩
theorem join_zM (x : DMask) : joinM zM x = x := by
  rw [joinM, zM]; simp
theorem kind_12 {f : DField} (h : fieldOK f) (h0 : ¬ f.2.1 = 0) (h3 : ¬ f.2.1 = 3) : f.2.1 = 1 ∨ f.2.1 = 2 := by
  have h1 := h.2.1
  have h2 := h.2.2.1
  omega
theorem wid_in {f : DField} (h : fieldOK f) (hk : f.2.1 = 1 ∨ f.2.1 = 2) : (wid f.2.1 = 4 ∨ wid f.2.1 = 5) ∧ widthF f = wid f.2.1 * f.2.2.2 := by
  unfold wid widthF
  rcases hk with hk | hk <;> rw [hk] <;> simp
theorem wid_mul (k i : Int) (hi : 0 ≤ i ∧ i ≤ 24) : 0 ≤ wid k * i ∧ wid k * i ≤ 120 ∧ i * wid k = wid k * i := by
  refine ⟨?_, ?_, Int.mul_comm _ _⟩ <;> (unfold wid; split <;> omega)
theorem wid_end {f : DField} (h : fieldOK f) (hk : f.2.1 = 1 ∨ f.2.1 = 2) {z : Nat} (hz : (z : Int) < f.2.2.2) : f.2.2.1 + wid f.2.1 * (z : Int) + wid f.2.1 ≤ 96 := by
  have h1 := (size_in h).2.2.2.2.2
  have h2 := (wid_in h hk).2
  have h3 := (wid_in h hk).1
  rcases h3 with h3 | h3 <;> rw [h3] at h2 ⊢ <;> omega
theorem digA_in (f : DField) (v : Nat) (k : Nat) : 0 ≤ digA f (v : Int) k ∧ digA f (v : Int) k < 10 := by
  unfold digA
  have h1 : 0 ≤ (v : Int).tdiv (10 ^ (f.2.2.2 - 1 - (k : Int)).toNat) := Int.tdiv_nonneg (by omega) (Int.le_of_lt (Int.pow_pos (by omega)))
  rw [Int.tmod_eq_emod_of_nonneg h1]
  omega

/-! ### Codes -/
def codeP (f : DField) (m : DMask) : DMask := if (cntM m).tmod 2 = 0 then joinM m (bitM (f.2.2.1 + f.2.2.2)) else m
def codeF (f : DField) (v : Int) : DMask := if f.2.1 = 0 then bitM (f.2.2.1 + v) else if f.2.1 = 3 then codeP f (ntc zM f.2.2.1 f.2.2.2 v f.2.2.2.toNat) else withM zM (upH f v f.2.2.2.toNat)
theorem cf_dir {f : DField} {v : Int} (h : f.2.1 = 0) : bitM (f.2.2.1 + v) = codeF f v := by rw [codeF, if_pos h]
theorem cf_top {f : DField} (hok : fieldOK f) : f.2.1 = 0 → f.2.2.1 + topF f < 96 := by
  intro h
  have := (size_in hok).2.2.2.2.2
  unfold widthF at this
  unfold topF
  rw [h] at this ⊢
  simp at this ⊢
  omega
theorem cf_bin0 {f : DField} {v : Int} (h3 : f.2.1 = 3) (h : (cntM (ntc zM f.2.2.1 f.2.2.2 v f.2.2.2.toNat)).tmod 2 = 0) : joinM (ntc zM f.2.2.1 f.2.2.2 v f.2.2.2.toNat) (bitM (f.2.2.1 + f.2.2.2)) = codeF f v := by
  rw [codeF, if_neg (by omega), if_pos h3, codeP, if_pos h]
theorem cf_bin1 {f : DField} {v : Int} (h3 : f.2.1 = 3) (h : ¬ (cntM (ntc zM f.2.2.1 f.2.2.2 v f.2.2.2.toNat)).tmod 2 = 0) : ntc zM f.2.2.1 f.2.2.2 v f.2.2.2.toNat = codeF f v := by
  rw [codeF, if_neg (by omega), if_pos h3, codeP, if_neg h]
theorem cf_dig {f : DField} {v : Int} {z : Nat} (hok : fieldOK f) (hk : f.2.1 = 1 ∨ f.2.1 = 2) (hz : (z : Int) = f.2.2.2) : withM zM (upH f v z) = codeF f v := by
  rw [codeF, if_neg (by omega), if_neg (by omega), show f.2.2.2.toNat = z by omega]
theorem cf_dig' {f : DField} {v : Int} {z : Nat} (hok : fieldOK f) (hk : f.2.1 = 1 ∨ f.2.1 = 2) (hz : (z : Int) = f.2.2.2) : withM zM (dnH f v z z) = codeF f v := by
  rw [dig_same hok hk hz, cf_dig hok hk hz]
theorem cf_dir0 {f : DField} {v : Int} (h : f.2.1 = 0) : withM zM [f.2.2.1 + v] = codeF f v := by
  rw [← cf_dir h]; exact join_zM _
theorem shl_in {n : Int} (h : 0 ≤ n ∧ n ≤ 12) : (1 : Int) * 2 ^ (min n.toNat IntKind.i64.bits) = 2 ^ n.toNat ∧ 1 ≤ (1 : Int) * 2 ^ (min n.toNat IntKind.i64.bits) ∧ (1 : Int) * 2 ^ (min n.toNat IntKind.i64.bits) ≤ 4096 := by
  have h1 : min n.toNat IntKind.i64.bits = n.toNat := by show min n.toNat 64 = n.toNat; omega
  have h2 := two_pow_le n.toNat (by omega)
  have h3 := (pow_in (b := 2) (by omega) (z := n.toNat) (by omega)).1
  rw [h1]
  omega
theorem digH_sum {k d : Int} (h : k = 1) : sumHs.getD d.toNat [] = digH k d := by rw [digH, if_pos h]
theorem digH_pair {k d : Int} (h : ¬ k = 1) : pairHs.getD d.toNat [] = digH k d := by rw [digH, if_neg h]
theorem wid_quo {f : DField} (h : fieldOK f) (hk : f.2.1 = 1 ∨ f.2.1 = 2) : (widthF f).tdiv f.2.2.2 = wid f.2.1 := by
  have h1 := (size_in h).1
  rw [(wid_in h hk).2]
  exact Int.mul_tdiv_cancel _ (by omega)
theorem digA_at {f : DField} {v z : Nat} (hz : (z : Int) < f.2.2.2) : ((v / 10 ^ z : Nat) : Int).tmod 10 = digA f (v : Int) (f.2.2.2.toNat - 1 - z) := by
  unfold digA
  have h1 : (f.2.2.2 - 1 - ((f.2.2.2.toNat - 1 - z : Nat) : Int)).toNat = z := by omega
  rw [h1, Int.tdiv_eq_ediv_of_nonneg (by omega)]
  push_cast
  rfl
theorem shf_next {m : DMask} {s h : Int} {l : List Int} {y : Nat} (hh : l[Int.toNat ((y : Nat) : Int)]? = some h) : withM (withM m (shf s (l.take y))) [s + h] = withM m (shf s (l.take (y + 1))) := by
  rw [with_app, take_more hh, shf, shf, List.map_append]; rfl
noncomputable def ownI (f : DField) (m : DMask) (v : Nat) : Prop := codeF f (v : Int) ≠ meetM m (partF f)
noncomputable def valS (f : DField) (m : DMask) : Int × Int := @ite _ (meetM m (partF f) = zM) (Classical.propDecidable _) (0, 6) (if pre (ownI f m) (topF f + 1).toNat < (topF f + 1).toNat then ((pre (ownI f m) (topF f + 1).toNat : Int), 0) else (0, 8))
noncomputable def valIn (f : DField) (m : DMask) : Int := if (valS f m).2 = 0 then (valS f m).1 else if (valS f m).2 = 6 then -1 else -2
section
variable {f : DField} {m : DMask} {z : Nat}
theorem valS_none (h : meetM m (partF f) = zM) : valS f m = (0, 6) := by rw [valS, if_pos h]
theorem valS_at (h : ¬ meetM m (partF f) = zM) (hI : ∀ i, i < z → ownI f m i) (hz : (z : Int) ≤ topF f) (h1 : codeF f (z : Int) = meetM m (partF f)) : valS f m = ((z : Int), 0) := by
  have e : pre (ownI f m) (topF f + 1).toNat = z := pre_at hI (fun h => h h1) (by omega)
  rw [valS, if_neg h, e, if_pos (by omega)]
theorem valS_end (h : ¬ meetM m (partF f) = zM) (hI : ∀ i, i < z → ownI f m i) (hz : topF f < (z : Int)) : valS f m = (0, 8) := by
  have e : pre (ownI f m) (topF f + 1).toNat = (topF f + 1).toNat := pre_all (fun i hi => hI i (by omega))
  rw [valS, if_neg h, e, if_neg (Nat.lt_irrefl _)]
theorem valS_code (f : DField) (m : DMask) : (valS f m).2 = 0 ∨ (valS f m).2 = 6 ∨ (valS f m).2 = 8 := by
  unfold valS
  split
  · exact .inr (.inl rfl)
  · split
    · exact .inl rfl
    · exact .inr (.inr rfl)
end
end Go.Proofs.YtkgboidjghcegaaGreatDoor.VL
/- Proved here: how deep the knots of a tree lie, the deepest, and the mean. Plain Lean, no program. -/
set_option linter.unusedVariables false
set_option linter.unusedSimpArgs false
namespace Go.Proofs.YtkgboidjghcegaaGreatDoor.VL
open Go
/-! ### Depths -/
section
variable {x : List DKnot} {z y : Nat} {a : DKnot}
end
/-! ### The greatest -/
/-! ### The mean -/
section
variable {x : List DKnot} {z : Nat} {a : DKnot} {d : List Int} {v : Int}
end
def shr (p q : Int) : Int × Int := (p.tdiv ((Int.gcd p q : Nat) : Int), q.tdiv ((Int.gcd p q : Nat) : Int))
theorem gcd_pos' {p q : Int} (h : 0 < q) : 0 < ((Int.gcd p q : Nat) : Int) := by
  have : Int.gcd p q ≠ 0 := by
    intro h0
    have := (Int.gcd_eq_zero_iff.1 h0).2
    omega
  omega
theorem tdiv_le' {p g : Int} (hp : 0 ≤ p) (hg : 0 < g) : 0 ≤ p.tdiv g ∧ p.tdiv g ≤ p := by
  rw [Int.tdiv_eq_ediv_of_nonneg hp]
  exact ⟨Int.ediv_nonneg hp (by omega), Int.ediv_le_self _ hp⟩
end Go.Proofs.YtkgboidjghcegaaGreatDoor.VL
/- Proved here: values with how many cards have them: counted one by one, and out of the sorted list. Plain Lean. -/
set_option linter.unusedVariables false
set_option linter.unusedSimpArgs false
namespace Go.Proofs.YtkgboidjghcegaaGreatDoor.VL
open Go
abbrev DCell := Int × Int × Int
abbrev DTal := Int × Int
abbrev cellL (c : DCell) (a b : Int) : Prop := c.1 < a ∨ c.1 = a ∧ c.2.1 < b
/-- A pair is counted. -/
def cnt2 (a b : Int) : List DCell → List DCell
  | [] => [(a, b, 1)]
  | c :: r => if cellL c a b then c :: cnt2 a b r else if c.1 = a ∧ c.2.1 = b then (a, b, c.2.2 + 1) :: r else (a, b, 1) :: c :: r
theorem cnt2_less {a b : Int} : ∀ {x : List DCell} {z : Nat}, (∀ i, i < z → ∃ c, x[i]? = some c ∧ cellL c a b) → cnt2 a b x = x.take z ++ cnt2 a b (x.drop z)
  | x, 0, _ => by simp
  | [], z + 1, h => by obtain ⟨c, hc, _⟩ := h 0 (Nat.succ_pos z); simp at hc
  | c :: r, z + 1, h => by
    obtain ⟨c', hc, hl⟩ := h 0 (Nat.succ_pos z)
    simp only [List.getElem?_cons_zero, Option.some.injEq] at hc
    subst hc
    rw [cnt2, if_pos hl, cnt2_less (z := z) (fun i hi => by obtain ⟨d, hd, hl'⟩ := h (i + 1) (by omega); exact ⟨d, by simpa using hd, hl'⟩)]
    simp
def lessI (a b : Int) (x : List DCell) (i : Nat) : Prop := ∃ c, x[i]? = some c ∧ cellL c a b
theorem lessI_iff {a b : Int} {x : List DCell} {z : Nat} {c : DCell} (hc : x[Int.toNat ((z : Nat) : Int)]? = some c) : lessI a b x z ↔ cellL c a b := by
  rw [toN] at hc
  unfold lessI
  constructor
  · rintro ⟨d, hd, h⟩; rw [hc] at hd; injection hd with hd; subst hd; exact h
  · exact fun h => ⟨c, hc, h⟩
theorem getDs {α : Type} {x : List α} {z : Nat} {d : α} (h : z < x.length) : x[Int.toNat ((z : Nat) : Int)]? = some (x.getD z d) := by
  rw [toN, List.getD_eq_getElem?_getD, List.getElem?_eq_getElem h]; rfl
theorem cnt2_end {a b : Int} {x : List DCell} {z : Nat} (h : ∀ i, i < z → lessI a b x i) (hz : x.length ≤ z) : x ++ [(a, b, 1)] = cnt2 a b x := by
  rw [cnt2_less (z := x.length) (fun i hi => h i (by omega)), List.take_length, List.drop_length]
  rfl
theorem cnt2_eq {a b : Int} {x : List DCell} {z : Nat} {c : DCell} (h : ∀ i, i < z → lessI a b x i) (hc : x[Int.toNat ((z : Nat) : Int)]? = some c) (h1 : c.1 = a) (h2 : c.2.1 = b) : x.set (Int.toNat ((z : Nat) : Int)) (c.1, c.2.1, c.2.2 + 1) = cnt2 a b x := by
  rw [toN] at *
  have hz : z < x.length := (List.getElem?_eq_some_iff.1 hc).1
  have he : x[z] = c := (List.getElem?_eq_some_iff.1 hc).2
  rw [cnt2_less h, List.drop_eq_getElem_cons hz, he, cnt2, if_neg (by unfold cellL; omega), if_pos ⟨h1, h2⟩, List.set_eq_take_append_cons_drop, if_pos hz, h1, h2]
theorem cnt2_new {a b : Int} {x : List DCell} {z : Nat} {c : DCell} (h : ∀ i, i < z → lessI a b x i) (hc : x[Int.toNat ((z : Nat) : Int)]? = some c) (hl : ¬ cellL c a b) (h1 : ¬ (c.1 = a ∧ c.2.1 = b)) : x.take z ++ ([(a, b, 1)] ++ x.drop z) = cnt2 a b x := by
  rw [toN] at *
  have hz : z < x.length := (List.getElem?_eq_some_iff.1 hc).1
  have he : x[z] = c := (List.getElem?_eq_some_iff.1 hc).2
  rw [cnt2_less h, List.drop_eq_getElem_cons hz, he, cnt2, if_neg hl, if_neg h1]
  rfl
theorem cnt2_out {a b : Int} {x : List DCell} {z : Nat} (h : ∀ i, i < z → lessI a b x i) (hz : z ≤ x.length) (h1 : ¬ (z < x.length ∧ cellL (x.getD z (0, 0, 0)) a b)) (h2 : ¬ (z < x.length ∧ (x.getD z (0, 0, 0)).1 = a ∧ (x.getD z (0, 0, 0)).2.1 = b)) : x.take z ++ ([(a, b, 1)] ++ x.drop z) = cnt2 a b x := by
  rcases Nat.lt_or_ge z x.length with hl | hl
  · exact cnt2_new h (getDs hl) (fun h9 => h1 ⟨hl, h9⟩) (fun h9 => h2 ⟨hl, h9⟩)
  · rw [← cnt2_end h hl, List.take_of_length_le hl, List.drop_of_length_le hl]; rfl
theorem cnt2_comm (a b p q : Int) : ∀ l : List DCell, cnt2 p q (cnt2 a b l) = cnt2 a b (cnt2 p q l)
  | [] => by
    simp only [cnt2, cellL]
    by_cases h1 : a = p <;> by_cases h2 : b = q
    · subst h1; subst h2; rfl
    all_goals (repeat' split) <;> first | rfl | (exfalso; omega) | (simp only [cnt2, cellL]; (repeat' split) <;> first | rfl | (exfalso; omega))
  | c :: r => by
    have ih := cnt2_comm a b p q r
    simp only [cnt2, cellL]
    by_cases h1 : a = p ∧ b = q
    · obtain ⟨rfl, rfl⟩ := h1; rfl
    · (repeat' split) <;> (try simp only [cnt2, cellL]) <;> (repeat' split) <;> first | rfl | (exfalso; omega) | (rw [ih])
theorem cnt2_in {a b n : Int} (hn : 0 ≤ n) : ∀ {l : List DCell}, (∀ c ∈ l, 1 ≤ c.2.2 ∧ c.2.2 ≤ n) → ∀ c ∈ cnt2 a b l, 1 ≤ c.2.2 ∧ c.2.2 ≤ n + 1
  | [], _, c, hc => by
    simp only [cnt2, List.mem_singleton] at hc
    subst hc
    simp only []; omega
  | d :: r, h, c, hc => by
    have hd := h d (List.mem_cons_self ..)
    have hr : ∀ c ∈ r, 1 ≤ c.2.2 ∧ c.2.2 ≤ n := fun c hc => h c (List.mem_cons_of_mem _ hc)
    rw [cnt2] at hc
    split at hc
    · rcases List.mem_cons.1 hc with rfl | hc
      · omega
      · exact cnt2_in hn hr c hc
    · split at hc
      · rcases List.mem_cons.1 hc with rfl | hc
        · simp only []; omega
        · have := hr c hc; omega
      · rcases List.mem_cons.1 hc with rfl | hc
        · simp only []; omega
        · have := h c hc; omega
theorem cnt2_len {a b : Int} : ∀ (l : List DCell), (cnt2 a b l).length ≤ l.length + 1
  | [] => by simp [cnt2]
  | d :: r => by
    have := cnt2_len (a := a) (b := b) r
    rw [cnt2]
    split
    · simp only [List.length_cons]; omega
    · split <;> simp only [List.length_cons] <;> omega
/-- All pairs of values of some cards. -/
noncomputable def crsF (f g : DField) (l : List DCell) (m : DMask) : List DCell := cnt2 (valIn f m) (valIn g m) l
noncomputable def crs (f g : DField) (ms : List DMask) : List DCell := ms.foldl (crsF f g) []
theorem crs_snoc (f g : DField) (ms : List DMask) (m : DMask) : crs f g (ms ++ [m]) = cnt2 (valIn f m) (valIn g m) (crs f g ms) := by
  rw [crs, List.foldl_append]; rfl
theorem rev_ind {α : Type} {p : List α → Prop} (h0 : p []) (h1 : ∀ l a, p l → p (l ++ [a])) (l : List α) : p l := by
  have : ∀ r : List α, p r.reverse := fun r => by
    induction r with
    | nil => exact h0
    | cons a r ih => rw [List.reverse_cons]; exact h1 _ _ ih
  simpa using this l.reverse
theorem crs_in (f g : DField) (ms : List DMask) : (crs f g ms).length ≤ ms.length ∧ ∀ c ∈ crs f g ms, 1 ≤ c.2.2 ∧ c.2.2 ≤ ms.length := by
  refine rev_ind (p := fun ms => (crs f g ms).length ≤ ms.length ∧ ∀ c ∈ crs f g ms, 1 ≤ c.2.2 ∧ c.2.2 ≤ ms.length) ⟨by simp [crs], fun c hc => by simp [crs] at hc⟩ (fun l m ih => ?_) ms
  rw [crs_snoc]
  refine ⟨?_, fun c hc => ?_⟩
  · have := cnt2_len (a := valIn f m) (b := valIn g m) (crs f g l)
    rw [List.length_append]; simp only [List.length_cons, List.length_nil]; omega
  · have := cnt2_in (n := (l.length : Int)) (by omega) ih.2 c hc
    rw [List.length_append]; simp only [List.length_cons, List.length_nil]; omega
/-- The masks of some cards. -/
def maskL (x : List DCard) (l : List Int) : List DMask := l.map fun i => (x.getD i.toNat (.empty, 0#64, 0#64)).2
theorem maskL_next {x : List DCard} {l : List Int} {z : Nat} {i : Int} {c : DCard} (hi : l[Int.toNat ((z : Nat) : Int)]? = some i) (hc : x[Int.toNat i]? = some c) : maskL x (l.take z) ++ [c.2] = maskL x (l.take (z + 1)) := by
  rw [maskL, maskL, take_more hi, List.map_append]
  congr 1
  show [c.2] = [(x.getD i.toNat (.empty, 0#64, 0#64)).2]
  rw [List.getD_eq_getElem?_getD, hc]; rfl
theorem maskL_len (x : List DCard) (l : List Int) : (maskL x l).length = l.length := by simp [maskL]
/-- All indices. -/
def idxL (n : Nat) : List Int := (List.range n).map fun i => ((i : Nat) : Int)
theorem idxL_next (z : Nat) : idxL z ++ [(z : Int)] = idxL (z + 1) := by rw [idxL, idxL, List.range_succ, List.map_append]; rfl
theorem idxL_len (n : Nat) : (idxL n).length = n := by simp [idxL]
theorem idxL_in {n : Nat} {i : Int} (h : i ∈ idxL n) : 0 ≤ i ∧ i < n := by
  obtain ⟨j, hj, rfl⟩ := List.mem_map.1 h
  have := List.mem_range.1 hj
  omega
theorem maskL_all (x : List DCard) : maskL x (idxL x.length) = x.map (·.2) := by
  apply List.ext_getElem?
  intro i
  rw [maskL, idxL, List.map_map, List.getElem?_map, List.getElem?_map]
  rcases Nat.lt_or_ge i x.length with h | h
  · rw [List.getElem?_range h, List.getElem?_eq_getElem h]
    simp only [Option.map_some, Function.comp]
    congr 1
    rw [List.getD_eq_getElem?_getD, Int.toNat_natCast, List.getElem?_eq_getElem h]; rfl
  · rw [List.getElem?_eq_none (by simpa using h), List.getElem?_eq_none h]; rfl
/-- What of the cells is a tally. -/
def talOf (l : List DCell) : List DTal := l.map fun c => (c.1, c.2.2)
/-- A sorted list, counted. -/
def rl1 (l : List DTal) (v : Int) : List DTal := match l.getLast? with
  | some t => if t.1 = v then l.dropLast ++ [(t.1, t.2 + 1)] else l ++ [(v, 1)]
  | none => l ++ [(v, 1)]
def rle (vs : List Int) : List DTal := vs.foldl rl1 []
theorem rle_snoc (vs : List Int) (v : Int) : rle (vs ++ [v]) = rl1 (rle vs) v := by rw [rle, List.foldl_append]; rfl
theorem rl1_app (l : List DTal) (t : DTal) (v : Int) : rl1 (l ++ [t]) v = if t.1 = v then l ++ [(t.1, t.2 + 1)] else l ++ [t] ++ [(v, 1)] := by
  unfold rl1
  rw [List.getLast?_append]
  simp
theorem cnt2_app {v : Int} : ∀ {l : List DCell} {r : List DCell}, (∀ c ∈ l, cellL c v v) → cnt2 v v (l ++ r) = l ++ cnt2 v v r
  | [], r, _ => rfl
  | c :: l, r, h => by
    rw [List.cons_append, cnt2, if_pos (h c (List.mem_cons_self ..)), cnt2_app (fun d hd => h d (List.mem_cons_of_mem _ hd))]
    rfl
/-- Counting in order does what counting does. -/
theorem rle_cnt : ∀ (vs : List Int), vs.Pairwise (· ≤ ·) → ∃ l : List DCell, vs.foldl (fun l v => cnt2 v v l) [] = l ∧ rle vs = talOf l ∧ (∀ c ∈ l, c.1 = c.2.1) ∧ (∀ w, (∀ v ∈ vs, v ≤ w) → ∃ p r, l = p ++ r ∧ (∀ c ∈ p, c.1 < w) ∧ (r = [] ∨ ∃ n, r = [(w, w, n)])) := by
  intro vs
  refine rev_ind (p := fun vs => vs.Pairwise (· ≤ ·) → ∃ l : List DCell, vs.foldl (fun l v => cnt2 v v l) [] = l ∧ rle vs = talOf l ∧ (∀ c ∈ l, c.1 = c.2.1) ∧ (∀ w, (∀ v ∈ vs, v ≤ w) → ∃ p r, l = p ++ r ∧ (∀ c ∈ p, c.1 < w) ∧ (r = [] ∨ ∃ n, r = [(w, w, n)]))) (fun _ => ⟨[], rfl, rfl, fun c hc => (by cases hc), fun w _ => ⟨[], [], rfl, fun c hc => (by cases hc), .inl rfl⟩⟩) (fun vs v ih hs => ?_) vs
  obtain ⟨h1, _, h3⟩ := List.pairwise_append.1 hs
  obtain ⟨l, e1, e2, e3, e4⟩ := ih h1
  have hle : ∀ u ∈ vs, u ≤ v := fun u hu => h3 u hu v (List.mem_singleton.2 rfl)
  obtain ⟨p, r, e5, e6, e7⟩ := e4 v hle
  have hp : ∀ c ∈ p, cellL c v v := fun c hc => .inl (e6 c hc)
  rw [List.foldl_append, e1]
  refine ⟨cnt2 v v l, rfl, ?_, ?_, ?_⟩
  · rw [rle_snoc, e2, e5, cnt2_app hp]
    rcases e7 with rfl | ⟨n, rfl⟩
    · rw [List.append_nil]
      rcases p.eq_nil_or_concat with rfl | ⟨p', c, hpc⟩
      · rfl
      · rw [List.concat_eq_append] at hpc
        subst hpc
        rw [talOf, List.map_append]
        show rl1 (List.map _ p' ++ [(c.1, c.2.2)]) v = _
        rw [rl1_app, if_neg (by have := e6 c (by simp); simp only []; omega)]
        simp [talOf, cnt2]
    · rw [talOf, List.map_append]
      show rl1 (List.map _ p ++ [(v, n)]) v = _
      rw [rl1_app, if_pos rfl]
      simp [talOf, cnt2, cellL]
  · rw [e5, cnt2_app hp]
    intro c hc
    rcases List.mem_append.1 hc with hc | hc
    · exact e3 c (by rw [e5]; exact List.mem_append_left _ hc)
    · rcases e7 with rfl | ⟨n, rfl⟩
      · simp only [cnt2, List.mem_singleton] at hc; subst hc; rfl
      · simp [cnt2, cellL] at hc; subst hc; rfl
  · intro w hw
    have hvw : v ≤ w := hw v (by simp)
    rw [e5, cnt2_app hp]
    rcases Int.lt_or_eq_of_le hvw with hlt | rfl
    · refine ⟨p ++ cnt2 v v r, [], by simp, fun c hc => ?_, .inl rfl⟩
      rcases List.mem_append.1 hc with hc | hc
      · have := e6 c hc; omega
      · rcases e7 with rfl | ⟨n, rfl⟩
        · simp only [cnt2, List.mem_singleton] at hc; subst hc; exact hlt
        · simp [cnt2, cellL] at hc; subst hc; exact hlt
    · rcases e7 with rfl | ⟨n, rfl⟩
      · exact ⟨p, [(v, v, 1)], rfl, e6, .inr ⟨1, rfl⟩⟩
      · exact ⟨p, [(v, v, n + 1)], by simp [cnt2, cellL], e6, .inr ⟨_, rfl⟩⟩
noncomputable def tlyV (f : DField) (x : List DCard) : List Int := x.map fun c => valIn f c.2
abbrev srtI (xs : List Int) : List Int := xs.mergeSort fun x y => decide (x ≤ y)
noncomputable def tly (f : DField) (x : List DCard) : List DTal := rle (srtI (tlyV f x))
theorem srt_sorted (xs : List Int) : (srtI xs).Pairwise (· ≤ ·) := by
  have := List.pairwise_mergeSort (le := fun x y : Int => decide (x ≤ y)) (fun a b c h1 h2 => by simp at *; omega) (fun a b => by simp; omega) xs
  exact this.imp (fun h => by simpa using h)
theorem cnt_vals (f : DField) : ∀ (ms : List DMask) (l : List DCell), ms.foldl (crsF f f) l = (ms.map (valIn f)).foldl (fun l v => cnt2 v v l) l
  | [], _ => rfl
  | m :: ms, l => by rw [List.foldl_cons, List.map_cons, List.foldl_cons]; exact cnt_vals f ms _
/-- The tally out of the sorted values is what is counted one by one. -/
theorem tly_crs (f : DField) (x : List DCard) : tly f x = talOf (crs f f (x.map (·.2))) := by
  have h1 : (srtI (tlyV f x)).Perm (tlyV f x) := List.mergeSort_perm _ _
  obtain ⟨l, e1, e2, _⟩ := rle_cnt (srtI (tlyV f x)) (srt_sorted _)
  have h2 : (srtI (tlyV f x)).foldl (fun l v => cnt2 v v l) [] = (tlyV f x).foldl (fun l v => cnt2 v v l) [] := h1.foldl_eq' (fun a _ b _ l => cnt2_comm _ _ _ _ l) []
  rw [tly, e2, ← e1, h2, crs, cnt_vals, List.map_map]
  rfl
theorem tly_all (f : DField) (x : List DCard) : talOf (crs f f (maskL x (idxL x.length))) = tly f x := by rw [maskL_all, tly_crs]
theorem talOf_next {l : List DCell} {z : Nat} {c : DCell} (hc : l[Int.toNat ((z : Nat) : Int)]? = some c) : talOf (l.take z) ++ [(c.1, c.2.2)] = talOf (l.take (z + 1)) := by rw [talOf, talOf, take_more hc, List.map_append]; rfl
theorem tlyV_next {f : DField} {x : List DCard} {z : Nat} {c : DCard} (hc : x[Int.toNat ((z : Nat) : Int)]? = some c) : tlyV f (x.take z) ++ [valIn f c.2] = tlyV f (x.take (z + 1)) := by rw [tlyV, tlyV, take_more hc, List.map_append]; rfl
theorem tlyV_len (f : DField) (x : List DCard) : (tlyV f x).length = x.length := by simp [tlyV]
theorem srtI_len (x : List Int) : (srtI x).length = x.length := List.length_mergeSort x
theorem rl1_in {n : Nat} (l : List DTal) (v : Int) (h : l.length ≤ n ∧ ∀ t ∈ l, 1 ≤ t.2 ∧ t.2 ≤ (n : Int)) : (rl1 l v).length ≤ n + 1 ∧ ∀ t ∈ rl1 l v, 1 ≤ t.2 ∧ t.2 ≤ ((n + 1 : Nat) : Int) := by
  rcases l.eq_nil_or_concat with rfl | ⟨p, t, ht⟩
  · simp [rl1]; omega
  · rw [List.concat_eq_append] at ht
    subst ht
    rw [rl1_app]
    have h1 := h.1
    rw [List.length_append] at h1
    simp only [List.length_cons, List.length_nil] at h1
    split
    · refine ⟨by rw [List.length_append]; simp only [List.length_cons, List.length_nil]; omega, fun u hu => ?_⟩
      rcases List.mem_append.1 hu with hu | hu
      · have := h.2 u (List.mem_append_left _ hu); omega
      · rw [List.mem_singleton] at hu; subst hu
        have := h.2 t (by simp)
        simp only []; omega
    · refine ⟨by rw [List.length_append, List.length_append]; simp only [List.length_cons, List.length_nil]; omega, fun u hu => ?_⟩
      rcases List.mem_append.1 hu with hu | hu
      · have := h.2 u hu; omega
      · rw [List.mem_singleton] at hu; subst hu
        simp only []; omega
theorem rle_in (l : List Int) : ∀ z, z ≤ l.length → (rle (l.take z)).length ≤ z ∧ ∀ t ∈ rle (l.take z), 1 ≤ t.2 ∧ t.2 ≤ ((z : Nat) : Int)
  | 0, _ => by simp [rle]
  | z + 1, hz => by
    obtain ⟨v, hv⟩ := getI (x := l) (z := z) (by omega)
    rw [take_more hv, rle_snoc]
    exact rl1_in _ v (rle_in l z (by omega))
theorem rle_yes {l : List Int} {z : Nat} {v : Int} {t : DTal} (hv : l[Int.toNat ((z : Nat) : Int)]? = some v) (ht : (rle (l.take z))[Int.toNat (((rle (l.take z)).length : Int) - 1)]? = some t) (h : t.1 = v) : (rle (l.take z)).set (Int.toNat (((rle (l.take z)).length : Int) - 1)) (t.1, t.2 + 1) = rle (l.take (z + 1)) := by
  rw [take_more hv, rle_snoc]
  rcases (rle (l.take z)).eq_nil_or_concat with e | ⟨p, u, e⟩
  · rw [e] at ht; simp at ht
  · rw [List.concat_eq_append] at e
    rw [e] at ht ⊢
    have e1 : Int.toNat (((p ++ [u]).length : Int) - 1) = p.length := by rw [List.length_append]; simp
    rw [e1] at ht ⊢
    rw [List.getElem?_append_right (Nat.le_refl _)] at ht
    simp at ht
    subst ht
    rw [rl1_app, if_pos h, List.set_append_right _ _ (Nat.le_refl _)]
    simp
theorem rle_no {l : List Int} {z : Nat} {v : Int} (hv : l[Int.toNat ((z : Nat) : Int)]? = some v) (h : ∀ t, (rle (l.take z))[Int.toNat (((rle (l.take z)).length : Int) - 1)]? = some t → t.1 ≠ v) : rle (l.take z) ++ [(v, 1)] = rle (l.take (z + 1)) := by
  rw [take_more hv, rle_snoc]
  rcases (rle (l.take z)).eq_nil_or_concat with e | ⟨p, u, e⟩
  · rw [e]; rfl
  · rw [List.concat_eq_append] at e
    rw [e] at h ⊢
    have e1 : Int.toNat (((p ++ [u]).length : Int) - 1) = p.length := by rw [List.length_append]; simp
    rw [e1] at h
    rw [rl1_app, if_neg (h u (by rw [List.getElem?_append_right (Nat.le_refl _)]; simp))]
theorem getDl {α : Type} {x : List α} {d : α} (h : (x.length : Int) - 1 ≥ 0) : x[Int.toNat ((x.length : Int) - 1)]? = some (x.getD (x.length - 1) d) := by
  rw [show Int.toNat ((x.length : Int) - 1) = x.length - 1 by omega, List.getD_eq_getElem?_getD, List.getElem?_eq_getElem (by omega)]; rfl
theorem rle_out {l : List Int} {z : Nat} {v : Int} (hv : l[Int.toNat ((z : Nat) : Int)]? = some v) (h : ¬ (((rle (l.take z)).length : Int) - 1 ≥ 0 ∧ ((rle (l.take z)).getD ((rle (l.take z)).length - 1) (0, 0)).1 = v)) : rle (l.take z) ++ [(v, 1)] = rle (l.take (z + 1)) :=
  rle_no hv fun t ht h1 => by
    have h2 := (List.getElem?_eq_some_iff.1 ht).1
    have h3 : ((rle (l.take z)).length : Int) - 1 ≥ 0 := by omega
    rw [getDl (d := (0, 0)) h3] at ht
    injection ht with ht
    exact h ⟨h3, by rw [ht]; exact h1⟩
theorem tly_in (f : DField) (x : List DCard) : (tly f x).length ≤ x.length ∧ ∀ t ∈ tly f x, 1 ≤ t.2 ∧ t.2 ≤ x.length := by
  have h := crs_in f f (x.map (·.2))
  rw [List.length_map] at h
  rw [tly_crs]
  refine ⟨by rw [talOf, List.length_map]; exact h.1, fun t ht => ?_⟩
  obtain ⟨c, hc, rfl⟩ := List.mem_map.1 ht
  exact h.2 c hc
/-- The sum of the squares of counts. -/
def spl (l : List DTal) : Int := l.foldl (fun n t => n + t.2 * t.2) 0
theorem spl_fold (m : Int) : ∀ (l : List DTal) (n : Int), (∀ t ∈ l, 1 ≤ t.2 ∧ t.2 ≤ m) → 0 ≤ n → n ≤ l.foldl (fun n t => n + t.2 * t.2) n ∧ l.foldl (fun n t => n + t.2 * t.2) n ≤ n + l.length * (m * m)
  | [], n, _, hn => by simp
  | t :: l, n, h, hn => by
    have ht := h t (List.mem_cons_self ..)
    have h1 : 0 ≤ t.2 * t.2 := Int.mul_nonneg (by omega) (by omega)
    have h2 : t.2 * t.2 ≤ m * m := Int.mul_le_mul ht.2 ht.2 (by omega) (by omega)
    have := spl_fold m l (n + t.2 * t.2) (fun u hu => h u (List.mem_cons_of_mem _ hu)) (by omega)
    rw [List.foldl_cons, List.length_cons]
    have e : ((l.length + 1 : Nat) : Int) * (m * m) = (l.length : Int) * (m * m) + m * m := by rw [Int.natCast_add, Int.add_mul]; simp
    rw [e]
    omega
theorem spl_in {l : List DTal} {n : Nat} (h : l.length ≤ n ∧ ∀ t ∈ l, 1 ≤ t.2 ∧ t.2 ≤ (n : Int)) (hn : n ≤ 60) (z : Nat) : 0 ≤ spl (l.take z) ∧ spl (l.take z) ≤ 216000 := by
  have h1 := spl_fold 60 (l.take z) 0 (fun t ht => by have := h.2 t (List.mem_of_mem_take ht); omega) (Int.le_refl _)
  unfold spl
  have h2 : ((l.take z).length : Int) ≤ 60 := by rw [List.length_take]; omega
  omega
theorem sq_in {v : Int} {n : Nat} (h : 1 ≤ v ∧ v ≤ (n : Int)) (hn : n ≤ 60) : 0 ≤ v * v ∧ v * v ≤ 3600 := by
  have h1 : v * v ≤ 60 * 60 := Int.mul_le_mul (by omega) (by omega) (by omega) (by omega)
  exact ⟨Int.mul_nonneg (by omega) (by omega), by omega⟩
theorem spl_next {l : List DTal} {z : Nat} {t : DTal} (ht : l[Int.toNat ((z : Nat) : Int)]? = some t) : spl (l.take z) + t.2 * t.2 = spl (l.take (z + 1)) := foldl_next (f := fun n t => n + t.2 * t.2) ht
/-! ### Codes -/
theorem allL_cons {α : Type} {q : α → Prop} {a : α} {l : List α} : allL q (a :: l) ↔ q a ∧ allL q l := by
  constructor
  · intro h
    refine ⟨allL_mem h (List.mem_cons_self ..), fun i hi => ?_⟩
    obtain ⟨b, hb, hq⟩ := h (i + 1) (by simpa using hi)
    exact ⟨b, by simpa using hb, hq⟩
  · rintro ⟨h1, h2⟩ i hi
    cases i with
    | zero => exact ⟨a, rfl, h1⟩
    | succ i =>
      obtain ⟨b, hb, hq⟩ := h2 i (by simpa using hi)
      exact ⟨b, by simpa using hb, hq⟩
theorem allL_nil {α : Type} {q : α → Prop} : allL q ([] : List α) := fun i hi => absurd hi (Nat.not_lt_zero i)
section
variable {s : List DField} {x : List DCard} {a b i : Int} {f : DField} {z : Nat}
theorem in_two : allL (inI s.length) [a, b] ↔ inI s.length a ∧ inI s.length b := by
  rw [allL_cons, allL_cons]
  exact ⟨fun h => ⟨h.1, h.2.1⟩, fun h => ⟨h.1, h.2, allL_nil⟩⟩
theorem in_one : allL (inI s.length) [i] ↔ inI s.length i := by
  rw [allL_cons]
  exact ⟨fun h => h.1, fun h => ⟨h, allL_nil⟩⟩
theorem tabF_same : tabF s x [i, i] = tabF s x [i] := by
  unfold tabF
  have : allL (inI s.length) [i, i] = allL (inI s.length) [i] := propext (in_two.trans ⟨fun h => in_one.2 h.1, fun h => ⟨in_one.1 h, in_one.1 h⟩⟩)
  rw [this]
theorem ask_one (h : (!(tt (schemeOK s)) || !(tt (allL cardOK x))) = true) : 1 = tabF s x [a, b] := tabF_not (tabE_one h) (by decide)
theorem ask_two (h : (!(tt (schemeOK s)) || !(tt (allL cardOK x))) = false) (h1 : 60 < x.length ∨ ¬ (0 ≤ a ∧ a ≤ (s.length : Int) - 1) ∨ ¬ (0 ≤ b ∧ b ≤ (s.length : Int) - 1)) : 2 = tabF s x [a, b] := by
  by_cases h2 : 60 < x.length
  · exact tabF_not (tabE_two h h2) (by decide)
  · rw [tabF_of (tabE_zero h (by omega))]
    refine err2_no fun h9 => ?_
    have h8 := in_two.1 h9
    unfold inI at h8
    omega
theorem ask_ok (h : (!(tt (schemeOK s)) || !(tt (allL cardOK x))) = false) (h1 : ¬ 60 < x.length) (h2 : 0 ≤ a ∧ a ≤ (s.length : Int) - 1) (h3 : 0 ≤ b ∧ b ≤ (s.length : Int) - 1) : 0 = tabF s x [a, b] := by
  rw [tabF_of (tabE_zero h (by omega))]
  exact err2_yes (in_two.2 (by unfold inI; omega))
theorem tabF_ok {l : List Int} (h : tabF s x l = 0) : tabE s x = 0 ∧ allL (inI s.length) l := by
  unfold tabF at h
  split at h
  · rename_i h1
    refine ⟨h1, ?_⟩
    unfold err2 at h
    split at h
    · rename_i h2; exact tt_iff.1 h2
    · cases h
  · rename_i h1; exact absurd h h1
/-- What is known where the code is 0. -/
theorem tab_one (h : tabF s x [i] = 0) : (0 ≤ i ∧ i < s.length) ∧ schemeOK s ∧ x.length ≤ 60 := by
  have h1 := tabF_ok h
  have h2 := tabE_ok h1.1
  exact ⟨in_one.1 h1.2, h2.1, h2.2.2⟩
theorem tab_two (h : tabF s x [a, b] = 0) : (0 ≤ a ∧ a < s.length) ∧ (0 ≤ b ∧ b < s.length) ∧ schemeOK s ∧ x.length ≤ 60 := by
  have h1 := tabF_ok h
  have h2 := tabE_ok h1.1
  have h3 := in_two.1 h1.2
  exact ⟨h3.1, h3.2, h2.1, h2.2.2⟩
theorem tab_field (h : schemeOK s) (hf : s[Int.toNat i]? = some f) : fieldOK f := by
  have hf' : s[Int.toNat ((Int.toNat i : Nat) : Int)]? = some f := by rw [toN]; exact hf
  exact sch_field h hf'
/-! ### What is told of a field -/
noncomputable def tlyS (s : List DField) (x : List DCard) (i : Int) : List DTal × Int := if tabF s x [i] = 0 then (match s[Int.toNat i]? with | some f => tly f x | none => [], 0) else ([], tabF s x [i])
theorem tlyS_no (h : tabF s x [i] ≠ 0) : tlyS s x i = ([], tabF s x [i]) := by rw [tlyS, if_neg h]
theorem tlyS_yes (h : tabF s x [i] = 0) (hf : s[Int.toNat i]? = some f) : tlyS s x i = (tly f x, 0) := by rw [tlyS, if_pos h, hf]
noncomputable def splS (s : List DField) (x : List DCard) (i : Int) : Int × Int := if tabF s x [i] = 0 then (spl (tlyS s x i).1, 0) else (0, tabF s x [i])
theorem splS_no (h : tabF s x [i] ≠ 0) : splS s x i = (0, tabF s x [i]) := by rw [splS, if_neg h]
theorem splS_yes (h : tabF s x [i] = 0) (hf : s[Int.toNat i]? = some f) : splS s x i = (spl (tly f x), 0) := by rw [splS, if_pos h, tlyS_yes h hf]
/-- The first field with the least split. -/
noncomputable def bst (s : List DField) (x : List DCard) : Nat → Int × Int
  | 0 => (0, 0)
  | z + 1 => match s[z]? with
    | some f => if z = 0 ∨ spl (tly f x) < (bst s x z).2 then ((z : Int), spl (tly f x)) else bst s x z
    | none => bst s x z
theorem bst_yes (hf : s[Int.toNat ((z : Nat) : Int)]? = some f) (h : z = 0 ∨ spl (tly f x) < (bst s x z).2) : ((z : Int), spl (tly f x)) = bst s x (z + 1) := by
  rw [toN] at hf; rw [bst, hf]; exact (if_pos h).symm
theorem bst_no (hf : s[Int.toNat ((z : Nat) : Int)]? = some f) (h : ¬ (z = 0 ∨ spl (tly f x) < (bst s x z).2)) : bst s x z = bst s x (z + 1) := by
  rw [toN] at hf; rw [bst, hf]; exact (if_neg h).symm
theorem bst_or {m n : Int} {z : Nat} (hm : 0 ≤ m) (h : (if z = 0 then (-1 : Int) else m) < 0 ∨ n < (if z = 0 then (-1 : Int) else m)) : z = 0 ∨ n < m := by
  by_cases h9 : z = 0
  · exact .inl h9
  · rw [if_neg h9] at h
    omega
theorem spl_all {l : List DTal} {n : Nat} (h : l.length ≤ n ∧ ∀ t ∈ l, 1 ≤ t.2 ∧ t.2 ≤ (n : Int)) (hn : n ≤ 60) : 0 ≤ spl l ∧ spl l ≤ 216000 := by
  have := spl_in h hn l.length
  rwa [List.take_length] at this
theorem bst_in (hx : x.length ≤ 60) : ∀ z, 0 ≤ (bst s x z).2 ∧ (bst s x z).2 ≤ 216000 ∧ 0 ≤ (bst s x z).1 ∧ (bst s x z).1 ≤ z
  | 0 => by simp [bst]
  | z + 1 => by
    have ih := bst_in hx z
    rw [bst]
    split
    · rename_i f _
      split
      · have := spl_all (tly_in f x) hx
        simp only []
        omega
      · omega
    · omega
noncomputable def bestS (s : List DField) (x : List DCard) : Int × Int × Int := if tabE s x = 0 then if s.length = 0 then (0, 0, 6) else ((bst s x s.length).1, (bst s x s.length).2, 0) else (0, 0, tabE s x)
theorem best_no (h : tabE s x ≠ 0) : bestS s x = (0, 0, tabE s x) := by rw [bestS, if_neg h]
theorem best_none (h : tabE s x = 0) (h1 : s.length = 0) : bestS s x = (0, 0, 6) := by rw [bestS, if_pos h, if_pos h1]
theorem best_yes (h : tabE s x = 0) (h1 : s.length ≠ 0) : bestS s x = ((bst s x s.length).1, (bst s x s.length).2, 0) := by rw [bestS, if_pos h, if_neg h1]
/-- The first value with the greatest count. -/
def cmx (l : List DTal) (z : Nat) : DTal := (l.take z).foldl (fun b t => if t.2 > b.2 then t else b) (0, 0)
theorem cmx_next {l : List DTal} {t : DTal} (ht : l[Int.toNat ((z : Nat) : Int)]? = some t) : (if t.2 > (cmx l z).2 then t else cmx l z) = cmx l (z + 1) := foldl_next (f := fun (b t : DTal) => if t.2 > b.2 then t else b) ht
theorem cmx_yes {l : List DTal} {t : DTal} (ht : l[Int.toNat ((z : Nat) : Int)]? = some t) (h : t.2 > (cmx l z).2) : t = cmx l (z + 1) := by rw [← cmx_next ht, if_pos h]
theorem cmx_no {l : List DTal} {t : DTal} (ht : l[Int.toNat ((z : Nat) : Int)]? = some t) (h : ¬ t.2 > (cmx l z).2) : cmx l z = cmx l (z + 1) := by rw [← cmx_next ht, if_neg h]
theorem cmx_one {l : List DTal} {t : DTal} (ht : l[0]? = some t) (h : 1 ≤ t.2) : cmx l 1 = t := by
  have h0 : cmx l 0 = (0, 0) := rfl
  exact (cmx_yes (z := 0) ht (by rw [h0]; show t.2 > 0; omega)).symm
theorem cmx_in {l : List DTal} {n : Nat} (h : ∀ t ∈ l, 1 ≤ t.2 ∧ t.2 ≤ (n : Int)) : ∀ z, z ≤ l.length → 0 ≤ (cmx l z).2 ∧ (cmx l z).2 ≤ n
  | 0, _ => by have h0 : cmx l 0 = (0, 0) := rfl
               rw [h0]; simp only []; omega
  | z + 1, hz => by
    obtain ⟨t, ht⟩ := getI (x := l) (z := z) (by omega)
    have h1 := cmx_in h z (by omega)
    have h2 := h t (mem_getI ht)
    rw [← cmx_next ht]
    split <;> omega
theorem cnt2_pos (a b : Int) (l : List DCell) : 0 < (cnt2 a b l).length := by
  cases l with
  | nil => simp [cnt2]
  | cons c r => rw [cnt2]; split <;> (try split) <;> simp
theorem tly_len0 (f : DField) (x : List DCard) : (tly f x).length = 0 ↔ x.length = 0 := by
  rw [tly_crs, talOf, List.length_map]
  constructor
  · intro h
    rcases x.eq_nil_or_concat with rfl | ⟨y, c, hyc⟩
    · rfl
    · rw [List.concat_eq_append] at hyc
      subst hyc
      rw [List.map_append] at h
      have := crs_snoc f f (y.map (·.2)) c.2
      rw [List.map_cons, List.map_nil, this] at h
      have := cnt2_pos (valIn f c.2) (valIn f c.2) (crs f f (y.map (·.2)))
      omega
  · intro h
    rw [List.eq_nil_of_length_eq_zero h]; rfl
noncomputable def cmnS (s : List DField) (x : List DCard) (i : Int) : Int × (Int × Int) × Int := if tabF s x [i] = 0 then if x.length = 0 then (0, (0, 0), 6) else
  ((cmx (tlyS s x i).1 (tlyS s x i).1.length).1, shr (cmx (tlyS s x i).1 (tlyS s x i).1.length).2 (x.length : Int), 0) else (0, (0, 0), tabF s x [i])
theorem cmn_no (h : tabF s x [i] ≠ 0) : cmnS s x i = (0, (0, 0), tabF s x [i]) := by rw [cmnS, if_neg h]
theorem cmn_none (h : tabF s x [i] = 0) (h1 : x.length = 0) : cmnS s x i = (0, (0, 0), 6) := by rw [cmnS, if_pos h, if_pos h1]
theorem cmn_yes (h : tabF s x [i] = 0) (h1 : x.length ≠ 0) (hf : s[Int.toNat i]? = some f) : cmnS s x i = ((cmx (tly f x) (tly f x).length).1, shr (cmx (tly f x) (tly f x).length).2 (x.length : Int), 0) := by rw [cmnS, if_pos h, if_neg h1, tlyS_yes h hf]
end
section
variable {s : List DField} {x : List DCard} {i : Int} {f : DField} {z : Nat}
end
end Go.Proofs.YtkgboidjghcegaaGreatDoor.VL
/- Proved here: marks of rows of cards, edits, texts and witnesses. Plain Lean, no program. -/
set_option linter.unusedVariables false
set_option linter.unusedSimpArgs false
namespace Go.Proofs.YtkgboidjghcegaaGreatDoor.VL
open Go
section
variable {α : Type} {f : Int → α} {w k : Int} {x : List α} {z n : Nat} {a : α}
end
/-! ### Limbs -/
/-! ### What is written -/
end Go.Proofs.YtkgboidjghcegaaGreatDoor.VL
/- Proved here: edits of decks. Plain Lean, no program. -/
set_option linter.unusedVariables false
set_option linter.unusedSimpArgs false
namespace Go.Proofs.YtkgboidjghcegaaGreatDoor.VL
open Go
abbrev DEdit := Int × ByteArray × Int × DMask
section
variable {e : DEdit}
end
/-- The card at a place. -/
def cAt (x : List DCard) (k : Int) : DCard := x.getD k.toNat (.empty, zM)
section
variable {x : List DCard} {e : DEdit} {a : DCard}
end
section
variable {c : BitVec 64} {x : List DCard} {e : DEdit}
end
end Go.Proofs.YtkgboidjghcegaaGreatDoor.VL
/- Proved here: rows of edits, and decks that are merged. Plain Lean, no program. -/
set_option linter.unusedVariables false
set_option linter.unusedSimpArgs false
namespace Go.Proofs.YtkgboidjghcegaaGreatDoor.VL
open Go
/-! ### All of a row -/
section
variable {α : Type} {q : α → Bool} {x : List α} {z : Nat} {a : α}
theorem map_more {β : Type} {f : α → β} (ha : x[Int.toNat ((z : Nat) : Int)]? = some a) : (x.take z).map f ++ [f a] = (x.take (z + 1)).map f := by
  rw [take_more ha, List.map_append]; rfl
end
/-! ### Undoing -/
section
variable {l : List DEdit} {z : Nat} {e : DEdit}
end
/-! ### One edit behind another -/
section
variable {x y : List DCard} {l : List DEdit}
end
/-! ### Edits between decks -/
section
variable {a b : List DCard}
end
/-! ### Names of several decks -/
noncomputable def isNew (prev : List (List DCard)) (s : ByteArray) : Bool := prev.all fun y => decide (findC s y < 0)
noncomputable def nmOf : List (List DCard) → List (List DCard) → List ByteArray
  | _, [] => []
  | prev, x :: r => (x.map (·.1)).filter (isNew prev) ++ nmOf (prev ++ [x]) r
noncomputable def names (ds : List (List DCard)) : List ByteArray := nmOf [] ds
/-! ### States -/
abbrev DState := Bool × DMask
noncomputable def stOf (x : List DCard) (s : ByteArray) : DState := if findC s x < 0 then (false, zM) else (true, (cAt x (findC s x)).2)
section
variable {base a b : List DCard}
end
/-- What becomes of a card. -/
noncomputable def pickS (base a b : List DCard) (s : ByteArray) : DState := if stOf b s = stOf base s then stOf a s else stOf b s
noncomputable def pickC (base a b : List DCard) (s : ByteArray) : List DCard := if (pickS base a b s).1 = true then [(s, (pickS base a b s).2)] else []
noncomputable def merged (base a b : List DCard) : List DCard := (names [base, a, b]).flatMap (pickC base a b)
section
variable {base a b : List DCard} {s : ByteArray}
end
end Go.Proofs.YtkgboidjghcegaaGreatDoor.VL
/- Proved here: cards with equal notches, and marks in rows of rows. Plain Lean, no program. -/
set_option linter.unusedVariables false
set_option linter.unusedSimpArgs false
namespace Go.Proofs.YtkgboidjghcegaaGreatDoor.VL
open Go
section
variable {x : List DCard} {m : DMask} {y z : Nat} {c : DCard}
end
/-! ### Marks in rows of rows -/
def tot : List (List Int) → Nat
  | [] => 0
  | a :: r => a.length + tot r
section
variable {x : List (List Int)} {a : List Int} {z : Nat} {k : Int}
end
end Go.Proofs.YtkgboidjghcegaaGreatDoor.VL
/- Proved here: marks in knots, and ways through trees. Plain Lean, no program. -/
set_option linter.unusedVariables false
set_option linter.unusedSimpArgs false
namespace Go.Proofs.YtkgboidjghcegaaGreatDoor.VL
open Go
/-! ### A way through a tree -/
section
variable {x : List DKnot} {q : List Int} {f i : Nat} {st v n : Int} {k : DKnot}
end
section
variable {x : List DKnot} {q : List Int} {k : DKnot}
end
end Go.Proofs.YtkgboidjghcegaaGreatDoor.VL
/- Proved here: cards that a tree leads to their leaves: told by what comes to each leaf, and by numbers. Plain Lean. -/
set_option linter.unusedVariables false
set_option linter.unusedSimpArgs false
namespace Go.Proofs.YtkgboidjghcegaaGreatDoor.VL
open Go
section
variable {s : List DField} {cs : List DCard} {x : List DKnot} {z : Nat} {c : DCard} {k : DKnot}
end
end Go.Proofs.YtkgboidjghcegaaGreatDoor.VL
/- Proved here: numbers and edits in text. Plain Lean, no program. -/
set_option linter.unusedVariables false
set_option linter.unusedSimpArgs false
namespace Go.Proofs.YtkgboidjghcegaaGreatDoor.VL
open Go
/-! ### A card's text -/
/-! ### Edits -/
end Go.Proofs.YtkgboidjghcegaaGreatDoor.VL
/- Proved here: choices that are read from bytes, schemes and decks that are drawn. Plain Lean. -/
set_option linter.unusedVariables false
set_option linter.unusedSimpArgs false
namespace Go.Proofs.YtkgboidjghcegaaGreatDoor.VL
open Go
abbrev DSrc := List Int × Int × BitVec 64
def srcI (m : Int) (s : DSrc) : Prop := (∀ b ∈ s.1, 0 ≤ b ∧ b ≤ 255) ∧ s.1.length ≤ 1000000 ∧ 0 ≤ s.2.1 ∧ s.2.1 ≤ m
theorem srcI.le {m n : Int} {s : DSrc} (h : srcI m s) (hmn : m ≤ n) : srcI n s := ⟨h.1, h.2.1, h.2.2.1, by have := h.2.2.2; omega⟩
def nxtB (s : DSrc) : Int := if s.2.1 < (s.1.length : Int) then s.1.getD s.2.1.toNat 0 else 0
def nxtS (s : DSrc) : DSrc := (s.1, s.2.1 + 1, s.2.2 * 6364136223846793005#64 + BitVec.ofInt 64 (nxtB s) + 1442695040888963407#64)
/-- The next number, and what is left. -/
def nxt (s : DSrc) : Int × DSrc := (if s.2.1 + 1 ≤ (s.1.length : Int) then nxtB s else ((((nxtS s).2.2 >>> 40 &&& 255#64).toNat : Nat) : Int), nxtS s)
theorem nxtB_yes {s : DSrc} {b : Int} (h : s.2.1 < (s.1.length : Int)) (hb : s.1[Int.toNat s.2.1]? = some b) : nxtB s = b := by
  rw [nxtB, if_pos h, List.getD_eq_getElem?_getD, hb]; rfl
theorem nxtB_no {s : DSrc} (h : ¬ s.2.1 < (s.1.length : Int)) : nxtB s = 0 := if_neg h
theorem and_255 (x : BitVec 64) : 0 ≤ (((x &&& 255#64).toNat : Nat) : Int) ∧ (((x &&& 255#64).toNat : Nat) : Int) ≤ 255 := by
  have : (x &&& 255#64).toNat ≤ 255 := by rw [BitVec.toNat_and]; exact Nat.and_le_right
  omega
theorem nxtB_in {m : Int} {s : DSrc} (h : srcI m s) : 0 ≤ nxtB s ∧ nxtB s ≤ 255 := by
  unfold nxtB
  split
  · rename_i h1
    have h2 := h.2.2.1
    have h3 : s.1[s.2.1.toNat]? = some s.1[s.2.1.toNat] := List.getElem?_eq_getElem (by omega)
    rw [List.getD_eq_getElem?_getD, h3]
    exact h.1 _ (List.getElem_mem _)
  · omega
theorem nxt_in {m : Int} {s : DSrc} (h : srcI m s) : 0 ≤ (nxt s).1 ∧ (nxt s).1 ≤ 255 := by
  unfold nxt
  split
  · exact nxtB_in h
  · exact and_255 _
theorem nxt_src {m : Int} {s : DSrc} (h : srcI m s) : srcI (m + 1) (nxt s).2 := ⟨h.1, h.2.1, by show 0 ≤ s.2.1 + 1; have := h.2.2.1; omega, by show s.2.1 + 1 ≤ m + 1; have := h.2.2.2; omega⟩
theorem nxt_at {s : DSrc} (h : s.2.1 + 1 ≤ (s.1.length : Int)) : (nxt s).1 = nxtB s := if_pos h
theorem nxt_end {s : DSrc} (h : ¬ s.2.1 + 1 ≤ (s.1.length : Int)) : (nxt s).1 = ((((nxtS s).2.2 >>> 40 &&& 255#64).toNat : Nat) : Int) := if_neg h
/-- A number from 0 to n - 1. -/
def pick (s : DSrc) (n : Int) : Int × DSrc := if n ≤ 1 then (0, s) else if n > 200 then (((nxt s).1 * 256 + (nxt (nxt s).2).1).tmod n, (nxt (nxt s).2).2) else ((nxt s).1.tmod n, (nxt s).2)
theorem pick_1 {s : DSrc} {n : Int} (h : n ≤ 1) : pick s n = (0, s) := if_pos h
theorem pick_2 {s : DSrc} {n : Int} (h : ¬ n ≤ 1) (h1 : n > 200) : pick s n = (((nxt s).1 * 256 + (nxt (nxt s).2).1).tmod n, (nxt (nxt s).2).2) := by rw [pick, if_neg h, if_pos h1]
theorem pick_3 {s : DSrc} {n : Int} (h : ¬ n ≤ 1) (h1 : ¬ n > 200) : pick s n = ((nxt s).1.tmod n, (nxt s).2) := by rw [pick, if_neg h, if_neg h1]
theorem tmod_lt' {a n : Int} (ha : 0 ≤ a) (hn : 0 < n) : 0 ≤ a.tmod n ∧ a.tmod n < n := by
  rw [Int.tmod_eq_emod_of_nonneg ha]
  exact ⟨Int.emod_nonneg _ (by omega), Int.emod_lt_of_pos _ hn⟩
theorem pick_in {m : Int} {s : DSrc} (h : srcI m s) (n : Int) : 0 ≤ (pick s n).1 ∧ (1 ≤ n → (pick s n).1 < n) ∧ (n ≤ 1 → (pick s n).1 = 0) := by
  have h1 := nxt_in h
  have h2 := nxt_in (nxt_src h)
  by_cases h3 : n ≤ 1
  · rw [pick_1 h3]; exact ⟨Int.le_refl 0, fun h4 => (by show (0 : Int) < n; omega), fun _ => rfl⟩
  · by_cases h4 : n > 200
    · rw [pick_2 h3 h4]
      have := tmod_lt' (a := (nxt s).1 * 256 + (nxt (nxt s).2).1) (n := n) (by omega) (by omega)
      exact ⟨this.1, fun _ => this.2, fun h5 => absurd h5 h3⟩
    · rw [pick_3 h3 h4]
      have := tmod_lt' (a := (nxt s).1) (n := n) (by omega) (by omega)
      exact ⟨this.1, fun _ => this.2, fun h5 => absurd h5 h3⟩
theorem pick_src {m : Int} {s : DSrc} (h : srcI m s) (n : Int) : srcI (m + 2) (pick s n).2 := by
  by_cases h3 : n ≤ 1
  · rw [pick_1 h3]; exact h.le (by omega)
  · by_cases h4 : n > 200
    · rw [pick_2 h3 h4]; exact (nxt_src (nxt_src h)).le (by omega)
    · rw [pick_3 h3 h4]; exact (nxt_src h).le (by omega)
theorem low_all {s : ByteArray} (h : (s.data.toList.all fun b => decide (97 ≤ b.toNat) && decide (b.toNat ≤ 122)) = true) : lowS s := fun i hi => by
  have h1 : s[i] ∈ s.data.toList := by
    have : s[i] = s.data[i]'hi := rfl
    rw [this, ← Array.getElem_toList]
    exact List.getElem_mem _
  have h2 := List.all_eq_true.1 h _ h1
  rw [Bool.and_eq_true, decide_eq_true_eq, decide_eq_true_eq] at h2
  exact ⟨s[i], getElem?_pos s i hi, h2⟩
/-! ### Schemes that are drawn -/
/-! ### Decks that are drawn -/
theorem okM_iff (x : DMask) : okM x = true ↔ ∀ i, 96 ≤ i → i < 128 → bitB x i = false := by
  unfold okM
  rw [beq_iff_eq]
  constructor
  · intro h i h1 h2
    have h3 := congrArg (fun v => BitVec.getLsbD v (i - 96)) h
    simp only [BitVec.getLsbD_ushiftRight, BitVec.getLsbD_zero] at h3
    rw [bitB, if_neg (by omega)]
    rw [show 32 + (i - 96) = i - 64 by omega] at h3
    exact h3
  · intro h
    apply BitVec.eq_of_getLsbD_eq
    intro j hj
    rw [BitVec.getLsbD_ushiftRight, BitVec.getLsbD_zero]
    rcases Nat.lt_or_ge j 32 with h1 | h1
    · have := h (96 + j) (by omega) (by omega)
      rw [bitB, if_neg (by omega), show 96 + j - 64 = 32 + j by omega] at this
      exact this
    · exact BitVec.getLsbD_of_ge _ _ (by omega)
theorem okM_join {x y : DMask} (hx : okM x = true) (hy : okM y = true) : okM (joinM x y) = true := by
  rw [okM_iff] at *
  intro i h1 h2
  rw [bit_join, hx i h1 h2, hy i h1 h2]; rfl
theorem okM_one {h : Int} (hh : 0 ≤ h ∧ h < 96) : okM (bitM h) = true := by
  rw [okM_iff]
  intro i h1 h2
  have e : h = ((h.toNat : Nat) : Int) := by omega
  rw [e, bit_bit (by omega) i h2]
  exact decide_eq_false (by omega)
theorem okM_zM : okM zM = true := by decide
theorem okM_ntc {m : DMask} {s w b : Int} (hm : okM m = true) (h0 : 0 ≤ s) : ∀ k : Nat, s + k ≤ 96 → okM (ntc m s w b k) = true
  | 0, _ => hm
  | k + 1, h => by
    rw [ntc]
    split
    · exact okM_join (okM_ntc hm h0 k (by omega)) (okM_one (by omega))
    · exact okM_ntc hm h0 k (by omega)
theorem okM_with {m : DMask} (hm : okM m = true) : ∀ l : List Int, (∀ h ∈ l, 0 ≤ h ∧ h < 96) → okM (withM m l) = true := by
  intro l
  induction l generalizing m with
  | nil => intro _; exact hm
  | cons a l ih =>
    intro h
    rw [withM, List.foldl_cons]
    exact ih (okM_join hm (okM_one (h a (List.mem_cons_self ..)))) (fun b hb => h b (List.mem_cons_of_mem _ hb))
theorem okM_code {f : DField} (hf : fieldOK f) {v : Int} (hv : 0 ≤ v ∧ v ≤ topF f) : okM (codeF f v) = true := by
  have hsz := size_in hf
  unfold codeF
  split
  · rename_i h0
    have := cf_top hf h0
    exact okM_one (by omega)
  · rename_i h0
    split
    · rename_i h3
      have hw : widthF f = f.2.2.2 + 1 := by unfold widthF; rw [h3]; rfl
      have h1 := okM_ntc (w := f.2.2.2) (b := v) okM_zM hsz.2.2.2.2.1 f.2.2.2.toNat (by omega)
      unfold codeP
      split
      · exact okM_join h1 (okM_one (by omega))
      · exact h1
    · rename_i h3
      have hk := kind_12 hf h0 h3
      refine okM_with okM_zM _ fun a ha => ?_
      obtain ⟨j, hj, ha⟩ := List.mem_flatMap.1 ha
      exact plH_in hf hk (by have := List.mem_range.1 hj; omega) ha
end Go.Proofs.YtkgboidjghcegaaGreatDoor.VL
/- Proved here: decks and masks that are drawn; distances; what a law says of the nearest cards. Plain Lean. -/
set_option linter.unusedVariables false
set_option linter.unusedSimpArgs false
namespace Go.Proofs.YtkgboidjghcegaaGreatDoor.VL
open Go
end Go.Proofs.YtkgboidjghcegaaGreatDoor.VL
