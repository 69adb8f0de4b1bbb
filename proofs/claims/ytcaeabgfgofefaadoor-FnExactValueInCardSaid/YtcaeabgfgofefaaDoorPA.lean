/- Proved here: how many bits of a word are set: by the words' own sums, and by halving. Plain Lean, no program. -/
import Derived.Test.YtcaeabgfgofefaaDoorVN
set_option linter.unusedVariables false
namespace Go.Proofs.YtcaeabgfgofefaaDoor.VL
open Go
def ev (B : Nat) : Nat → Nat → Nat
  | 0, _ => 0
  | n + 1, x => x % B + B * B * ev B n (x / (B * B))
def msk (B : Nat) : Nat → Nat
  | 0 => 0
  | n + 1 => (B - 1) + B * B * msk B n
def dsum (B : Nat) : Nat → Nat → Nat
  | 0, _ => 0
  | n + 1, x => x % B + dsum B n (x / B)
def prs (B : Nat) : Nat → Nat → Nat
  | 0, _ => 0
  | n + 1, x => (x % B + x / B % B) + B * B * prs B n (x / (B * B))
/-- All digits are at most c. -/
def dle (B c : Nat) : Nat → Nat → Prop
  | 0, x => x = 0
  | n + 1, x => x % B ≤ c ∧ dle B c n (x / B)
theorem and_msk {w B : Nat} (hB : B = 2 ^ w) (hw : 0 < w) : ∀ n x, x &&& msk B n = ev B n x
  | 0, x => by simp [msk, ev]
  | n + 1, x => by
    have hpos : 0 < B := by rw [hB]; exact Nat.two_pow_pos w
    have hBB : B * B = 2 ^ (w + w) := by rw [hB, Nat.pow_add]
    have e1 : msk B (n + 1) % (B * B) = B - 1 := by
      rw [msk, Nat.add_mul_mod_self_left, Nat.mod_eq_of_lt]
      have : B * 1 ≤ B * B := Nat.mul_le_mul_left _ hpos
      omega
    have e2 : msk B (n + 1) / (B * B) = msk B n := by
      rw [msk, Nat.add_mul_div_left _ _ (Nat.mul_pos hpos hpos), Nat.div_eq_of_lt, Nat.zero_add]
      have : B * 1 ≤ B * B := Nat.mul_le_mul_left _ hpos
      omega
    have h1 : (x &&& msk B (n + 1)) % (B * B) = x % B := by
      rw [hBB, Nat.and_mod_two_pow, ← hBB, e1, hB, Nat.and_two_pow_sub_one_eq_mod, Nat.mod_mod_of_dvd]
      exact ⟨2 ^ w, rfl⟩
    have h2 : (x &&& msk B (n + 1)) / (B * B) = ev B n (x / (B * B)) := by
      rw [hBB, Nat.and_div_two_pow, ← hBB, e2]
      exact and_msk hB hw n _
    rw [ev, ← h1, ← h2]
    exact (Nat.mod_add_div _ _).symm
theorem ev_prs (B : Nat) : ∀ n x, ev B n (x / B) + ev B n x = prs B n x
  | 0, x => rfl
  | n + 1, x => by
    rw [ev, ev, prs, ← ev_prs B n (x / (B * B))]
    have : x / B / (B * B) = x / (B * B) / B := by rw [Nat.div_div_eq_div_mul, Nat.div_div_eq_div_mul, Nat.mul_comm]
    rw [this, Nat.mul_add]
    omega
theorem dsum_prs {B : Nat} (hB : 2 ≤ B) : ∀ n x, dsum (B * B) n (prs B n x) = dsum B (n + n) x
  | 0, x => rfl
  | n + 1, x => by
    have h1 := Nat.mod_lt x (show 0 < B by omega)
    have h2 := Nat.mod_lt (x / B) (show 0 < B by omega)
    have h3 : 2 * B ≤ B * B := Nat.mul_le_mul_right _ hB
    have e1 : prs B (n + 1) x % (B * B) = x % B + x / B % B := by
      rw [prs, Nat.add_mul_mod_self_left, Nat.mod_eq_of_lt (by omega)]
    have e2 : prs B (n + 1) x / (B * B) = prs B n (x / (B * B)) := by
      rw [prs, Nat.add_mul_div_left _ _ (by omega), Nat.div_eq_of_lt (by omega), Nat.zero_add]
    rw [dsum, e1, e2, dsum_prs hB n, show n + 1 + (n + 1) = n + n + 1 + 1 by omega, dsum, dsum, Nat.div_div_eq_div_mul]
    omega
theorem dle_prs {B c : Nat} (hB : 2 ≤ B) : ∀ n x, dle B c (n + n) x → dle (B * B) (c + c) n (prs B n x)
  | 0, x, h => rfl
  | n + 1, x, h => by
    have h1 := Nat.mod_lt x (show 0 < B by omega)
    have h2 := Nat.mod_lt (x / B) (show 0 < B by omega)
    have h3 : 2 * B ≤ B * B := Nat.mul_le_mul_right _ hB
    have e1 : prs B (n + 1) x % (B * B) = x % B + x / B % B := by
      rw [prs, Nat.add_mul_mod_self_left, Nat.mod_eq_of_lt (by omega)]
    have e2 : prs B (n + 1) x / (B * B) = prs B n (x / (B * B)) := by
      rw [prs, Nat.add_mul_div_left _ _ (by omega), Nat.div_eq_of_lt (by omega), Nat.zero_add]
    rw [show n + 1 + (n + 1) = n + n + 1 + 1 by omega] at h
    obtain ⟨g1, g2, g3⟩ := h
    rw [Nat.div_div_eq_div_mul] at g3
    refine ⟨?_, ?_⟩
    · rw [e1]; omega
    · rw [e2]; exact dle_prs hB n _ g3
theorem dle_two : ∀ n x, x < 2 ^ n → dle 2 1 n x
  | 0, x, h => by simp at h; exact h
  | n + 1, x, h => ⟨by omega, dle_two n _ (by rw [Nat.pow_succ] at h; omega)⟩
theorem dle_lt {B c : Nat} (hc : c < B) : ∀ n x, dle B c n x → x < B ^ n
  | 0, x, h => by rw [show x = 0 from h]; simp
  | n + 1, x, h => by
    have := dle_lt hc n _ h.2
    rw [Nat.pow_succ]
    exact (Nat.div_lt_iff_lt_mul (by omega)).1 this
/-- The third step sums first and masks then. -/
theorem third : ∀ n x, dle 16 4 (n + n) x → ev 16 n (x / 16 + x) = prs 16 n x
  | 0, x, h => rfl
  | n + 1, x, h => by
    rw [show n + 1 + (n + 1) = n + n + 1 + 1 by omega] at h
    obtain ⟨g1, g2, g3⟩ := h
    rw [Nat.div_div_eq_div_mul] at g3
    have h4 : x / (16 * 16) % 16 ≤ 4 := by
      cases n with
      | zero => have : x / (16 * 16) = 0 := g3; omega
      | succ n => rw [show n + 1 + (n + 1) = n + n + 1 + 1 by omega] at g3; exact g3.1
    rw [ev, prs, ← third n _ g3]
    simp only [show (16 * 16 : Nat) = 256 from rfl] at *
    obtain ⟨y, hy⟩ : ∃ y, y = x / 256 := ⟨_, rfl⟩
    obtain ⟨d0, hd0⟩ : ∃ d, d = x % 16 := ⟨_, rfl⟩
    obtain ⟨d1, hd1⟩ : ∃ d, d = x / 16 % 16 := ⟨_, rfl⟩
    have hx : x = d0 + 16 * d1 + 256 * y := by omega
    rw [← hd0, ← hd1, ← hy]
    rw [← hy] at h4
    have k0 : d0 ≤ 4 := by omega
    have k1 : d1 ≤ 4 := by omega
    clear hd0 hd1 g1 g2 g3 hy
    subst hx
    have e1 : (d0 + 16 * d1 + 256 * y) / 16 = d1 + 16 * y := by omega
    rw [e1]
    have e2 : (d1 + 16 * y + (d0 + 16 * d1 + 256 * y)) / 256 = y / 16 + y := by omega
    have e3 : (d1 + 16 * y + (d0 + 16 * d1 + 256 * y)) % 16 = d0 + d1 := by omega
    rw [e2, e3]
theorem last {z : Nat} (h : dle 256 8 8 z) : (z + z / 256 + (z + z / 256) / 65536 + (z + z / 256 + (z + z / 256) / 65536) / 4294967296) % 128 = dsum 256 8 z := by
  simp only [dle, Nat.div_div_eq_div_mul] at h
  obtain ⟨h0, h1, h2, h3, h4, h5, h6, h7, h8⟩ := h
  simp only [dsum, Nat.div_div_eq_div_mul]
  simp only [Nat.reduceMul] at *
  obtain ⟨a0, e0⟩ : ∃ d, d = z % 256 := ⟨_, rfl⟩
  obtain ⟨a1, e1⟩ : ∃ d, d = z / 256 % 256 := ⟨_, rfl⟩
  obtain ⟨a2, e2⟩ : ∃ d, d = z / 65536 % 256 := ⟨_, rfl⟩
  obtain ⟨a3, e3⟩ : ∃ d, d = z / 16777216 % 256 := ⟨_, rfl⟩
  obtain ⟨a4, e4⟩ : ∃ d, d = z / 4294967296 % 256 := ⟨_, rfl⟩
  obtain ⟨a5, e5⟩ : ∃ d, d = z / 1099511627776 % 256 := ⟨_, rfl⟩
  obtain ⟨a6, e6⟩ : ∃ d, d = z / 281474976710656 % 256 := ⟨_, rfl⟩
  obtain ⟨a7, e7⟩ : ∃ d, d = z / 72057594037927936 % 256 := ⟨_, rfl⟩
  rw [← e0] at h0 ⊢
  rw [← e1] at h1 ⊢
  rw [← e2] at h2 ⊢
  rw [← e3] at h3 ⊢
  rw [← e4] at h4 ⊢
  rw [← e5] at h5 ⊢
  rw [← e6] at h6 ⊢
  rw [← e7] at h7 ⊢
  have hz : z = a0 + 256 * a1 + 65536 * a2 + 16777216 * a3 + 4294967296 * a4 + 1099511627776 * a5 + 281474976710656 * a6 + 72057594037927936 * a7 := by omega
  clear e0 e1 e2 e3 e4 e5 e6 e7 h8
  subst hz
  have f1 : (a0 + 256 * a1 + 65536 * a2 + 16777216 * a3 + 4294967296 * a4 + 1099511627776 * a5 + 281474976710656 * a6 + 72057594037927936 * a7) / 256 = a1 + 256 * a2 + 65536 * a3 + 16777216 * a4 + 4294967296 * a5 + 1099511627776 * a6 + 281474976710656 * a7 := by omega
  rw [f1]
  have f2 : (a0 + 256 * a1 + 65536 * a2 + 16777216 * a3 + 4294967296 * a4 + 1099511627776 * a5 + 281474976710656 * a6 + 72057594037927936 * a7 + (a1 + 256 * a2 + 65536 * a3 + 16777216 * a4 + 4294967296 * a5 + 1099511627776 * a6 + 281474976710656 * a7)) / 65536 = (a2 + a3) + 256 * (a3 + a4) + 65536 * (a4 + a5) + 16777216 * (a5 + a6) + 4294967296 * (a6 + a7) + 1099511627776 * a7 := by omega
  rw [f2]
  have f3 : (a0 + 256 * a1 + 65536 * a2 + 16777216 * a3 + 4294967296 * a4 + 1099511627776 * a5 + 281474976710656 * a6 + 72057594037927936 * a7 + (a1 + 256 * a2 + 65536 * a3 + 16777216 * a4 + 4294967296 * a5 + 1099511627776 * a6 + 281474976710656 * a7) + ((a2 + a3) + 256 * (a3 + a4) + 65536 * (a4 + a5) + 16777216 * (a5 + a6) + 4294967296 * (a6 + a7) + 1099511627776 * a7)) / 4294967296 = (a4 + a5 + a6 + a7) + 256 * (a5 + a6 + a7) + 65536 * (a6 + a7) + 16777216 * a7 := by clear f1 f2; omega
  rw [f3]
  clear f1 f2 f3
  omega

/-- How many bits are set. -/
def pop (x : BitVec 64) : Int := (dsum 2 64 x.toNat : Nat)
theorem dsum_zero (B : Nat) : ∀ n, dsum B n 0 = 0
  | 0 => rfl
  | n + 1 => by rw [dsum, Nat.zero_mod, Nat.zero_div, dsum_zero B n]
theorem dsum_more {B : Nat} (hB : 0 < B) : ∀ n x, x < B ^ n → dsum B (n + 1) x = dsum B n x
  | 0, x, h => by
    have : x = 0 := by simpa using h
    subst this; rw [dsum_zero, dsum_zero]
  | n + 1, x, h => by
    rw [dsum, dsum_more hB n (x / B) (Nat.div_lt_of_lt_mul (by rw [Nat.pow_succ, Nat.mul_comm] at h; exact h)), ← dsum]
theorem dsum_le : ∀ n x, dsum 2 n x ≤ n
  | 0, x => Nat.le_refl 0
  | n + 1, x => by rw [dsum]; have := dsum_le n (x / 2); omega
theorem pop_in (x : BitVec 64) : 0 ≤ pop x ∧ pop x ≤ 64 := by
  have := dsum_le 64 x.toNat
  unfold pop; omega
theorem pop_step (x : BitVec 64) : pop x = ((x % 2#64).toNat : Int) + pop (x / 2#64) := by
  unfold pop
  rw [← dsum_more (by omega) 64 x.toNat x.isLt, dsum]
  rw [BitVec.toNat_udiv, BitVec.toNat_umod]
  simp
theorem pop_of_zero {x : BitVec 64} (h : ¬ x.toNat > (0#64).toNat) : pop x = 0 := by
  have : x = 0 := BitVec.eq_of_toNat_eq (by simp at h; simpa using h)
  subst this; rfl
def ones1 (x : BitVec 64) : BitVec 64 := (x >>> 1 &&& 6148914691236517205#64) + (x &&& 6148914691236517205#64)
def ones2 (x : BitVec 64) : BitVec 64 := (x >>> 2 &&& 3689348814741910323#64) + (x &&& 3689348814741910323#64)
def ones3 (x : BitVec 64) : BitVec 64 := (x >>> 4 + x) &&& 1085102592571150095#64
def ones4 (x : BitVec 64) : BitVec 64 := (x + x >>> 8) + (x + x >>> 8) >>> 16 + ((x + x >>> 8) + (x + x >>> 8) >>> 16) >>> 32
theorem ones1_eq (x : BitVec 64) : (ones1 x).toNat = prs 2 32 x.toNat := by
  unfold ones1
  have hd := dle_prs (B := 2) (c := 1) (by omega) 32 x.toNat (dle_two 64 _ x.isLt)
  have hlt := dle_lt (by omega) 32 _ hd
  rw [BitVec.toNat_add, BitVec.toNat_and, BitVec.toNat_and, BitVec.toNat_ushiftRight, Nat.shiftRight_eq_div_pow]
  rw [show (6148914691236517205#64).toNat = msk 2 32 from rfl, and_msk (w := 1) rfl (by omega), and_msk (w := 1) rfl (by omega)]
  rw [show (2 : Nat) ^ 1 = 2 from rfl, ev_prs, Nat.mod_eq_of_lt hlt]
theorem ones2_eq (x : BitVec 64) (h : dle 4 2 32 x.toNat) : (ones2 x).toNat = prs 4 16 x.toNat := by
  unfold ones2
  have hd := dle_prs (B := 4) (c := 2) (by omega) 16 x.toNat h
  have hlt := dle_lt (by omega) 16 _ hd
  rw [BitVec.toNat_add, BitVec.toNat_and, BitVec.toNat_and, BitVec.toNat_ushiftRight, Nat.shiftRight_eq_div_pow]
  rw [show (3689348814741910323#64).toNat = msk 4 16 from rfl, and_msk (w := 2) rfl (by omega), and_msk (w := 2) rfl (by omega)]
  rw [show (2 : Nat) ^ 2 = 4 from rfl, ev_prs, Nat.mod_eq_of_lt hlt]
theorem ones3_eq (x : BitVec 64) (h : dle 16 4 16 x.toNat) : (ones3 x).toNat = prs 16 8 x.toNat := by
  unfold ones3
  have hx : x.toNat ≤ 4919131752989213764 := by
    simp only [dle, Nat.div_div_eq_div_mul] at h
    simp only [Nat.reduceMul] at h
    omega
  rw [BitVec.toNat_and, BitVec.toNat_add, BitVec.toNat_ushiftRight, Nat.shiftRight_eq_div_pow]
  rw [Nat.mod_eq_of_lt (by omega), show (1085102592571150095#64).toNat = msk 16 8 from rfl, and_msk (w := 4) rfl (by omega)]
  exact third 8 _ h
theorem ones4_eq (x : BitVec 64) (h : dle 256 8 8 x.toNat) : (ones4 x).toNat < 9223372036854775808 ∧ (ones4 x).toNat % 128 = dsum 256 8 x.toNat := by
  unfold ones4
  have hx : x.toNat ≤ 578721382704613384 := by
    simp only [dle, Nat.div_div_eq_div_mul] at h
    simp only [Nat.reduceMul] at h
    omega
  have e1 : (x + x >>> 8).toNat = x.toNat + x.toNat / 256 := by
    rw [BitVec.toNat_add, BitVec.toNat_ushiftRight, Nat.shiftRight_eq_div_pow]
    exact Nat.mod_eq_of_lt (by omega)
  have e2 : ((x + x >>> 8) + (x + x >>> 8) >>> 16).toNat = x.toNat + x.toNat / 256 + (x.toNat + x.toNat / 256) / 65536 := by
    rw [BitVec.toNat_add, BitVec.toNat_ushiftRight, Nat.shiftRight_eq_div_pow, e1]
    exact Nat.mod_eq_of_lt (by omega)
  have e3 : ((x + x >>> 8) + (x + x >>> 8) >>> 16 + ((x + x >>> 8) + (x + x >>> 8) >>> 16) >>> 32).toNat
      = x.toNat + x.toNat / 256 + (x.toNat + x.toNat / 256) / 65536 + (x.toNat + x.toNat / 256 + (x.toNat + x.toNat / 256) / 65536) / 4294967296 := by
    rw [BitVec.toNat_add, BitVec.toNat_ushiftRight, Nat.shiftRight_eq_div_pow, e2]
    exact Nat.mod_eq_of_lt (by omega)
  rw [e3]
  exact ⟨by omega, last h⟩
theorem ones_eq (x : BitVec 64) : (ones4 (ones3 (ones2 (ones1 x)))).toNat < 9223372036854775808 ∧ (((ones4 (ones3 (ones2 (ones1 x)))).toNat &&& 127 : Nat) : Int) = pop x := by
  have d1 := dle_prs (B := 2) (c := 1) (by omega) 32 x.toNat (dle_two 64 _ x.isLt)
  rw [← ones1_eq] at d1
  have d2 := dle_prs (B := 4) (c := 2) (by omega) 16 _ d1
  rw [← ones2_eq _ d1] at d2
  have d3 := dle_prs (B := 16) (c := 4) (by omega) 8 _ d2
  rw [← ones3_eq _ d2] at d3
  obtain ⟨h1, h2⟩ := ones4_eq _ d3
  refine ⟨h1, ?_⟩
  rw [show (127 : Nat) = 2 ^ 7 - 1 from rfl, Nat.and_two_pow_sub_one_eq_mod]
  rw [show (2 : Nat) ^ 7 = 128 from rfl, h2, ones3_eq _ d2]
  have s3 := dsum_prs (B := 16) (by omega) 8 (ones2 (ones1 x)).toNat
  rw [s3, ones2_eq _ d1]
  have s2 := dsum_prs (B := 4) (by omega) 16 (ones1 x).toNat
  rw [s2, ones1_eq]
  have s1 := dsum_prs (B := 2) (by omega) 32 x.toNat
  rw [s1]
  rfl
theorem ones_wrap (x : BitVec 64) : IntKind.i64.wrap ((ones4 (ones3 (ones2 (ones1 x)))).toNat : Int) = ((ones4 (ones3 (ones2 (ones1 x)))).toNat : Int) := wrap_i64 (by have := (ones_eq x).1; omega)
end Go.Proofs.YtcaeabgfgofefaaDoor.VL
