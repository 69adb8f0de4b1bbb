/- Proved here: how many bits of a word are set: by the words' own sums, and by halving. Plain Lean, no program. -/
import Derived.Test.YtfnkphllkbkfaaaGreatDoorBvb
set_option linter.unusedVariables false
namespace Go.Proofs.YtfnkphllkbkfaaaGreatDoor.VL
open Go
def ev (B : Nat) : Nat → Nat → Nat
  | 0, _ => 0
  | n + 1, x => x % B + B * B * ev B n (x / (B * B))
def msk (B : Nat) : Nat → Nat
  | 0 => 0
  | n + 1 => (B - 1) + B * B * msk B n
def dsum (B : Nat) : Nat → Nat → Nat
  | 0, _ => 0
  | n + 1, x => x % B + dsum B n (x / B)
def prs (B : Nat) : Nat → Nat → Nat
  | 0, _ => 0
  | n + 1, x => (x % B + x / B % B) + B * B * prs B n (x / (B * B))
/-- All digits are at most c. -/
def dle (B c : Nat) : Nat → Nat → Prop
  | 0, x => x = 0
  | n + 1, x => x % B ≤ c ∧ dle B c n (x / B)
theorem and_msk {w B : Nat} (hB : B = 2 ^ w) (hw : 0 < w) : ∀ n x, x &&& msk B n = ev B n x
  | 0, x => by simp [msk, ev]
  | n + 1, x => by
    have hpos : 0 < B := by rw [hB]; exact Nat.two_pow_pos w
    have hBB : B * B = 2 ^ (w + w) := by rw [hB, Nat.pow_add]
    have e1 : msk B (n + 1) % (B * B) = B - 1 := by
      rw [msk, Nat.add_mul_mod_self_left, Nat.mod_eq_of_lt]
      have : B * 1 ≤ B * B := Nat.mul_le_mul_left _ hpos
      omega
    have e2 : msk B (n + 1) / (B * B) = msk B n := by
      rw [msk, Nat.add_mul_div_left _ _ (Nat.mul_pos hpos hpos), Nat.div_eq_of_lt, Nat.zero_add]
      have : B * 1 ≤ B * B := Nat.mul_le_mul_left _ hpos
      omega
    have h1 : (x &&& msk B (n + 1)) % (B * B) = x % B := by
      rw [hBB, Nat.and_mod_two_pow, ← hBB, e1, hB, Nat.and_two_pow_sub_one_eq_mod, Nat.mod_mod_of_dvd]
      exact ⟨2 ^ w, rfl⟩
    have h2 : (x &&& msk B (n + 1)) / (B * B) = ev B n (x / (B * B)) := by
      rw [hBB, Nat.and_div_two_pow, ← hBB, e2]
      exact and_msk hB hw n _
    rw [ev, ← h1, ← h2]
    exact (Nat.mod_add_div _ _).symm
theorem ev_prs (B : Nat) : ∀ n x, ev B n (x / B) + ev B n x = prs B n x
  | 0, x => rfl
  | n + 1, x => by
    rw [ev, ev, prs, ← ev_prs B n (x / (B * B))]
    have : x / B / (B * B) = x / (B * B) / B := by rw [Nat.div_div_eq_div_mul, Nat.div_div_eq_div_mul, Nat.mul_comm]
    rw [this, Nat.mul_add]
    omega
theorem dsum_prs {B : Nat} (hB : 2 ≤ B) : ∀ n x, dsum (B * B) n (prs B n x) = dsum B (n + n) x
  | 0, x => rfl
  | n + 1, x => by
    have h1 := Nat.mod_lt x (show 0 < B by omega)
    have h2 := Nat.mod_lt (x / B) (show 0 < B by omega)
    have h3 : 2 * B ≤ B * B := Nat.mul_le_mul_right _ hB
    have e1 : prs B (n + 1) x % (B * B) = x % B + x / B % B := by
      rw [prs, Nat.add_mul_mod_self_left, Nat.mod_eq_of_lt (by omega)]
    have e2 : prs B (n + 1) x / (B * B) = prs B n (x / (B * B)) := by
      rw [prs, Nat.add_mul_div_left _ _ (by omega), Nat.div_eq_of_lt (by omega), Nat.zero_add]
    rw [dsum, e1, e2, dsum_prs hB n, show n + 1 + (n + 1) = n + n + 1 + 1 by omega, dsum, dsum, Nat.div_div_eq_div_mul]
    omega
theorem dle_prs {B c : Nat} (hB : 2 ≤ B) : ∀ n x, dle B c (n + n) x → dle (B * B) (c + c) n (prs B n x)
  | 0, x, h => rfl
  | n + 1, x, h => by
    have h1 := Nat.mod_lt x (show 0 < B by omega)
    have h2 := Nat.mod_lt (x / B) (show 0 < B by omega)
    have h3 : 2 * B ≤ B * B := Nat.mul_le_mul_right _ hB
    have e1 : prs B (n + 1) x % (B * B) = x % B + x / B % B := by
      rw [prs, Nat.add_mul_mod_self_left, Nat.mod_eq_of_lt (by omega)]
    have e2 : prs B (n + 1) x / (B * B) = prs B n (x / (B * B)) := by
      rw [prs, Nat.add_mul_div_left _ _ (by omega), Nat.div_eq_of_lt (by omega), Nat.zero_add]
    rw [show n + 1 + (n + 1) = n + n + 1 + 1 by omega] at h
    obtain ⟨g1, g2, g3⟩ := h
    rw [Nat.div_div_eq_div_mul] at g3
    refine ⟨?_, ?_⟩
    · rw [e1]; omega
    · rw [e2]; exact dle_prs hB n _ g3
theorem dle_two : ∀ n x, x < 2 ^ n → dle 2 1 n x
  | 0, x, h => by simp at h; exact h
  | n + 1, x, h => ⟨by omega, dle_two n _ (by rw [Nat.pow_succ] at h; omega)⟩
theorem dle_lt {B c : Nat} (hc : c < B) : ∀ n x, dle B c n x → x < B ^ n
  | 0, x, h => by rw [show x = 0 from h]; simp
  | n + 1, x, h => by
    have := dle_lt hc n _ h.2
    rw [Nat.pow_succ]
    exact (Nat.div_lt_iff_lt_mul (by omega)).1 this
/-- The third step sums first and masks then. -/
theorem third : ∀ n x, dle 16 4 (n + n) x → ev 16 n (x / 16 + x) = prs 16 n x
  | 0, x, h => rfl
  | n + 1, x, h => by
    rw [show n + 1 + (n + 1) = n + n + 1 + 1 by omega] at h
    obtain ⟨g1, g2, g3⟩ := h
    rw [Nat.div_div_eq_div_mul] at g3
    have h4 : x / (16 * 16) % 16 ≤ 4 := by
      cases n with
      | zero => have : x / (16 * 16) = 0 := g3; omega
      | succ n => rw [show n + 1 + (n + 1) = n + n + 1 + 1 by omega] at g3; exact g3.1
    rw [ev, prs, ← third n _ g3]
    simp only [show (16 * 16 : Nat) = 256 from rfl] at *
    obtain ⟨y, hy⟩ : ∃ y, y = x / 256 := ⟨_, rfl⟩
    obtain ⟨d0, hd0⟩ : ∃ d, d = x % 16 := ⟨_, rfl⟩
    obtain ⟨d1, hd1⟩ : ∃ d, d = x / 16 % 16 := ⟨_, rfl⟩
    have hx : x = d0 + 16 * d1 + 256 * y := by omega
    rw [← hd0, ← hd1, ← hy]
    rw [← hy] at h4
    have k0 : d0 ≤ 4 := by omega
    have k1 : d1 ≤ 4 := by omega
    clear hd0 hd1 g1 g2 g3 hy
    subst hx
    have e1 : (d0 + 16 * d1 + 256 * y) / 16 = d1 + 16 * y := by omega
    rw [e1]
    have e2 : (d1 + 16 * y + (d0 + 16 * d1 + 256 * y)) / 256 = y / 16 + y := by omega
    have e3 : (d1 + 16 * y + (d0 + 16 * d1 + 256 * y)) % 16 = d0 + d1 := by omega
    rw [e2, e3]
theorem last {z : Nat} (h : dle 256 8 8 z) : (z + z / 256 + (z + z / 256) / 65536 + (z + z / 256 + (z + z / 256) / 65536) / 4294967296) % 128 = dsum 256 8 z := by
  simp only [dle, Nat.div_div_eq_div_mul] at h
  obtain ⟨h0, h1, h2, h3, h4, h5, h6, h7, h8⟩ := h
  simp only [dsum, Nat.div_div_eq_div_mul]
  simp only [Nat.reduceMul] at *
  obtain ⟨a0, e0⟩ : ∃ d, d = z % 256 := ⟨_, rfl⟩
  obtain ⟨a1, e1⟩ : ∃ d, d = z / 256 % 256 := ⟨_, rfl⟩
  obtain ⟨a2, e2⟩ : ∃ d, d = z / 65536 % 256 := ⟨_, rfl⟩
  obtain ⟨a3, e3⟩ : ∃ d, d = z / 16777216 % 256 := ⟨_, rfl⟩
  obtain ⟨a4, e4⟩ : ∃ d, d = z / 4294967296 % 256 := ⟨_, rfl⟩
  obtain ⟨a5, e5⟩ : ∃ d, d = z / 1099511627776 % 256 := ⟨_, rfl⟩
  obtain ⟨a6, e6⟩ : ∃ d, d = z / 281474976710656 % 256 := ⟨_, rfl⟩
  obtain ⟨a7, e7⟩ : ∃ d, d = z / 72057594037927936 % 256 := ⟨_, rfl⟩
  rw [← e0] at h0 ⊢
  rw [← e1] at h1 ⊢
  rw [← e2] at h2 ⊢
  rw [← e3] at h3 ⊢
  rw [← e4] at h4 ⊢
  rw [← e5] at h5 ⊢
  rw [← e6] at h6 ⊢
  rw [← e7] at h7 ⊢
  have hz : z = a0 + 256 * a1 + 65536 * a2 + 16777216 * a3 + 4294967296 * a4 + 1099511627776 * a5 + 281474976710656 * a6 + 72057594037927936 * a7 := by omega
  clear e0 e1 e2 e3 e4 e5 e6 e7 h8
  subst hz
  have f1 : (a0 + 256 * a1 + 65536 * a2 + 16777216 * a3 + 4294967296 * a4 + 1099511627776 * a5 + 281474976710656 * a6 + 72057594037927936 * a7) / 256 = a1 + 256 * a2 + 65536 * a3 + 16777216 * a4 + 4294967296 * a5 + 1099511627776 * a6 + 281474976710656 * a7 := by omega
  rw [f1]
  have f2 : (a0 + 256 * a1 + 65536 * a2 + 16777216 * a3 + 4294967296 * a4 + 1099511627776 * a5 + 281474976710656 * a6 + 72057594037927936 * a7 + (a1 + 256 * a2 + 65536 * a3 + 16777216 * a4 + 4294967296 * a5 + 1099511627776 * a6 + 281474976710656 * a7)) / 65536 = (a2 + a3) + 256 * (a3 + a4) + 65536 * (a4 + a5) + 16777216 * (a5 + a6) + 4294967296 * (a6 + a7) + 1099511627776 * a7 := by omega
  rw [f2]
  have f3 : (a0 + 256 * a1 + 65536 * a2 + 16777216 * a3 + 4294967296 * a4 + 1099511627776 * a5 + 281474976710656 * a6 + 72057594037927936 * a7 + (a1 + 256 * a2 + 65536 * a3 + 16777216 * a4 + 4294967296 * a5 + 1099511627776 * a6 + 281474976710656 * a7) + ((a2 + a3) + 256 * (a3 + a4) + 65536 * (a4 + a5) + 16777216 * (a5 + a6) + 4294967296 * (a6 + a7) + 1099511627776 * a7)) / 4294967296 = (a4 + a5 + a6 + a7) + 256 * (a5 + a6 + a7) + 65536 * (a6 + a7) + 16777216 * a7 := by clear f1 f2; omega
  rw [f3]
  clear f1 f2 f3
  omega

/-- How many bits are set. -/
def pop (x : BitVec 64) : Int := (dsum 2 64 x.toNat : Nat)
theorem dsum_zero (B : Nat) : ∀ n, dsum B n 0 = 0
  | 0 => rfl
  | n + 1 => by rw [dsum, Nat.zero_mod, Nat.zero_div, dsum_zero B n]
theorem dsum_more {B : Nat} (hB : 0 < B) : ∀ n x, x < B ^ n → dsum B (n + 1) x = dsum B n x
  | 0, x, h => by
    have : x = 0 := by simpa using h
    subst this; rw [dsum_zero, dsum_zero]
  | n + 1, x, h => by
    rw [dsum, dsum_more hB n (x / B) (Nat.div_lt_of_lt_mul (by rw [Nat.pow_succ, Nat.mul_comm] at h; exact h)), ← dsum]
theorem dsum_le : ∀ n x, dsum 2 n x ≤ n
  | 0, x => Nat.le_refl 0
  | n + 1, x => by rw [dsum]; have := dsum_le n (x / 2); omega
theorem pop_in (x : BitVec 64) : 0 ≤ pop x ∧ pop x ≤ 64 := by
  have := dsum_le 64 x.toNat
  unfold pop; omega
theorem pop_step (x : BitVec 64) : pop x = ((x % 2#64).toNat : Int) + pop (x / 2#64) := by
  unfold pop
  rw [← dsum_more (by omega) 64 x.toNat x.isLt, dsum]
  rw [BitVec.toNat_udiv, BitVec.toNat_umod]
  simp
theorem pop_of_zero {x : BitVec 64} (h : ¬ x.toNat > (0#64).toNat) : pop x = 0 := by
  have : x = 0 := BitVec.eq_of_toNat_eq (by simp at h; simpa using h)
  subst this; rfl
def ones1 (x : BitVec 64) : BitVec 64 := (x >>> 1 &&& 6148914691236517205#64) + (x &&& 6148914691236517205#64)
def ones2 (x : BitVec 64) : BitVec 64 := (x >>> 2 &&& 3689348814741910323#64) + (x &&& 3689348814741910323#64)
def ones3 (x : BitVec 64) : BitVec 64 := (x >>> 4 + x) &&& 1085102592571150095#64
def ones4 (x : BitVec 64) : BitVec 64 := (x + x >>> 8) + (x + x >>> 8) >>> 16 + ((x + x >>> 8) + (x + x >>> 8) >>> 16) >>> 32
theorem ones1_eq (x : BitVec 64) : (ones1 x).toNat = prs 2 32 x.toNat := by
  unfold ones1
  have hd := dle_prs (B := 2) (c := 1) (by omega) 32 x.toNat (dle_two 64 _ x.isLt)
  have hlt := dle_lt (by omega) 32 _ hd
  rw [BitVec.toNat_add, BitVec.toNat_and, BitVec.toNat_and, BitVec.toNat_ushiftRight, Nat.shiftRight_eq_div_pow]
  rw [show (6148914691236517205#64).toNat = msk 2 32 from rfl, and_msk (w := 1) rfl (by omega), and_msk (w := 1) rfl (by omega)]
  rw [show (2 : Nat) ^ 1 = 2 from rfl, ev_prs, Nat.mod_eq_of_lt hlt]
theorem ones2_eq (x : BitVec 64) (h : dle 4 2 32 x.toNat) : (ones2 x).toNat = prs 4 16 x.toNat := by
  unfold ones2
  have hd := dle_prs (B := 4) (c := 2) (by omega) 16 x.toNat h
  have hlt := dle_lt (by omega) 16 _ hd
  rw [BitVec.toNat_add, BitVec.toNat_and, BitVec.toNat_and, BitVec.toNat_ushiftRight, Nat.shiftRight_eq_div_pow]
  rw [show (3689348814741910323#64).toNat = msk 4 16 from rfl, and_msk (w := 2) rfl (by omega), and_msk (w := 2) rfl (by omega)]
  rw [show (2 : Nat) ^ 2 = 4 from rfl, ev_prs, Nat.mod_eq_of_lt hlt]
theorem ones3_eq (x : BitVec 64) (h : dle 16 4 16 x.toNat) : (ones3 x).toNat = prs 16 8 x.toNat := by
  unfold ones3
  have hx : x.toNat ≤ 4919131752989213764 := by
    simp only [dle, Nat.div_div_eq_div_mul] at h
    simp only [Nat.reduceMul] at h
    omega
  rw [BitVec.toNat_and, BitVec.toNat_add, BitVec.toNat_ushiftRight, Nat.shiftRight_eq_div_pow]
  rw [Nat.mod_eq_of_lt (by omega), show (1085102592571150095#64).toNat = msk 16 8 from rfl, and_msk (w := 4) rfl (by omega)]
  exact third 8 _ h
theorem ones4_eq (x : BitVec 64) (h : dle 256 8 8 x.toNat) : (ones4 x).toNat < 9223372036854775808 ∧ (ones4 x).toNat % 128 = dsum 256 8 x.toNat := by
  unfold ones4
  have hx : x.toNat ≤ 578721382704613384 := by
    simp only [dle, Nat.div_div_eq_div_mul] at h
    simp only [Nat.reduceMul] at h
    omega
  have e1 : (x + x >>> 8).toNat = x.toNat + x.toNat / 256 := by
    rw [BitVec.toNat_add, BitVec.toNat_ushiftRight, Nat.shiftRight_eq_div_pow]
    exact Nat.mod_eq_of_lt (by omega)
  have e2 : ((x + x >>> 8) + (x + x >>> 8) >>> 16).toNat = x.toNat + x.toNat / 256 + (x.toNat + x.toNat / 256) / 65536 := by
    rw [BitVec.toNat_add, BitVec.toNat_ushiftRight, Nat.shiftRight_eq_div_pow, e1]
    exact Nat.mod_eq_of_lt (by omega)
  have e3 : ((x + x >>> 8) + (x + x >>> 8) >>> 16 + ((x + x >>> 8) + (x + x >>> 8) >>> 16) >>> 32).toNat
      = x.toNat + x.toNat / 256 + (x.toNat + x.toNat / 256) / 65536 + (x.toNat + x.toNat / 256 + (x.toNat + x.toNat / 256) / 65536) / 4294967296 := by
    rw [BitVec.toNat_add, BitVec.toNat_ushiftRight, Nat.shiftRight_eq_div_pow, e2]
    exact Nat.mod_eq_of_lt (by omega)
  rw [e3]
  exact ⟨by omega, last h⟩
theorem ones_eq (x : BitVec 64) : (ones4 (ones3 (ones2 (ones1 x)))).toNat < 9223372036854775808 ∧ (((ones4 (ones3 (ones2 (ones1 x)))).toNat &&& 127 : Nat) : Int) = pop x := by
  have d1 := dle_prs (B := 2) (c := 1) (by omega) 32 x.toNat (dle_two 64 _ x.isLt)
  rw [← ones1_eq] at d1
  have d2 := dle_prs (B := 4) (c := 2) (by omega) 16 _ d1
  rw [← ones2_eq _ d1] at d2
  have d3 := dle_prs (B := 16) (c := 4) (by omega) 8 _ d2
  rw [← ones3_eq _ d2] at d3
  obtain ⟨h1, h2⟩ := ones4_eq _ d3
  refine ⟨h1, ?_⟩
  rw [show (127 : Nat) = 2 ^ 7 - 1 from rfl, Nat.and_two_pow_sub_one_eq_mod]
  rw [show (2 : Nat) ^ 7 = 128 from rfl, h2, ones3_eq _ d2]
  have s3 := dsum_prs (B := 16) (by omega) 8 (ones2 (ones1 x)).toNat
  rw [s3, ones2_eq _ d1]
  have s2 := dsum_prs (B := 4) (by omega) 16 (ones1 x).toNat
  rw [s2, ones1_eq]
  have s1 := dsum_prs (B := 2) (by omega) 32 x.toNat
  rw [s1]
  rfl
theorem ones_wrap (x : BitVec 64) : IntKind.i64.wrap ((ones4 (ones3 (ones2 (ones1 x)))).toNat : Int) = ((ones4 (ones3 (ones2 (ones1 x)))).toNat : Int) := wrap_i64 (by have := (ones_eq x).1; omega)
end Go.Proofs.YtfnkphllkbkfaaaGreatDoor.VL
/- Proved here: what the functions of the first texts compute, in plain Lean: no program. -/
set_option linter.unusedVariables false
set_option linter.unusedSimpArgs false
namespace Go.Proofs.YtfnkphllkbkfaaaGreatDoor.VL
open Go
abbrev kMask : Kd (BitVec 64 × BitVec 64) := Kd.pair Kd.u64 Kd.u64
abbrev kKnot : Kd (Int × List Int × List Int × List Int) := Kd.pair (Kd.int .i16) (Kd.pair (Kd.slice (Kd.int .i64)) (Kd.pair (Kd.slice (Kd.int .i16)) (Kd.slice (Kd.int .i64))))
abbrev kCard : Kd (ByteArray × BitVec 64 × BitVec 64) := Kd.pair Kd.str kMask
abbrev kField : Kd (ByteArray × Int × Int × Int) := Kd.pair Kd.str (Kd.pair (Kd.int .i8) (Kd.pair (Kd.int .i16) (Kd.int .i16)))
def toM (x : BitVec 64 × BitVec 64) (z : Nat) : BitVec 64 × BitVec 64 := (if 0 < z then x.1 else 0#64, if 1 < z then x.2 else 0#64)
theorem toM_step (x : BitVec 64 × BitVec 64) {z : Nat} (h : z < 2) : (if Int.toNat (z : Int) = 0 then (if Int.toNat (z : Int) = 0 then x.1 else x.2, (toM x z).2) else ((toM x z).1, if Int.toNat (z : Int) = 0 then x.1 else x.2)) = toM x (z + 1) := by
  rcases (by omega : z = 0 ∨ z = 1) with rfl | rfl <;> rfl
def okM (x : BitVec 64 × BitVec 64) : Bool := x.2 >>> 32 == 0#64
def cntM (x : BitVec 64 × BitVec 64) : Int := pop x.1 + pop x.2
def pcs (x : BitVec 64 × BitVec 64) (z : Nat) : Int := match z with | 0 => 0 | 1 => pop x.1 | _ => pop x.1 + pop x.2
theorem pcs_in (x : BitVec 64 × BitVec 64) (z : Nat) : 0 ≤ pcs x z ∧ pcs x z ≤ 128 := by have := pop_in x.1; have := pop_in x.2; unfold pcs; split <;> omega
theorem pcs_step (x : BitVec 64 × BitVec 64) {z : Nat} (h : z < 2) : pcs x z + pop (if Int.toNat (z : Int) = 0 then x.1 else x.2) = pcs x (z + 1) ∧ 0 ≤ pcs x z ∧ pcs x z ≤ 128 := by
  refine ⟨?_, pcs_in x z⟩
  rcases (by omega : z = 0 ∨ z = 1) with rfl | rfl
  · show 0 + pop x.1 = pop x.1; omega
  · rfl
theorem rem2_in (x : BitVec 64) : (x % 2#64).toNat ≤ 1 := by rw [BitVec.toNat_umod]; show _ % 2 ≤ 1; omega
theorem half_lt {x : BitVec 64} (h : 0 < x.toNat) : (x / 2#64).toNat < x.toNat := by rw [BitVec.toNat_udiv]; show _ / 2 < _; omega
def inb (x lo hi : Int) : Bool := decide (x ≥ lo) && decide (x ≤ hi)
/-! ### Shares -/
end Go.Proofs.YtfnkphllkbkfaaaGreatDoor.VL
/- Proved here: equality of lists place by place, and copies of lists place by place. Plain Lean, no program. -/
set_option linter.unusedVariables false
set_option linter.unusedSimpArgs false
namespace Go.Proofs.YtfnkphllkbkfaaaGreatDoor.VL
open Go
section
variable {α : Type} {x y : List α} {z : Nat} {a b : α}
theorem getI (h : z < x.length) : ∃ a, x[Int.toNat ((z : Nat) : Int)]? = some a := ⟨x[z], by simp [h]⟩
theorem toN (z : Nat) : Int.toNat ((z : Nat) : Int) = z := rfl
theorem take_more (ha : x[Int.toNat ((z : Nat) : Int)]? = some a) : x.take (z + 1) = x.take z ++ [a] := by
  rw [toN] at ha
  rw [List.take_add_one, ha]; rfl
theorem eqs_step (h : x.take z = y.take z) (ha : x[Int.toNat ((z : Nat) : Int)]? = some a) (hb : y[Int.toNat ((z : Nat) : Int)]? = some b) (e : a = b) : x.take (z + 1) = y.take (z + 1) := by
  rw [take_more ha, take_more hb, h, e]
theorem eqs_ne (ha : x[Int.toNat ((z : Nat) : Int)]? = some a) (hb : y[Int.toNat ((z : Nat) : Int)]? = some b) (e : a ≠ b) : false = eqv x y := by
  refine (eqv_ne ?_).symm
  rintro rfl
  rw [ha] at hb
  exact e (Option.some.inj hb)
theorem eqs_len (h : x.length ≠ y.length) : false = eqv x y := (eqv_ne (fun e => h (by rw [e]))).symm
theorem eqs_all (h : x.take z = y.take z) (hz : x.length ≤ z) (hl : x.length = y.length) : true = eqv x y := by
  rw [List.take_of_length_le hz, List.take_of_length_le (by omega)] at h
  rw [h, eqv_self]
/-- A copy, as far as it has come. -/
def cpy (x : List α) (z : Nat) (d : α) : List α := x.take z ++ List.replicate (x.length - z) d
theorem cpy_len {d : α} (h : z ≤ x.length) : (cpy x z d).length = x.length := by
  rw [cpy, List.length_append, List.length_take, List.length_replicate]; omega
theorem cpy_get {d : α} (h : z < x.length) : (cpy x z d)[Int.toNat ((z : Nat) : Int)]? = some d := by
  rw [toN, cpy, List.getElem?_append_right (by simp; omega), List.length_take, Nat.min_eq_left (by omega), Nat.sub_self, List.getElem?_replicate, if_pos (by omega)]
theorem cpy_step {d : α} (ha : x[Int.toNat ((z : Nat) : Int)]? = some a) : (cpy x z d).set (Int.toNat ((z : Nat) : Int)) a = cpy x (z + 1) d := by
  have hz : z < x.length := by
    rw [toN] at ha
    exact (List.getElem?_eq_some_iff.1 ha).1
  rw [cpy, cpy, take_more ha, toN, List.set_append_right _ _ (by simp; omega), List.length_take, Nat.min_eq_left (by omega), Nat.sub_self]
  have : x.length - z = (x.length - (z + 1)) + 1 := by omega
  rw [this, List.replicate_succ, List.set_cons_zero, List.append_assoc]
  rfl
theorem cpy_end {d : α} (hz : x.length ≤ z) : cpy x z d = x := by
  rw [cpy, List.take_of_length_le hz, show x.length - z = 0 by omega]
  simp
end
/-- What is left of a budget. -/
def szL {α : Type} (x : List α) (l : Int) : Int := if l - x.length < 0 then -1 else l - x.length
theorem szL_in {α : Type} (x : List α) {l : Int} (hl : 0 ≤ l ∧ l ≤ 1048576) : szL x l ≤ 1048576 ∧ -1 ≤ szL x l ∧ (0 ≤ szL x l → (x.length : Int) ≤ l) := by
  unfold szL; split <;> omega
/-! ### Masks -/
section
variable {x y : BitVec 64 × BitVec 64} {z : Nat}
theorem eqM_step (hI : z ≤ 2 ∧ (0 < z → x.1 = y.1) ∧ (1 < z → x.2 = y.2)) (hz : z < 2) (h : (if Int.toNat (z : Int) = 0 then x.1 else x.2) = (if Int.toNat (z : Int) = 0 then y.1 else y.2)) : z + 1 ≤ 2 ∧ (0 < z + 1 → x.1 = y.1) ∧ (1 < z + 1 → x.2 = y.2) := by
  rcases (by omega : z = 0 ∨ z = 1) with rfl | rfl
  · exact ⟨by omega, fun _ => by simpa using h, fun h => by omega⟩
  · exact ⟨by omega, fun _ => hI.2.1 (by omega), fun _ => by simpa using h⟩
theorem eqM_zero (x y : BitVec 64 × BitVec 64) : 0 ≤ 2 ∧ (0 < 0 → x.1 = y.1) ∧ (1 < 0 → x.2 = y.2) := ⟨by omega, fun h => absurd h (by omega), fun h => absurd h (by omega)⟩
theorem eqM_ne (hz : z < 2) (h : (if Int.toNat (z : Int) = 0 then x.1 else x.2) ≠ (if Int.toNat (z : Int) = 0 then y.1 else y.2)) : false = eqv x y := by
  refine (eqv_ne ?_).symm
  rintro rfl
  exact h rfl
theorem eqM_all (hI : z ≤ 2 ∧ (0 < z → x.1 = y.1) ∧ (1 < z → x.2 = y.2)) (hz : ¬ z < 2) : true = eqv x y := by
  rw [show x = y from Prod.ext (hI.2.1 (by omega)) (hI.2.2 (by omega)), eqv_self]
end
/-! ### Answers -/
end Go.Proofs.YtfnkphllkbkfaaaGreatDoor.VL
/- Proved here: budgets and equality of knots. Plain Lean, no program. -/
set_option linter.unusedVariables false
set_option linter.unusedSimpArgs false
namespace Go.Proofs.YtfnkphllkbkfaaaGreatDoor.VL
open Go
abbrev DKnot := Int × List Int × List Int × List Int
def okK (x : DKnot) : Prop := x.2.1.length ≤ 1099511627776 ∧ x.2.2.1.length ≤ 1099511627776 ∧ x.2.2.2.length ≤ 1099511627776
def okKS (x : List DKnot) : Prop := x.length ≤ 1099511627776 ∧ ∀ k ∈ x, okK k
def szK (x : DKnot) (l : Int) : Int := if szL x.2.1 l < 0 then -1 else if szL x.2.2.1 (szL x.2.1 l) < 0 then -1 else szL x.2.2.2 (szL x.2.2.1 (szL x.2.1 l))
theorem szK_in (x : DKnot) {l : Int} (hl : 0 ≤ l ∧ l ≤ 1048576) : szK x l ≤ 1048576 ∧ -1 ≤ szK x l ∧ (0 ≤ szK x l → okK x) := by
  unfold szK okK
  have h1 := szL_in x.2.1 hl
  split
  · omega
  · have h2 := szL_in x.2.2.1 (l := szL x.2.1 l) (by omega)
    split
    · omega
    · have h3 := szL_in x.2.2.2 (l := szL x.2.2.1 (szL x.2.1 l)) (by omega)
      omega
def szKs : List DKnot → Int → Int
  | [], l => l
  | k :: r, l => if szK k l < 0 then -1 else szKs r (szK k l)
def szKS (x : List DKnot) (l : Int) : Int := if l - x.length < 0 then -1 else szKs x (l - x.length)
theorem szKs_in : ∀ (x : List DKnot) {l : Int}, 0 ≤ l ∧ l ≤ 1048576 → szKs x l ≤ 1048576 ∧ -1 ≤ szKs x l ∧ (0 ≤ szKs x l → ∀ k ∈ x, okK k)
  | [], l, hl => by unfold szKs; exact ⟨by omega, by omega, fun _ k hk => by cases hk⟩
  | k :: r, l, hl => by
    unfold szKs
    have h1 := szK_in k hl
    split
    · exact ⟨by omega, by omega, fun h => absurd h (by omega)⟩
    · have h2 := szKs_in r (l := szK k l) (by omega)
      refine ⟨h2.1, h2.2.1, fun h k' hk => ?_⟩
      rcases List.mem_cons.1 hk with rfl | hk
      · exact h1.2.2 (by omega)
      · exact h2.2.2 h k' hk
theorem szKS_in (x : List DKnot) {l : Int} (hl : 0 ≤ l ∧ l ≤ 1048576) : szKS x l ≤ 1048576 ∧ -1 ≤ szKS x l ∧ (0 ≤ szKS x l → okKS x) := by
  unfold szKS
  split
  · exact ⟨by omega, by omega, fun h => absurd h (by omega)⟩
  · have h := szKs_in x (l := l - x.length) (by omega)
    exact ⟨h.1, h.2.1, fun h0 => ⟨by omega, h.2.2 h0⟩⟩
section
variable {x : List DKnot} {l : Int} {p : Nat × Int} {a : DKnot}
theorem drop_getI {α : Type} {x : List α} {z : Nat} {a : α} (ha : x[Int.toNat ((z : Nat) : Int)]? = some a) : x.drop z = a :: x.drop (z + 1) := by
  rw [toN] at ha
  obtain ⟨h, rfl⟩ := List.getElem?_eq_some_iff.1 ha
  exact List.drop_eq_getElem_cons h
theorem mem_getI {α : Type} {x : List α} {z : Int} {a : α} (ha : x[Int.toNat z]? = some a) : a ∈ x := List.mem_of_getElem? ha
theorem szKs_step (hI : p.1 ≤ x.length ∧ 0 ≤ p.2 ∧ p.2 ≤ 1048576 ∧ szKs (x.drop p.1) p.2 = szKs x (l - x.length)) (hz : p.1 < x.length) (ha : x[Int.toNat ((p.1 : Nat) : Int)]? = some a) (h : ¬ szK a p.2 < 0) :
    p.1 + 1 ≤ x.length ∧ 0 ≤ szK a p.2 ∧ szK a p.2 ≤ 1048576 ∧ szKs (x.drop (p.1 + 1)) (szK a p.2) = szKs x (l - x.length) := by
  refine ⟨by omega, by omega, (szK_in a ⟨hI.2.1, hI.2.2.1⟩).1, ?_⟩
  rw [← hI.2.2.2, drop_getI ha, szKs, if_neg h]
theorem szKs_ne (hl : ¬ l - x.length < 0) (hI : p.1 ≤ x.length ∧ 0 ≤ p.2 ∧ p.2 ≤ 1048576 ∧ szKs (x.drop p.1) p.2 = szKs x (l - x.length)) (ha : x[Int.toNat ((p.1 : Nat) : Int)]? = some a) (h : szK a p.2 < 0) : -1 = szKS x l := by
  rw [szKS, if_neg hl, ← hI.2.2.2, drop_getI ha, szKs, if_pos h]
theorem szKs_end (hl : ¬ l - x.length < 0) (hI : p.1 ≤ x.length ∧ 0 ≤ p.2 ∧ p.2 ≤ 1048576 ∧ szKs (x.drop p.1) p.2 = szKs x (l - x.length)) (hz : x.length ≤ p.1) : p.2 = szKS x l := by
  rw [szKS, if_neg hl, ← hI.2.2.2, List.drop_of_length_le hz]
  rfl
end
end Go.Proofs.YtfnkphllkbkfaaaGreatDoor.VL
/- Proved here: valid trees: what is looked at knot by knot, and how often knots are named. Plain Lean, no program. -/
set_option linter.unusedVariables false
set_option linter.unusedSimpArgs false
namespace Go.Proofs.YtfnkphllkbkfaaaGreatDoor.VL
open Go
/-- Is it so? -/
noncomputable def tt (p : Prop) : Bool := @decide p (Classical.propDecidable p)
theorem tt_iff {p : Prop} : tt p = true ↔ p := by unfold tt; exact @decide_eq_true_iff _ (Classical.propDecidable _)
theorem tt_false {p : Prop} : tt p = false ↔ ¬ p := by unfold tt; exact @decide_eq_false_iff_not _ (Classical.propDecidable _)
theorem tt_yes {p : Prop} (h : p) : true = tt p := (tt_iff.2 h).symm
theorem tt_no {p : Prop} (h : ¬ p) : false = tt p := (tt_false.2 h).symm
theorem tt_eq {p : Prop} {b : Bool} (h : b = true ↔ p) : b = tt p := by rw [Bool.eq_iff_iff, tt_iff]; exact h
section
variable {α : Type} {x : List α} {z : Nat} {a b : α}
theorem getPr [Inhabited α] (hz : z ≤ x.length) : ∃ b : α, 0 < z → x[Int.toNat ((z : Nat) - 1 : Int)]? = some b := by
  by_cases h : 0 < z
  · exact ⟨x[z - 1], fun _ => by rw [show Int.toNat ((z : Nat) - 1 : Int) = z - 1 by omega]; simp⟩
  · exact ⟨default, fun h' => absurd h' h⟩
theorem getP (hz : 0 < z) (h : x[Int.toNat ((z : Nat) - 1 : Int)]? = some b) : x[z - 1]? = some b := by
  rw [show Int.toNat ((z : Nat) - 1 : Int) = z - 1 by omega] at h; exact h
end
theorem all_step {p : Nat → Prop} {z : Nat} (h : ∀ i, i < z → p i) (hz : p z) : ∀ i, i < z + 1 → p i := fun i hi => by
  rcases Nat.lt_or_ge i z with h1 | h1
  · exact h i h1
  · obtain rfl : i = z := by omega
    exact hz
theorem all_none {p : Nat → Prop} : ∀ i, i < 0 → p i := fun i hi => absurd hi (Nat.not_lt_zero i)
theorem all_end {p : Nat → Prop} {z n : Nat} (h : ∀ i, i < z → p i) (hz : n ≤ z) : ∀ i, i < n → p i := fun i hi => h i (by omega)

/-! ### Leaves -/
def leafI (c : List Int) (i : Nat) : Prop := ∃ a, c[i]? = some a ∧ 0 ≤ a ∧ a ≤ 59 ∧ (0 < i → ∃ b, c[i - 1]? = some b ∧ b < a)
def leafC (c : List Int) : Prop := ∀ i, i < c.length → leafI c i
def leafOK (k : DKnot) : Prop := leafC k.2.2.2 ∧ k.2.1.length = 0 ∧ k.2.2.1.length = 0
theorem leafI_iff {c : List Int} {z : Nat} {a b : Int} (ha : c[Int.toNat ((z : Nat) : Int)]? = some a) (hb : 0 < z → c[Int.toNat ((z : Nat) - 1 : Int)]? = some b) : leafI c z ↔ (0 ≤ a ∧ a ≤ 59 ∧ (0 < z → b < a)) := by
  rw [toN] at ha
  unfold leafI
  constructor
  · rintro ⟨a', h1, h2, h3, h4⟩
    rw [ha] at h1
    obtain rfl := Option.some.inj h1
    refine ⟨h2, h3, fun hz => ?_⟩
    obtain ⟨b', h5, h6⟩ := h4 hz
    rw [getP hz (hb hz)] at h5
    obtain rfl := Option.some.inj h5
    exact h6
  · rintro ⟨h2, h3, h4⟩
    exact ⟨a, ha, h2, h3, fun hz => ⟨b, getP hz (hb hz), h4 hz⟩⟩
/-- The last one that has been seen. -/
def lastV (c : List Int) (z : Nat) : Int := if z = 0 then -1 else c.getD (z - 1) 0
theorem lastV_in {c : List Int} {z : Nat} (h : ∀ i, i < z → leafI c i) : -1 ≤ lastV c z ∧ lastV c z ≤ 59 := by
  unfold lastV
  split
  · omega
  · obtain ⟨a, h1, h2, h3, _⟩ := h (z - 1) (by omega)
    rw [List.getD_eq_getElem?_getD, h1]
    simp only [Option.getD_some]
    omega
theorem lastV_succ {c : List Int} {z : Nat} {a : Int} (ha : c[Int.toNat ((z : Nat) : Int)]? = some a) : a = lastV c (z + 1) := by
  unfold lastV
  rw [if_neg (by omega), show z + 1 - 1 = z by omega, List.getD_eq_getElem?_getD]
  rw [toN] at ha
  rw [ha]; rfl
theorem lastV_iff {c : List Int} {z : Nat} {a : Int} (h : ∀ i, i < z → leafI c i) (ha : c[Int.toNat ((z : Nat) : Int)]? = some a) : leafI c z ↔ inb a (lastV c z + 1) 59 = true := by
  rw [toN] at ha
  simp only [inb, Bool.and_eq_true, decide_eq_true_eq]
  unfold lastV leafI
  constructor
  · rintro ⟨a', h1, h2, h3, h4⟩
    rw [ha] at h1
    obtain rfl := Option.some.inj h1
    split
    · omega
    · obtain ⟨b, h5, h6⟩ := h4 (by omega)
      rw [List.getD_eq_getElem?_getD, h5]
      simp only [Option.getD_some]; omega
  · intro h1
    by_cases hz : z = 0
    · rw [if_pos hz] at h1
      exact ⟨a, ha, by omega, by omega, fun h => absurd h (by omega)⟩
    · rw [if_neg hz] at h1
      obtain ⟨b, h2, h3, h4, _⟩ := h (z - 1) (by omega)
      rw [List.getD_eq_getElem?_getD, h2] at h1
      simp only [Option.getD_some] at h1
      exact ⟨a, ha, by omega, by omega, fun _ => ⟨b, h2, by omega⟩⟩

/-! ### Knots that ask -/
def askI (k : DKnot) (p many : Int) (i : Nat) : Prop := ∃ v n, k.2.1[i]? = some v ∧ k.2.2.1[i]? = some n ∧ -2 ≤ v ∧ (0 < i → ∃ b, k.2.1[i - 1]? = some b ∧ b < v) ∧ p < n ∧ n < many
def askH (k : DKnot) : Prop := 0 ≤ k.1 ∧ k.1 < 12 ∧ k.2.2.2.length = 0 ∧ k.2.1.length ≠ 0 ∧ k.2.2.1.length = k.2.1.length
def askOK (k : DKnot) (p many : Int) : Prop := askH k ∧ ∀ i, i < k.2.1.length → askI k p many i
theorem askI_iff {k : DKnot} {p many : Int} {z : Nat} {v n b : Int} (hv : k.2.1[Int.toNat ((z : Nat) : Int)]? = some v) (hn : k.2.2.1[Int.toNat ((z : Nat) : Int)]? = some n) (hb : 0 < z → k.2.1[Int.toNat ((z : Nat) - 1 : Int)]? = some b) :
    askI k p many z ↔ (-2 ≤ v ∧ (0 < z → b < v) ∧ p < n ∧ n < many) := by
  rw [toN] at hv hn
  unfold askI
  constructor
  · rintro ⟨v', n', h1, h2, h3, h4, h5, h6⟩
    rw [hv] at h1; obtain rfl := Option.some.inj h1
    rw [hn] at h2; obtain rfl := Option.some.inj h2
    refine ⟨h3, fun hz => ?_, h5, h6⟩
    obtain ⟨b', h7, h8⟩ := h4 hz
    rw [getP hz (hb hz)] at h7; obtain rfl := Option.some.inj h7
    exact h8
  · rintro ⟨h3, h4, h5, h6⟩
    exact ⟨v, n, hv, hn, h3, fun hz => ⟨b, getP hz (hb hz), h4 hz⟩, h5, h6⟩
/-- How many are right at the beginning. -/
noncomputable def pre (p : Nat → Prop) : Nat → Nat
  | 0 => 0
  | n + 1 => @ite _ (∀ i, i < n + 1 → p i) (Classical.propDecidable _) (n + 1) (pre p n)
theorem pre_all {p : Nat → Prop} : ∀ {n : Nat}, (∀ i, i < n → p i) → pre p n = n
  | 0, _ => rfl
  | n + 1, h => by rw [pre, if_pos h]
theorem pre_at {p : Nat → Prop} {z : Nat} (h : ∀ i, i < z → p i) (hz : ¬ p z) : ∀ {n : Nat}, z < n → pre p n = z
  | n + 1, hn => by
    rw [pre, if_neg (fun h' => hz (h' z hn))]
    rcases Nat.lt_or_ge z n with h1 | h1
    · exact pre_at h hz h1
    · obtain rfl : z = n := by omega
      exact pre_all h
noncomputable def askN (k : DKnot) (p many : Int) : Nat := @ite _ (askH k) (Classical.propDecidable _) (pre (askI k p many) k.2.1.length) 0
section
variable {k : DKnot} {p many : Int} {z : Nat}
theorem askN_head (h : ¬ askH k) : askN k p many = 0 := if_neg h
theorem askN_at (hH : askH k) (h : ∀ i, i < z → askI k p many i) (hz : ¬ askI k p many z) (hl : z < k.2.1.length) : askN k p many = z := by
  rw [askN, if_pos hH]; exact pre_at h hz hl
theorem askN_all (hH : askH k) (h : ∀ i, i < z → askI k p many i) (hl : k.2.1.length ≤ z) : askN k p many = k.2.1.length := by
  rw [askN, if_pos hH]; exact pre_all (all_end h hl)
theorem ask_head (h : ¬ askH k) : false = tt (askOK k p many) := tt_no fun h' => h h'.1
theorem ask_at (hz : ¬ askI k p many z) (hl : z < k.2.1.length) : false = tt (askOK k p many) := tt_no fun h' => hz (h'.2 z hl)
theorem ask_all (hH : askH k) (h : ∀ i, i < z → askI k p many i) (hl : k.2.1.length ≤ z) : true = tt (askOK k p many) := tt_yes ⟨hH, all_end h hl⟩
end
def knotOK (k : DKnot) (p many : Int) : Prop := (k.1 = -1 ∧ leafOK k) ∨ (k.1 ≠ -1 ∧ askOK k p many)

/-! ### Counts -/
def cntL (b : Int) (n : Nat) (l : List Int) : List Int := (List.range n).map fun j => (if j = 0 then b else 0) + (l.count ((j : Nat) : Int) : Int)
section
variable {b a v : Int} {n : Nat} {l : List Int}
theorem cntL_len : (cntL b n l).length = n := by simp [cntL]
theorem cntL_get (h : 0 ≤ a ∧ a < n) : (cntL b n l)[Int.toNat a]? = some ((if Int.toNat a = 0 then b else 0) + (l.count a : Int)) := by
  have h1 : Int.toNat a < n := by omega
  have h2 : ((Int.toNat a : Nat) : Int) = a := by omega
  rw [cntL, List.getElem?_map, List.getElem?_range h1]
  simp only [Option.map_some, h2]
theorem cntL_in (hb : 0 ≤ b ∧ b ≤ 1) (h : 0 ≤ a ∧ a < n) : ∃ v, (cntL b n l)[Int.toNat a]? = some v ∧ 0 ≤ v ∧ v ≤ 1 + l.length := by
  refine ⟨_, cntL_get h, ?_⟩
  have := List.count_le_length (a := a) (l := l)
  split <;> omega
theorem cntL_step (h : 0 ≤ a ∧ a < n) (hv : (cntL b n l)[Int.toNat a]? = some v) : (cntL b n l).set (Int.toNat a) (v + 1) = cntL b n (l ++ [a]) := by
  rw [cntL_get h] at hv
  obtain rfl := Option.some.inj hv
  apply List.ext_getElem?
  intro j
  rcases Nat.lt_or_ge j n with hj | hj
  · have hg : ∀ l', (cntL b n l')[j]? = some ((if j = 0 then b else 0) + (l'.count ((j : Nat) : Int) : Int)) := fun l' => by
      have := cntL_get (b := b) (l := l') (a := (j : Int)) (n := n) (by omega)
      simpa using this
    rw [hg]
    by_cases hja : j = Int.toNat a
    · subst hja
      have h2 : ((Int.toNat a : Nat) : Int) = a := by omega
      rw [List.getElem?_set_self (by rw [cntL_len]; exact hj), h2, List.count_append, List.count_singleton_self]
      congr 1
      omega
    · rw [List.getElem?_set_ne (Ne.symm hja), hg, List.count_append, List.count_singleton]
      have : ¬ a = (j : Int) := by omega
      simp [this]
  · rw [List.getElem?_eq_none (by simp [cntL]; omega), List.getElem?_eq_none (by simp [cntL]; omega)]
theorem cntL_nil : List.replicate n (0 : Int) = cntL 0 n [] := by
  apply List.ext_getElem?
  intro j
  rcases Nat.lt_or_ge j n with hj | hj
  · have := cntL_get (b := 0) (l := []) (a := (j : Int)) (n := n) (by omega)
    simp only [Int.toNat_natCast, List.count_nil] at this
    rw [this, List.getElem?_replicate, if_pos hj]
    split <;> rfl
  · rw [List.getElem?_eq_none (by simp; omega), List.getElem?_eq_none (by simp [cntL]; omega)]
theorem cntL_one (hn : 0 < n) : (List.replicate n (0 : Int)).set (Int.toNat 0) 1 = cntL 1 n [] := by
  apply List.ext_getElem?
  intro j
  rcases Nat.lt_or_ge j n with hj | hj
  · have := cntL_get (b := 1) (l := []) (a := (j : Int)) (n := n) (by omega)
    simp only [Int.toNat_natCast, List.count_nil] at this
    rw [this]
    by_cases h0 : j = 0
    · subst h0
      show ((List.replicate n (0 : Int)).set 0 1)[0]? = _
      rw [List.getElem?_set_self (by simpa using hj)]
      rfl
    · show ((List.replicate n (0 : Int)).set 0 1)[j]? = _
      rw [List.getElem?_set_ne (by omega), List.getElem?_replicate, if_pos hj, if_neg h0]
      rfl
  · rw [List.getElem?_eq_none (by simp; omega), List.getElem?_eq_none (by simp [cntL]; omega)]
end

/-! ### Trees -/
def nexts (x : List DKnot) : List Int := x.flatMap fun k => k.2.2.1
theorem nexts_more {x : List DKnot} {z : Nat} {a : DKnot} (ha : x[Int.toNat ((z : Nat) : Int)]? = some a) : nexts (x.take (z + 1)) = nexts (x.take z) ++ a.2.2.1 := by
  rw [take_more ha, nexts, nexts, List.flatMap_append]; simp
theorem nexts_len {x : List DKnot} {B : Nat} (h : ∀ k ∈ x, k.2.2.1.length ≤ B) : ∀ z, (nexts (x.take z)).length ≤ z * B
  | 0 => by rw [List.take_zero, Nat.zero_mul]; exact Nat.le_refl 0
  | z + 1 => by
    have ih := nexts_len h z
    rw [Nat.succ_mul]
    rcases Nat.lt_or_ge z x.length with hz | hz
    · obtain ⟨a, ha⟩ := getI (x := x) hz
      rw [nexts_more ha, List.length_append]
      have := h a (mem_getI ha)
      omega
    · rw [List.take_of_length_le (by omega)] at ih ⊢
      omega
theorem nexts_lenK {x : List DKnot} (h : okKS x) {z : Nat} (hz : z ≤ 120) : (nexts (x.take z)).length ≤ 131941395333120 := by
  have h1 := nexts_len (fun k hk => (h.2 k hk).2.1) z
  have h2 : z * 1099511627776 ≤ 120 * 1099511627776 := Nat.mul_le_mul_right _ hz
  omega
def knotI (x : List DKnot) (i : Nat) : Prop := ∃ k, x[i]? = some k ∧ knotOK k i x.length
def treeOK (x : List DKnot) : Prop := 1 ≤ x.length ∧ x.length ≤ 120 ∧ (∀ i, i < x.length → knotI x i) ∧ ∀ j : Nat, 0 < j → j < x.length → (nexts x).count ((j : Nat) : Int) = 1
theorem knotI_iff {x : List DKnot} {z : Nat} {a : DKnot} (ha : x[Int.toNat ((z : Nat) : Int)]? = some a) : knotI x z ↔ knotOK a z x.length := by
  rw [toN] at ha
  unfold knotI
  constructor
  · rintro ⟨k, h1, h2⟩
    rw [ha] at h1; obtain rfl := Option.some.inj h1
    exact h2
  · exact fun h => ⟨a, ha, h⟩
theorem nexts_pos {x : List DKnot} (h : ∀ i, i < x.length → knotI x i) : (nexts x).count 0 = 0 := by
  rw [List.count_eq_zero]
  intro hm
  rw [nexts, List.mem_flatMap] at hm
  obtain ⟨k, hk, h0⟩ := hm
  obtain ⟨i, hi, rfl⟩ := List.getElem_of_mem hk
  obtain ⟨k', h1, h2⟩ := h i hi
  rw [List.getElem?_eq_getElem hi] at h1
  obtain rfl := Option.some.inj h1
  rcases h2 with ⟨_, h3⟩ | ⟨_, h3⟩
  · rw [List.eq_nil_of_length_eq_zero h3.2.2] at h0; cases h0
  · obtain ⟨j, hj, hj0⟩ := List.getElem_of_mem h0
    obtain ⟨v, n, g1, g2, _, _, g3, _⟩ := h3.2 j (by have := h3.1.2.2.2.2; omega)
    rw [List.getElem?_eq_getElem hj] at g2
    have := Option.some.inj g2
    omega
/-- What the counts say. -/
theorem counts_iff {x : List DKnot} (h : ∀ i, i < x.length → knotI x i) (i : Nat) (hi : i < x.length) (b : Int) : (cntL b x.length (nexts x))[i]? = some ((if i = 0 then b else ((nexts x).count ((i : Nat) : Int) : Int))) := by
  have := cntL_get (b := b) (l := nexts x) (a := (i : Int)) (n := x.length) (by omega)
  simp only [Int.toNat_natCast] at this
  rw [this]
  congr 1
  by_cases h0 : i = 0
  · subst h0; rw [if_pos rfl, if_pos rfl, show ((0 : Nat) : Int) = 0 from rfl, nexts_pos h]; simp
  · rw [if_neg h0, if_neg h0]; simp

/-! ### What the walks ask -/
theorem leaf_no {k : DKnot} {z : Nat} (hz : z < k.2.2.2.length) (h : ¬ leafI k.2.2.2 z) : false = tt (leafOK k) := tt_no fun h' => h (h'.1 z hz)
theorem leaf_end {k : DKnot} {z : Nat} (h : ∀ i, i < z → leafI k.2.2.2 i) (hz : k.2.2.2.length ≤ z) : (((k.2.1.length : Nat) : Int) == 0 && ((k.2.2.1.length : Nat) : Int) == 0) = tt (leafOK k) := by
  refine tt_eq ?_
  simp only [Bool.and_eq_true, beq_iff_eq, leafOK]
  exact ⟨fun h' => ⟨all_end h hz, by omega, by omega⟩, fun h' => by omega⟩
theorem knot_leaf {k : DKnot} {p m : Int} (h : k.1 = -1) : knotOK k p m ↔ leafOK k := ⟨fun h' => h'.elim (fun g => g.2) (fun g => absurd h g.1), fun h' => .inl ⟨h, h'⟩⟩
theorem knot_ask {k : DKnot} {p m : Int} (h : k.1 ≠ -1) : knotOK k p m ↔ askOK k p m := ⟨fun h' => h'.elim (fun g => absurd g.1 h) (fun g => g.2), fun h' => .inr ⟨h, h'⟩⟩
theorem knot_next {k : DKnot} {p m n : Int} {z : Nat} (h : knotOK k p m) (hn : k.2.2.1[Int.toNat ((z : Nat) : Int)]? = some n) : p < n ∧ n < m := by
  rw [toN] at hn
  rcases h with ⟨_, h⟩ | ⟨_, h⟩
  · rw [List.eq_nil_of_length_eq_zero h.2.2] at hn; cases hn
  · have hz := (List.getElem?_eq_some_iff.1 hn).1
    obtain ⟨v, n', g1, g2, _, _, g3, g4⟩ := h.2 z (by have := h.1.2.2.2.2; omega)
    rw [hn] at g2
    obtain rfl := Option.some.inj g2
    exact ⟨g3, g4⟩
section
variable {x : List DKnot} {z : Nat} {a : DKnot}
theorem tree_no (ha : x[Int.toNat ((z : Nat) : Int)]? = some a) (hz : z < x.length) (h : ¬ knotOK a z x.length) : false = tt (treeOK x) := tt_no fun h' => h ((knotI_iff ha).1 (h'.2.2.1 z hz))
theorem tree_len (h : ¬ (1 ≤ x.length ∧ x.length ≤ 120)) : false = tt (treeOK x) := tt_no fun h' => h ⟨h'.1, h'.2.1⟩
theorem cnt_leaf {b : Int} (ha : x[Int.toNat ((z : Nat) : Int)]? = some a) (h : leafOK a) : cntL b x.length (nexts (x.take z)) = cntL b x.length (nexts (x.take (z + 1))) := by
  rw [nexts_more ha, List.eq_nil_of_length_eq_zero h.2.2, List.append_nil]
theorem cnt_ask {b : Int} {p m : Int} (ha : x[Int.toNat ((z : Nat) : Int)]? = some a) (h : askOK a p m) : cntL b x.length (nexts (x.take z) ++ a.2.2.1.take (askN a p m)) = cntL b x.length (nexts (x.take (z + 1))) := by
  rw [nexts_more ha, askN_all h.1 h.2 (Nat.le_refl _), List.take_of_length_le (l := a.2.2.1) (by have := h.1.2.2.2.2; omega)]
theorem cnt_all {b : Int} {y : Nat} (ha : x[Int.toNat ((z : Nat) : Int)]? = some a) (h : a.2.2.1.length ≤ y) : cntL b x.length (nexts (x.take z) ++ a.2.2.1.take y) = cntL b x.length (nexts (x.take (z + 1))) := by
  rw [nexts_more ha, List.take_of_length_le h]
theorem cnt_next {b n v : Int} {m : Nat} {l c : List Int} {y : Nat} (hn : c[Int.toNat ((y : Nat) : Int)]? = some n) (h : 0 ≤ n ∧ n < m) (hv : (cntL b m (l ++ c.take y))[Int.toNat n]? = some v) : (cntL b m (l ++ c.take y)).set (Int.toNat n) (v + 1) = cntL b m (l ++ c.take (y + 1)) := by
  rw [cntL_step h hv, take_more hn, List.append_assoc]
theorem tree_count (h : ∀ i, i < x.length → knotI x i) {j : Nat} {v : Int} (hj : j < x.length) (hv : (cntL 1 x.length (nexts x))[Int.toNat ((j : Nat) : Int)]? = some v) (h1 : v ≠ 1) : false = tt (treeOK x) := by
  refine tt_no fun h' => ?_
  rw [toN, counts_iff h j hj] at hv
  have := Option.some.inj hv
  split at this
  · omega
  · have := h'.2.2.2 j (by omega) hj
    omega
theorem tree_yes (hl : 1 ≤ x.length ∧ x.length ≤ 120) (h : ∀ i, i < x.length → knotI x i) (hc : ∀ i, i < x.length → (cntL 1 x.length (nexts x))[i]? = some 1) : true = tt (treeOK x) := by
  refine tt_yes ⟨hl.1, hl.2, h, fun j h0 hj => ?_⟩
  have := hc j hj
  rw [counts_iff h j hj, if_neg (by omega)] at this
  have := Option.some.inj this
  omega
def all1 (x : List Int) : Prop := ∀ i, i < x.length → x[i]? = some 1
noncomputable def idx1 (x : List Int) : Int := if pre (fun i => x[i]? = some 1) x.length = x.length then -1 else (pre (fun i => x[i]? = some 1) x.length : Int)
theorem idx1_at {x : List Int} {z : Nat} {v : Int} (h : ∀ i, i < z → x[i]? = some 1) (hv : x[Int.toNat ((z : Nat) : Int)]? = some v) (h1 : v ≠ 1) : (z : Int) = idx1 x := by
  rw [toN] at hv
  have hz := (List.getElem?_eq_some_iff.1 hv).1
  have := pre_at (p := fun i => x[i]? = some 1) h (fun e => h1 (by rw [hv] at e; exact Option.some.inj e)) hz
  rw [idx1, this, if_neg (by omega)]
theorem idx1_end {x : List Int} {z : Nat} (h : ∀ i, i < z → x[i]? = some 1) (hz : x.length ≤ z) : -1 = idx1 x := by
  rw [idx1, pre_all (all_end h hz), if_pos rfl]
theorem idx1_iff (x : List Int) : decide (idx1 x ≥ 0) = tt (¬ all1 x) := by
  refine tt_eq ?_
  rw [decide_eq_true_iff]
  constructor
  · intro h h'
    rw [idx1, pre_all h', if_pos rfl] at h
    omega
  · intro h
    unfold idx1
    split
    · rename_i e
      exfalso
      refine h fun i hi => ?_
      apply Classical.byContradiction
      intro hne
      -- the first that isn't one
      have hle : ∀ n, pre (fun i => x[i]? = some 1) n ≤ n := fun n => by
        induction n with
        | zero => exact Nat.le_refl 0
        | succ n ih => unfold pre; split <;> omega
      have hall : ∀ n, pre (fun i => x[i]? = some 1) n = n → ∀ i, i < n → x[i]? = some 1 := fun n => by
        cases n with
        | zero => exact fun _ => all_none
        | succ n =>
          intro e i hi
          unfold pre at e
          split at e
          · rename_i h1; exact h1 i hi
          · have := hle n; omega
      exact hne (hall _ e i hi)
    · omega
theorem tree_end (hl : 1 ≤ x.length ∧ x.length ≤ 120) (h : ∀ i, i < z → knotI x i) (hz : x.length ≤ z) : (!(tt (¬ all1 ((cntL 0 x.length (nexts (x.take z))).drop (Int.toNat 1))))) = tt (treeOK x) := by
  refine tt_eq ?_
  rw [Bool.not_eq_true', tt_false, Classical.not_not, List.take_of_length_le hz]
  have h' := all_end h hz
  unfold all1
  rw [List.length_drop, cntL_len]
  show (∀ i, i < x.length - 1 → ((cntL 0 x.length (nexts x)).drop 1)[i]? = some 1) ↔ _
  constructor
  · intro g
    refine ⟨hl.1, hl.2, h', fun j h0 hj => ?_⟩
    have := g (j - 1) (by omega)
    rw [List.getElem?_drop, show 1 + (j - 1) = j by omega, counts_iff h' j hj, if_neg (by omega)] at this
    have := Option.some.inj this
    omega
  · intro g i hi
    rw [List.getElem?_drop, counts_iff h' (1 + i) (by omega), if_neg (by omega), g.2.2.2 (1 + i) (by omega) (by omega)]
    rfl
end
end Go.Proofs.YtfnkphllkbkfaaaGreatDoor.VL
/- Proved here: budgets of lists, names, cards and decks. Plain Lean, no program. -/
set_option linter.unusedVariables false
set_option linter.unusedSimpArgs false
namespace Go.Proofs.YtfnkphllkbkfaaaGreatDoor.VL
open Go
/-! ### Budgets -/
def szs {α : Type} (f : α → Int → Int) : List α → Int → Int
  | [], l => l
  | k :: r, l => if f k l < 0 then -1 else szs f r (f k l)
def szSS {α : Type} (f : α → Int → Int) (x : List α) (l : Int) : Int := if l - x.length < 0 then -1 else szs f x (l - x.length)
/-- A budget that tells that the data is small. -/
def okSz {α : Type} (f : α → Int → Int) (p : α → Prop) : Prop := ∀ k l, 0 ≤ l ∧ l ≤ 1048576 → f k l ≤ 1048576 ∧ -1 ≤ f k l ∧ (0 ≤ f k l → p k)
section
variable {α : Type} {f : α → Int → Int} {q : α → Prop} {x : List α} {l : Int} {p : Nat × Int} {a : α}
theorem szs_in (hf : okSz f q) : ∀ (x : List α) {l : Int}, 0 ≤ l ∧ l ≤ 1048576 → szs f x l ≤ 1048576 ∧ -1 ≤ szs f x l ∧ (0 ≤ szs f x l → ∀ k ∈ x, q k)
  | [], l, hl => by unfold szs; exact ⟨by omega, by omega, fun _ k hk => by cases hk⟩
  | k :: r, l, hl => by
    unfold szs
    have h1 := hf k l hl
    split
    · exact ⟨by omega, by omega, fun h => absurd h (by omega)⟩
    · have h2 := szs_in hf r (l := f k l) (by omega)
      refine ⟨h2.1, h2.2.1, fun h k' hk => ?_⟩
      rcases List.mem_cons.1 hk with rfl | hk
      · exact h1.2.2 (by omega)
      · exact h2.2.2 h k' hk
theorem szSS_in (hf : okSz f q) (x : List α) {l : Int} (hl : 0 ≤ l ∧ l ≤ 1048576) : szSS f x l ≤ 1048576 ∧ -1 ≤ szSS f x l ∧ (0 ≤ szSS f x l → x.length ≤ 1048576 ∧ ∀ k ∈ x, q k) := by
  unfold szSS
  split
  · exact ⟨by omega, by omega, fun h => absurd h (by omega)⟩
  · have h := szs_in hf x (l := l - x.length) (by omega)
    exact ⟨h.1, h.2.1, fun h0 => ⟨by omega, h.2.2 h0⟩⟩
theorem okSz_list (hf : okSz f q) : okSz (szSS f) (fun x => x.length ≤ 1048576 ∧ ∀ k ∈ x, q k) := fun x l hl => szSS_in hf x hl
theorem szs_step (hf : okSz f q) (hI : p.1 ≤ x.length ∧ 0 ≤ p.2 ∧ p.2 ≤ 1048576 ∧ szs f (x.drop p.1) p.2 = szs f x (l - x.length)) (hz : p.1 < x.length) (ha : x[Int.toNat ((p.1 : Nat) : Int)]? = some a) (h : ¬ f a p.2 < 0) :
    p.1 + 1 ≤ x.length ∧ 0 ≤ f a p.2 ∧ f a p.2 ≤ 1048576 ∧ szs f (x.drop (p.1 + 1)) (f a p.2) = szs f x (l - x.length) := by
  refine ⟨by omega, by omega, (hf a p.2 ⟨hI.2.1, hI.2.2.1⟩).1, ?_⟩
  rw [← hI.2.2.2, drop_getI ha, szs, if_neg h]
theorem szs_ne (hl : ¬ l - x.length < 0) (hI : p.1 ≤ x.length ∧ 0 ≤ p.2 ∧ p.2 ≤ 1048576 ∧ szs f (x.drop p.1) p.2 = szs f x (l - x.length)) (ha : x[Int.toNat ((p.1 : Nat) : Int)]? = some a) (h : f a p.2 < 0) : -1 = szSS f x l := by
  rw [szSS, if_neg hl, ← hI.2.2.2, drop_getI ha, szs, if_pos h]
theorem szs_end (hl : ¬ l - x.length < 0) (hI : p.1 ≤ x.length ∧ 0 ≤ p.2 ∧ p.2 ≤ 1048576 ∧ szs f (x.drop p.1) p.2 = szs f x (l - x.length)) (hz : x.length ≤ p.1) : p.2 = szSS f x l := by
  rw [szSS, if_neg hl, ← hI.2.2.2, List.drop_of_length_le hz]
  rfl
end
def szB (s : ByteArray) (l : Int) : Int := if l - s.size < 0 then -1 else l - s.size
theorem szB_in : okSz szB (fun s => s.size ≤ 1048576) := fun s l hl => by unfold szB; split <;> omega

/-! ### Names -/
def lowI (s : ByteArray) (i : Nat) : Prop := ∃ b, s[i]? = some b ∧ 97 ≤ b.toNat ∧ b.toNat ≤ 122
def lowS (s : ByteArray) : Prop := ∀ i, i < s.size → lowI s i
def nameOK (s : ByteArray) : Prop := lowS s ∧ 1 ≤ s.size ∧ s.size ≤ 16
theorem byteI {s : ByteArray} {z : Nat} (h : z < s.size) : ∃ b, s[Int.toNat ((z : Nat) : Int)]? = some b := ⟨s[z], getElem?_pos s z h⟩
theorem byte_lt {s : ByteArray} {z : Nat} {b : UInt8} (h : s[z]? = some b) : z < s.size := by
  rcases Nat.lt_or_ge z s.size with h1 | h1
  · exact h1
  · rw [getElem?_neg s z (by omega)] at h; cases h
theorem lowI_iff {s : ByteArray} {z : Nat} {b : UInt8} (hb : s[Int.toNat ((z : Nat) : Int)]? = some b) : lowI s z ↔ (97 ≤ b.toNat ∧ b.toNat ≤ 122) := by
  rw [toN] at hb
  unfold lowI
  constructor
  · rintro ⟨b', h1, h2⟩
    rw [hb] at h1; obtain rfl := Option.some.inj h1
    exact h2
  · exact fun h => ⟨b, hb, h⟩
theorem name_no {s : ByteArray} {z : Nat} (hz : z < s.size) (h : ¬ lowI s z) : false = tt (nameOK s) := tt_no fun h' => h (h'.1 z hz)
theorem name_end {s : ByteArray} {z : Nat} (h : ∀ i, i < z → lowI s i) (hz : s.size ≤ z) : inb (s.size : Int) 1 16 = tt (nameOK s) := by
  refine tt_eq ?_
  simp only [inb, Bool.and_eq_true, decide_eq_true_eq, nameOK]
  exact ⟨fun h' => ⟨all_end h hz, by omega, by omega⟩, fun h' => by omega⟩
theorem byte_data {s : ByteArray} (i : Nat) : s[i]? = s.data[i]? := by
  rcases Nat.lt_or_ge i s.size with h | h
  · rw [getElem?_pos s i h, Array.getElem?_eq_getElem (by exact h)]; rfl
  · rw [getElem?_neg s i (by omega), Array.getElem?_eq_none (by exact h)]
theorem ext_get {s : ByteArray} {i j k : Nat} (h : i + k < j) (hj : j ≤ s.size) : (s.extract i j)[k]? = s[i + k]? := by
  rw [byte_data, byte_data, ByteArray.data_extract, Array.getElem?_extract]
  have : j ≤ s.data.size := hj
  rw [if_pos (by omega)]
theorem ext_size {s : ByteArray} {i j : Nat} (hj : j ≤ s.size) : (s.extract i j).size = j - i := by
  rw [ByteArray.size_extract]; omega
theorem ext_all (s : ByteArray) : s.extract 0 s.size = s := by
  apply ByteArray.ext
  rw [ByteArray.data_extract]
  exact Array.extract_size
theorem ext_ext {s : ByteArray} {a b c d : Nat} (hb : b ≤ s.size) (hd : a + d ≤ b) : (s.extract a b).extract c d = s.extract (a + c) (a + d) := by
  apply ByteArray.ext
  rw [ByteArray.data_extract, ByteArray.data_extract, ByteArray.data_extract, Array.extract_extract]
  congr 1
  omega
theorem size_zero {s : ByteArray} : s = ByteArray.empty ↔ s.size = 0 := by
  constructor
  · rintro rfl; rfl
  · intro h
    apply ByteArray.ext
    exact Array.eq_empty_of_size_eq_zero h
/-- The letters, as a table. -/
def lowT : List Bool := (List.range 256).map fun j => decide (97 ≤ j) && decide (j ≤ 122)
theorem lowT_iff (b : UInt8) : lowT.getD (Int.toNat (b.toNat : Int)) false = true ↔ 97 ≤ b.toNat ∧ b.toNat ≤ 122 := by
  have hb := b.toNat_lt
  rw [toN, lowT, List.getD_eq_getElem?_getD, List.getElem?_map, List.getElem?_range (by omega)]
  simp
def abc : ByteArray := ⟨#[97, 98, 99, 100, 101, 102, 103, 104, 105, 106, 107, 108, 109, 110, 111, 112, 113, 114, 115, 116, 117, 118, 119, 120, 121, 122]⟩
/-- A set of letters, as far as it has been made. -/
def asP (s : ByteArray) : Nat → List Bool
  | 0 => List.replicate 256 false
  | z + 1 => (asP s z).set ((s[z]?).getD 0).toNat true
theorem asP_step {s : ByteArray} {z : Nat} {b : UInt8} (hb : s[Int.toNat ((z : Nat) : Int)]? = some b) : (asP s z).set (Int.toNat (b.toNat : Int)) true = asP s (z + 1) := by
  rw [toN] at hb
  rw [asP, hb]; rfl
theorem asP_abc : asP abc abc.size = lowT := by decide +kernel
theorem abc_lt : ∀ z b, abc[Int.toNat ((z : Nat) : Int)]? = some b → b.toNat < 128 := by
  intro z b h
  rw [toN] at h
  have hz := byte_lt h
  have h2 : ∀ z, z < 26 → ((abc[z]?).getD 0).toNat < 128 := by decide +kernel
  have := h2 z hz
  rw [h] at this
  exact this
/-- What is left where the last ones that fit are dropped. -/
noncomputable def rkp (p : Nat → Prop) : Nat → Nat
  | 0 => 0
  | n + 1 => @ite _ (p n) (Classical.propDecidable _) (rkp p n) (n + 1)
theorem rkp_at {p : Nat → Prop} {z : Nat} : ∀ {n : Nat}, z ≤ n → (∀ i, z ≤ i → i < n → p i) → (z = 0 ∨ ¬ p (z - 1)) → rkp p n = z
  | 0, hz, _, _ => by rw [rkp]; omega
  | n + 1, hz, h, h0 => by
    rcases Nat.lt_or_ge n z with h1 | h1
    · obtain rfl : z = n + 1 := by omega
      rw [rkp, if_neg (by simpa using h0)]
    · rw [rkp, if_pos (h n h1 (by omega))]
      exact rkp_at h1 (fun i h2 h3 => h i h2 (by omega)) h0
noncomputable def trimR (s : ByteArray) : ByteArray := s.extract 0 (rkp (lowI s) s.size)
noncomputable def trimL (s : ByteArray) : ByteArray := s.extract (pre (lowI s) s.size) s.size
noncomputable def trimA (s : ByteArray) : ByteArray := if s.size = 0 then s else trimL (trimR s)
theorem trim_none {s : ByteArray} (h : (eqv s ByteArray.empty || eqv abc ByteArray.empty) = true) : s = trimA s := by
  rw [Bool.or_eq_true, eqv_iff, eqv_iff] at h
  rcases h with h | h
  · unfold trimA; rw [if_pos (size_zero.1 h)]
  · exact absurd (size_zero.1 h) (by decide)
theorem trim_some {s : ByteArray} (h : (eqv s ByteArray.empty || eqv abc ByteArray.empty) = false) : trimL (trimR s) = trimA s := by
  unfold trimA; rw [if_neg (fun h0 => eqv_false_iff.1 (Bool.or_eq_false_iff.1 h).1 (size_zero.2 h0))]
theorem rkp_le (p : Nat → Prop) : ∀ n, rkp p n ≤ n
  | 0 => Nat.le_refl 0
  | n + 1 => by unfold rkp; split; exact Nat.le_succ_of_le (rkp_le p n); exact Nat.le_refl _
theorem rkp_zero {p : Nat → Prop} : ∀ {n : Nat}, rkp p n = 0 → ∀ i, i < n → p i
  | 0, _, i, hi => absurd hi (Nat.not_lt_zero i)
  | n + 1, h, i, hi => by
    unfold rkp at h
    split at h
    · rename_i hp
      rcases Nat.lt_or_ge i n with h1 | h1
      · exact rkp_zero h i h1
      · obtain rfl : i = n := by omega
        exact hp
    · omega
theorem rkp_last {p : Nat → Prop} : ∀ {n : Nat}, 0 < rkp p n → ¬ p (rkp p n - 1)
  | 0, h => absurd h (by simp [rkp])
  | n + 1, h => by
    unfold rkp at h ⊢
    split at h
    · rename_i hp; rw [if_pos hp]; exact rkp_last h
    · rename_i hp; rw [if_neg hp]; simpa using hp
theorem pre_le (p : Nat → Prop) : ∀ n, pre p n ≤ n
  | 0 => Nat.le_refl 0
  | n + 1 => by unfold pre; split; exact Nat.le_refl _; exact Nat.le_succ_of_le (pre_le p n)
theorem pre_full {p : Nat → Prop} : ∀ {n : Nat}, pre p n = n → ∀ i, i < n → p i
  | 0, _, i, hi => absurd hi (Nat.not_lt_zero i)
  | n + 1, h, i, hi => by
    unfold pre at h
    split at h
    · rename_i h1; exact h1 i hi
    · have := pre_le p n; omega
theorem trimA_iff (s : ByteArray) : trimA s = ByteArray.empty ↔ lowS s := by
  rw [size_zero]
  unfold trimA
  split
  · rename_i h
    exact ⟨fun _ i hi => absurd hi (by omega), fun _ => h⟩
  · rename_i h
    have hk := rkp_le (lowI s) s.size
    have hsz : (trimR s).size = rkp (lowI s) s.size := by unfold trimR; rw [ext_size hk]; omega
    have hget : ∀ i, i < rkp (lowI s) s.size → (trimR s)[i]? = s[i]? := fun i hi => by
      unfold trimR; rw [ext_get (by omega) hk, Nat.zero_add]
    have hj := pre_le (lowI (trimR s)) (trimR s).size
    unfold trimL
    rw [ext_size (Nat.le_refl _)]
    constructor
    · intro h0
      have hf := pre_full (p := lowI (trimR s)) (n := (trimR s).size) (by omega)
      rcases Nat.eq_zero_or_pos (rkp (lowI s) s.size) with h1 | h1
      · exact rkp_zero h1
      · exfalso
        refine rkp_last h1 ?_
        obtain ⟨b, h2, h3⟩ := hf (rkp (lowI s) s.size - 1) (by omega)
        rw [hget _ (by omega)] at h2
        exact ⟨b, h2, h3⟩
    · intro hl
      have h1 : rkp (lowI s) s.size = 0 := rkp_at (Nat.zero_le _) (fun i _ hi => hl i hi) (.inl rfl)
      omega
theorem name_trim (s : ByteArray) : (decide ((s.size : Int) ≥ 1) && decide ((s.size : Int) ≤ 16) && eqv (trimA s) ByteArray.empty) = tt (nameOK s) := by
  refine tt_eq ?_
  rw [Bool.and_eq_true, eqv_iff, trimA_iff]
  simp only [Bool.and_eq_true, decide_eq_true_eq, nameOK]
  exact ⟨fun h => ⟨h.2, by omega, by omega⟩, fun h => ⟨⟨by omega, by omega⟩, h.1⟩⟩
abbrev DMask := BitVec 64 × BitVec 64
abbrev DCard := ByteArray × DMask
def cardOK (c : DCard) : Prop := nameOK c.1 ∧ okM c.2 = true
theorem card_and (c : DCard) : (tt (nameOK c.1) && okM c.2) = tt (cardOK c) := by
  refine tt_eq ?_
  rw [Bool.and_eq_true, tt_iff]; rfl
/-! ### Hashes -/
end Go.Proofs.YtfnkphllkbkfaaaGreatDoor.VL
/- Proved here: places in lists, and decks. Plain Lean, no program. -/
set_option linter.unusedVariables false
set_option linter.unusedSimpArgs false
namespace Go.Proofs.YtfnkphllkbkfaaaGreatDoor.VL
open Go
/-! ### Places -/
section
variable {α : Type} {q : α → Bool} {x : List α} {z : Nat} {a : α}
/-- The first one that fits, or -1. -/
def idxQ (q : α → Bool) (x : List α) : Int := if x.findIdx q < x.length then (x.findIdx q : Int) else -1
def nI (q : α → Bool) (x : List α) (i : Nat) : Prop := ∃ b, x[i]? = some b ∧ q b = false
theorem nI_iff (ha : x[Int.toNat ((z : Nat) : Int)]? = some a) : nI q x z ↔ q a = false := by
  rw [toN] at ha
  constructor
  · rintro ⟨b, h1, h2⟩
    rw [ha] at h1; obtain rfl := Option.some.inj h1; exact h2
  · exact fun h => ⟨a, ha, h⟩
theorem idxQ_at (h : ∀ i, i < z → nI q x i) (ha : x[Int.toNat ((z : Nat) : Int)]? = some a) (hq : q a = true) : ((z : Nat) : Int) = idxQ q x := by
  rw [toN] at ha
  have hz := (List.getElem?_eq_some_iff.1 ha).1
  have e : x.findIdx q = z := by
    rw [List.findIdx_eq hz]
    refine ⟨by rw [List.getElem?_eq_getElem hz] at ha; rw [Option.some.inj ha]; exact hq, fun j hj => ?_⟩
    obtain ⟨b, h1, h2⟩ := h j hj
    rw [List.getElem?_eq_getElem (by omega)] at h1
    rw [Option.some.inj h1]; exact h2
  rw [idxQ, e, if_pos hz]
theorem idxQ_end (h : ∀ i, i < z → nI q x i) (hz : x.length ≤ z) : -1 = idxQ q x := by
  have e : x.findIdx q = x.length := by
    rw [List.findIdx_eq_length]
    intro b hb
    obtain ⟨i, hi, rfl⟩ := List.mem_iff_getElem.1 hb
    obtain ⟨c, h1, h2⟩ := h i (by omega)
    rw [List.getElem?_eq_getElem hi] at h1
    rw [Option.some.inj h1]; exact h2
  rw [idxQ, e, if_neg (Nat.lt_irrefl _)]
theorem idxQ_any : decide (idxQ q x ≥ 0) = x.any q := by
  rw [Bool.eq_iff_iff, decide_eq_true_eq, List.any_eq_true, ← List.findIdx_lt_length]
  unfold idxQ
  split <;> omega
theorem idxQ_in (q : α → Bool) (x : List α) : -1 ≤ idxQ q x ∧ idxQ q x < max 1 (x.length : Int) := by
  unfold idxQ; split <;> omega
theorem any_iff : x.any q = false ↔ ∀ i, i < x.length → nI q x i := by
  rw [List.any_eq_false]
  constructor
  · intro h i hi
    exact ⟨x[i], List.getElem?_eq_getElem hi, by simpa using h _ (List.getElem_mem hi)⟩
  · intro h b hb
    obtain ⟨i, hi, rfl⟩ := List.mem_iff_getElem.1 hb
    obtain ⟨c, h1, h2⟩ := h i hi
    rw [List.getElem?_eq_getElem hi] at h1
    rw [Option.some.inj h1, h2]; decide
theorem foldl_next {β : Type} {f : β → α → β} {i : β} (ha : x[Int.toNat ((z : Nat) : Int)]? = some a) : f ((x.take z).foldl f i) a = (x.take (z + 1)).foldl f i := by
  rw [toN] at ha
  rw [List.take_add_one, ha, Option.toList_some, List.foldl_append]; rfl
end
/-! ### Decks -/
def szC (c : DCard) (l : Int) : Int := szB c.1 l
theorem okSzC : okSz szC (fun c => c.1.size ≤ 1048576) := fun c l hl => szB_in c.1 l hl
theorem take_any {α : Type} {q : α → Bool} {x : List α} {z : Nat} (hz : z ≤ x.length) : (x.take z).any q = false ↔ ∀ k, k < z → nI q x k := by
  rw [any_iff, List.length_take, Nat.min_eq_left hz]
  exact ⟨fun h k hk => by obtain ⟨b, h1, h2⟩ := h k hk; rw [List.getElem?_take, if_pos hk] at h1; exact ⟨b, h1, h2⟩,
    fun h k hk => by obtain ⟨b, h1, h2⟩ := h k hk; exact ⟨b, by rw [List.getElem?_take, if_pos hk]; exact h1, h2⟩⟩
/-! ### A deck within another -/
/-! ### Checks -/
end Go.Proofs.YtfnkphllkbkfaaaGreatDoor.VL
/- Proved here: holes of masks, answers and their first fault. Plain Lean, no program. -/
set_option linter.unusedVariables false
set_option linter.unusedSimpArgs false
namespace Go.Proofs.YtfnkphllkbkfaaaGreatDoor.VL
open Go
/-! ### Masks -/
theorem rem64 {i : Int} (h : 0 ≤ i) : (BitVec.ofInt 64 (i.tmod 64)).toNat = Int.toNat (i.tmod 64) := by
  rw [Int.tmod_eq_emod_of_nonneg h, BitVec.toNat_ofInt]
  have h1 : 0 ≤ i % 64 := Int.emod_nonneg _ (by decide)
  have h2 : i % 64 < 64 := Int.emod_lt_of_pos _ (by decide)
  generalize i % 64 = r at *
  have e : r % (2 ^ 64 : Nat) = r := Int.emod_eq_of_lt h1 (by show r < 18446744073709551616; omega)
  rw [e]
theorem div64 {i : Int} (h : 0 ≤ i ∧ i < 128) : 0 ≤ i.tdiv 64 ∧ i.tdiv 64 < 2 := by
  rw [Int.tdiv_eq_ediv_of_nonneg h.1]; omega
theorem mod64 {i : Int} (h : 0 ≤ i) : 0 ≤ i.tmod 64 := Int.tmod_nonneg _ h
def meetM (x y : DMask) : DMask := (x.1 &&& y.1, x.2 &&& y.2)
abbrev DQuery := DMask × DMask
/-! ### The first fault of an answer -/
section
variable {α : Type} {f : α → Int} {n : Int} {l : List α} {z : Nat} {a b : α}
end
abbrev DAns' := DQuery × List Int × List (Int × Int)
section
variable {x : List DCard} {v : DAns'} {z : Nat}
end
section
variable {x : List DCard} {v : DAns'} {z : Nat}
end
section
variable {x : List DCard} {v : DAns'}
end
end Go.Proofs.YtfnkphllkbkfaaaGreatDoor.VL
/- Proved here: lists of words, lots, and how many false drops are expected of them. Plain Lean, no program. -/
set_option linter.unusedVariables false
set_option linter.unusedSimpArgs false
namespace Go.Proofs.YtfnkphllkbkfaaaGreatDoor.VL
open Go
/-- A list whose elements all fit. -/
def allI {α : Type} (q : α → Prop) (x : List α) (i : Nat) : Prop := ∃ a, x[i]? = some a ∧ q a
section
variable {α : Type} {q : α → Prop} {x : List α} {z : Nat} {a : α}
theorem allI_iff (ha : x[Int.toNat ((z : Nat) : Int)]? = some a) : allI q x z ↔ q a := by
  rw [toN] at ha
  constructor
  · rintro ⟨b, h1, h2⟩
    rw [ha] at h1; obtain rfl := Option.some.inj h1; exact h2
  · exact fun h => ⟨a, ha, h⟩
def allL (q : α → Prop) (x : List α) : Prop := ∀ i, i < x.length → allI q x i
theorem allL_any : (!(x.any fun a => !(tt (q a)))) = tt (allL q x) := by
  refine tt_eq ?_
  rw [Bool.not_eq_true', any_iff]
  unfold allL
  refine forall_congr' fun i => forall_congr' fun hi => ?_
  have ha := List.getElem?_eq_getElem hi
  rw [allI_iff (by rw [toN]; exact ha), nI_iff (by rw [toN]; exact ha), Bool.not_eq_false', tt_iff]
end
noncomputable def err2 (p : Prop) : Int := if tt p = true then 0 else 2
theorem err2_no {p : Prop} (h : ¬ p) : 2 = err2 p := by rw [err2, tt_false.2 h]; rfl
theorem err2_yes {p : Prop} (h : p) : 0 = err2 p := by rw [err2, tt_iff.2 h]; rfl
/-! ### Expected false drops -/
section
variable {mx : Int × Int × Int} {x : List (List ByteArray)} {m : Int}
end
end Go.Proofs.YtfnkphllkbkfaaaGreatDoor.VL
/- Proved here: fields and schemes, and tables of cards. Plain Lean, no program. -/
set_option linter.unusedVariables false
set_option linter.unusedSimpArgs false
namespace Go.Proofs.YtfnkphllkbkfaaaGreatDoor.VL
open Go
/-! ### Masks that are made -/
def zM : DMask := (0#64, 0#64)
def joinM (x y : DMask) : DMask := (x.1 ||| y.1, x.2 ||| y.2)
def bitM (i : Int) : DMask := if Int.toNat (i.tdiv 64) = 0 then (1#64 <<< Int.toNat (i.tmod 64), 0#64) else (0#64, 1#64 <<< Int.toNat (i.tmod 64))
theorem bit_of {i : Int} (h : 0 ≤ i) : (if Int.toNat (i.tdiv 64) = 0 then (1#64 <<< Int.toNat ((BitVec.ofInt 64 (i.tmod 64)).toNat : Int), (0#64, 0#64).2) else ((0#64, 0#64).1, 1#64 <<< Int.toNat ((BitVec.ofInt 64 (i.tmod 64)).toNat : Int))) = bitM i := by
  rw [rem64 h]; rfl
def withM (m : DMask) (l : List Int) : DMask := l.foldl (fun m h => joinM m (bitM h)) m
theorem with_step {m : DMask} {l : List Int} {z : Nat} {h : Int} (hh : l[Int.toNat ((z : Nat) : Int)]? = some h) :
    (if Int.toNat (h.tdiv 64) = 0 then ((if Int.toNat (h.tdiv 64) = 0 then (withM m (l.take z)).1 else (withM m (l.take z)).2) ||| 1#64 <<< Int.toNat (h.tmod 64), (withM m (l.take z)).2) else ((withM m (l.take z)).1, (if Int.toNat (h.tdiv 64) = 0 then (withM m (l.take z)).1 else (withM m (l.take z)).2) ||| 1#64 <<< Int.toNat (h.tmod 64))) = withM m (l.take (z + 1)) := by
  have e : withM m (l.take (z + 1)) = joinM (withM m (l.take z)) (bitM h) := (foldl_next (f := fun m h => joinM m (bitM h)) hh).symm
  rw [e, joinM, bitM]
  split <;> simp
def rngM (a : Int) : Nat → DMask
  | 0 => zM
  | k + 1 => joinM (rngM a k) (bitM (a + k))
/-! ### Fields -/
abbrev DField := ByteArray × Int × Int × Int
def widthF (f : DField) : Int := if f.2.1 = 1 then 4 * f.2.2.2 else if f.2.1 = 2 then 5 * f.2.2.2 else if f.2.1 = 3 then f.2.2.2 + 1 else f.2.2.2
def mostF (c : Int) : Int := if c = 0 then 24 else if c = 1 then 4 else if c = 2 then 4 else if c = 3 then 12 else 0
def partF (f : DField) : DMask := rngM f.2.2.1 (Int.toNat (widthF f))
def fieldOK (f : DField) : Prop := nameOK f.1 ∧ 0 ≤ f.2.1 ∧ f.2.1 ≤ 3 ∧ 1 ≤ f.2.2.2 ∧ f.2.2.2 ≤ mostF f.2.1 ∧ 0 ≤ f.2.2.1 ∧ f.2.2.1 + widthF f ≤ 96
theorem okField {f : DField} (h : (kField).ok f) : (-128 ≤ f.2.1 ∧ f.2.1 ≤ 127) ∧ (-32768 ≤ f.2.2.1 ∧ f.2.2.1 ≤ 32767) ∧ (-32768 ≤ f.2.2.2 ∧ f.2.2.2 ≤ 32767) := by
  obtain ⟨h1, h2⟩ := ok_pair h
  obtain ⟨h2, h3⟩ := ok_pair h2
  obtain ⟨h3, h4⟩ := ok_pair h3
  exact ⟨ok_int h2, ok_i16 h3, ok_i16 h4⟩
theorem width_in {f : DField} (h : (-128 ≤ f.2.1 ∧ f.2.1 ≤ 127) ∧ (-32768 ≤ f.2.2.1 ∧ f.2.2.1 ≤ 32767) ∧ (-32768 ≤ f.2.2.2 ∧ f.2.2.2 ≤ 32767)) : -200000 ≤ widthF f ∧ widthF f ≤ 200000 := by
  unfold widthF; (repeat' split) <;> omega
theorem mostF_in (c : Int) : 0 ≤ mostF c ∧ mostF c ≤ 24 ∧ (mostF c ≠ 0 → 0 ≤ c ∧ c ≤ 3) := by unfold mostF; (repeat' split) <;> omega
theorem field_width {f : DField} (h : fieldOK f) : 1 ≤ widthF f ∧ widthF f ≤ 96 := by
  obtain ⟨h1, h2, h3, h4, h5, h6, h7⟩ := h
  constructor
  · unfold widthF; (repeat' split) <;> omega
  · omega
section
variable {f : DField} {M : Int}
theorem field_name (h : tt (nameOK f.1) = false) : false = tt (fieldOK f) := tt_no fun h' => tt_false.1 h h'.1
theorem field_most (h : inb f.2.2.2 1 M = false) (hm : mostF f.2.1 = M) : false = tt (fieldOK f) := tt_no fun h' => by
  simp only [inb, Bool.and_eq_false_iff, decide_eq_false_iff_not] at h
  have := h'.2.2.2
  omega
theorem field_last (h : inb f.2.2.2 1 M = true) (hn : tt (nameOK f.1) = true) (hm : mostF f.2.1 = M) : inb f.2.2.1 0 (96 - widthF f) = tt (fieldOK f) := by
  refine tt_eq ?_
  simp only [inb, Bool.and_eq_true, decide_eq_true_eq] at h ⊢
  have := mostF_in f.2.1
  exact ⟨fun h' => ⟨tt_iff.1 hn, by omega, by omega, by omega, by omega, by omega, by omega⟩, fun h' => by have := h'.2.2.2.2.2; omega⟩
def mostL : List Int := [24, 4, 4, 12]
theorem mostL_get {c : Int} (h : 0 ≤ c ∧ c ≤ 3) : mostL.getD (Int.toNat c) 0 = mostF c := by
  rcases (by omega : c = 0 ∨ c = 1 ∨ c = 2 ∨ c = 3) with rfl | rfl | rfl | rfl <;> rfl
theorem fieldI_no (h : (!(tt (nameOK f.1)) || decide (f.2.1 < 0) || decide (f.2.1 > 3) || decide (f.2.2.1 < 0) || decide (f.2.2.2 < 1)) = true) : false = tt (fieldOK f) := tt_no fun h' => by
  simp only [Bool.or_eq_true, Bool.not_eq_true', decide_eq_true_eq] at h
  obtain ⟨h1, h2, h3, h4, h5, h6, h7⟩ := h'
  rcases h with (((h | h) | h) | h) | h
  · exact tt_false.1 h h1
  all_goals omega
theorem fieldI_yes (h : (!(tt (nameOK f.1)) || decide (f.2.1 < 0) || decide (f.2.1 > 3) || decide (f.2.2.1 < 0) || decide (f.2.2.2 < 1)) = false) : nameOK f.1 ∧ (0 ≤ f.2.1 ∧ f.2.1 ≤ 3) ∧ 0 ≤ f.2.2.1 ∧ 1 ≤ f.2.2.2 := by
  simp only [Bool.or_eq_false_iff, Bool.not_eq_false', decide_eq_false_iff_not] at h
  exact ⟨tt_iff.1 h.1.1.1.1, by omega, by omega, by omega⟩
theorem fieldI_most (hy : nameOK f.1 ∧ (0 ≤ f.2.1 ∧ f.2.1 ≤ 3) ∧ 0 ≤ f.2.2.1 ∧ 1 ≤ f.2.2.2) (h : decide (f.2.2.2 ≤ mostL.getD (Int.toNat f.2.1) 0) = false) : false = tt (fieldOK f) := tt_no fun h' => by
  have := of_decide_eq_false h
  rw [mostL_get hy.2.1] at this
  exact this h'.2.2.2.2.1
theorem fieldI_last (hy : nameOK f.1 ∧ (0 ≤ f.2.1 ∧ f.2.1 ≤ 3) ∧ 0 ≤ f.2.2.1 ∧ 1 ≤ f.2.2.2) (h : decide (f.2.2.2 ≤ mostL.getD (Int.toNat f.2.1) 0) = true) : decide (f.2.2.1 + widthF f ≤ 96) = tt (fieldOK f) := by
  refine tt_eq ?_
  have := of_decide_eq_true h
  rw [mostL_get hy.2.1] at this
  rw [decide_eq_true_eq]
  exact ⟨fun h' => ⟨hy.1, by omega, by omega, by omega, this, by omega, h'⟩, fun h' => h'.2.2.2.2.2.2⟩
end
/-! ### Schemes -/
def jp (x : List DField) : DMask := x.foldl (fun m f => joinM m (partF f)) zM
theorem jp_next {x : List DField} {z : Nat} {f : DField} (hf : x[Int.toNat ((z : Nat) : Int)]? = some f) : joinM (jp (x.take z)) (partF f) = jp (x.take (z + 1)) := foldl_next (f := fun m f => joinM m (partF f)) hf
def schI (x : List DField) (i : Nat) : Prop := ∃ f, x[i]? = some f ∧ fieldOK f ∧ meetM (jp (x.take i)) (partF f) = zM ∧ ∀ k, k < i → nI (fun b => eqv b.1 f.1) x k
def schemeOK (x : List DField) : Prop := x.length ≤ 12 ∧ ∀ i, i < x.length → schI x i
section
variable {x : List DField} {z : Nat} {f : DField}
theorem schI_iff (hf : x[Int.toNat ((z : Nat) : Int)]? = some f) : schI x z ↔ fieldOK f ∧ meetM (jp (x.take z)) (partF f) = zM ∧ ∀ k, k < z → nI (fun b => eqv b.1 f.1) x k := by
  rw [toN] at hf
  constructor
  · rintro ⟨c, h1, h2⟩
    rw [hf] at h1; obtain rfl := Option.some.inj h1; exact h2
  · exact fun h => ⟨f, hf, h⟩
theorem sch_no (hz : z < x.length) (h : ¬ schI x z) : false = tt (schemeOK x) := tt_no fun h' => h (h'.2 z hz)
theorem sch_len (h : 12 < x.length) : false = tt (schemeOK x) := tt_no fun h' => absurd h'.1 (by omega)
theorem sch_yes (h : x.length ≤ 12) (hI : ∀ i, i < z → schI x i) (hz : x.length ≤ z) : true = tt (schemeOK x) := tt_yes ⟨h, all_end hI hz⟩
theorem sch_field (hs : schemeOK x) (hf : x[Int.toNat ((z : Nat) : Int)]? = some f) : fieldOK f := by
  have hz : z < x.length := by rw [toN] at hf; exact (List.getElem?_eq_some_iff.1 hf).1
  exact ((schI_iff hf).1 (hs.2 z hz)).1
end
/-! ### Tables -/
noncomputable def tabE (s : List DField) (x : List DCard) : Int := if (!(tt (schemeOK s)) || !(tt (allL cardOK x))) = true then 1 else if 60 < x.length then 2 else 0
def inI (n : Nat) (c : Int) : Prop := 0 ≤ c ∧ c < n
noncomputable def tabF (s : List DField) (x : List DCard) (l : List Int) : Int := if tabE s x = 0 then err2 (allL (inI s.length) l) else tabE s x
section
variable {s : List DField} {x : List DCard} {l : List Int}
theorem tabE_one (h : (!(tt (schemeOK s)) || !(tt (allL cardOK x))) = true) : 1 = tabE s x := by rw [tabE, if_pos h]
theorem tabE_two (h : (!(tt (schemeOK s)) || !(tt (allL cardOK x))) = false) (h2 : 60 < x.length) : 2 = tabE s x := by rw [tabE, if_neg (by rw [h]; decide), if_pos h2]
theorem tabE_zero (h : (!(tt (schemeOK s)) || !(tt (allL cardOK x))) = false) (h2 : x.length ≤ 60) : 0 = tabE s x := by rw [tabE, if_neg (by rw [h]; decide), if_neg (by omega)]
theorem tabE_ok (h : tabE s x = 0) : schemeOK s ∧ allL cardOK x ∧ x.length ≤ 60 := by
  unfold tabE at h
  split at h
  · cases h
  · rename_i h1
    rw [Bool.not_eq_true, Bool.or_eq_false_iff, Bool.not_eq_false', Bool.not_eq_false', tt_iff, tt_iff] at h1
    split at h
    · cases h
    · exact ⟨h1.1, h1.2, by omega⟩
theorem tabF_of (h : 0 = tabE s x) : tabF s x l = err2 (allL (inI s.length) l) := by rw [tabF, if_pos h.symm]
theorem tabF_not {e : Int} (h : e = tabE s x) (he : e ≠ 0) : e = tabF s x l := by rw [tabF, if_neg (by omega)]; exact h
theorem tabF_nil : tabF s x [] = tabE s x := by
  unfold tabF
  split
  · rename_i h; rw [h]; exact (err2_yes (fun i hi => absurd hi (Nat.not_lt_zero i))).symm
  · rfl
end
/-! ### Counting cards -/
section
variable {α : Type} {q : α → Bool} {x : List α} {z : Nat} {a : α}
end
section
variable {x : List DCard} {a b : Int}
end
end Go.Proofs.YtfnkphllkbkfaaaGreatDoor.VL
/- Proved here: masks bit by bit, and what holes have how many cards. Plain Lean, no program. -/
set_option linter.unusedVariables false
set_option linter.unusedSimpArgs false
namespace Go.Proofs.YtfnkphllkbkfaaaGreatDoor.VL
open Go
/-! ### Bits -/
def bitB (m : DMask) (i : Nat) : Bool := if i < 64 then m.1.getLsbD i else m.2.getLsbD (i - 64)
theorem mask_ext {a b : DMask} (h : ∀ i, i < 128 → bitB a i = bitB b i) : a = b := by
  have h1 : a.1 = b.1 := by
    apply BitVec.eq_of_getLsbD_eq
    intro i hi
    have := h i (by omega)
    unfold bitB at this
    rw [if_pos hi, if_pos hi] at this; exact this
  have h2 : a.2 = b.2 := by
    apply BitVec.eq_of_getLsbD_eq
    intro i hi
    have := h (i + 64) (by omega)
    unfold bitB at this
    rw [if_neg (by omega), if_neg (by omega), Nat.add_sub_cancel] at this; exact this
  exact Prod.ext h1 h2
theorem bit_join (a b : DMask) (i : Nat) : bitB (joinM a b) i = (bitB a i || bitB b i) := by unfold bitB joinM; split <;> simp
theorem shl_bit {j i : Nat} (hj : j < 64) : (1#64 <<< j).getLsbD i = decide (i = j) := by
  rw [BitVec.getLsbD_shiftLeft, BitVec.getLsbD_one]
  rw [Bool.eq_iff_iff]
  simp
  omega
theorem bit_bit {j : Nat} (hj : j < 128) (i : Nat) (hi : i < 128) : bitB (bitM (j : Int)) i = decide (i = j) := by
  have h1 : Int.toNat ((j : Int).tdiv 64) = j / 64 := by rw [Int.tdiv_eq_ediv_of_nonneg (by omega)]; omega
  have h2 : Int.toNat ((j : Int).tmod 64) = j % 64 := by rw [Int.tmod_eq_emod_of_nonneg (by omega)]; omega
  rcases Nat.lt_or_ge j 64 with h | h
  · have hb : bitM (j : Int) = (1#64 <<< (j % 64), 0#64) := by unfold bitM; rw [h1, h2, if_pos (by omega)]
    rw [hb]; unfold bitB
    split
    · show (1#64 <<< (j % 64)).getLsbD i = _; rw [shl_bit (by omega)]; simp only [decide_eq_decide]; omega
    · show (0#64).getLsbD (i - 64) = _; rw [BitVec.getLsbD_zero]; exact (decide_eq_false (by omega)).symm
  · have hb : bitM (j : Int) = (0#64, 1#64 <<< (j % 64)) := by unfold bitM; rw [h1, h2, if_neg (by omega)]
    rw [hb]; unfold bitB
    split
    · show (0#64).getLsbD i = _; rw [BitVec.getLsbD_zero]; exact (decide_eq_false (by omega)).symm
    · show (1#64 <<< (j % 64)).getLsbD (i - 64) = _; rw [shl_bit (by omega)]; simp only [decide_eq_decide]; omega
/-! ### How many cards a hole has -/
end Go.Proofs.YtfnkphllkbkfaaaGreatDoor.VL
/- Proved here: lists of holes, marks that are written into rows, and the text of a mark. Plain Lean, no program. -/
set_option linter.unusedVariables false
set_option linter.unusedSimpArgs false
namespace Go.Proofs.YtfnkphllkbkfaaaGreatDoor.VL
open Go
/-! ### Holes -/
/-! ### Marks -/
/-! ### The text of a mark -/
theorem tmod10 (n : Nat) : 0 ≤ (n : Int).tmod 10 ∧ (n : Int).tmod 10 < 10 := by
  rw [Int.tmod_eq_emod_of_nonneg (by omega)]; omega
theorem tdiv10 (n : Nat) : (n : Int).tdiv 10 = ((n / 10 : Nat) : Int) := by
  rw [Int.tdiv_eq_ediv_of_nonneg (by omega)]; omega
end Go.Proofs.YtfnkphllkbkfaaaGreatDoor.VL
/- Proved here: marks of rows of cards, edits, texts and witnesses. Plain Lean, no program. -/
set_option linter.unusedVariables false
set_option linter.unusedSimpArgs false
namespace Go.Proofs.YtfnkphllkbkfaaaGreatDoor.VL
open Go
section
variable {α : Type} {f : Int → α} {w k : Int} {x : List α} {z n : Nat} {a : α}
end
/-! ### Limbs -/
/-! ### What is written -/
end Go.Proofs.YtfnkphllkbkfaaaGreatDoor.VL
/- Proved here: the nearest cards. Plain Lean, no program. -/
set_option linter.unusedVariables false
set_option linter.unusedSimpArgs false
namespace Go.Proofs.YtfnkphllkbkfaaaGreatDoor.VL
open Go
section
variable {m : DMask} {x : List DCard} {z : Nat} {c : DCard}
end
end Go.Proofs.YtfnkphllkbkfaaaGreatDoor.VL
/- Proved here: cards with equal notches, and marks in rows of rows. Plain Lean, no program. -/
set_option linter.unusedVariables false
set_option linter.unusedSimpArgs false
namespace Go.Proofs.YtfnkphllkbkfaaaGreatDoor.VL
open Go
section
variable {x : List DCard} {m : DMask} {y z : Nat} {c : DCard}
end
/-! ### Marks in rows of rows -/
section
variable {x : List (List Int)} {a : List Int} {z : Nat} {k : Int}
end
end Go.Proofs.YtfnkphllkbkfaaaGreatDoor.VL
/- Proved here: how deep the knots of a tree lie, the deepest, and the mean. Plain Lean, no program. -/
set_option linter.unusedVariables false
set_option linter.unusedSimpArgs false
namespace Go.Proofs.YtfnkphllkbkfaaaGreatDoor.VL
open Go
/-! ### Depths -/
section
variable {x : List DKnot} {z y : Nat} {a : DKnot}
end
/-! ### The greatest -/
/-! ### The mean -/
section
variable {x : List DKnot} {z : Nat} {a : DKnot} {d : List Int} {v : Int}
end
def shr (p q : Int) : Int × Int := (p.tdiv ((Int.gcd p q : Nat) : Int), q.tdiv ((Int.gcd p q : Nat) : Int))
end Go.Proofs.YtfnkphllkbkfaaaGreatDoor.VL
/- Proved here: marks in knots, and ways through trees. Plain Lean, no program. -/
set_option linter.unusedVariables false
set_option linter.unusedSimpArgs false
namespace Go.Proofs.YtfnkphllkbkfaaaGreatDoor.VL
open Go
/-! ### A way through a tree -/
noncomputable def idxV (v : Int) (l : List Int) : Int := idxQ (fun b => b == v) l
noncomputable def wk (x : List DKnot) (q : List Int) : Nat → Nat → Int → Int × Int × Int
  | 0, _, _ => (0, 0, 0)
  | f + 1, i, st => match x[i]? with
    | none => (0, 0, 0)
    | some k => if k.1 < 0 then ((i : Int), st, 0) else if k.1 ≥ (q.length : Int) then (0, 0, 2) else
      if idxV (q.getD k.1.toNat 0) k.2.1 < 0 then (0, 0, 6) else wk x q f (k.2.2.1.getD (idxV (q.getD k.1.toNat 0) k.2.1).toNat 0).toNat (st + 1)
noncomputable def wkS (x : List DKnot) (q : List Int) : Int × Int × Int := wk x q x.length 0 0
section
variable {x : List DKnot} {q : List Int} {f i : Nat} {st v n : Int} {k : DKnot}
theorem wk_leaf (hk : x[Int.toNat ((i : Nat) : Int)]? = some k) (hf : 0 < f) (h : k.1 < 0) : wk x q f i st = ((i : Int), st, 0) := by
  rw [toN] at hk
  obtain ⟨f, rfl⟩ : ∃ g, f = g + 1 := ⟨f - 1, by omega⟩
  rw [wk, hk]; exact if_pos h
theorem wk_two (hk : x[Int.toNat ((i : Nat) : Int)]? = some k) (hf : 0 < f) (h : ¬ k.1 < 0) (h1 : k.1 ≥ (q.length : Int)) : wk x q f i st = (0, 0, 2) := by
  rw [toN] at hk
  obtain ⟨f, rfl⟩ : ∃ g, f = g + 1 := ⟨f - 1, by omega⟩
  rw [wk, hk]
  show (if _ then _ else _) = _
  rw [if_neg h, if_pos h1]
theorem wk_six (hk : x[Int.toNat ((i : Nat) : Int)]? = some k) (hf : 0 < f) (h : ¬ k.1 < 0) (h1 : ¬ k.1 ≥ (q.length : Int)) (hv : q[Int.toNat k.1]? = some v) (h2 : idxV v k.2.1 < 0) : wk x q f i st = (0, 0, 6) := by
  rw [toN] at hk
  obtain ⟨f, rfl⟩ : ∃ g, f = g + 1 := ⟨f - 1, by omega⟩
  have e : q.getD k.1.toNat 0 = v := by rw [List.getD_eq_getElem?_getD, hv]; rfl
  rw [wk, hk]
  show (if _ then _ else _) = _
  rw [if_neg h, if_neg h1, e, if_pos h2]
theorem wk_go (hk : x[Int.toNat ((i : Nat) : Int)]? = some k) (hf : 0 < f) (h : ¬ k.1 < 0) (h1 : ¬ k.1 ≥ (q.length : Int)) (hv : q[Int.toNat k.1]? = some v) (h2 : ¬ idxV v k.2.1 < 0) (hn : k.2.2.1[Int.toNat (idxV v k.2.1)]? = some n) : wk x q f i st = wk x q (f - 1) n.toNat (st + 1) := by
  rw [toN] at hk
  obtain ⟨f, rfl⟩ : ∃ g, f = g + 1 := ⟨f - 1, by omega⟩
  have e : q.getD k.1.toNat 0 = v := by rw [List.getD_eq_getElem?_getD, hv]; rfl
  have e2 : k.2.2.1.getD (idxV v k.2.1).toNat 0 = n := by rw [List.getD_eq_getElem?_getD, hn]; rfl
  rw [wk, hk]
  show (if _ then _ else _) = _
  rw [if_neg h, if_neg h1, e, if_neg h2, e2]; rfl
end
theorem idxV_in (v : Int) (l : List Int) : -1 ≤ idxV v l ∧ idxV v l < max 1 (l.length : Int) := idxQ_in _ _
theorem wk_inv {x : List DKnot} {q : List Int} {p : Nat × Nat} {k : DKnot} {v n : Int} (hI : p.1 < x.length ∧ p.2 ≤ p.1 ∧ wk x q (x.length - p.2) p.1 (p.2 : Int) = wkS x q) (hk : x[Int.toNat ((p.1 : Nat) : Int)]? = some k) (h : ¬ k.1 < 0) (h1 : ¬ k.1 ≥ (q.length : Int)) (hv : q[Int.toNat k.1]? = some v) (h2 : ¬ idxV v k.2.1 < 0) (hn : k.2.2.1[Int.toNat (idxV v k.2.1)]? = some n) (hb : (p.1 : Int) < n ∧ n < (x.length : Int)) :
    n.toNat < x.length ∧ p.2 + 1 ≤ n.toNat ∧ wk x q (x.length - (p.2 + 1)) n.toNat ((p.2 + 1 : Nat) : Int) = wkS x q := by
  refine ⟨by omega, by omega, ?_⟩
  rw [← hI.2.2, wk_go hk (by omega) h h1 hv h2 hn]
  congr 1
theorem wk_at {x : List DKnot} {q : List Int} (hx : 1 ≤ x.length) : ∀ (f i : Nat) (st : Int), ∃ k, x[Int.toNat (wk x q f i st).1]? = some k
  | 0, i, st => ⟨_, List.getElem?_eq_getElem (by show 0 < _; omega)⟩
  | f + 1, i, st => by
    have h0 : ∃ k, x[Int.toNat (0 : Int)]? = some k := ⟨_, List.getElem?_eq_getElem (by show 0 < _; omega)⟩
    rw [wk]
    split
    · exact h0
    · rename_i k hk
      split
      · exact ⟨k, hk⟩
      · split
        · exact h0
        · split
          · exact h0
          · exact wk_at hx f _ _
section
variable {x : List DKnot} {q : List Int} {k : DKnot}
theorem wt_at (h : tt (treeOK x) = true) : ∃ k, x[Int.toNat (wkS x q).1]? = some k := wk_at (tt_iff.1 h).1 _ _ _
end
theorem wk_pos (x : List DKnot) (q : List Int) : ∀ (f i : Nat) (st : Int), 0 ≤ (wk x q f i st).1
  | 0, _, _ => by simp [wk]
  | f + 1, i, st => by
    rw [wk]
    split
    · exact Int.le_refl 0
    · split
      · exact Int.natCast_nonneg i
      · split
        · exact Int.le_refl 0
        · split
          · exact Int.le_refl 0
          · exact wk_pos x q f _ _
theorem wkS_pos (x : List DKnot) (q : List Int) : 0 ≤ (wkS x q).1 := wk_pos x q _ _ _
end Go.Proofs.YtfnkphllkbkfaaaGreatDoor.VL
/- Proved here: the codes of values in fields, and what value a mask keeps. Plain Lean, no program. -/
set_option linter.unusedVariables false
set_option linter.unusedSimpArgs false
namespace Go.Proofs.YtfnkphllkbkfaaaGreatDoor.VL
open Go
/-! ### Powers -/
theorem tdv_le {p g : Int} (hp : 0 ≤ p) (hg : 0 < g) : 0 ≤ p.tdiv g ∧ p.tdiv g ≤ p := by
  rw [Int.tdiv_eq_ediv_of_nonneg hp]
  exact ⟨Int.ediv_nonneg hp (by omega), Int.ediv_le_self _ hp⟩
theorem pow_le (b : Int) (hb : 1 ≤ b ∧ b ≤ 10) : ∀ z : Nat, z ≤ 12 → 1 ≤ b ^ z ∧ b ^ z ≤ 10 ^ z
  | 0, _ => by simp
  | z + 1, hz => by
    have ih := pow_le b hb z (by omega)
    have h1 : b ^ (z + 1) = b ^ z * b := Int.pow_succ _ _
    have h2 : (10 : Int) ^ (z + 1) = 10 ^ z * 10 := Int.pow_succ _ _
    rw [h1, h2]
    have h3 : b ^ z * 1 ≤ b ^ z * b := Int.mul_le_mul_of_nonneg_left hb.1 (by omega)
    have h4 : b ^ z * b ≤ 10 ^ z * b := Int.mul_le_mul_of_nonneg_right ih.2 (by omega)
    have h5 : (10 : Int) ^ z * b ≤ 10 ^ z * 10 := Int.mul_le_mul_of_nonneg_left hb.2 (by omega)
    omega
theorem ten_le : ∀ z : Nat, z ≤ 12 → (10 : Int) ^ z ≤ 1000000000000 := by
  intro z hz
  have : ∀ z, z ≤ 12 → (10 : Int) ^ z ≤ 1000000000000 := by decide
  exact this z hz
theorem pow_in {b : Int} (hb : 1 ≤ b ∧ b ≤ 10) {z : Nat} (hz : z ≤ 12) : 1 ≤ b ^ z ∧ b ^ z ≤ 1000000000000 := by
  have h1 := pow_le b hb z hz
  have h2 := ten_le z hz
  omega
theorem pow_mul {b : Int} (hb : 1 ≤ b ∧ b ≤ 10) {z : Nat} (hz : z ≤ 12) : 0 ≤ b ^ z * b ∧ b ^ z * b ≤ 10000000000000 := by
  have h1 := pow_in hb hz
  constructor
  · exact Int.mul_nonneg (by omega) (by omega)
  · have := Int.mul_le_mul_of_nonneg_left (a := b) (b := 10) (c := b ^ z) hb.2 (by omega)
    omega
theorem pow_next (b : Int) (z : Nat) : b ^ z * b = b ^ (z + 1) := (Int.pow_succ _ _).symm
def topF (f : DField) : Int := if f.2.1 = 0 then f.2.2.2 - 1 else if f.2.1 = 3 then 2 ^ f.2.2.2.toNat - 1 else 10 ^ f.2.2.2.toNat - 1
theorem two_pow_le : ∀ z : Nat, z ≤ 12 → (2 : Int) ^ z ≤ 4096 := by decide
theorem ten_pow_le : ∀ z : Nat, z ≤ 4 → (10 : Int) ^ z ≤ 10000 := by decide
theorem top_in {f : DField} (h : fieldOK f) : 0 ≤ topF f ∧ topF f ≤ 9999 := by
  obtain ⟨_, h1, h2, h3, h4, _⟩ := h
  have hn : mostF f.2.1 ≤ 24 ∧ (f.2.1 ≠ 0 → mostF f.2.1 ≤ 12) ∧ (f.2.1 ≠ 0 → f.2.1 ≠ 3 → mostF f.2.1 ≤ 4) := by
    unfold mostF; refine ⟨?_, ?_, ?_⟩ <;> (repeat' split) <;> omega
  unfold topF
  split
  · omega
  · split
    · have h5 := two_pow_le f.2.2.2.toNat (by omega)
      have h6 := (pow_in (b := 2) (by omega) (z := f.2.2.2.toNat) (by omega)).1
      omega
    · have h5 := ten_pow_le f.2.2.2.toNat (by omega)
      have h6 := (pow_in (b := 10) (by omega) (z := f.2.2.2.toNat) (by omega)).1
      omega
theorem size_in {f : DField} (h : fieldOK f) : 1 ≤ f.2.2.2 ∧ f.2.2.2 ≤ 24 ∧ (f.2.1 ≠ 0 → f.2.2.2 ≤ 12) ∧ (f.2.1 ≠ 0 → f.2.1 ≠ 3 → f.2.2.2 ≤ 4) ∧ 0 ≤ f.2.2.1 ∧ f.2.2.1 + widthF f ≤ 96 := by
  obtain ⟨_, h1, h2, h3, h4, h5, h6⟩ := h
  have hn : mostF f.2.1 ≤ 24 ∧ (f.2.1 ≠ 0 → mostF f.2.1 ≤ 12) ∧ (f.2.1 ≠ 0 → f.2.1 ≠ 3 → mostF f.2.1 ≤ 4) := by
    unfold mostF; refine ⟨?_, ?_, ?_⟩ <;> (repeat' split) <;> omega
  refine ⟨h3, by omega, fun h => by have := hn.2.1 h; omega, fun h h' => by have := hn.2.2 h h'; omega, h5, h6⟩
/-! ### Notches -/
def ntB (holes bits : Int) (k : Nat) : Bool := (bits.tdiv (2 ^ (holes - 1 - (k : Int)).toNat)).tmod 2 == 1
def ntc (m : DMask) (s holes bits : Int) : Nat → DMask
  | 0 => m
  | k + 1 => if ntB holes bits k = true then joinM (ntc m s holes bits k) (bitM (s + (k : Int))) else ntc m s holes bits k
theorem ntc_yes {m : DMask} {s holes bits : Int} {k : Nat} (h : ntB holes bits k = true) : joinM (ntc m s holes bits k) (bitM (s + (k : Int))) = ntc m s holes bits (k + 1) := by rw [ntc, if_pos h]
theorem ntc_no {m : DMask} {s holes bits : Int} {k : Nat} (h : ntB holes bits k = false) : ntc m s holes bits k = ntc m s holes bits (k + 1) := by rw [ntc, if_neg (by rw [h]; decide)]
/-- The same bit by shifts. -/
theorem ntB_shr {n : Nat} {size : Int} {k : Nat} (hk : (k : Int) < size) : ((((n >>> (size - 1 - (k : Int)).toNat) &&& 1 : Nat) : Int) == 1) = ntB size (n : Int) k := by
  unfold ntB
  have h1 : ((n : Int).tdiv (2 ^ (size - 1 - (k : Int)).toNat)).tmod 2 = (((n >>> (size - 1 - (k : Int)).toNat) &&& 1 : Nat) : Int) := by
    generalize (size - 1 - (k : Int)).toNat = j
    rw [Nat.and_one_is_mod, Nat.shiftRight_eq_div_pow, Int.tdiv_eq_ediv_of_nonneg (by omega), Int.tmod_eq_emod_of_nonneg (Int.ediv_nonneg (by omega) (Int.le_of_lt (Int.pow_pos (by omega))))]
    push_cast
    rfl
  rw [h1]
/-! ### Digits -/
def sumB : List Int := [12, 1, 2, 3, 4, 5, 6, 8, 9, 10]
def pairB : List Int := [24, 20, 18, 17, 12, 10, 9, 6, 5, 3]
def sumHs : List (List Int) := [[0, 1], [3], [2], [2, 3], [1], [1, 3], [1, 2], [0], [0, 3], [0, 2]]
def pairHs : List (List Int) := [[0, 1], [0, 2], [0, 3], [0, 4], [1, 2], [1, 3], [1, 4], [2, 3], [2, 4], [3, 4]]
def digH (k d : Int) : List Int := (if k = 1 then sumHs else pairHs).getD d.toNat []
def digB (k : Int) : List Int := if k = 2 then pairB else sumB
def wid (k : Int) : Int := if k = 2 then 5 else 4
def shf (s : Int) (l : List Int) : List Int := l.map (fun h => s + h)
theorem ntc_dig (m : DMask) (s : Int) {k d b : Int} (hk : k = 1 ∨ k = 2) (hd : 0 ≤ d ∧ d < 10) (hb : (digB k)[d.toNat]? = some b) : ntc m s (wid k) b (wid k).toNat = withM m (shf s (digH k d)) := by
  obtain ⟨n, rfl⟩ : ∃ n : Nat, d = n := ⟨d.toNat, by omega⟩
  have hn : n < 10 := by omega
  rw [toN] at hb
  have key : ∀ (w : Int) (L : List Int) (hs : List Nat), w = 4 ∨ w = 5 → (∀ j, j < w.toNat → ntB w b j = hs.contains j) → (List.range w.toNat).filter (fun j => hs.contains j) = hs → L = hs.map (fun (j : Nat) => (j : Int)) → ntc m s w b w.toNat = withM m (shf s L) := by
    intro w L hs hw h1 h2 h3
    have h4 : ∀ j, j ≤ w.toNat → ntc m s w b j = withM m (shf s (((List.range j).filter (fun j => hs.contains j)).map (fun (j : Nat) => (j : Int)))) := by
      intro j
      induction j with
      | zero => intro _; simp [ntc, withM, shf]
      | succ j ih =>
        intro hj
        rw [ntc, ih (by omega), h1 j (by omega), List.range_succ, List.filter_append, List.filter_cons]
        cases hc : hs.contains j with
        | true => simp [withM, shf, List.foldl_append]
        | false => simp [withM, shf]
    rw [h4 _ (Nat.le_refl _), h2, h3]
  rcases hk with rfl | rfl
  · have hc : ∀ n : Nat, n < 10 → ∀ b, (digB 1)[n]? = some b → ∃ hs : List Nat, (∀ j, j < 4 → ntB 4 b j = hs.contains j) ∧ (List.range 4).filter (fun j => hs.contains j) = hs ∧ digH 1 (n : Int) = hs.map (fun (j : Nat) => (j : Int)) := by
      intro n hn b hb
      refine ⟨(digH 1 (n : Int)).map Int.toNat, ?_⟩
      have : b = ((digB 1)[n]?).getD 0 := by rw [hb]; rfl
      subst this
      revert n
      decide
    obtain ⟨hs, h1, h2, h3⟩ := hc n hn b hb
    exact key 4 _ hs (.inl rfl) h1 h2 h3
  · have hc : ∀ n : Nat, n < 10 → ∀ b, (digB 2)[n]? = some b → ∃ hs : List Nat, (∀ j, j < 5 → ntB 5 b j = hs.contains j) ∧ (List.range 5).filter (fun j => hs.contains j) = hs ∧ digH 2 (n : Int) = hs.map (fun (j : Nat) => (j : Int)) := by
      intro n hn b hb
      refine ⟨(digH 2 (n : Int)).map Int.toNat, ?_⟩
      have : b = ((digB 2)[n]?).getD 0 := by rw [hb]; rfl
      subst this
      revert n
      decide
    obtain ⟨hs, h1, h2, h3⟩ := hc n hn b hb
    exact key 5 _ hs (.inr rfl) h1 h2 h3
theorem digH_in {k d h : Int} (hh : h ∈ digH k d) : 0 ≤ h ∧ h < 5 ∧ (k = 1 → h < 4) := by
  unfold digH at hh
  have h1 : ∀ l ∈ sumHs, ∀ h ∈ l, 0 ≤ h ∧ h < 4 := by decide
  have h2 : ∀ l ∈ pairHs, ∀ h ∈ l, 0 ≤ h ∧ h < 5 := by decide
  rw [List.getD_eq_getElem?_getD] at hh
  split at hh
  · cases hl : sumHs[d.toNat]? with
    | none => rw [hl] at hh; cases hh
    | some l =>
      rw [hl] at hh
      have := h1 l (List.mem_of_getElem? hl) h hh
      omega
  · rename_i hk
    cases hl : pairHs[d.toNat]? with
    | none => rw [hl] at hh; cases hh
    | some l =>
      rw [hl] at hh
      have := h2 l (List.mem_of_getElem? hl) h hh
      exact ⟨this.1, this.2, fun e => absurd e hk⟩
theorem digH_lt {k d h : Int} (hk : k = 1 ∨ k = 2) (hh : h ∈ digH k d) : 0 ≤ h ∧ h < wid k := by
  have h1 := digH_in hh
  rcases hk with hk | hk
  · have := h1.2.2 hk; subst hk; exact ⟨h1.1, this⟩
  · subst hk; exact ⟨h1.1, h1.2.1⟩
theorem digH_len (k d : Int) : (digH k d).length ≤ 2 := by
  unfold digH
  have h1 : ∀ l ∈ sumHs, l.length ≤ 2 := by decide
  have h2 : ∀ l ∈ pairHs, l.length ≤ 2 := by decide
  rw [List.getD_eq_getElem?_getD]
  split
  · cases hl : sumHs[d.toNat]? with
    | none => exact Nat.zero_le _
    | some l => exact h1 l (List.mem_of_getElem? hl)
  · cases hl : pairHs[d.toNat]? with
    | none => exact Nat.zero_le _
    | some l => exact h2 l (List.mem_of_getElem? hl)
theorem digB_get {k d : Int} (hd : 0 ≤ d ∧ d < 10) : ∃ b, (digB k)[d.toNat]? = some b ∧ 0 ≤ b ∧ b < 32 := by
  obtain ⟨n, rfl⟩ : ∃ n : Nat, d = n := ⟨d.toNat, by omega⟩
  have hn : n < 10 := by omega
  rw [toN]
  unfold digB
  split
  · have : ∀ n : Nat, n < 10 → ∃ b, pairB[n]? = some b ∧ 0 ≤ b ∧ b < 32 := by decide +kernel
    exact this n hn
  · have : ∀ n : Nat, n < 10 → ∃ b, sumB[n]? = some b ∧ 0 ≤ b ∧ b < 32 := by decide +kernel
    exact this n hn
/-- The digit at a place. -/
def digA (f : DField) (v : Int) (k : Nat) : Int := (v.tdiv (10 ^ (f.2.2.2 - 1 - (k : Int)).toNat)).tmod 10
/-- What a place's digit notches. -/
def plH (f : DField) (v : Int) (k : Nat) : List Int := shf (f.2.2.1 + wid f.2.1 * (k : Int)) (digH f.2.1 (digA f v k))
def upH (f : DField) (v : Int) (k : Nat) : List Int := (List.range k).flatMap (plH f v)
theorem with_app (m : DMask) (a b : List Int) : withM (withM m a) b = withM m (a ++ b) := by rw [withM, withM, withM, List.foldl_append]
theorem upH_next (m : DMask) (f : DField) (v : Int) (k : Nat) : withM (withM m (upH f v k)) (plH f v k) = withM m (upH f v (k + 1)) := by
  rw [with_app, upH, upH, List.range_succ, List.flatMap_append]; simp
/-- From the last place down. -/
def dnH (f : DField) (v : Int) (n : Nat) : Nat → List Int
  | 0 => []
  | k + 1 => dnH f v n k ++ plH f v (n - 1 - k)
theorem dnH_mem (f : DField) (v : Int) (n : Nat) : ∀ {k : Nat}, k ≤ n → ∀ a, a ∈ dnH f v n k ↔ ∃ j, n - k ≤ j ∧ j < n ∧ a ∈ plH f v j
  | 0, _, a => by
    simp only [dnH, List.not_mem_nil, false_iff]
    rintro ⟨j, h1, h2, _⟩
    omega
  | k + 1, hk, a => by
    rw [dnH, List.mem_append, dnH_mem f v n (by omega)]
    constructor
    · rintro (⟨j, h1, h2, h3⟩ | h)
      · exact ⟨j, by omega, h2, h3⟩
      · exact ⟨n - 1 - k, by omega, by omega, h⟩
    · rintro ⟨j, h1, h2, h3⟩
      by_cases h4 : j = n - 1 - k
      · subst h4; exact .inr h3
      · exact .inl ⟨j, by omega, h2, h3⟩
theorem bit_with (l : List Int) (hl : ∀ h ∈ l, 0 ≤ h ∧ h < 128) : ∀ (m : DMask) {i : Nat}, i < 128 → bitB (withM m l) i = (bitB m i || l.contains (i : Int)) := by
  induction l with
  | nil => intro m i hi; simp [withM]
  | cons h l ih =>
    intro m i hi
    have h1 := hl h (by simp)
    obtain ⟨n, rfl⟩ : ∃ n : Nat, h = n := ⟨h.toNat, by omega⟩
    show bitB (withM (joinM m (bitM (n : Int))) l) i = _
    rw [ih (fun a ha => hl a (by simp [ha])) _ hi, bit_join, bit_bit (by omega) i hi, List.contains_cons, Bool.or_assoc]
    congr 2
    rw [Bool.eq_iff_iff, decide_eq_true_eq, beq_iff_eq]
    omega
theorem with_same {m : DMask} {a b : List Int} (ha : ∀ h ∈ a, 0 ≤ h ∧ h < 128) (hab : ∀ h, h ∈ a ↔ h ∈ b) : withM m a = withM m b := by
  apply mask_ext
  intro i hi
  rw [bit_with a ha m hi, bit_with b (fun h hh => ha h ((hab h).2 hh)) m hi]
  congr 1
  rw [Bool.eq_iff_iff, List.contains_iff_mem, List.contains_iff_mem]
  exact hab _
theorem plH_in {f : DField} (hf : fieldOK f) (hk : f.2.1 = 1 ∨ f.2.1 = 2) {v : Int} {k : Nat} (h : (k : Int) < f.2.2.2) {a : Int} (ha : a ∈ plH f v k) : 0 ≤ a ∧ a < 96 := by
  rw [plH, shf, List.mem_map] at ha
  obtain ⟨d, hd, rfl⟩ := ha
  have h1 := digH_in hd
  have h2 := size_in hf
  unfold widthF at h2
  unfold wid
  rcases hk with hk | hk
  · rw [hk] at h2 ⊢; simp at h2 ⊢; have := h1.2.2 hk; omega
  · rw [hk] at h2 ⊢; simp at h2 ⊢; omega
theorem dig_same {f : DField} (hf : fieldOK f) (hk : f.2.1 = 1 ∨ f.2.1 = 2) {v : Int} {n : Nat} (hn : (n : Int) = f.2.2.2) : withM zM (dnH f v n n) = withM zM (upH f v n) := by
  refine with_same (fun h hh => ?_) (fun h => ?_)
  · rw [dnH_mem f v n (Nat.le_refl _)] at hh
    obtain ⟨j, h1, h2, h3⟩ := hh
    have := plH_in hf hk (by omega) h3
    omega
  · rw [dnH_mem f v n (Nat.le_refl _), upH, List.mem_flatMap]
    constructor
    · rintro ⟨j, h1, h2, h3⟩; exact ⟨j, List.mem_range.2 h2, h3⟩
    · rintro ⟨j, h1, h2⟩; exact ⟨j, by omega, List.mem_range.1 h1, h2⟩
theorem join_zM (x : DMask) : joinM zM x = x := by
  rw [joinM, zM]; simp
theorem kind_12 {f : DField} (h : fieldOK f) (h0 : ¬ f.2.1 = 0) (h3 : ¬ f.2.1 = 3) : f.2.1 = 1 ∨ f.2.1 = 2 := by
  have h1 := h.2.1
  have h2 := h.2.2.1
  omega
theorem wid_in {f : DField} (h : fieldOK f) (hk : f.2.1 = 1 ∨ f.2.1 = 2) : (wid f.2.1 = 4 ∨ wid f.2.1 = 5) ∧ widthF f = wid f.2.1 * f.2.2.2 := by
  unfold wid widthF
  rcases hk with hk | hk <;> rw [hk] <;> simp
theorem wid_mul (k i : Int) (hi : 0 ≤ i ∧ i ≤ 24) : 0 ≤ wid k * i ∧ wid k * i ≤ 120 ∧ i * wid k = wid k * i := by
  refine ⟨?_, ?_, Int.mul_comm _ _⟩ <;> (unfold wid; split <;> omega)
theorem wid_end {f : DField} (h : fieldOK f) (hk : f.2.1 = 1 ∨ f.2.1 = 2) {z : Nat} (hz : (z : Int) < f.2.2.2) : f.2.2.1 + wid f.2.1 * (z : Int) + wid f.2.1 ≤ 96 := by
  have h1 := (size_in h).2.2.2.2.2
  have h2 := (wid_in h hk).2
  have h3 := (wid_in h hk).1
  rcases h3 with h3 | h3 <;> rw [h3] at h2 ⊢ <;> omega
theorem digA_in (f : DField) (v : Nat) (k : Nat) : 0 ≤ digA f (v : Int) k ∧ digA f (v : Int) k < 10 := by
  unfold digA
  have h1 : 0 ≤ (v : Int).tdiv (10 ^ (f.2.2.2 - 1 - (k : Int)).toNat) := Int.tdiv_nonneg (by omega) (Int.le_of_lt (Int.pow_pos (by omega)))
  rw [Int.tmod_eq_emod_of_nonneg h1]
  omega

/-! ### Codes -/
def codeP (f : DField) (m : DMask) : DMask := if (cntM m).tmod 2 = 0 then joinM m (bitM (f.2.2.1 + f.2.2.2)) else m
def codeF (f : DField) (v : Int) : DMask := if f.2.1 = 0 then bitM (f.2.2.1 + v) else if f.2.1 = 3 then codeP f (ntc zM f.2.2.1 f.2.2.2 v f.2.2.2.toNat) else withM zM (upH f v f.2.2.2.toNat)
theorem cf_dir {f : DField} {v : Int} (h : f.2.1 = 0) : bitM (f.2.2.1 + v) = codeF f v := by rw [codeF, if_pos h]
theorem cf_top {f : DField} (hok : fieldOK f) : f.2.1 = 0 → f.2.2.1 + topF f < 96 := by
  intro h
  have := (size_in hok).2.2.2.2.2
  unfold widthF at this
  unfold topF
  rw [h] at this ⊢
  simp at this ⊢
  omega
theorem cf_bin0 {f : DField} {v : Int} (h3 : f.2.1 = 3) (h : (cntM (ntc zM f.2.2.1 f.2.2.2 v f.2.2.2.toNat)).tmod 2 = 0) : joinM (ntc zM f.2.2.1 f.2.2.2 v f.2.2.2.toNat) (bitM (f.2.2.1 + f.2.2.2)) = codeF f v := by
  rw [codeF, if_neg (by omega), if_pos h3, codeP, if_pos h]
theorem cf_bin1 {f : DField} {v : Int} (h3 : f.2.1 = 3) (h : ¬ (cntM (ntc zM f.2.2.1 f.2.2.2 v f.2.2.2.toNat)).tmod 2 = 0) : ntc zM f.2.2.1 f.2.2.2 v f.2.2.2.toNat = codeF f v := by
  rw [codeF, if_neg (by omega), if_pos h3, codeP, if_neg h]
theorem cf_dig {f : DField} {v : Int} {z : Nat} (hok : fieldOK f) (hk : f.2.1 = 1 ∨ f.2.1 = 2) (hz : (z : Int) = f.2.2.2) : withM zM (upH f v z) = codeF f v := by
  rw [codeF, if_neg (by omega), if_neg (by omega), show f.2.2.2.toNat = z by omega]
theorem cf_dig' {f : DField} {v : Int} {z : Nat} (hok : fieldOK f) (hk : f.2.1 = 1 ∨ f.2.1 = 2) (hz : (z : Int) = f.2.2.2) : withM zM (dnH f v z z) = codeF f v := by
  rw [dig_same hok hk hz, cf_dig hok hk hz]
theorem cf_dir0 {f : DField} {v : Int} (h : f.2.1 = 0) : withM zM [f.2.2.1 + v] = codeF f v := by
  rw [← cf_dir h]; exact join_zM _
theorem shl_in {n : Int} (h : 0 ≤ n ∧ n ≤ 12) : (1 : Int) * 2 ^ (min n.toNat IntKind.i64.bits) = 2 ^ n.toNat ∧ 1 ≤ (1 : Int) * 2 ^ (min n.toNat IntKind.i64.bits) ∧ (1 : Int) * 2 ^ (min n.toNat IntKind.i64.bits) ≤ 4096 := by
  have h1 : min n.toNat IntKind.i64.bits = n.toNat := by show min n.toNat 64 = n.toNat; omega
  have h2 := two_pow_le n.toNat (by omega)
  have h3 := (pow_in (b := 2) (by omega) (z := n.toNat) (by omega)).1
  rw [h1]
  omega
theorem digH_sum {k d : Int} (h : k = 1) : sumHs.getD d.toNat [] = digH k d := by rw [digH, if_pos h]
theorem digH_pair {k d : Int} (h : ¬ k = 1) : pairHs.getD d.toNat [] = digH k d := by rw [digH, if_neg h]
theorem wid_quo {f : DField} (h : fieldOK f) (hk : f.2.1 = 1 ∨ f.2.1 = 2) : (widthF f).tdiv f.2.2.2 = wid f.2.1 := by
  have h1 := (size_in h).1
  rw [(wid_in h hk).2]
  exact Int.mul_tdiv_cancel _ (by omega)
theorem digA_at {f : DField} {v z : Nat} (hz : (z : Int) < f.2.2.2) : ((v / 10 ^ z : Nat) : Int).tmod 10 = digA f (v : Int) (f.2.2.2.toNat - 1 - z) := by
  unfold digA
  have h1 : (f.2.2.2 - 1 - ((f.2.2.2.toNat - 1 - z : Nat) : Int)).toNat = z := by omega
  rw [h1, Int.tdiv_eq_ediv_of_nonneg (by omega)]
  push_cast
  rfl
theorem shf_next {m : DMask} {s h : Int} {l : List Int} {y : Nat} (hh : l[Int.toNat ((y : Nat) : Int)]? = some h) : withM (withM m (shf s (l.take y))) [s + h] = withM m (shf s (l.take (y + 1))) := by
  rw [with_app, take_more hh, shf, shf, List.map_append]; rfl
noncomputable def ownI (f : DField) (m : DMask) (v : Nat) : Prop := codeF f (v : Int) ≠ meetM m (partF f)
noncomputable def valS (f : DField) (m : DMask) : Int × Int := @ite _ (meetM m (partF f) = zM) (Classical.propDecidable _) (0, 6) (if pre (ownI f m) (topF f + 1).toNat < (topF f + 1).toNat then ((pre (ownI f m) (topF f + 1).toNat : Int), 0) else (0, 8))
noncomputable def valIn (f : DField) (m : DMask) : Int := if (valS f m).2 = 0 then (valS f m).1 else if (valS f m).2 = 6 then -1 else -2
section
variable {f : DField} {m : DMask} {z : Nat}
theorem valS_none (h : meetM m (partF f) = zM) : valS f m = (0, 6) := by rw [valS, if_pos h]
theorem valS_at (h : ¬ meetM m (partF f) = zM) (hI : ∀ i, i < z → ownI f m i) (hz : (z : Int) ≤ topF f) (h1 : codeF f (z : Int) = meetM m (partF f)) : valS f m = ((z : Int), 0) := by
  have e : pre (ownI f m) (topF f + 1).toNat = z := pre_at hI (fun h => h h1) (by omega)
  rw [valS, if_neg h, e, if_pos (by omega)]
theorem valS_end (h : ¬ meetM m (partF f) = zM) (hI : ∀ i, i < z → ownI f m i) (hz : topF f < (z : Int)) : valS f m = (0, 8) := by
  have e : pre (ownI f m) (topF f + 1).toNat = (topF f + 1).toNat := pre_all (fun i hi => hI i (by omega))
  rw [valS, if_neg h, e, if_neg (Nat.lt_irrefl _)]
theorem valS_code (f : DField) (m : DMask) : (valS f m).2 = 0 ∨ (valS f m).2 = 6 ∨ (valS f m).2 = 8 := by
  unfold valS
  split
  · exact .inr (.inl rfl)
  · split
    · exact .inl rfl
    · exact .inr (.inr rfl)
end
end Go.Proofs.YtfnkphllkbkfaaaGreatDoor.VL
/- Proved here: values with how many cards have them: counted one by one, and out of the sorted list. Plain Lean. -/
set_option linter.unusedVariables false
set_option linter.unusedSimpArgs false
namespace Go.Proofs.YtfnkphllkbkfaaaGreatDoor.VL
open Go
/-! ### Codes -/
section
variable {s : List DField} {x : List DCard} {a b i : Int} {f : DField} {z : Nat}
/-! ### What is told of a field -/
end
section
variable {s : List DField} {x : List DCard} {i : Int} {f : DField} {z : Nat}
end
def szF (f : DField) (l : Int) : Int := szB f.1 l
theorem okSzF : okSz szF (fun f => f.1.size ≤ 1048576) := fun f l hl => szB_in f.1 l hl
end Go.Proofs.YtfnkphllkbkfaaaGreatDoor.VL
/- Proved here: cards that a tree leads to their leaves: told by what comes to each leaf, and by numbers. Plain Lean. -/
set_option linter.unusedVariables false
set_option linter.unusedSimpArgs false
namespace Go.Proofs.YtfnkphllkbkfaaaGreatDoor.VL
open Go
theorem sub_sorted : ∀ {b a : List Int}, a.Pairwise (· < ·) → b.Pairwise (· < ·) → (∀ v ∈ a, v ∈ b) → a.Sublist b
  | [], a, _, _, h => by
    cases a with
    | nil => exact .slnil
    | cons v a => exact absurd (h v (List.mem_cons_self ..)) (by simp)
  | w :: b, [], _, _, _ => List.nil_sublist _
  | w :: b, v :: a, ha, hb, h => by
    obtain ⟨ha1, ha2⟩ := List.pairwise_cons.1 ha
    obtain ⟨hb1, hb2⟩ := List.pairwise_cons.1 hb
    by_cases e : v = w
    · subst e
      refine List.Sublist.cons_cons _ (sub_sorted ha2 hb2 fun u hu => ?_)
      rcases List.mem_cons.1 (h u (List.mem_cons_of_mem _ hu)) with rfl | h1
      · exact absurd (ha1 _ hu) (by omega)
      · exact h1
    · have hv : v ∈ b := (List.mem_cons.1 (h v (List.mem_cons_self ..))).resolve_left e
      have hwv := hb1 v hv
      refine List.Sublist.cons _ (sub_sorted ha hb2 fun u hu => ?_)
      rcases List.mem_cons.1 (h u hu) with rfl | h1
      · rcases List.mem_cons.1 hu with rfl | h2
        · exact absurd rfl e
        · exact absurd (ha1 _ h2) (by omega)
      · exact h1
def lsum (l : List (List Int)) : Nat := (l.map List.length).sum
theorem lsum_le : ∀ {A B : List (List Int)}, A.length = B.length → (∀ (i : Nat) a b, A[i]? = some a → B[i]? = some b → a.Sublist b) → lsum A ≤ lsum B
  | [], [], _, _ => Nat.le_refl _
  | [], _ :: _, h, _ => by cases h
  | _ :: _, [], h, _ => by cases h
  | a :: A, b :: B, hl, h => by
    have h1 := (h 0 a b rfl rfl).length_le
    have h2 := lsum_le (A := A) (B := B) (by simpa using hl) (fun i a b ha hb => h (i + 1) a b (by simpa using ha) (by simpa using hb))
    simp only [lsum, List.map_cons, List.sum_cons] at *
    omega
theorem lsum_eq : ∀ {A B : List (List Int)}, A.length = B.length → (∀ (i : Nat) a b, A[i]? = some a → B[i]? = some b → a.Sublist b) → lsum A = lsum B → A = B
  | [], [], _, _, _ => rfl
  | [], _ :: _, h, _, _ => by cases h
  | _ :: _, [], h, _, _ => by cases h
  | a :: A, b :: B, hl, h, hs => by
    have h0 := h 0 a b rfl rfl
    have h1 := h0.length_le
    have hA : ∀ (i : Nat) a b, A[i]? = some a → B[i]? = some b → a.Sublist b := fun i a b ha hb => h (i + 1) a b (by simpa using ha) (by simpa using hb)
    have hl' : A.length = B.length := by simpa using hl
    have h2 := lsum_le hl' hA
    simp only [lsum, List.map_cons, List.sum_cons] at hs h2
    rw [h0.eq_of_length (by omega), lsum_eq hl' hA (by simp only [lsum]; omega)]
theorem lsum_set : ∀ {A : List (List Int)} {i : Nat} {a : List Int} {v : Int}, A[i]? = some a → lsum (A.set i (a ++ [v])) = lsum A + 1
  | [], i, a, v, h => by simp at h
  | b :: A, 0, a, v, h => by
    simp only [List.getElem?_cons_zero, Option.some.injEq] at h
    subst h
    simp only [List.set_cons_zero, lsum, List.map_cons, List.sum_cons, List.length_append, List.length_cons, List.length_nil]
    omega
  | b :: A, i + 1, a, v, h => by
    have := lsum_set (A := A) (i := i) (a := a) (v := v) (by simpa using h)
    simp only [List.set_cons_succ, lsum, List.map_cons, List.sum_cons] at *
    omega
theorem lsum_rep (n : Nat) : lsum (List.replicate n []) = 0 := by
  induction n with
  | zero => rfl
  | succ n ih => rw [List.replicate_succ]; simp only [lsum, List.map_cons, List.sum_cons, List.length_nil] at *; omega
/-- The values of a card in all fields. -/
noncomputable def valsF (s : List DField) (m : DMask) : List Int := s.map fun f => valIn f m
theorem valsF_next {s : List DField} {m : DMask} {z : Nat} {f : DField} (hf : s[Int.toNat ((z : Nat) : Int)]? = some f) : valsF (s.take z) m ++ [valIn f m] = valsF (s.take (z + 1)) m := by
  rw [toN] at hf
  rw [valsF, valsF, List.take_add_one, hf, List.map_append]
  rfl
theorem valsF_len (s : List DField) (m : DMask) : (valsF s m).length = s.length := by simp [valsF]
noncomputable def leafS (s : List DField) (x : List DKnot) (c : DCard) : Int × Int × Int := wkS x (valsF s c.2)
def ckI (s : List DField) (cs : List DCard) (x : List DKnot) (i : Nat) : Prop := ∃ c k, cs[i]? = some c ∧ (leafS s x c).2.2 = 0 ∧ x[Int.toNat (leafS s x c).1]? = some k ∧ (i : Int) ∈ k.2.2.2
def csum (x : List DKnot) : Int := x.foldl (fun n k => n + (k.2.2.2.length : Int)) 0
def ckOK (s : List DField) (cs : List DCard) (x : List DKnot) : Prop := (∀ i, i < cs.length → ckI s cs x i) ∧ csum x = cs.length
noncomputable def checkS (s : List DField) (cs : List DCard) (x : List DKnot) : Bool × Int := if tt (treeOK x) = true then if tabE s cs = 0 then (tt (ckOK s cs x), 0) else (false, tabE s cs) else (false, 1)
section
variable {s : List DField} {cs : List DCard} {x : List DKnot} {z : Nat} {c : DCard} {k : DKnot}
theorem chk_no (h : tt (treeOK x) = false) : checkS s cs x = (false, 1) := by rw [checkS, if_neg (by rw [h]; decide)]
theorem chk_tab (h : tt (treeOK x) = true) (h1 : tabE s cs ≠ 0) : checkS s cs x = (false, tabE s cs) := by rw [checkS, if_pos h, if_neg h1]
theorem chk_yes (h : tt (treeOK x) = true) (h1 : tabE s cs = 0) : checkS s cs x = (tt (ckOK s cs x), 0) := by rw [checkS, if_pos h, if_pos h1]
theorem ckI_iff (hc : cs[Int.toNat ((z : Nat) : Int)]? = some c) (hk : x[Int.toNat (leafS s x c).1]? = some k) : ckI s cs x z ↔ (leafS s x c).2.2 = 0 ∧ (z : Int) ∈ k.2.2.2 := by
  rw [toN] at hc
  constructor
  · rintro ⟨c', k', h1, h2, h3, h4⟩
    rw [hc] at h1; injection h1 with h1; subst h1
    rw [hk] at h3; injection h3 with h3; subst h3
    exact ⟨h2, h4⟩
  · rintro ⟨h1, h2⟩; exact ⟨c, k, hc, h1, hk, h2⟩
theorem csum_next (hk : x[Int.toNat ((z : Nat) : Int)]? = some k) : csum (x.take z) + (k.2.2.2.length : Int) = csum (x.take (z + 1)) := foldl_next (f := fun n (k : DKnot) => n + (k.2.2.2.length : Int)) hk
theorem csum_fold : ∀ (x : List DKnot) (n : Int), x.foldl (fun n k => n + (k.2.2.2.length : Int)) n = n + (lsum (x.map fun k => k.2.2.2) : Int)
  | [], n => by simp [lsum]
  | k :: x, n => by rw [List.foldl_cons, csum_fold x]; simp only [lsum, List.map_cons, List.sum_cons]; omega
theorem csum_lsum (x : List DKnot) : csum x = (lsum (x.map fun k => k.2.2.2) : Int) := by rw [csum, csum_fold]; omega
theorem csum_in (hx : okKS x) : ∀ z, z ≤ x.length → 0 ≤ csum (x.take z) ∧ csum (x.take z) ≤ z * 1099511627776
  | 0, _ => by simp [csum]
  | z + 1, hz => by
    obtain ⟨k, hk⟩ := getI (x := x) (z := z) (by omega)
    have := csum_in hx z (by omega)
    have h2 := (hx.2 k (mem_getI hk)).2.2
    rw [← csum_next hk]
    omega
/-- What has come to each leaf. -/
noncomputable def comeR (s : List DField) (cs : List DCard) (x : List DKnot) : Nat → List (List Int)
  | 0 => List.replicate x.length []
  | z + 1 => match cs[z]? with
    | some c => (comeR s cs x z).set (Int.toNat (leafS s x c).1) (((comeR s cs x z)[Int.toNat (leafS s x c).1]?.getD []) ++ [(z : Int)])
    | none => comeR s cs x z
theorem come_len : ∀ z, (comeR s cs x z).length = x.length
  | 0 => by simp [comeR]
  | z + 1 => by
    rw [comeR]
    split
    · rw [List.length_set]; exact come_len z
    · exact come_len z
theorem come_next {l : List Int} (hc : cs[Int.toNat ((z : Nat) : Int)]? = some c) (hl : (comeR s cs x z)[Int.toNat (leafS s x c).1]? = some l) : (comeR s cs x z).set (Int.toNat (leafS s x c).1) (l ++ [(z : Int)]) = comeR s cs x (z + 1) := by
  rw [toN] at hc
  rw [comeR, hc]
  simp only [hl, Option.getD_some]
/-- What they are. -/
theorem come_at (hlf : ∀ i, i < z → ∃ c, cs[i]? = some c ∧ (leafS s x c).2.2 = 0 ∧ Int.toNat (leafS s x c).1 < x.length) : ∀ (i : Nat) l, (comeR s cs x z)[i]? = some l →
    l.Pairwise (· < ·) ∧ ∀ v, v ∈ l ↔ ∃ (j : Nat) (c : DCard), v = (j : Int) ∧ j < z ∧ cs[j]? = some c ∧ Int.toNat (leafS s x c).1 = i := by
  induction z with
  | zero =>
    intro i l hl
    rw [comeR, List.getElem?_replicate] at hl
    split at hl
    · injection hl with hl; subst hl
      exact ⟨List.Pairwise.nil, fun v => ⟨fun h => (by cases h), fun ⟨j, c, _, h, _⟩ => (by omega)⟩⟩
    · cases hl
  | succ z ih =>
    intro i l hl
    have ih := ih (fun i hi => hlf i (by omega))
    obtain ⟨c, hc, hcode, hlt⟩ := hlf z (by omega)
    obtain ⟨l0, hl0⟩ : ∃ l0, (comeR s cs x z)[Int.toNat (leafS s x c).1]? = some l0 := ⟨_, List.getElem?_eq_getElem (by rw [come_len]; exact hlt)⟩
    rw [← come_next (by rw [toN]; exact hc) hl0, List.getElem?_set] at hl
    have h0 := ih _ _ hl0
    split at hl
    · rename_i he
      subst he
      rw [if_pos (by rw [come_len]; exact hlt)] at hl
      injection hl with hl; subst hl
      refine ⟨List.pairwise_append.2 ⟨h0.1, List.pairwise_singleton _ _, fun a ha b hb => ?_⟩, fun v => ?_⟩
      · rw [List.mem_singleton] at hb; subst hb
        obtain ⟨j, _, rfl, hj, _⟩ := (h0.2 a).1 ha
        omega
      · rw [List.mem_append, h0.2, List.mem_singleton]
        constructor
        · rintro (⟨j, d, h1, h2, h3⟩ | rfl)
          · exact ⟨j, d, h1, by omega, h3⟩
          · exact ⟨z, c, rfl, by omega, hc, rfl⟩
        · rintro ⟨j, d, rfl, h2, h3, h4⟩
          rcases Nat.lt_or_ge j z with h | h
          · exact .inl ⟨j, d, rfl, h, h3, h4⟩
          · obtain rfl : j = z := by omega
            exact .inr rfl
    · rename_i he
      have h1 := ih i l hl
      refine ⟨h1.1, fun v => (h1.2 v).trans ⟨fun ⟨j, d, h2, h3, h4⟩ => ⟨j, d, h2, by omega, h4⟩, fun ⟨j, d, h2, h3, h4, h5⟩ => ?_⟩⟩
      rcases Nat.lt_or_ge j z with h | h
      · exact ⟨j, d, h2, h, h4, h5⟩
      · obtain rfl : j = z := by omega
        rw [hc] at h4; injection h4 with h4; subst h4
        exact absurd h5 he
theorem come_sum (hlf : ∀ i, i < z → ∃ c, cs[i]? = some c ∧ (leafS s x c).2.2 = 0 ∧ Int.toNat (leafS s x c).1 < x.length) : lsum (comeR s cs x z) = z := by
  induction z with
  | zero => exact lsum_rep _
  | succ z ih =>
    obtain ⟨c, hc, hcode, hlt⟩ := hlf z (by omega)
    obtain ⟨l0, hl0⟩ : ∃ l0, (comeR s cs x z)[Int.toNat (leafS s x c).1]? = some l0 := ⟨_, List.getElem?_eq_getElem (by rw [come_len]; exact hlt)⟩
    rw [← come_next (by rw [toN]; exact hc) hl0, lsum_set hl0, ih (fun i hi => hlf i (by omega))]
theorem leafC_sorted {l : List Int} (h : leafC l) : l.Pairwise (· < ·) := by
  rw [List.pairwise_iff_getElem]
  intro i j hi hj hij
  have step : ∀ n, (hn : i + n < l.length) → 0 < n → l[i] < l[i + n] := by
    intro n
    induction n with
    | zero => intro _ h0; omega
    | succ n ih =>
      intro hn _
      obtain ⟨a, ha, _, _, hb⟩ := h (i + (n + 1)) hn
      obtain ⟨b, hb, hlt⟩ := hb (by omega)
      have e1 : l[i + (n + 1)] = a := (List.getElem?_eq_some_iff.1 ha).2
      have hb' : l[i + n]? = some b := by rw [← hb]; congr 1
      have e2 : l[i + n] = b := (List.getElem?_eq_some_iff.1 hb').2
      rcases Nat.eq_zero_or_pos n with rfl | hp
      · rw [e1]; have : l[i] = b := e2; omega
      · have := ih (by omega) hp
        rw [e1]; omega
  have := step (j - i) (by omega) (by omega)
  have e : i + (j - i) = j := by omega
  simp only [e] at this
  exact this
theorem knot_sorted {p m : Int} (h : knotOK k p m) : k.2.2.2.Pairwise (· < ·) := by
  rcases h with ⟨_, h⟩ | ⟨_, h⟩
  · exact leafC_sorted h.1
  · have : k.2.2.2.length = 0 := h.1.2.2.1
    rw [List.eq_nil_of_length_eq_zero this]
    exact List.Pairwise.nil
def comeI (s : List DField) (cs : List DCard) (x : List DKnot) (i : Nat) : Prop := ∃ k, x[i]? = some k ∧ (comeR s cs x cs.length)[i]? = some k.2.2.2
theorem comeI_iff {l : List Int} (hk : x[Int.toNat ((z : Nat) : Int)]? = some k) (hl : (comeR s cs x cs.length)[Int.toNat ((z : Nat) : Int)]? = some l) : comeI s cs x z ↔ k.2.2.2 = l := by
  rw [toN] at hk hl
  constructor
  · rintro ⟨k', h1, h2⟩
    rw [hk] at h1; injection h1 with h1; subst h1
    rw [hl] at h2; injection h2 with h2; exact h2.symm
  · rintro rfl; exact ⟨k, hk, hl⟩
/-- Both say the same. -/
theorem come_iff (ht : treeOK x) (hlf : ∀ i, i < cs.length → ∃ c, cs[i]? = some c ∧ (leafS s x c).2.2 = 0 ∧ Int.toNat (leafS s x c).1 < x.length) : (∀ i, i < x.length → comeI s cs x i) ↔ ckOK s cs x := by
  have hsum := come_sum hlf
  have hat := come_at hlf
  have hkn : ∀ (i : Nat) k, x[i]? = some k → k.2.2.2.Pairwise (· < ·) := fun i k hk => by
    obtain ⟨k', h1, h2⟩ := ht.2.2.1 i (List.getElem?_eq_some_iff.1 hk).1
    rw [hk] at h1; injection h1 with h1; subst h1
    exact knot_sorted h2
  have heq : (∀ i, i < x.length → comeI s cs x i) ↔ comeR s cs x cs.length = x.map fun k => k.2.2.2 := by
    constructor
    · intro h
      apply List.ext_getElem?
      intro i
      rcases Nat.lt_or_ge i x.length with hi | hi
      · obtain ⟨k, h1, h2⟩ := h i hi
        rw [h2, List.getElem?_map, h1]; rfl
      · rw [List.getElem?_eq_none (by rw [come_len]; exact hi), List.getElem?_eq_none (by rw [List.length_map]; exact hi)]
    · intro h i hi
      refine ⟨x[i], List.getElem?_eq_getElem hi, ?_⟩
      rw [h, List.getElem?_map, List.getElem?_eq_getElem hi]; rfl
  rw [heq]
  constructor
  · intro h
    refine ⟨fun i hi => ?_, by rw [csum_lsum, ← h, hsum]⟩
    obtain ⟨c, hc, hcode, hlt⟩ := hlf i hi
    refine ⟨c, x[Int.toNat (leafS s x c).1], hc, hcode, List.getElem?_eq_getElem hlt, ?_⟩
    have h1 : (comeR s cs x cs.length)[Int.toNat (leafS s x c).1]? = some (x[Int.toNat (leafS s x c).1]).2.2.2 := by rw [h, List.getElem?_map, List.getElem?_eq_getElem hlt]; rfl
    exact ((hat _ _ h1).2 _).2 ⟨i, c, rfl, hi, hc, rfl⟩
  · rintro ⟨h, hs⟩
    refine lsum_eq (by rw [come_len, List.length_map]) (fun i a b ha hb => ?_) (by rw [hsum]; rw [csum_lsum] at hs; omega)
    rw [List.getElem?_map] at hb
    obtain ⟨k, hk, rfl⟩ := Option.map_eq_some_iff.1 hb
    refine sub_sorted (hat _ _ ha).1 (hkn i k hk) fun v hv => ?_
    obtain ⟨j, c, rfl, hj, hc, hi⟩ := ((hat _ _ ha).2 v).1 hv
    obtain ⟨c', k', h1, _, h3, h4⟩ := h j hj
    rw [hc] at h1; injection h1 with h1; subst h1
    rw [hi, hk] at h3; injection h3 with h3; subst h3
    exact h4
end
def lfI (s : List DField) (cs : List DCard) (x : List DKnot) (i : Nat) : Prop := ∃ c, cs[i]? = some c ∧ (leafS s x c).2.2 = 0 ∧ Int.toNat (leafS s x c).1 < x.length
theorem lfI_mk {s : List DField} {cs : List DCard} {x : List DKnot} {z : Nat} {c : DCard} (hc : cs[Int.toNat ((z : Nat) : Int)]? = some c) (h : (leafS s x c).2.2 = 0) (h1 : Int.toNat (leafS s x c).1 < x.length) : lfI s cs x z := ⟨c, by rw [toN] at hc; exact hc, h, h1⟩
theorem lsum_ge : ∀ {A : List (List Int)} {i : Nat} {a : List Int}, A[i]? = some a → a.length ≤ lsum A
  | [], i, a, h => by simp at h
  | b :: A, 0, a, h => by
    simp only [List.getElem?_cons_zero, Option.some.injEq] at h
    subst h
    simp only [lsum, List.map_cons, List.sum_cons]; omega
  | b :: A, i + 1, a, h => by
    have := lsum_ge (A := A) (i := i) (a := a) (by simpa using h)
    simp only [lsum, List.map_cons, List.sum_cons] at *; omega
theorem come_row {s : List DField} {cs : List DCard} {x : List DKnot} {z i : Nat} {l : List Int} (hlf : ∀ i, i < z → lfI s cs x i) (hl : (comeR s cs x z)[i]? = some l) : l.length ≤ z := by
  have h1 := lsum_ge hl
  rw [come_sum (s := s) (cs := cs) (x := x) (z := z) hlf] at h1
  exact h1
theorem any_yes {α : Type} {q : α → Bool} {l : List α} {z : Nat} {a : α} (ha : l[Int.toNat ((z : Nat) : Int)]? = some a) (h : q a = true) : l.any q = true := by
  rw [List.any_eq_true]; exact ⟨a, mem_getI ha, h⟩
theorem any_none {α : Type} {q : α → Bool} {l : List α} {z : Nat} (h : ∀ i, i < z → nI q l i) (hz : l.length ≤ z) : l.any q = false := any_iff.2 (all_end h hz)
theorem any_mem {l : List Int} {v : Int} : (l.any fun b => b == v) = true ↔ v ∈ l := by
  rw [List.any_eq_true]
  constructor
  · rintro ⟨b, hb, he⟩; rw [beq_iff_eq] at he; subst he; exact hb
  · intro h; exact ⟨v, h, beq_iff_eq.2 rfl⟩
end Go.Proofs.YtfnkphllkbkfaaaGreatDoor.VL
