/- Proved here: how many bits of a word are set: by the words' own sums, and by halving. Plain Lean, no program. -/
import Derived.Test.YtfnkphllkbkfaaaDoorVN
set_option linter.unusedVariables false
namespace Go.Proofs.YtfnkphllkbkfaaaDoor.VL
open Go
def dsum (B : Nat) : Nat → Nat → Nat
  | 0, _ => 0
  | n + 1, x => x % B + dsum B n (x / B)
/-- All digits are at most c. -/
def dle (B c : Nat) : Nat → Nat → Prop
  | 0, x => x = 0
  | n + 1, x => x % B ≤ c ∧ dle B c n (x / B)
theorem last {z : Nat} (h : dle 256 8 8 z) : (z + z / 256 + (z + z / 256) / 65536 + (z + z / 256 + (z + z / 256) / 65536) / 4294967296) % 128 = dsum 256 8 z := by
  simp only [dle, Nat.div_div_eq_div_mul] at h
  obtain ⟨h0, h1, h2, h3, h4, h5, h6, h7, h8⟩ := h
  simp only [dsum, Nat.div_div_eq_div_mul]
  simp only [Nat.reduceMul] at *
  obtain ⟨a0, e0⟩ : ∃ d, d = z % 256 := ⟨_, rfl⟩
  obtain ⟨a1, e1⟩ : ∃ d, d = z / 256 % 256 := ⟨_, rfl⟩
  obtain ⟨a2, e2⟩ : ∃ d, d = z / 65536 % 256 := ⟨_, rfl⟩
  obtain ⟨a3, e3⟩ : ∃ d, d = z / 16777216 % 256 := ⟨_, rfl⟩
  obtain ⟨a4, e4⟩ : ∃ d, d = z / 4294967296 % 256 := ⟨_, rfl⟩
  obtain ⟨a5, e5⟩ : ∃ d, d = z / 1099511627776 % 256 := ⟨_, rfl⟩
  obtain ⟨a6, e6⟩ : ∃ d, d = z / 281474976710656 % 256 := ⟨_, rfl⟩
  obtain ⟨a7, e7⟩ : ∃ d, d = z / 72057594037927936 % 256 := ⟨_, rfl⟩
  rw [← e0] at h0 ⊢
  rw [← e1] at h1 ⊢
  rw [← e2] at h2 ⊢
  rw [← e3] at h3 ⊢
  rw [← e4] at h4 ⊢
  rw [← e5] at h5 ⊢
  rw [← e6] at h6 ⊢
  rw [← e7] at h7 ⊢
  have hz : z = a0 + 256 * a1 + 65536 * a2 + 16777216 * a3 + 4294967296 * a4 + 1099511627776 * a5 + 281474976710656 * a6 + 72057594037927936 * a7 := by omega
  clear e0 e1 e2 e3 e4 e5 e6 e7 h8
  subst hz
  have f1 : (a0 + 256 * a1 + 65536 * a2 + 16777216 * a3 + 4294967296 * a4 + 1099511627776 * a5 + 281474976710656 * a6 + 72057594037927936 * a7) / 256 = a1 + 256 * a2 + 65536 * a3 + 16777216 * a4 + 4294967296 * a5 + 1099511627776 * a6 + 281474976710656 * a7 := by omega
  rw [f1]
  have f2 : (a0 + 256 * a1 + 65536 * a2 + 16777216 * a3 + 4294967296 * a4 + 1099511627776 * a5 + 281474976710656 * a6 + 72057594037927936 * a7 + (a1 + 256 * a2 + 65536 * a3 + 16777216 * a4 + 4294967296 * a5 + 1099511627776 * a6 + 281474976710656 * a7)) / 65536 = (a2 + a3) + 256 * (a3 + a4) + 65536 * (a4 + a5) + 16777216 * (a5 + a6) + 4294967296 * (a6 + a7) + 1099511627776 * a7 := by omega
  rw [f2]
  have f3 : (a0 + 256 * a1 + 65536 * a2 + 16777216 * a3 + 4294967296 * a4 + 1099511627776 * a5 + 281474976710656 * a6 + 72057594037927936 * a7 + (a1 + 256 * a2 + 65536 * a3 + 16777216 * a4 + 4294967296 * a5 + 1099511627776 * a6 + 281474976710656 * a7) + ((a2 + a3) + 256 * (a3 + a4) + 65536 * (a4 + a5) + 16777216 * (a5 + a6) + 4294967296 * (a6 + a7) + 1099511627776 * a7)) / 4294967296 = (a4 + a5 + a6 + a7) + 256 * (a5 + a6 + a7) + 65536 * (a6 + a7) + 16777216 * a7 := by clear f1 f2; omega
  rw [f3]
  clear f1 f2 f3
  omega

end Go.Proofs.YtfnkphllkbkfaaaDoor.VL
