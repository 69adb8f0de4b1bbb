/- Proved here: for every part and whole, the program's ShareOf returns the reference's share and code. No condition. -/
import Derived.Test.YtdjbdaidnlbhhaaPFnExactShareOfx1
namespace Go.Proofs.Ytdjbdaidnlbhhaa.Pure
open Go.RowKit Go.Proofs.Ytdjbdaidnlbhhaa.PFnExactShareOf Go.Proofs.YtdjbdaidnlbhhaaW.PrintWords Go.Proofs.YtdjbdaidnlbhhaaW.PrintLast

/-- Both loops come to the same number, above 0 where one of both numbers is. -/
theorem gcd_both (d : Nat) : ∀ (a b : Int) (k : Nat), 0 ≤ a → 0 ≤ b → 0 < a + b → b ≤ d → d < k →
    ∃ r, 0 < r ∧ spec_l06Gcd.l0 k a b = some r ∧ impl_gcd.l0 k a b = some r := by
  induction d with
  | zero =>
    intro a b k ha hb hab hd hk
    obtain ⟨k, rfl⟩ : ∃ m, k = m + 1 := ⟨k - 1, by omega⟩
    have h0 : b = 0 := by omega
    subst h0
    refine ⟨a, by omega, ?_, ?_⟩
    · simp only [spec_l06Gcd.l0, if_true]
    · simp only [impl_gcd.l0]; rw [if_neg (by omega)]
  | succ d ih =>
    intro a b k ha hb hab hd hk
    obtain ⟨k, rfl⟩ : ∃ m, k = m + 1 := ⟨k - 1, by omega⟩
    by_cases h0 : b = 0
    · subst h0
      refine ⟨a, by omega, ?_, ?_⟩
      · simp only [spec_l06Gcd.l0, if_true]
      · simp only [impl_gcd.l0]; rw [if_neg (by omega)]
    · have h1 : 0 ≤ Int.tmod a b := Int.tmod_nonneg b ha
      have h2 : Int.tmod a b < b := Int.tmod_lt_of_pos a (by omega)
      obtain ⟨r, hr, h3, h4⟩ := ih b (Int.tmod a b) k hb h1 (by omega) (by omega) (by omega)
      refine ⟨r, hr, ?_, ?_⟩
      · simp only [spec_l06Gcd.l0]; rw [if_neg h0]; exact h3
      · simp only [impl_gcd.l0]; rw [if_pos (by omega), if_neg h0]; exact h4

theorem eq_share (x y : Int) : laws_eqShare.f x y x y = some true := by
  unfold laws_eqShare.f; rw [if_pos rfl, if_pos rfl]

theorem FnExactShareOf : laws_FnExactShareOf.Pure := by
  intro a b _ _
  by_cases hg : 1 ≤ b ∧ b ≤ 1000000000 ∧ 0 ≤ a ∧ a ≤ b
  · obtain ⟨h1, h2, h3, h4⟩ := hg
    obtain ⟨r, hr, hs, hi⟩ := gcd_both b.toNat a b (b.toNat + 1) h3 (by omega) (by omega) (by omega) (by omega)
    have hS : spec_ShareOf.f (b.toNat + 1) a b = some (wrap64 (Int.tdiv a r), wrap64 (Int.tdiv b r), 0) := by
      unfold spec_ShareOf.f spec_l00In.f spec_l06Share.f spec_l06Gcd.f
      rw [hs]
      simp only [ge_iff_le, h1, h2, h3, h4, if_true, decide_true, Option.bind_some]
      rw [if_neg (by omega)]
      rfl
    have hI : impl_ShareOf.f (b.toNat + 1) a b = some (wrap64 (Int.tdiv a r), wrap64 (Int.tdiv b r), 0) := by
      unfold impl_ShareOf.f impl_shareOf.f impl_gcd.f
      rw [hi, if_neg (by omega), if_neg (by omega), if_neg (by omega), if_neg (by omega)]
      simp only [Option.bind_some]
      rw [if_neg (by omega)]
      rfl
    refine ⟨b.toNat + 1, ?_⟩
    unfold laws_FnExactShareOf.f
    rw [hS, hI]
    simp only [Option.bind_some, eq_share, if_true]
  · have hS : spec_ShareOf.f 0 a b = some (0, 0, 2) := by
      unfold spec_ShareOf.f spec_l00In.f
      by_cases h1 : b ≥ 1
      · by_cases h2 : b ≤ 1000000000
        · by_cases h3 : a ≥ 0
          · have h4 : ¬ a ≤ b := fun h => hg ⟨h1, h2, h3, h⟩
            simp [h1, h2, h3, h4]
          · simp [h1, h2, h3]
        · simp [h1, h2]
      · simp [h1]
    have hI : impl_ShareOf.f 0 a b = some (0, 0, 2) := by
      unfold impl_ShareOf.f
      by_cases h1 : b < 1
      · rw [if_pos h1]
      · rw [if_neg h1]
        by_cases h2 : b > 1000000000
        · rw [if_pos h2]
        · rw [if_neg h2]
          by_cases h3 : a < 0
          · rw [if_pos h3]
          · rw [if_neg h3, if_pos (by omega)]
    refine ⟨0, ?_⟩
    unfold laws_FnExactShareOf.f
    rw [hS, hI]
    simp only [Option.bind_some, eq_share, if_true]

end Go.Proofs.Ytdjbdaidnlbhhaa.Pure
