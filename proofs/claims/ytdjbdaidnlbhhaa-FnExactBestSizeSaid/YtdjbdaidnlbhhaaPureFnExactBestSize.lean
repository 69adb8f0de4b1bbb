/- Proved here: for all five arguments, the program's BestSize returns the reference's size and code. No condition. -/
import Derived.Test.YtdjbdaidnlbhhaaPFnExactBestSizex2
namespace Go.Proofs.Ytdjbdaidnlbhhaa.Pure
open Go.RowKit Go.Proofs.Ytdjbdaidnlbhhaa.PFnExactBestSize Go.Proofs.YtdjbdaidnlbhhaaW.PrintWords Go.Proofs.YtdjbdaidnlbhhaaW.PrintLast

theorem wrap_id {x : Int} (h0 : -9223372036854775808 ≤ x) (h1 : x ≤ 9223372036854775807) : wrap64 x = x := by
  unfold wrap64; omega

/-- A part of a number up to a billion. -/
theorem part_of (e m d : Int) (he0 : 0 ≤ e) (he1 : e ≤ 1000000000) (hm0 : 0 ≤ m) (hmd : m ≤ d) (hd : 1 ≤ d) (hd1 : d ≤ 1000000000) :
    0 ≤ wrap64 (Int.tdiv (wrap64 (e * wrap64 m)) d) ∧ wrap64 (Int.tdiv (wrap64 (e * wrap64 m)) d) ≤ 1000000000 := by
  have hem0 : 0 ≤ e * m := Int.mul_nonneg he0 hm0
  have hem1 : e * m ≤ 1000000000 * d := Int.mul_le_mul he1 hmd hm0 (by omega)
  have hw : wrap64 m = m := wrap_id (by omega) (by omega)
  rw [hw, wrap_id (x := e * m) (by omega) (by omega), Int.tdiv_eq_ediv_of_nonneg hem0]
  have h0 : 0 ≤ e * m / d := Int.ediv_nonneg hem0 (by omega)
  have h1 : e * m / d ≤ 1000000000 := by
    have : e * m / d ≤ 1000000000 * d / d := Int.ediv_le_ediv (by omega) hem1
    rwa [Int.mul_ediv_cancel _ (by omega)] at this
  rw [wrap_id (by omega) (by omega)]
  exact ⟨h0, h1⟩

theorem chance_l1 (per asked e : Int) (hn : per * asked ≤ 96) (hn0 : 0 ≤ per * asked) (he0 : 0 ≤ e) (he1 : e ≤ 1000000000) (d : Nat) : ∀ (k : Nat) (out i : Int),
    0 ≤ out → out ≤ 1000000000 → 0 ≤ i → i ≤ per * asked → per * asked - i = d → d < k →
    ∃ r, 0 ≤ r ∧ r ≤ 1000000000 ∧ spec_l06Chance.l1 k per asked e out i = some r ∧ impl_falseChance.l1 k e out (wrap64 (per * asked)) i = some r := by
  induction d with
  | zero =>
    intro k out i h0 h1 hi0 hi1 hd hk
    obtain ⟨k, rfl⟩ : ∃ m, k = m + 1 := ⟨k - 1, by omega⟩
    have hw : wrap64 (per * asked) = per * asked := wrap_id (by omega) (by omega)
    refine ⟨out, h0, h1, ?_, ?_⟩
    · simp only [spec_l06Chance.l1]; rw [hw, if_neg (by omega)]
    · simp only [impl_falseChance.l1]; rw [hw, if_neg (by omega)]
  | succ d ih =>
    intro k out i h0 h1 hi0 hi1 hd hk
    obtain ⟨k, rfl⟩ : ∃ m, k = m + 1 := ⟨k - 1, by omega⟩
    have hw : wrap64 (per * asked) = per * asked := wrap_id (by omega) (by omega)
    have hp := part_of out (1000000000 - e) 1000000000 h0 h1 (by omega) (by omega) (by omega) (by omega)
    have hi : wrap64 (i + 1) = i + 1 := wrap_id (by omega) (by omega)
    obtain ⟨r, hr0, hr1, hs, hm⟩ := ih k _ (i + 1) hp.1 hp.2 (by omega) (by omega) (by omega) (by omega)
    refine ⟨r, hr0, hr1, ?_, ?_⟩
    · simp only [spec_l06Chance.l1]; rw [hw, if_pos (by omega), hi]; exact hs
    · simp only [impl_falseChance.l1]; rw [if_pos (by omega), hi]; exact hm

theorem chance_l0 (size per asked words : Int) (hn : per * asked ≤ 96) (hn0 : 0 ≤ per * asked) (hp0 : 0 ≤ per) (hps : per ≤ size) (hs0 : 1 ≤ size) (hs1 : size ≤ 1000) (hw1 : words ≤ 200) (d : Nat) : ∀ (k : Nat) (e i : Int),
    0 ≤ e → e ≤ 1000000000 → 0 ≤ i → i ≤ words → words - i = d → d + 100 < k →
    ∃ r, 0 ≤ r ∧ r ≤ 1000000000 ∧ spec_l06Chance.l0 k size per words asked e i = some r ∧ impl_falseChance.l0 k size per asked e words i = some r := by
  induction d with
  | zero =>
    intro k e i h0 h1 hi0 hi1 hd hk
    obtain ⟨k, rfl⟩ : ∃ m, k = m + 1 := ⟨k - 1, by omega⟩
    obtain ⟨r, hr0, hr1, hs, hm⟩ := chance_l1 per asked e hn hn0 h0 h1 (per * asked).toNat k 1000000000 0 (by omega) (by omega) (by omega) hn0 (by omega) (by omega)
    refine ⟨r, hr0, hr1, ?_, ?_⟩
    · simp only [spec_l06Chance.l0]; rw [if_neg (by omega)]; exact hs
    · simp only [impl_falseChance.l0]; rw [if_neg (by omega)]; exact hm
  | succ d ih =>
    intro k e i h0 h1 hi0 hi1 hd hk
    obtain ⟨k, rfl⟩ : ∃ m, k = m + 1 := ⟨k - 1, by omega⟩
    have hp := part_of e (size - per) size h0 h1 (by omega) (by omega) (by omega) (by omega)
    have hi : wrap64 (i + 1) = i + 1 := wrap_id (by omega) (by omega)
    obtain ⟨r, hr0, hr1, hs, hm⟩ := ih k _ (i + 1) hp.1 hp.2 (by omega) (by omega) (by omega) (by omega)
    refine ⟨r, hr0, hr1, ?_, ?_⟩
    · simp only [spec_l06Chance.l0]; rw [if_pos (by omega), if_neg (by omega), hi]; exact hs
    · simp only [impl_falseChance.l0]; rw [if_pos (by omega), if_neg (by omega), hi]; exact hm

theorem chance_both (size per words asked : Int) (hp1 : 1 ≤ per) (hp8 : per ≤ 8) (hps : per ≤ size) (hs1 : size ≤ 1000) (hw0 : 0 ≤ words) (hw1 : words ≤ 200) (ha0 : 0 ≤ asked) (ha : asked ≤ 12) (k : Nat) (hk : words.toNat + 100 < k) :
    ∃ r, 0 ≤ r ∧ r ≤ 1000000000 ∧ spec_l06Chance.f k size per words asked = some r ∧ impl_falseChance.f k size per words asked = some r := by
  have hn0 : 0 ≤ per * asked := Int.mul_nonneg (by omega) ha0
  have hn : per * asked ≤ 8 * 12 := Int.mul_le_mul hp8 ha ha0 (by omega)
  exact chance_l0 size per asked words (by omega) hn0 (by omega) hps (by omega) hs1 hw1 words.toNat k 1000000000 0 (by omega) (by omega) (by omega) hw0 (by omega) hk

theorem best_l0 (per words asked most chance : Int) (hp1 : 1 ≤ per) (hp8 : per ≤ 8) (hw0 : 0 ≤ words) (hw1 : words ≤ 100) (ha0 : 0 ≤ asked) (ha : asked ≤ 12) (hm : most ≤ 96) (d : Nat) : ∀ (k : Nat) (x : Int),
    per ≤ x → x ≤ 97 → 97 - x = d → d + 210 < k →
    ∃ r, spec_BestSize.l0 k per words asked most chance x = some r ∧ impl_BestSize.l0 k per words asked most chance x = some r := by
  induction d with
  | zero =>
    intro k x h0 h1 hd hk
    obtain ⟨k, rfl⟩ : ∃ m, k = m + 1 := ⟨k - 1, by omega⟩
    refine ⟨(0, 6), ?_, ?_⟩
    · simp only [spec_BestSize.l0]; rw [if_neg (by omega)]
    · simp only [impl_BestSize.l0]; rw [if_neg (by omega)]
  | succ d ih =>
    intro k x h0 h1 hd hk
    obtain ⟨k, rfl⟩ : ∃ m, k = m + 1 := ⟨k - 1, by omega⟩
    by_cases hx : x ≤ most
    · obtain ⟨c, _, _, hs, hi⟩ := chance_both x per words asked hp1 hp8 h0 (by omega) hw0 (by omega) ha0 ha k (by omega)
      by_cases hc : c ≤ chance
      · refine ⟨(x, 0), ?_, ?_⟩
        · simp only [spec_BestSize.l0]; rw [if_pos hx, hs]; simp only [Option.bind_some]; rw [if_pos hc]
        · simp only [impl_BestSize.l0]; rw [if_pos hx, hi]; simp only [Option.bind_some]; rw [if_pos hc]
      · have hw : wrap64 (x + 1) = x + 1 := wrap_id (by omega) (by omega)
        obtain ⟨r, h2, h3⟩ := ih k (x + 1) (by omega) (by omega) (by omega) (by omega)
        refine ⟨r, ?_, ?_⟩
        · simp only [spec_BestSize.l0]; rw [if_pos hx, hs]; simp only [Option.bind_some]; rw [if_neg hc, hw]; exact h2
        · simp only [impl_BestSize.l0]; rw [if_pos hx, hi]; simp only [Option.bind_some]; rw [if_neg hc, hw]; exact h3
    · refine ⟨(0, 6), ?_, ?_⟩
      · simp only [spec_BestSize.l0]; rw [if_neg hx]
      · simp only [impl_BestSize.l0]; rw [if_neg hx]

theorem in_yes {x a b : Int} (h : a ≤ x) (h' : x ≤ b) : spec_l00In.f x a b = some true := by
  unfold spec_l00In.f; rw [if_pos h, decide_eq_true h']
theorem in_no {x a b : Int} (h : ¬ (a ≤ x ∧ x ≤ b)) : spec_l00In.f x a b = some false := by
  unfold spec_l00In.f
  by_cases h1 : x ≥ a
  · rw [if_pos h1, decide_eq_false (fun h2 => h ⟨h1, h2⟩)]
  · rw [if_neg h1]

theorem FnExactBestSize : laws_FnExactBestSize.Pure := by
  intro per words asked most chance _ _ _ _ _
  refine ⟨400, ?_⟩
  have same : ∀ r, spec_BestSize.f 400 per words asked most chance = some r → impl_BestSize.f 400 per words asked most chance = some r → laws_FnExactBestSize.f 400 per words asked most chance = some true := by
    intro r h1 h2
    unfold laws_FnExactBestSize.f
    rw [h1, h2]
    simp
  have jS : spec_BestSize.j0 400 per words asked most chance true = some (0, 2) := by simp only [spec_BestSize.j0, if_true]
  have jI : impl_BestSize.j0 400 per words asked most chance true = some (0, 2) := by simp only [impl_BestSize.j0, if_true]
  by_cases h1 : 1 ≤ per ∧ per ≤ 8
  case neg =>
    refine same (0, 2) ?_ ?_
    · unfold spec_BestSize.f; rw [in_no h1]; simp only [Option.bind_some]; rw [if_neg (by simp)]; exact jS
    · unfold impl_BestSize.f
      by_cases h : per < 1
      · rw [if_pos h]; exact jI
      · rw [if_neg h, if_pos (by omega)]; exact jI
  by_cases h2 : 0 ≤ words ∧ words ≤ 100
  case neg =>
    refine same (0, 2) ?_ ?_
    · unfold spec_BestSize.f; rw [in_yes h1.1 h1.2]; simp only [Option.bind_some, if_true]; rw [in_no h2]; simp only [Option.bind_some]; rw [if_neg (by simp)]; exact jS
    · unfold impl_BestSize.f
      rw [if_neg (by omega), if_neg (by omega)]
      by_cases h : words < 0
      · rw [if_pos h]; exact jI
      · rw [if_neg h, if_pos (by omega)]; exact jI
  by_cases h3 : 0 ≤ asked ∧ asked ≤ 12
  case neg =>
    refine same (0, 2) ?_ ?_
    · unfold spec_BestSize.f; rw [in_yes h1.1 h1.2]; simp only [Option.bind_some, if_true]; rw [in_yes h2.1 h2.2]; simp only [Option.bind_some, if_true]; rw [in_no h3]; simp only [Option.bind_some]; rw [if_neg (by simp)]; exact jS
    · unfold impl_BestSize.f
      rw [if_neg (by omega), if_neg (by omega), if_neg (by omega), if_neg (by omega)]
      by_cases h : asked < 0
      · rw [if_pos h]; exact jI
      · rw [if_neg h, if_pos (by omega)]; exact jI
  by_cases h4 : 4 ≤ most ∧ most ≤ 96
  case neg =>
    refine same (0, 2) ?_ ?_
    · unfold spec_BestSize.f; rw [in_yes h1.1 h1.2]; simp only [Option.bind_some, if_true]; rw [in_yes h2.1 h2.2]; simp only [Option.bind_some, if_true]; rw [in_yes h3.1 h3.2]; simp only [Option.bind_some, if_true]; rw [in_no h4]; simp only [Option.bind_some]; rw [if_neg (by simp)]; exact jS
    · unfold impl_BestSize.f
      rw [if_neg (by omega), if_neg (by omega), if_neg (by omega), if_neg (by omega), if_neg (by omega), if_neg (by omega)]
      by_cases h : most < 4
      · rw [if_pos h]; exact jI
      · rw [if_neg h, if_pos (by omega)]; exact jI
  by_cases h5 : 0 ≤ chance ∧ chance ≤ 1000000000
  case neg =>
    refine same (0, 2) ?_ ?_
    · unfold spec_BestSize.f; rw [in_yes h1.1 h1.2]; simp only [Option.bind_some, if_true]; rw [in_yes h2.1 h2.2]; simp only [Option.bind_some, if_true]; rw [in_yes h3.1 h3.2]; simp only [Option.bind_some, if_true]; rw [in_yes h4.1 h4.2]; simp only [Option.bind_some, if_true]; rw [in_no h5]; exact jS
    · unfold impl_BestSize.f
      rw [if_neg (by omega), if_neg (by omega), if_neg (by omega), if_neg (by omega), if_neg (by omega), if_neg (by omega), if_neg (by omega), if_neg (by omega)]
      by_cases h : chance < 0
      · rw [if_pos h]; exact jI
      · rw [if_neg h, decide_eq_true (by omega)]; exact jI
  obtain ⟨x, hx, hxp, hx97⟩ : ∃ x, mx 4 (wrap64 (2 * per)) = x ∧ per ≤ x ∧ x ≤ 97 := by
    refine ⟨_, rfl, ?_, ?_⟩ <;> rw [wrap_id (x := 2 * per) (by omega) (by omega)] <;> unfold mx <;> split <;> omega
  have hmax : spec_l00Max.f 4 (wrap64 (2 * per)) = some x := by
    rw [← hx, wrap_id (x := 2 * per) (by omega) (by omega)]
    unfold spec_l00Max.f mx
    by_cases h : (4 : Int) > 2 * per
    · rw [if_pos h, if_neg (by omega)]
    · rw [if_neg h]; split
      · rfl
      · congr 1; omega
  obtain ⟨r, hs, hi⟩ := best_l0 per words asked most chance h1.1 h1.2 h2.1 h2.2 h3.1 h3.2 h4.2 (97 - x).toNat 399 x hxp hx97 (by omega) (by omega)
  refine same r ?_ ?_
  · unfold spec_BestSize.f; rw [in_yes h1.1 h1.2]; simp only [Option.bind_some, if_true]; rw [in_yes h2.1 h2.2]; simp only [Option.bind_some, if_true]; rw [in_yes h3.1 h3.2]; simp only [Option.bind_some, if_true]; rw [in_yes h4.1 h4.2]; simp only [Option.bind_some, if_true]; rw [in_yes h5.1 h5.2]
    simp only [Option.bind_some, spec_BestSize.j0]; rw [if_neg (by simp), hmax]; exact hs
  · unfold impl_BestSize.f
    rw [if_neg (by omega), if_neg (by omega), if_neg (by omega), if_neg (by omega), if_neg (by omega), if_neg (by omega), if_neg (by omega), if_neg (by omega), if_neg (by omega), decide_eq_false (by omega)]
    simp only [impl_BestSize.j0]; rw [if_neg (by simp), hx]; exact hi

end Go.Proofs.Ytdjbdaidnlbhhaa.Pure
