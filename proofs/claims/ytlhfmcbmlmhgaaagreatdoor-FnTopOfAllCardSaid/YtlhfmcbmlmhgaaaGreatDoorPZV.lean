/- Proved here: what the law of all decks says. Plain Lean. -/
import Derived.Test.YtlhfmcbmlmhgaaaGreatDoorPZW
set_option linter.unusedVariables false
set_option linter.unusedSimpArgs false
namespace Go.Proofs.YtlhfmcbmlmhgaaaGreatDoor.VL
open Go
section
variable {x a b : List DCard} {f : DField} {q : DQuery} {i : Nat} {c d : DCard}
theorem sort_zero (h : (sortS x f).2 = 0) : deckOK x ∧ fieldOK f ∧ sortS x f = (manyP x (sortH f), 0) := by
  by_cases h1 : (!(tt (deckOK x)) || !(tt (fieldOK f))) = true
  · rw [sortS_no h1] at h; exact absurd h (by decide)
  · rw [Bool.not_eq_true] at h1
    have h2 := df_ok h1
    exact ⟨h2.1, h2.2, sortS_yes h1⟩
theorem sort_law (hx : deckOK x) (hf : fieldOK f) : isoS (manyP x (sortH f)) f = (true, 0) ∧ sameC (manyP x (sortH f)) x = (true, 0) ∧ (manyP x (sortH f)).length = x.length ∧ deckOK (manyP x (sortH f)) := by
  have hp := many_perm (sortH f) x
  have hd := perm_deck hx hp
  have h7 : tt (ordA f (manyP x (sortH f))) = true := tt_iff.2 (sort_isA hx)
  exact ⟨by rw [isoS_yes (df_of hd hf), h7], perm_same hx hp, hp.length_eq, hd⟩
theorem find_is (hx : deckOK x) (hc : c ∈ x) : findS x c.1 = (findC c.1 x, 0) := findS_yes (tt_iff.2 hx) (fun h => findC_neg.1 h c hc rfl)
theorem key_is (hf : fieldOK f) (hc : cardOK c) : keyS f c.2 = (keyF f c.2, 0) := keyS_yes (by rw [tt_iff.2 hf, hc.2]; rfl)
theorem sort_pair (hx : deckOK x) (hf : fieldOK f) (hi : 1 ≤ i) (hc : (manyP x (sortH f))[Int.toNat ((i : Int) - 1)]? = some c) (hd : (manyP x (sortH f))[Int.toNat ((i : Nat) : Int)]? = some d) :
    keyS f c.2 = (keyF f c.2, 0) ∧ keyS f d.2 = (keyF f d.2, 0) ∧ findS x c.1 = (findC c.1 x, 0) ∧ findS x d.1 = (findC d.1 x, 0) ∧ (decide (keyF f c.2 > keyF f d.2) || (keyF f c.2 == keyF f d.2) && decide (findC c.1 x ≥ findC d.1 x)) = false := by
  have hp := many_perm (sortH f) x
  rw [show Int.toNat ((i : Int) - 1) = i - 1 by omega] at hc
  rw [toN] at hd
  have hcm := hp.mem_iff.1 (List.mem_of_getElem? hc)
  have hdm := hp.mem_iff.1 (List.mem_of_getElem? hd)
  refine ⟨key_is hf (deck_card hx hcm), key_is hf (deck_card hx hdm), find_is hx hcm, find_is hx hdm, ?_⟩
  obtain ⟨h1, e1⟩ := List.getElem?_eq_some_iff.1 hc
  obtain ⟨h2, e2⟩ := List.getElem?_eq_some_iff.1 hd
  have h3 := List.pairwise_iff_getElem.1 (sort_ord (f := f) hx) (i - 1) i h1 h2 (by omega)
  rw [e1, e2] at h3
  rw [Bool.or_eq_false_iff, Bool.and_eq_false_iff, decide_eq_false_iff_not, decide_eq_false_iff_not, beq_eq_false_iff_ne]
  omega
theorem mk_zero (h : (mkA x q).2 = 0) : deckOK x ∧ queryOK q = true := by
  unfold mkA at h
  split at h
  · exact absurd h (by decide)
  · rename_i h1
    rw [Bool.not_eq_true, Bool.or_eq_false_iff, Bool.not_eq_false', Bool.not_eq_false', tt_iff] at h1
    exact h1
theorem mk_law (h : (mkA x q).2 = 0) : checkA x (mkA x q).1 = (true, 0) := by
  obtain ⟨h1, h2⟩ := mk_zero h
  obtain ⟨a1, a2, _⟩ := ans_law h1 h2
  rw [a1]; exact a2
theorem btw_zero (h : (btwS a b).2 = 0) : deckOK a ∧ deckOK b ∧ (betw a b).length ≤ 200 ∧ btwS a b = (betw a b, 0) := by
  by_cases h1 : (!(tt (deckOK a)) || !(tt (deckOK b))) = true
  · rw [btw_bad h1] at h; exact absurd h (by decide)
  · rw [Bool.not_eq_true] at h1
    by_cases h2 : (betw a b).length ≤ 200
    · have h3 := decks_two h1
      exact ⟨h3.2.2.1, h3.2.2.2, h2, btw_ok h1 h2⟩
    · rw [btw_long h1 h2] at h; exact absurd h (by decide)
end
end Go.Proofs.YtlhfmcbmlmhgaaaGreatDoor.VL
