/- Proved here: budgets and equality of knots. Plain Lean, no program. -/
import Derived.Test.YtcaeabgfgofefaaDoorPC
set_option linter.unusedVariables false
set_option linter.unusedSimpArgs false
namespace Go.Proofs.YtcaeabgfgofefaaDoor.VL
open Go
abbrev DKnot := Int × List Int × List Int × List Int
def okK (x : DKnot) : Prop := x.2.1.length ≤ 1099511627776 ∧ x.2.2.1.length ≤ 1099511627776 ∧ x.2.2.2.length ≤ 1099511627776
def okKS (x : List DKnot) : Prop := x.length ≤ 1099511627776 ∧ ∀ k ∈ x, okK k
def szK (x : DKnot) (l : Int) : Int := if szL x.2.1 l < 0 then -1 else if szL x.2.2.1 (szL x.2.1 l) < 0 then -1 else szL x.2.2.2 (szL x.2.2.1 (szL x.2.1 l))
theorem szK_in (x : DKnot) {l : Int} (hl : 0 ≤ l ∧ l ≤ 1048576) : szK x l ≤ 1048576 ∧ -1 ≤ szK x l ∧ (0 ≤ szK x l → okK x) := by
  unfold szK okK
  have h1 := szL_in x.2.1 hl
  split
  · omega
  · have h2 := szL_in x.2.2.1 (l := szL x.2.1 l) (by omega)
    split
    · omega
    · have h3 := szL_in x.2.2.2 (l := szL x.2.2.1 (szL x.2.1 l)) (by omega)
      omega
def szKs : List DKnot → Int → Int
  | [], l => l
  | k :: r, l => if szK k l < 0 then -1 else szKs r (szK k l)
def szKS (x : List DKnot) (l : Int) : Int := if l - x.length < 0 then -1 else szKs x (l - x.length)
theorem szKs_in : ∀ (x : List DKnot) {l : Int}, 0 ≤ l ∧ l ≤ 1048576 → szKs x l ≤ 1048576 ∧ -1 ≤ szKs x l ∧ (0 ≤ szKs x l → ∀ k ∈ x, okK k)
  | [], l, hl => by unfold szKs; exact ⟨by omega, by omega, fun _ k hk => by cases hk⟩
  | k :: r, l, hl => by
    unfold szKs
    have h1 := szK_in k hl
    split
    · exact ⟨by omega, by omega, fun h => absurd h (by omega)⟩
    · have h2 := szKs_in r (l := szK k l) (by omega)
      refine ⟨h2.1, h2.2.1, fun h k' hk => ?_⟩
      rcases List.mem_cons.1 hk with rfl | hk
      · exact h1.2.2 (by omega)
      · exact h2.2.2 h k' hk
theorem szKS_in (x : List DKnot) {l : Int} (hl : 0 ≤ l ∧ l ≤ 1048576) : szKS x l ≤ 1048576 ∧ -1 ≤ szKS x l ∧ (0 ≤ szKS x l → okKS x) := by
  unfold szKS
  split
  · exact ⟨by omega, by omega, fun h => absurd h (by omega)⟩
  · have h := szKs_in x (l := l - x.length) (by omega)
    exact ⟨h.1, h.2.1, fun h0 => ⟨by omega, h.2.2 h0⟩⟩
section
variable {x : List DKnot} {l : Int} {p : Nat × Int} {a : DKnot}
theorem drop_getI {α : Type} {x : List α} {z : Nat} {a : α} (ha : x[Int.toNat ((z : Nat) : Int)]? = some a) : x.drop z = a :: x.drop (z + 1) := by
  rw [toN] at ha
  obtain ⟨h, rfl⟩ := List.getElem?_eq_some_iff.1 ha
  exact List.drop_eq_getElem_cons h
theorem mem_getI {α : Type} {x : List α} {z : Int} {a : α} (ha : x[Int.toNat z]? = some a) : a ∈ x := List.mem_of_getElem? ha
theorem szKs_step (hI : p.1 ≤ x.length ∧ 0 ≤ p.2 ∧ p.2 ≤ 1048576 ∧ szKs (x.drop p.1) p.2 = szKs x (l - x.length)) (hz : p.1 < x.length) (ha : x[Int.toNat ((p.1 : Nat) : Int)]? = some a) (h : ¬ szK a p.2 < 0) :
    p.1 + 1 ≤ x.length ∧ 0 ≤ szK a p.2 ∧ szK a p.2 ≤ 1048576 ∧ szKs (x.drop (p.1 + 1)) (szK a p.2) = szKs x (l - x.length) := by
  refine ⟨by omega, by omega, (szK_in a ⟨hI.2.1, hI.2.2.1⟩).1, ?_⟩
  rw [← hI.2.2.2, drop_getI ha, szKs, if_neg h]
theorem szKs_ne (hl : ¬ l - x.length < 0) (hI : p.1 ≤ x.length ∧ 0 ≤ p.2 ∧ p.2 ≤ 1048576 ∧ szKs (x.drop p.1) p.2 = szKs x (l - x.length)) (ha : x[Int.toNat ((p.1 : Nat) : Int)]? = some a) (h : szK a p.2 < 0) : -1 = szKS x l := by
  rw [szKS, if_neg hl, ← hI.2.2.2, drop_getI ha, szKs, if_pos h]
theorem szKs_end (hl : ¬ l - x.length < 0) (hI : p.1 ≤ x.length ∧ 0 ≤ p.2 ∧ p.2 ≤ 1048576 ∧ szKs (x.drop p.1) p.2 = szKs x (l - x.length)) (hz : x.length ≤ p.1) : p.2 = szKS x l := by
  rw [szKS, if_neg hl, ← hI.2.2.2, List.drop_of_length_le hz]
  rfl
end
theorem knot_ne {x y : DKnot} (h : x.1 ≠ y.1 ∨ x.2.1 ≠ y.2.1 ∨ x.2.2.1 ≠ y.2.2.1) : false = eqv x y := by
  refine (eqv_ne ?_).symm
  rintro rfl
  simp at h
theorem knot_last {x y : DKnot} (h1 : x.1 = y.1) (h2 : x.2.1 = y.2.1) (h3 : true = eqv x.2.2.1 y.2.2.1) : eqv x.2.2.2 y.2.2.2 = eqv x y := by
  refine eqv_of ?_
  rw [eqv_iff]
  constructor
  · intro h; exact Prod.ext h1 (Prod.ext h2 (Prod.ext (eqv_iff.1 h3.symm) h))
  · rintro rfl; rfl
end Go.Proofs.YtcaeabgfgofefaaDoor.VL
