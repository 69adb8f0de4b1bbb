/- Proved here: rows of edits, and decks that are merged. Plain Lean, no program. -/
import Derived.Test.YtfnkphllkbkfaaaDoorPP
set_option linter.unusedVariables false
set_option linter.unusedSimpArgs false
namespace Go.Proofs.YtfnkphllkbkfaaaDoor.VL
open Go
/-! ### All of a row -/
section
variable {α : Type} {q : α → Bool} {x : List α} {z : Nat} {a : α}
theorem filter_next (ha : x[Int.toNat ((z : Nat) : Int)]? = some a) : (x.take z).filter q ++ (if q a = true then [a] else []) = (x.take (z + 1)).filter q := by
  rw [take_more ha, List.filter_append, List.filter_cons]; rfl
theorem filter_yes (ha : x[Int.toNat ((z : Nat) : Int)]? = some a) (h : q a = true) : (x.take z).filter q ++ [a] = (x.take (z + 1)).filter q := by rw [← filter_next ha, if_pos h]
theorem filter_no (ha : x[Int.toNat ((z : Nat) : Int)]? = some a) (h : q a = false) : (x.take z).filter q = (x.take (z + 1)).filter q := by rw [← filter_next ha, if_neg (by rw [h]; decide), List.append_nil]
theorem flat_next {β : Type} {f : α → List β} (ha : x[Int.toNat ((z : Nat) : Int)]? = some a) : (x.take z).flatMap f ++ f a = (x.take (z + 1)).flatMap f := by
  rw [take_more ha, List.flatMap_append]; simp
theorem flat_len {β : Type} {f : α → List β} {n : Nat} (h : ∀ a, (f a).length ≤ n) : ∀ x : List α, (x.flatMap f).length ≤ n * x.length
  | [] => by simp
  | a :: x => by
    rw [List.flatMap_cons, List.length_append, List.length_cons, Nat.mul_succ]
    have h1 := flat_len h x
    have h2 := h a
    omega
theorem map_more {β : Type} {f : α → β} (ha : x[Int.toNat ((z : Nat) : Int)]? = some a) : (x.take z).map f ++ [f a] = (x.take (z + 1)).map f := by
  rw [take_more ha, List.map_append]; rfl
end
/-! ### Undoing -/
section
variable {l : List DEdit} {z : Nat} {e : DEdit}
end
/-! ### One edit behind another -/
section
variable {x y : List DCard} {l : List DEdit}
end
/-! ### Edits between decks -/
def hlE (k : Int) (s : ByteArray) (h : Int) : DEdit := (k, s, h, zM)
noncomputable def btA (b : List DCard) (c : DCard) : List DEdit := if findC c.1 b < 0 then [(2, c.1, 0, c.2)] else (hol (lessM c.2 (cAt b (findC c.1 b)).2) 96).map (hlE 4 c.1) ++ (hol (lessM (cAt b (findC c.1 b)).2 c.2) 96).map (hlE 3 c.1)
noncomputable def btN (a : List DCard) (c : DCard) : Bool := decide (findC c.1 a < 0)
def btM (c : DCard) : DEdit := (1, c.1, 0, c.2)
noncomputable def betw (a b : List DCard) : List DEdit := a.flatMap (btA b) ++ (b.filter (btN a)).map btM
theorem btA_no {b : List DCard} {c : DCard} (h : findC c.1 b < 0) : btA b c = [(2, c.1, 0, c.2)] := by rw [btA, if_pos h]
theorem btA_yes {b : List DCard} {c d : DCard} (h : ¬ findC c.1 b < 0) (hd : b[Int.toNat (findC c.1 b)]? = some d) : btA b c = (hol (lessM c.2 d.2) 96).map (hlE 4 c.1) ++ (hol (lessM d.2 c.2) 96).map (hlE 3 c.1) := by rw [btA, if_neg h, cAt_eq hd]
theorem btA_len (b : List DCard) (c : DCard) : (btA b c).length ≤ 192 := by
  unfold btA
  split
  · simp
  · rw [List.length_append, List.length_map, List.length_map]
    have h1 := hol_len (lessM c.2 (cAt b (findC c.1 b)).2) 96
    have h2 := hol_len (lessM (cAt b (findC c.1 b)).2 c.2) 96
    omega
noncomputable def btwS (a b : List DCard) : List DEdit × Int := if (!(tt (deckOK a)) || !(tt (deckOK b))) = true then ([], 1) else if (betw a b).length ≤ 200 then (betw a b, 0) else ([], 3)
section
variable {a b : List DCard}
theorem btw_bad (h : (!(tt (deckOK a)) || !(tt (deckOK b))) = true) : btwS a b = ([], 1) := by rw [btwS, if_pos h]
theorem btw_long (h : (!(tt (deckOK a)) || !(tt (deckOK b))) = false) (h1 : ¬ (betw a b).length ≤ 200) : btwS a b = ([], 3) := by rw [btwS, if_neg (by rw [h]; decide), if_neg h1]
theorem btw_ok (h : (!(tt (deckOK a)) || !(tt (deckOK b))) = false) (h1 : (betw a b).length ≤ 200) : btwS a b = (betw a b, 0) := by rw [btwS, if_neg (by rw [h]; decide), if_pos h1]
theorem btw_len (a b : List DCard) : (btwS a b).1.length ≤ 200 := by
  unfold btwS
  (repeat' split) <;> simp
  omega
theorem decks_two (h : (!(tt (deckOK a)) || !(tt (deckOK b))) = false) : a.length ≤ 80 ∧ b.length ≤ 80 ∧ deckOK a ∧ deckOK b := by
  rw [Bool.or_eq_false_iff, Bool.not_eq_false', Bool.not_eq_false', tt_iff, tt_iff] at h
  exact ⟨h.1.1, h.2.1, h.1, h.2⟩
theorem flatA_len (b : List DCard) (x : List DCard) : (x.flatMap (btA b)).length ≤ 192 * x.length := flat_len (btA_len b) x
end
/-! ### Names of several decks -/
/-! ### States -/
section
variable {base a b : List DCard}
end
section
variable {base a b : List DCard} {s : ByteArray}
end
end Go.Proofs.YtfnkphllkbkfaaaDoor.VL
