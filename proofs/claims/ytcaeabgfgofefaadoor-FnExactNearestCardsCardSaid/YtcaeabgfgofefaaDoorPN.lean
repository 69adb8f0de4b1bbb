/- Proved here: the nearest cards. Plain Lean, no program. -/
import Derived.Test.YtcaeabgfgofefaaDoorPM
set_option linter.unusedVariables false
set_option linter.unusedSimpArgs false
namespace Go.Proofs.YtcaeabgfgofefaaDoor.VL
open Go
def dst (m : DMask) (c : DCard) : Int := distM c.2 m
def mnS (a d : Int) : Int := if a < 0 ∨ d < a then d else a
def mnD (m : DMask) (x : List DCard) (z : Nat) : Int := (x.take z).foldl (fun a c => mnS a (dst m c)) (-1)
theorem dst_in (m : DMask) (c : DCard) : 0 ≤ dst m c ∧ dst m c ≤ 256 := by
  unfold dst distM
  have h1 := cntM_in (lessM c.2 m)
  have h2 := cntM_in (lessM m c.2)
  omega
section
variable {m : DMask} {x : List DCard} {z : Nat} {c : DCard}
theorem mnD_next (hc : x[Int.toNat ((z : Nat) : Int)]? = some c) : mnS (mnD m x z) (dst m c) = mnD m x (z + 1) := foldl_next (f := fun a (c : DCard) => mnS a (dst m c)) hc
theorem mnD_in : ∀ {z : Nat}, z ≤ x.length → -1 ≤ mnD m x z ∧ mnD m x z ≤ 256 ∧ (0 < z → 0 ≤ mnD m x z)
  | 0, _ => by simp [mnD]
  | z + 1, h => by
    obtain ⟨c, hc⟩ := getI (x := x) (z := z) (by omega)
    rw [← mnD_next hc]
    have h1 := mnD_in (z := z) (by omega)
    have h2 := dst_in m c
    unfold mnS
    split <;> omega
theorem mnD_le : ∀ {z : Nat}, z ≤ x.length → ∀ i c, i < z → x[i]? = some c → mnD m x z ≤ dst m c
  | 0, _, i, c, hi, _ => absurd hi (Nat.not_lt_zero i)
  | z + 1, h, i, c, hi, hc => by
    obtain ⟨b, hb⟩ := getI (x := x) (z := z) (by omega)
    rw [← mnD_next hb]
    unfold mnS
    rcases Nat.lt_or_ge i z with h1 | h1
    · have ih := mnD_le (z := z) (by omega) i c h1 hc
      have := (mnD_in (m := m) (z := z) (x := x) (by omega)).2.2 (by omega)
      split <;> omega
    · obtain rfl : i = z := by omega
      rw [toN, hc] at hb
      obtain rfl := Option.some.inj hb
      split <;> omega
theorem mnD_min (hz : 0 < z) (hl : z ≤ x.length) (hc : x[Int.toNat ((z : Nat) : Int)]? = some c) : min (mnD m x z) (distM c.2 m) = mnD m x (z + 1) := by
  rw [← mnD_next hc]
  have := (mnD_in (m := m) hl).2.2 hz
  unfold mnS dst
  split <;> omega
theorem mnD_one (hc : x[Int.toNat 0]? = some c) : distM c.2 m = mnD m x 1 := by
  have := mnD_next (m := m) (z := 0) (x := x) (c := c) (by simpa using hc)
  rw [← this]; simp [mnD, mnS, dst]
/-- The places whose cards have a distance. -/
def nea (m : DMask) (x : List DCard) (v : Int) (z : Nat) : List Int := ((List.range z).filter fun i => match x[i]? with | some c => dst m c == v | none => false).map fun (i : Nat) => (i : Int)
theorem nea_len (v : Int) : (nea m x v z).length ≤ z := by
  rw [nea, List.length_map]
  exact Nat.le_trans (List.length_filter_le _ _) (by simp)
theorem nea_yes {v : Int} (hc : x[Int.toNat ((z : Nat) : Int)]? = some c) (h : dst m c = v) : nea m x v z ++ [(z : Int)] = nea m x v (z + 1) := by
  rw [toN] at hc
  rw [nea, nea, List.range_succ, List.filter_append, List.filter_cons, hc]
  simp [h]
theorem nea_no {v : Int} (hc : x[Int.toNat ((z : Nat) : Int)]? = some c) (h : ¬ dst m c = v) : nea m x v z = nea m x v (z + 1) := by
  rw [toN] at hc
  rw [nea, nea, List.range_succ, List.filter_append, List.filter_cons, hc]
  simp [h]
theorem nea_none {v : Int} (h : ∀ i c, i < z → x[i]? = some c → ¬ dst m c = v) : nea m x v z = [] := by
  rw [nea, List.map_eq_nil_iff, List.filter_eq_nil_iff]
  intro i hi
  rw [List.mem_range] at hi
  cases hx : x[i]? with
  | none => simp
  | some c => have := h i c hi hx; simpa using this
/-- A new least distance. -/
theorem nea_new (hl : z < x.length) (hc : x[Int.toNat ((z : Nat) : Int)]? = some c) (h : mnD m x z < 0 ∨ dst m c < mnD m x z) : dst m c = mnD m x (z + 1) ∧ [(z : Int)] = nea m x (mnD m x (z + 1)) (z + 1) := by
  have e : dst m c = mnD m x (z + 1) := by rw [← mnD_next hc, mnS, if_pos h]
  refine ⟨e, ?_⟩
  rw [← e, ← nea_yes hc rfl, nea_none, List.nil_append]
  intro i b hi hb
  have h1 := mnD_le (m := m) (z := z) (by omega) i b hi hb
  have h2 := (mnD_in (m := m) (z := z) (x := x) (by omega)).2.2 (by omega)
  omega
theorem nea_same (hc : x[Int.toNat ((z : Nat) : Int)]? = some c) (h : ¬ (mnD m x z < 0 ∨ dst m c < mnD m x z)) : mnD m x z = mnD m x (z + 1) := by rw [← mnD_next hc, mnS, if_neg h]
end
noncomputable def neaS (x : List DCard) (m : DMask) : List Int × Int × Int :=
  if (!(tt (deckOK x)) || !(okM m)) = true then ([], 0, 1) else if x.length = 0 then ([], 0, 6) else (nea m x (mnD m x x.length) x.length, mnD m x x.length, 0)
theorem neaS_bad {x : List DCard} {m : DMask} (h : (!(tt (deckOK x)) || !(okM m)) = true) : neaS x m = ([], 0, 1) := by rw [neaS, if_pos h]
theorem neaS_none {x : List DCard} {m : DMask} (h : (!(tt (deckOK x)) || !(okM m)) = false) (h0 : x.length = 0) : neaS x m = ([], 0, 6) := by rw [neaS, if_neg (by rw [h]; decide), if_pos h0]
theorem neaS_yes {x : List DCard} {m : DMask} (h : (!(tt (deckOK x)) || !(okM m)) = false) (h0 : ¬ x.length = 0) : neaS x m = (nea m x (mnD m x x.length) x.length, mnD m x x.length, 0) := by rw [neaS, if_neg (by rw [h]; decide), if_neg h0]
theorem neaS_len (x : List DCard) (m : DMask) : (neaS x m).1.length ≤ 80 := by
  unfold neaS
  split
  · simp
  · split
    · simp
    · rename_i h _
      have h1 := nea_len (m := m) (x := x) (z := x.length) (mnD m x x.length)
      have := deck_bad (Bool.eq_false_iff.2 h)
      exact Nat.le_trans h1 this
end Go.Proofs.YtcaeabgfgofefaaDoor.VL
