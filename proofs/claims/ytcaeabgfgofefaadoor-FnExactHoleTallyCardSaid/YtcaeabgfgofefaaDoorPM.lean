/- Proved here: lists of holes, marks that are written into rows, and the text of a mark. Plain Lean, no program. -/
import Derived.Test.YtcaeabgfgofefaaDoorPL
import Derived.Test.YtcaeabgfgofefaaDoorVU
set_option linter.unusedVariables false
set_option linter.unusedSimpArgs false
namespace Go.Proofs.YtcaeabgfgofefaaDoor.VL
open Go
/-! ### Holes -/
def hol (m : DMask) (z : Nat) : List Int := ((List.range z).filter (bitB m)).map fun (h : Nat) => (h : Int)
theorem hol_yes {m : DMask} {z : Nat} (h : hasM m (z : Int) = true) (hz : z < 128) : hol m z ++ [(z : Int)] = hol m (z + 1) := by
  rw [hasM_bit m hz] at h
  rw [hol, hol, List.range_succ, List.filter_append, List.filter_cons, h]; simp
theorem hol_no {m : DMask} {z : Nat} (h : hasM m (z : Int) = false) (hz : z < 128) : hol m z = hol m (z + 1) := by
  rw [hasM_bit m hz] at h
  rw [hol, hol, List.range_succ, List.filter_append, List.filter_cons, h]; simp
theorem hol_mem {m : DMask} {z : Nat} {a : Int} (h : a ∈ hol m z) : 0 ≤ a ∧ a < z := by
  rw [hol, List.mem_map] at h
  obtain ⟨i, hi, rfl⟩ := h
  rw [List.mem_filter, List.mem_range] at hi
  omega
theorem hol_len (m : DMask) (z : Nat) : (hol m z).length ≤ z := by
  rw [hol, List.length_map]
  exact Nat.le_trans (List.length_filter_le _ _) (by simp)
theorem hol_count (m : DMask) : ∀ {z : Nat} {h : Nat}, (hol m z).count (h : Int) = if h < z ∧ bitB m h = true then 1 else 0
  | 0, h => by simp [hol]
  | z + 1, h => by
    have ih := hol_count m (z := z) (h := h)
    have e : hol m (z + 1) = hol m z ++ (if bitB m z = true then [(z : Int)] else []) := by
      rw [hol, hol, List.range_succ, List.filter_append, List.map_append]
      congr 1
      rw [List.filter_cons]
      split <;> rfl
    rw [e, List.count_append, ih]
    by_cases hz : h = z
    · subst hz
      rw [if_neg (by omega)]
      split
      · rename_i hb; rw [if_pos ⟨by omega, hb⟩]; simp
      · rename_i hb; rw [if_neg (fun h' => hb h'.2)]; simp
    · have h0 : (if bitB m z = true then [(z : Int)] else []).count (h : Int) = 0 := by
        split
        · rw [List.count_eq_zero]; simp; omega
        · rfl
      rw [h0, Nat.add_zero]
      congr 1
      simp only [eq_iff_iff]
      constructor
      · exact fun h' => ⟨by omega, h'.2⟩
      · exact fun h' => ⟨by omega, h'.2⟩
def holsL (x : List DCard) : List Int := x.flatMap fun c => hol c.2 96
theorem hols_next {x : List DCard} {z : Nat} {a : DCard} (ha : x[Int.toNat ((z : Nat) : Int)]? = some a) : holsL (x.take z) ++ hol a.2 96 = holsL (x.take (z + 1)) := by
  rw [toN] at ha
  rw [holsL, holsL, List.take_add_one, ha, Option.toList_some, List.flatMap_append]; simp
theorem hols_len (x : List DCard) : (holsL x).length ≤ 96 * x.length := by
  induction x with
  | nil => simp [holsL]
  | cons c x ih =>
    rw [holsL, List.flatMap_cons, List.length_append, List.length_cons]
    have := hol_len c.2 96
    unfold holsL at ih
    omega
theorem hols_count (h : Nat) (hh : h < 96) : ∀ (x : List DCard) (n : Int), x.foldl (fun n c => if hasH (h : Int) c = true then n + 1 else n) n = n + ((holsL x).count (h : Int) : Int)
  | [], n => by simp [holsL]
  | c :: x, n => by
    rw [List.foldl_cons, hols_count h hh x, holsL, holsL, List.flatMap_cons, List.count_append, hol_count]
    unfold hasH
    rw [hasM_bit c.2 (by omega)]
    split
    · rename_i hb; rw [if_pos ⟨hh, hb⟩]; omega
    · rename_i hb; rw [if_neg (fun h' => hb h'.2)]; omega
theorem hols_end (x : List DCard) : cntL 0 96 (holsL x) = tally x 96 := by
  rw [cntL, tally]
  apply List.map_congr_left
  intro h hh
  rw [List.mem_range] at hh
  unfold cntH cntQ
  rw [hols_count h hh]
  simp
theorem talS_len (x : List DCard) : (talS x).1.length ≤ 96 := by
  unfold talS
  split
  · rw [tally_len]; omega
  · exact Nat.zero_le _
/-! ### Marks -/
def mrk (n : Nat) (k : Int) : List Int := (List.range n).map fun i => k + ((i : Nat) : Int)
theorem mrk_len (n : Nat) (k : Int) : (mrk n k).length = n := by simp [mrk]
theorem mrk_get {n z : Nat} {k : Int} (h : z < n) : (mrk n k)[Int.toNat (z : Int)]? = some (k + (z : Int)) := by
  rw [toN, mrk, List.getElem?_map, List.getElem?_range h]; rfl
def markI (x : List Int) (z : Nat) (k : Int) : List Int := mrk z k ++ x.drop z
theorem markI_len {x : List Int} {z : Nat} {k : Int} (h : z ≤ x.length) : (markI x z k).length = x.length := by
  rw [markI, List.length_append, mrk_len, List.length_drop]; omega
theorem markI_step {x : List Int} {z : Nat} {k : Int} (h : z < x.length) : (markI x z k).set (Int.toNat (z : Int)) (k + (z : Int)) = markI x (z + 1) k := by
  have hd : x.drop z = x[z] :: x.drop (z + 1) := List.drop_eq_getElem_cons h
  rw [toN, markI, markI, List.set_append_right _ _ (by rw [mrk_len]; exact Nat.le_refl z), mrk_len, Nat.sub_self, hd, List.set_cons_zero]
  rw [mrk, mrk, List.range_succ, List.map_append, List.append_assoc]; rfl
theorem markI_end {x : List Int} {z : Nat} {k : Int} (h : x.length ≤ z) (h' : z ≤ x.length) : markI x z k = mrk x.length k := by
  obtain rfl : z = x.length := by omega
  rw [markI, List.drop_length, List.append_nil]
/-! ### The text of a mark -/
theorem tmod10 (n : Nat) : 0 ≤ (n : Int).tmod 10 ∧ (n : Int).tmod 10 < 10 := by
  rw [Int.tmod_eq_emod_of_nonneg (by omega)]; omega
theorem tdiv10 (n : Nat) : (n : Int).tdiv 10 = ((n / 10 : Nat) : Int) := by
  rw [Int.tdiv_eq_ediv_of_nonneg (by omega)]; omega
def mtd (n : Nat) (s : ByteArray) : ByteArray := if h : n = 0 then s else mtd (n / 10) (bOf [48 + (n : Int).tmod 10] ++ s)
termination_by n
decreasing_by omega
theorem mtd_zero (s : ByteArray) : mtd 0 s = s := by rw [mtd, dif_pos rfl]
theorem mtd_more {n : Nat} (h : 0 < n) (s : ByteArray) : mtd n s = mtd (n / 10) (bOf [48 + (n : Int).tmod 10] ++ s) := by rw [mtd, dif_neg (by omega)]
def mtx (k : Int) : ByteArray := if k ≤ 0 then ⟨#[109, 48]⟩ else ⟨#[109]⟩ ++ mtd k.toNat .empty
theorem bOf_one (a : Int) (s : ByteArray) : (bOf [a] ++ s).size = s.size + 1 := by
  rw [ByteArray.size_append, bOf_size]; simp; omega
end Go.Proofs.YtcaeabgfgofefaaDoor.VL
