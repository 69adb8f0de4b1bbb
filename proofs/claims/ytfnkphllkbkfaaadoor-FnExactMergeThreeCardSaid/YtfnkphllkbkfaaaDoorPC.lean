/- Proved here: equality of lists place by place, and copies of lists place by place. Plain Lean, no program. -/
import Derived.Test.YtfnkphllkbkfaaaDoorPB
import Derived.Test.YtfnkphllkbkfaaaDoorVQ
set_option linter.unusedVariables false
set_option linter.unusedSimpArgs false
namespace Go.Proofs.YtfnkphllkbkfaaaDoor.VL
open Go
section
variable {α : Type} {x y : List α} {z : Nat} {a b : α}
theorem getI (h : z < x.length) : ∃ a, x[Int.toNat ((z : Nat) : Int)]? = some a := ⟨x[z], by simp [h]⟩
theorem toN (z : Nat) : Int.toNat ((z : Nat) : Int) = z := rfl
theorem take_more (ha : x[Int.toNat ((z : Nat) : Int)]? = some a) : x.take (z + 1) = x.take z ++ [a] := by
  rw [toN] at ha
  rw [List.take_add_one, ha]; rfl
theorem eqs_step (h : x.take z = y.take z) (ha : x[Int.toNat ((z : Nat) : Int)]? = some a) (hb : y[Int.toNat ((z : Nat) : Int)]? = some b) (e : a = b) : x.take (z + 1) = y.take (z + 1) := by
  rw [take_more ha, take_more hb, h, e]
theorem eqs_ne (ha : x[Int.toNat ((z : Nat) : Int)]? = some a) (hb : y[Int.toNat ((z : Nat) : Int)]? = some b) (e : a ≠ b) : false = eqv x y := by
  refine (eqv_ne ?_).symm
  rintro rfl
  rw [ha] at hb
  exact e (Option.some.inj hb)
theorem eqs_len (h : x.length ≠ y.length) : false = eqv x y := (eqv_ne (fun e => h (by rw [e]))).symm
theorem eqs_all (h : x.take z = y.take z) (hz : x.length ≤ z) (hl : x.length = y.length) : true = eqv x y := by
  rw [List.take_of_length_le hz, List.take_of_length_le (by omega)] at h
  rw [h, eqv_self]
/-- A copy, as far as it has come. -/
def cpy (x : List α) (z : Nat) (d : α) : List α := x.take z ++ List.replicate (x.length - z) d
theorem cpy_get {d : α} (h : z < x.length) : (cpy x z d)[Int.toNat ((z : Nat) : Int)]? = some d := by
  rw [toN, cpy, List.getElem?_append_right (by simp; omega), List.length_take, Nat.min_eq_left (by omega), Nat.sub_self, List.getElem?_replicate, if_pos (by omega)]
theorem cpy_step {d : α} (ha : x[Int.toNat ((z : Nat) : Int)]? = some a) : (cpy x z d).set (Int.toNat ((z : Nat) : Int)) a = cpy x (z + 1) d := by
  have hz : z < x.length := by
    rw [toN] at ha
    exact (List.getElem?_eq_some_iff.1 ha).1
  rw [cpy, cpy, take_more ha, toN, List.set_append_right _ _ (by simp; omega), List.length_take, Nat.min_eq_left (by omega), Nat.sub_self]
  have : x.length - z = (x.length - (z + 1)) + 1 := by omega
  rw [this, List.replicate_succ, List.set_cons_zero, List.append_assoc]
  rfl
theorem cpy_end {d : α} (hz : x.length ≤ z) : cpy x z d = x := by
  rw [cpy, List.take_of_length_le hz, show x.length - z = 0 by omega]
  simp
end
/-! ### Masks -/
section
variable {x y : BitVec 64 × BitVec 64} {z : Nat}
theorem eqM_step (hI : z ≤ 2 ∧ (0 < z → x.1 = y.1) ∧ (1 < z → x.2 = y.2)) (hz : z < 2) (h : (if Int.toNat (z : Int) = 0 then x.1 else x.2) = (if Int.toNat (z : Int) = 0 then y.1 else y.2)) : z + 1 ≤ 2 ∧ (0 < z + 1 → x.1 = y.1) ∧ (1 < z + 1 → x.2 = y.2) := by
  rcases (by omega : z = 0 ∨ z = 1) with rfl | rfl
  · exact ⟨by omega, fun _ => by simpa using h, fun h => by omega⟩
  · exact ⟨by omega, fun _ => hI.2.1 (by omega), fun _ => by simpa using h⟩
theorem eqM_zero (x y : BitVec 64 × BitVec 64) : 0 ≤ 2 ∧ (0 < 0 → x.1 = y.1) ∧ (1 < 0 → x.2 = y.2) := ⟨by omega, fun h => absurd h (by omega), fun h => absurd h (by omega)⟩
theorem eqM_ne (hz : z < 2) (h : (if Int.toNat (z : Int) = 0 then x.1 else x.2) ≠ (if Int.toNat (z : Int) = 0 then y.1 else y.2)) : false = eqv x y := by
  refine (eqv_ne ?_).symm
  rintro rfl
  exact h rfl
theorem eqM_all (hI : z ≤ 2 ∧ (0 < z → x.1 = y.1) ∧ (1 < z → x.2 = y.2)) (hz : ¬ z < 2) : true = eqv x y := by
  rw [show x = y from Prod.ext (hI.2.1 (by omega)) (hI.2.2 (by omega)), eqv_self]
end
/-! ### Answers -/
end Go.Proofs.YtfnkphllkbkfaaaDoor.VL
