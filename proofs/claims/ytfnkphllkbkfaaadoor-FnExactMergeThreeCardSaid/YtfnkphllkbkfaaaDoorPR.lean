/- Proved here: marks of rows of cards, edits, texts and witnesses. Plain Lean, no program. -/
import Derived.Test.YtfnkphllkbkfaaaDoorPM
set_option linter.unusedVariables false
set_option linter.unusedSimpArgs false
namespace Go.Proofs.YtfnkphllkbkfaaaDoor.VL
open Go
section
variable {α : Type} {f : Int → α} {w k : Int} {x : List α} {z n : Nat} {a : α}
def mkL (f : Int → α) (w : Int) (n : Nat) (k : Int) : List α := (List.range n).map fun i => f (k + w * ((i : Nat) : Int))
theorem mkL_len : (mkL f w n k).length = n := by simp [mkL]
theorem mkL_get (h : z < n) : (mkL f w n k)[Int.toNat (z : Int)]? = some (f (k + w * (z : Int))) := by
  rw [toN, mkL, List.getElem?_map, List.getElem?_range h]; rfl
def mkR (f : Int → α) (w : Int) (x : List α) (z : Nat) (k : Int) : List α := mkL f w z k ++ x.drop z
theorem mkR_zero : x = mkR f w x 0 k := by simp [mkR, mkL]
theorem mkR_len (h : z ≤ x.length) : (mkR f w x z k).length = x.length := by
  rw [mkR, List.length_append, mkL_len, List.length_drop]; omega
theorem mkR_step (h : z < x.length) : (mkR f w x z k).set (Int.toNat (z : Int)) (f (k + w * (z : Int))) = mkR f w x (z + 1) k := by
  have hd : x.drop z = x[z] :: x.drop (z + 1) := List.drop_eq_getElem_cons h
  rw [toN, mkR, mkR, List.set_append_right _ _ (by rw [mkL_len]; exact Nat.le_refl z), mkL_len, Nat.sub_self, hd, List.set_cons_zero]
  rw [mkL, mkL, List.range_succ, List.map_append, List.append_assoc]; rfl
theorem mkR_end (h : x.length ≤ z) (h' : z ≤ x.length) : mkR f w x z k = mkL f w x.length k := by
  obtain rfl : z = x.length := by omega
  rw [mkR, List.drop_length, List.append_nil]
theorem set_get {l : List α} (h : z < l.length) (a : α) : (l.set (Int.toNat (z : Int)) a)[Int.toNat (z : Int)]? = some a := by
  rw [toN, List.getElem?_set_self h]
theorem set_len {l : List α} {i : Nat} (a : α) : (l.set i a).length = l.length := List.length_set
end
/-! ### Limbs -/
def mjp (k : Int) : DMask := (BitVec.ofInt 64 k, BitVec.ofInt 64 (k + 1))
def mj (m : DMask) (k : Int) : Nat → DMask
  | 0 => m
  | 1 => (BitVec.ofInt 64 k, m.2)
  | _ => mjp k
theorem mj_step {m : DMask} {k : Int} {j : Nat} (h : j < 2) : (if Int.toNat (j : Int) = 0 then (BitVec.ofInt 64 (k + (j : Int)), (mj m k j).2) else ((mj m k j).1, BitVec.ofInt 64 (k + (j : Int)))) = mj m k (j + 1) := by
  rcases (by omega : j = 0 ∨ j = 1) with rfl | rfl
  · show (BitVec.ofInt 64 (k + ((0 : Nat) : Int)), m.2) = (BitVec.ofInt 64 k, m.2)
    rw [show k + ((0 : Nat) : Int) = k by omega]
  · show (BitVec.ofInt 64 k, BitVec.ofInt 64 (k + ((1 : Nat) : Int))) = mjp k
    rfl
theorem limb_get {k : Int} {j : Nat} (h : j < 2) : (if Int.toNat (j : Int) = 0 then (mjp k).1 else (mjp k).2) = BitVec.ofInt 64 (k + (j : Int)) := by
  rcases (by omega : j = 0 ∨ j = 1) with rfl | rfl
  · show BitVec.ofInt 64 k = _
    rw [show k + ((0 : Nat) : Int) = k by omega]
  · rfl
/-! ### What is written -/
def fC (k : Int) : DCard := (mtx k, mjp (k + 1))
end Go.Proofs.YtfnkphllkbkfaaaDoor.VL
