/- Proved here: places in lists, and decks. Plain Lean, no program. -/
import Derived.Test.YtcaeabgfgofefaaDoorPG
set_option linter.unusedVariables false
set_option linter.unusedSimpArgs false
namespace Go.Proofs.YtcaeabgfgofefaaDoor.VL
open Go
/-! ### Places -/
section
variable {α : Type} {q : α → Bool} {x : List α} {z : Nat} {a : α}
theorem foldl_next {β : Type} {f : β → α → β} {i : β} (ha : x[Int.toNat ((z : Nat) : Int)]? = some a) : f ((x.take z).foldl f i) a = (x.take (z + 1)).foldl f i := by
  rw [toN] at ha
  rw [List.take_add_one, ha, Option.toList_some, List.foldl_append]; rfl
end
/-! ### Decks -/
/-! ### A deck within another -/
/-! ### Checks -/
end Go.Proofs.YtcaeabgfgofefaaDoor.VL
