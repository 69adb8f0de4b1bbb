/- Proved here: edits of decks. Plain Lean, no program. -/
import Derived.Test.YtfnkphllkbkfaaaDoorPN
import Derived.Test.YtfnkphllkbkfaaaDoorPR
import Derived.Test.YtfnkphllkbkfaaaDoorVY
import Derived.Test.YtfnkphllkbkfaaaDoorPO
set_option linter.unusedVariables false
set_option linter.unusedSimpArgs false
namespace Go.Proofs.YtfnkphllkbkfaaaDoor.VL
open Go
abbrev DEdit := Int × ByteArray × Int × DMask
section
variable {e : DEdit}
end
/-- The card at a place. -/
def cAt (x : List DCard) (k : Int) : DCard := x.getD k.toNat (.empty, zM)
theorem cAt_eq {x : List DCard} {k : Int} {a : DCard} (h : x[Int.toNat k]? = some a) : cAt x k = a := by rw [cAt, List.getD_eq_getElem?_getD, h]; rfl
section
variable {x : List DCard} {e : DEdit} {a : DCard}
end
section
variable {c : BitVec 64} {x : List DCard} {e : DEdit}
end
end Go.Proofs.YtfnkphllkbkfaaaDoor.VL
