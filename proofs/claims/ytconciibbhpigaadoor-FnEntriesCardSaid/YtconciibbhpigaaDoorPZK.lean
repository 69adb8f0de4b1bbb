/- Proved here: decks that are sorted by passes; cards that are made of values; queries for a value. Plain Lean. -/
import Derived.Test.YtconciibbhpigaaDoorPZE
import Derived.Test.YtconciibbhpigaaDoorPZR
import Derived.Test.YtconciibbhpigaaDoorPZQ
import Derived.Test.YtconciibbhpigaaDoorPZP
import Derived.Test.YtconciibbhpigaaDoorBpa
set_option linter.unusedVariables false
set_option linter.unusedSimpArgs false
namespace Go.Proofs.YtconciibbhpigaaDoor.VL
open Go
/-! ### Passes -/
section
variable {x : List DCard} {h : Int} {z : Nat} {c : DCard} {l : List Int}
end
/-! ### Keys -/
section
variable {f : DField} {m : DMask} {l : List Int} {z : Nat} {x : List DCard}
end
section
variable {x : List DCard} {f : DField} {m : DMask} {s : ByteArray} {v : Int}
end
/-! ### Cards of values -/
section
variable {s : List DField} {n : ByteArray} {vs : List Int} {z : Nat} {f : DField} {v : Int} {m : DMask} {c : DCard}
end
/-! ### Walks of sorting -/
section
variable {f : DField} {z : Nat} {m : DMask}
end
end Go.Proofs.YtconciibbhpigaaDoor.VL
