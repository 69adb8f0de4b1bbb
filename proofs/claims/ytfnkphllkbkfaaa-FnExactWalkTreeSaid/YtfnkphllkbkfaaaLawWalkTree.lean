/- Proved here: the law 'laws.FnExactWalkTree' answers true for every input, and the input reads as it did; no condition. -/
import Derived.Test.YtfnkphllkbkfaaaRows
import Derived.Test.YtfnkphllkbkfaaaWKT
import Derived.Test.YtfnkphllkbkfaaaLF
import Derived.Test.YtfnkphllkbkfaaaBvb
import Derived.WalkKit
import Derived.ProofKit
import Derived.OpenShut
import Derived.ShutString
import Derived.ChangeOld
import Derived.Below
import Derived.SizedLaws
set_option linter.unusedVariables false
set_option linter.unusedSimpArgs false
set_option maxRecDepth 100000
namespace Go.Proofs.Ytfnkphllkbkfaaa.VL
open Go Go.ChangeShapes Go.RowKit Go.ChangeAt Go.WideShapes
theorem lift_fnExactWalkTree (os : Os) (started : os.Started) (H : Type) (enc : TypeId × Value → H) :
    ReturnsInHanded {} Try.checked os 3 .any (Rows.fnExactWalkTreeSpec.pre6 enc Try.prog Try.f3 Rows.fnExactWalkTreeRow.domain false) (Rows.fnExactWalkTreeSpec.post enc Try.prog Try.f3 false true false false) := by
  refine returnsInHanded_of_change_sized (C := Try.checked) own_seat started (by kernel_rfl) Try.func3
    (ChangeSpec.witness6 (enc := enc) (C := Try.checked) false ⟨#[], #[.slice none 0 0, .slice none 0 0], []⟩ 8 (by kernel_rfl) (by kernel_rfl) (by kernel_rfl) (by kernel_rfl)) ?_
  intro W base args ds gs before hval0 hW hcnd hsz0 _
  have hval : ∀ (j : Nat) t v, Try.f3.params[j]? = some t → args[j]? = some v → Value.okWide Try.prog W .any base t v := hval0
  have hW' := hW
  obtain ⟨p, q, hA0, hV, rfl, hfz, hnd⟩ := hW
  have hA : DataW.TrodAll enc Try.prog W 0 (fun _ => true) true Try.f3.params.toList args.toList ds p := hA0
  obtain ⟨rfl, rfl⟩ := trodVars_none hV
  have hsz : (DataW.weightsEach Try.prog (Try.f3.params.toList ++ []) (ds ++ [])).all (· ≤ reachBytes) = true := hsz0
  rw [Try.params3] at hA hval hsz
  obtain ⟨v0, vs0, d0, ds0, p0, q0, hargs, rfl, rfl, h0, r0⟩ := trodAll_cons hA
  obtain ⟨v1, vs1, d1, ds1, p1, q1, rfl, rfl, rfl, h1, r1⟩ := trodAll_cons r0
  obtain ⟨rfl, rfl, rfl⟩ := trodAll_nil r1
  obtain rfl : args = #[v0, v1] := by cases args; simp_all
  simp only [List.cons_append, List.nil_append, DataW.weightsEach, List.all_append, List.append_nil, Bool.and_eq_true] at hsz
  obtain ⟨x0, e0, s0⟩ := KT.arg (KT.slice (B := 80) Try.underlying22 (by kernel_rfl) (KT.struct Try.underlying39 (by kernel_rfl) (KTs.cons rfl (KT.int Try.underlying36 (by kernel_rfl)) (KTs.cons rfl (KT.slice (B := 8) Try.underlying23 (by kernel_rfl) (KT.int Try.underlying2 (by kernel_rfl)) (by kernel_rfl)) (KTs.cons rfl (KT.slice (B := 2) Try.underlying37 (by kernel_rfl) (KT.int Try.underlying36 (by kernel_rfl)) (by kernel_rfl)) (KTs.one rfl (KT.slice (B := 8) Try.underlying23 (by kernel_rfl) (KT.int Try.underlying2 (by kernel_rfl)) (by kernel_rfl))))))) (by kernel_rfl)) (by kernel_rfl) (hval 0 22 v0 rfl rfl) h0 hsz.1
  obtain ⟨x1, e1, s1⟩ := KT.arg (KT.slice (B := 8) Try.underlying23 (by kernel_rfl) (KT.int Try.underlying2 (by kernel_rfl)) (by kernel_rfl)) (by kernel_rfl) (hval 1 23 v1 rfl rfl) h1 hsz.2
  refine law_calls (ins := [.cel (Kd.slice kKnot) x0, .cel (Kd.slice (Kd.int .i64)) x1]) (by kernel_rfl) (by kernel_rfl) rfl rfl Try.underlying4 ⟨rfl, rfl, rfl⟩ hW' (c_laws_FnExactWalkTree x0 x1 ).1 (fun h => h.elim) rfl ?_
  intro i
  match i with
  | 0 => exact e0
  | 1 => exact e1
  | n + 2 => exact fun b hb => hb
theorem closed_fnExactWalkTree : joinedFacts Try.prog 3 Try.f3 Rows.fnExactWalkTreeSpec Rows.fnExactWalkTreeRow = true :=
  joinedFacts_of (by kernel_rfl) (by kernel_rfl) (by kernel_rfl) (by kernel_rfl) (by kernel_rfl) (by kernel_rfl) may_seat lift_seat make_seat (by kernel_rfl)
theorem over_fnExactWalkTree : Rows.fnExactWalkTreeRow.holds Try.pinned (OpenSpec.ofChange Rows.fnExactWalkTreeSpec) :=
  OpenClaim.holds_of_wide 3 Try.f3 rfl rfl rfl rfl rfl rfl rfl ⟨rfl, rfl, rfl, rfl, rfl⟩ rfl rfl rfl rfl rfl (by kernel_rfl) Try.func3 closed_fnExactWalkTree
    (of_decide_eq_true (by kernel_rfl)) (by unfold Func.isWrapper; first | (rw [if_pos (by decide +kernel)]; kernel_rfl) | (rw [if_neg (by decide +kernel)]; exact ⟨rfl, rfl⟩))
    (fun os started H enc _ => lift_fnExactWalkTree os started H enc)

end Go.Proofs.Ytfnkphllkbkfaaa.VL
namespace Go.Proofs.Ytfnkphllkbkfaaa
/-- The row. -/
theorem fnExactWalkTree_holds : Rows.FnExactWalkTreeSaid := VL.over_fnExactWalkTree
#print axioms fnExactWalkTree_holds
end Go.Proofs.Ytfnkphllkbkfaaa
