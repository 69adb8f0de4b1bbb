/- Proved here: the law 'laws.FnExactMeanAsked' answers true for every input, and the input reads as it did; no condition. -/
import Derived.Test.YtdjbdaidnlbhhaaRows
import Derived.Test.YtdjbdaidnlbhhaaWI
import Derived.Test.YtdjbdaidnlbhhaaVO
import Derived.WalkKit
import Derived.ProofKit
import Derived.OpenShut
import Derived.ShutString
import Derived.ChangeOld
import Derived.Below
import Derived.SizedLaws
set_option linter.unusedVariables false
set_option linter.unusedSimpArgs false
set_option maxRecDepth 100000
namespace Go.Proofs.Ytdjbdaidnlbhhaa.VL
open Go Go.ChangeShapes Go.RowKit Go.ChangeAt Go.WideShapes
theorem own_fnExactMeanAsked : ownKnob Try.prog.godebug = none := by kernel_rfl
theorem lift_fnExactMeanAsked (os : Os) (started : os.Started) (H : Type) (enc : TypeId × Value → H) :
    ReturnsInHanded {} Try.checked os 12 .any (Rows.fnExactMeanAskedSpec.pre6 enc Try.prog Try.f12 Rows.fnExactMeanAskedRow.domain false) (Rows.fnExactMeanAskedSpec.post enc Try.prog Try.f12 false true false false) := by
  refine returnsInHanded_of_change_sized (C := Try.checked) own_fnExactMeanAsked started (by kernel_rfl) Try.func12
    (ChangeSpec.witness6 (enc := enc) (C := Try.checked) false ⟨#[], #[.slice none 0 0], []⟩ 8 (by kernel_rfl) (by kernel_rfl) (by kernel_rfl) (by kernel_rfl)) ?_
  intro W base args ds gs before hval0 hW hcnd hsz0 _
  have hval : ∀ (j : Nat) t v, Try.f12.params[j]? = some t → args[j]? = some v → Value.okWide Try.prog W .any base t v := hval0
  have hW' := hW
  obtain ⟨p, q, hA0, hV, rfl, hfz, hnd⟩ := hW
  have hA : DataW.TrodAll enc Try.prog W 0 (fun _ => true) true Try.f12.params.toList args.toList ds p := hA0
  obtain ⟨rfl, rfl⟩ := trodVars_none hV
  have hsz : (DataW.weightsEach Try.prog (Try.f12.params.toList ++ []) (ds ++ [])).all (· ≤ reachBytes) = true := hsz0
  rw [Try.params12] at hA hval hsz
  obtain ⟨v0, vs0, d0, ds0, p0, q0, hargs, rfl, rfl, h0, r0⟩ := trodAll_cons hA
  obtain ⟨rfl, rfl, rfl⟩ := trodAll_nil r0
  obtain rfl : args = #[v0] := by cases args; simp_all
  simp only [List.cons_append, List.nil_append, DataW.weightsEach, List.all_append, List.append_nil, Bool.and_eq_true] at hsz
  obtain ⟨x0, e0, s0⟩ := KT.arg (KT.slice (B := 80) Try.underlying63 (by kernel_rfl) (KT.struct Try.underlying103 (by kernel_rfl) (KTs.cons rfl (KT.int Try.underlying31 (by kernel_rfl)) (KTs.cons rfl (KT.slice (B := 8) Try.underlying50 (by kernel_rfl) (KT.int Try.underlying2 (by kernel_rfl)) (by kernel_rfl)) (KTs.cons rfl (KT.slice (B := 2) Try.underlying101 (by kernel_rfl) (KT.int Try.underlying31 (by kernel_rfl)) (by kernel_rfl)) (KTs.one rfl (KT.slice (B := 8) Try.underlying50 (by kernel_rfl) (KT.int Try.underlying2 (by kernel_rfl)) (by kernel_rfl))))))) (by kernel_rfl)) (by kernel_rfl) (hval 0 63 v0 rfl rfl) h0 hsz
  refine law_calls (ins := [.cel (Kd.slice kKnot) x0]) (by kernel_rfl) (by kernel_rfl) rfl rfl Try.underlying4 ⟨rfl, rfl, rfl⟩ hW' (c_laws_FnExactMeanAsked x0 ).1 rfl ?_
  intro i
  match i with
  | 0 => exact e0
  | n + 1 => exact fun b hb => hb
theorem over_fnExactMeanAsked : Rows.fnExactMeanAskedRow.holds Try.pinned (OpenSpec.ofChange Rows.fnExactMeanAskedSpec) :=
  OpenClaim.holds_of_wide 12 Try.f12 rfl rfl rfl rfl rfl rfl rfl ⟨rfl, rfl, rfl, rfl, rfl⟩ rfl rfl rfl rfl rfl (by kernel_rfl) Try.func12 (by kernel_rfl)
    (of_decide_eq_true (by kernel_rfl)) (by unfold Func.isWrapper; first | (rw [if_pos (by decide +kernel)]; kernel_rfl) | (rw [if_neg (by decide +kernel)]; exact ⟨rfl, rfl⟩))
    (fun os started H enc _ => lift_fnExactMeanAsked os started H enc)
end Go.Proofs.Ytdjbdaidnlbhhaa.VL
namespace Go.Proofs.Ytdjbdaidnlbhhaa
/-- The row. -/
theorem fnExactMeanAsked_holds : Rows.FnExactMeanAskedSaid := VL.over_fnExactMeanAsked
#print axioms fnExactMeanAsked_holds
end Go.Proofs.Ytdjbdaidnlbhhaa
