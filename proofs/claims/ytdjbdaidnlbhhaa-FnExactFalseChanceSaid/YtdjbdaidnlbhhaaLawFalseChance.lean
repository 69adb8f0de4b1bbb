/- Proved here: the law 'laws.FnExactFalseChance' answers true for every input, and the input reads as it did; no condition. -/
import Derived.Test.YtdjbdaidnlbhhaaRows
import Derived.Test.YtdjbdaidnlbhhaaWA
import Derived.Test.YtdjbdaidnlbhhaaVO
import Derived.WalkKit
import Derived.ProofKit
import Derived.OpenShut
import Derived.ShutString
import Derived.ChangeOld
import Derived.Below
import Derived.SizedLaws
set_option linter.unusedVariables false
set_option linter.unusedSimpArgs false
set_option maxRecDepth 100000
namespace Go.Proofs.Ytdjbdaidnlbhhaa.VL
open Go Go.ChangeShapes Go.RowKit Go.ChangeAt Go.WideShapes
theorem own_fnExactFalseChance : ownKnob Try.prog.godebug = none := by kernel_rfl
theorem lift_fnExactFalseChance (os : Os) (started : os.Started) (H : Type) (enc : TypeId × Value → H) :
    ReturnsInHanded {} Try.checked os 5 .any (Rows.fnExactFalseChanceSpec.pre6 enc Try.prog Try.f5 Rows.fnExactFalseChanceRow.domain false) (Rows.fnExactFalseChanceSpec.post enc Try.prog Try.f5 false true false false) := by
  refine returnsInHanded_of_change_sized (C := Try.checked) own_fnExactFalseChance started (by kernel_rfl) Try.func5
    (ChangeSpec.witness6 (enc := enc) (C := Try.checked) false ⟨#[], #[.agg #[.int .i16 0, .int .i16 0, .int .i16 0], .int .i64 0, .int .i64 0], []⟩ 8 (by kernel_rfl) (by kernel_rfl) (by kernel_rfl) (by kernel_rfl)) ?_
  intro W base args ds gs before hval0 hW hcnd hsz0 _
  have hval : ∀ (j : Nat) t v, Try.f5.params[j]? = some t → args[j]? = some v → Value.okWide Try.prog W .any base t v := hval0
  have hW' := hW
  obtain ⟨p, q, hA0, hV, rfl, hfz, hnd⟩ := hW
  have hA : DataW.TrodAll enc Try.prog W 0 (fun _ => true) true Try.f5.params.toList args.toList ds p := hA0
  obtain ⟨rfl, rfl⟩ := trodVars_none hV
  have hsz : (DataW.weightsEach Try.prog (Try.f5.params.toList ++ []) (ds ++ [])).all (· ≤ reachBytes) = true := hsz0
  rw [Try.params5] at hA hval hsz
  obtain ⟨v0, vs0, d0, ds0, p0, q0, hargs, rfl, rfl, h0, r0⟩ := trodAll_cons hA
  obtain ⟨v1, vs1, d1, ds1, p1, q1, rfl, rfl, rfl, h1, r1⟩ := trodAll_cons r0
  obtain ⟨v2, vs2, d2, ds2, p2, q2, rfl, rfl, rfl, h2, r2⟩ := trodAll_cons r1
  obtain ⟨rfl, rfl, rfl⟩ := trodAll_nil r2
  obtain rfl : args = #[v0, v1, v2] := by cases args; simp_all
  simp only [List.cons_append, List.nil_append, DataW.weightsEach, List.all_append, List.append_nil, Bool.and_eq_true] at hsz
  obtain ⟨x0, e0, s0⟩ := KT.argA (KT.struct Try.underlying33 (by kernel_rfl) (KTs.cons rfl (KT.int Try.underlying31 (by kernel_rfl)) (KTs.cons rfl (KT.int Try.underlying31 (by kernel_rfl)) (KTs.one rfl (KT.int Try.underlying31 (by kernel_rfl)))))) (by kernel_rfl) (hval 0 33 v0 rfl rfl) h0 hsz.1
  obtain ⟨x1, e1, s1⟩ := KT.arg (KT.int Try.underlying2 (by kernel_rfl)) (by kernel_rfl) (hval 1 2 v1 rfl rfl) h1 hsz.2.1
  obtain ⟨x2, e2, s2⟩ := KT.arg (KT.int Try.underlying2 (by kernel_rfl)) (by kernel_rfl) (hval 2 2 v2 rfl rfl) h2 hsz.2.2
  refine law_calls (ins := [.agg kMix x0, .cel (Kd.int .i64) x1, .cel (Kd.int .i64) x2]) (by kernel_rfl) (by kernel_rfl) rfl rfl Try.underlying4 ⟨rfl, rfl, rfl⟩ hW' (c5 x0 x1 x2 ).1 rfl ?_
  intro i
  match i with
  | 0 => exact e0
  | 1 => exact e1
  | 2 => exact e2
  | n + 3 => exact fun b hb => hb
theorem over_fnExactFalseChance : Rows.fnExactFalseChanceRow.holds Try.pinned (OpenSpec.ofChange Rows.fnExactFalseChanceSpec) :=
  OpenClaim.holds_of_wide 5 Try.f5 rfl rfl rfl rfl rfl rfl rfl ⟨rfl, rfl, rfl, rfl, rfl⟩ rfl rfl rfl rfl rfl (by kernel_rfl) Try.func5 (by kernel_rfl)
    (of_decide_eq_true (by kernel_rfl)) (by unfold Func.isWrapper; first | (rw [if_pos (by decide +kernel)]; kernel_rfl) | (rw [if_neg (by decide +kernel)]; exact ⟨rfl, rfl⟩))
    (fun os started H enc _ => lift_fnExactFalseChance os started H enc)
end Go.Proofs.Ytdjbdaidnlbhhaa.VL
namespace Go.Proofs.Ytdjbdaidnlbhhaa
/-- The row. -/
theorem fnExactFalseChance_holds : Rows.FnExactFalseChanceSaid := VL.over_fnExactFalseChance
#print axioms fnExactFalseChance_holds
end Go.Proofs.Ytdjbdaidnlbhhaa
