/- Proved here: the law 'laws.FnExactCrossOf' answers true for every input, and the input reads as it did; no condition. -/
import Derived.Test.YtkgboidjghcegaaGreatDoorTie
import Derived.Test.YtkgboidjghcegaaGreatDoorCards
import Derived.LaidMore
import Derived.Lay
import Derived.SevenTiedAt
import Derived.Stop.Joined
import Derived.ChangeSame
import Derived.ChangeVars
import Derived.Test.YtkgboidjghcegaaGreatDoorRows
import Derived.Test.YtkgboidjghcegaaGreatDoorWCO
import Derived.Test.YtkgboidjghcegaaGreatDoorLF
import Derived.Test.YtkgboidjghcegaaGreatDoorBvb
import Derived.WalkKit
import Derived.ProofKit
import Derived.OpenShut
import Derived.ShutString
import Derived.ChangeOld
import Derived.Below
import Derived.SizedLaws
set_option linter.unusedVariables false
set_option linter.unusedSimpArgs false
set_option maxRecDepth 100000
namespace Go.Proofs.YtkgboidjghcegaaGreatDoor.VL
open Go Go.ChangeShapes Go.RowKit Go.ChangeAt Go.WideShapes
theorem lift_fnExactCrossOf (os : Os) (started : os.Started) (H : Type) (enc : TypeId × Value → H) :
    ReturnsInHanded {} Tryz.checked os 3 .any (fun w args => (Rows.fnExactCrossOfSpec.pre enc Tryz.prog Tryz.f3 Rows.fnExactCrossOfRow.domain false w args ∧ laidMetH Tryz.prog Rows.fnExactCrossOfRow.laid w) ∧ sizedMet enc Tryz.prog Tryz.f3 (OpenSpec.ofChange Rows.fnExactCrossOfSpec) false w args)
      (Rows.fnExactCrossOfSpec.post enc Tryz.prog Tryz.f3 false true false false) := by
  refine returnsInHanded_of_change_and (C := Tryz.checked) (X := fun w _ => laidMetH Tryz.prog Rows.fnExactCrossOfRow.laid w) (fun _ _ _ hh h => h.of_heap hh) own_seat started (by kernel_rfl) Tryz.func3
    (ChangeSpec.witness_shaped (enc := enc) (C := Tryz.checked) (os := os) (X := fun w _ => laidMetH Tryz.prog Rows.fnExactCrossOfRow.laid w) false (World.laidAll Tryz.prog os Rows.fnExactCrossOfRow.laid) #[.slice none 0 0, .slice none 0 0, .int .i64 0, .int .i64 0] 8 (World.laidAll_os _ _ _)
      (shaped_seat os _) (by kernel_rfl) (by kernel_rfl) (by kernel_rfl) (laid_seat os _)) ?_
  intro W base args ds gs before hval0 hW hcnd hsz0 hXX _
  have hval : ∀ (j : Nat) t v, Tryz.f3.params[j]? = some t → args[j]? = some v → Value.okWide Tryz.prog W .any base t v := hval0
  have hW' := hW
  obtain ⟨p, q, hA0, hV, rfl, hfz, hnd⟩ := hW
  have hA : DataW.TrodAll enc Tryz.prog W 0 (fun _ => true) true Tryz.f3.params.toList args.toList ds p := hA0
  obtain ⟨rfl, rfl⟩ := trodVars_none hV
  have hsz : (DataW.weightsEach Tryz.prog (Tryz.f3.params.toList ++ []) (ds ++ [])).all (· ≤ reachBytes) = true := hsz0
  rw [Tryz.params3] at hA hval hsz
  obtain ⟨v0, vs0, d0, ds0, p0, q0, hargs, rfl, rfl, h0, r0⟩ := trodAll_cons hA
  obtain ⟨v1, vs1, d1, ds1, p1, q1, rfl, rfl, rfl, h1, r1⟩ := trodAll_cons r0
  obtain ⟨v2, vs2, d2, ds2, p2, q2, rfl, rfl, rfl, h2, r2⟩ := trodAll_cons r1
  obtain ⟨v3, vs3, d3, ds3, p3, q3, rfl, rfl, rfl, h3, r3⟩ := trodAll_cons r2
  obtain ⟨rfl, rfl, rfl⟩ := trodAll_nil r3
  obtain rfl : args = #[v0, v1, v2, v3] := by cases args; simp_all
  simp only [List.cons_append, List.nil_append, DataW.weightsEach, List.all_append, List.append_nil, Bool.and_eq_true] at hsz
  obtain ⟨x0, e0, s0⟩ := KT.arg (KT.slice (B := 24) Tryz.underlying22 (by kernel_rfl) (KT.struct Tryz.underlying71 (by kernel_rfl) (KTs.cons rfl (KT.str Tryz.underlying9 (by kernel_rfl)) (KTs.cons rfl (KT.int Tryz.underlying68 (by kernel_rfl)) (KTs.cons rfl (KT.int Tryz.underlying69 (by kernel_rfl)) (KTs.one rfl (KT.int Tryz.underlying69 (by kernel_rfl))))))) (by kernel_rfl)) (by kernel_rfl) (hval 0 22 v0 rfl rfl) h0 hsz.1
  obtain ⟨x1, e1, s1⟩ := KT.arg (KT.slice (B := 32) Tryz.underlying23 (by kernel_rfl) (KT.struct Tryz.underlying76 (by kernel_rfl) (KTs.cons rfl (KT.str Tryz.underlying9 (by kernel_rfl)) (KTs.one rfl (KT.two Tryz.underlying74 (by kernel_rfl) (KT.u64 Tryz.underlying73 (by kernel_rfl)))))) (by kernel_rfl)) (by kernel_rfl) (hval 1 23 v1 rfl rfl) h1 hsz.2.1
  obtain ⟨x2, e2, s2⟩ := KT.arg (KT.int Tryz.underlying2 (by kernel_rfl)) (by kernel_rfl) (hval 2 2 v2 rfl rfl) h2 hsz.2.2.1
  obtain ⟨x3, e3, s3⟩ := KT.arg (KT.int Tryz.underlying2 (by kernel_rfl)) (by kernel_rfl) (hval 3 2 v3 rfl rfl) h3 hsz.2.2.2
  refine law_calls (ins := [.cel (Kd.slice kField) x0, .cel (Kd.slice kCard) x1, .cel (Kd.int .i64) x2, .cel (Kd.int .i64) x3]) (by kernel_rfl) (by kernel_rfl) rfl rfl Tryz.underlying4 ⟨rfl, rfl, rfl⟩ hW' (c_laws_FnExactCrossOf x0 x1 x2 x3 ).1 ⟨fun h => h.elim, fun h => h.elim⟩ rfl ?_
  intro i
  match i with
  | 0 => exact e0
  | 1 => exact e1
  | 2 => exact e2
  | 3 => exact e3
  | n + 4 => exact fun b hb => hb
theorem closed_fnExactCrossOf : joinedFacts Tryz.prog 3 Tryz.f3 Rows.fnExactCrossOfSpec Rows.fnExactCrossOfRow = true :=
  joinedFacts_of (by kernel_rfl) (by kernel_rfl) (by kernel_rfl) (by kernel_rfl) (by kernel_rfl) (by kernel_rfl) may_seat lift_seat make_seat (by kernel_rfl)
theorem over_fnExactCrossOf : Rows.fnExactCrossOfRow.holds Tryz.pinned (OpenSpec.ofChange Rows.fnExactCrossOfSpec) :=
  OpenClaim.holds_of_wide 3 Tryz.f3 rfl rfl rfl rfl rfl rfl rfl ⟨rfl, rfl, rfl, rfl, rfl⟩ rfl rfl rfl rfl rfl (by kernel_rfl) Tryz.func3 closed_fnExactCrossOf
    (of_decide_eq_true (by kernel_rfl)) (by unfold Func.isWrapper; first | (rw [if_pos (by decide +kernel)]; kernel_rfl) | (rw [if_neg (by decide +kernel)]; exact ⟨rfl, rfl⟩))
    (fun os started H enc _ => lift_fnExactCrossOf os started H enc)

end Go.Proofs.YtkgboidjghcegaaGreatDoor.VL
namespace Go.Proofs.YtkgboidjghcegaaGreatDoor
open Go
/-- The row, and the card round it: what it lists is tied to the program's text (the tie is given). -/
theorem fnExactCrossOf_holds : Rows.FnExactCrossOfCardSaid :=
  Claim7.holds_tied_plain_at .later [] [.data, .pinned] true (true, "9856475878e8d5f77b411eb633d4a7cc4f43ce5350ce5f2fb4a5a242e5bfb599") false VL.over_fnExactCrossOf (fun _ h => by cases h) (by kernel_rfl) (fun _ h => by cases h) fnExactCrossOf_row_tie rfl ⟨rfl, rfl⟩ VL.main_seat rfl
    (fun f fn hf hfn => by
      obtain rfl : f = 3 := Option.some.inj ((show Tryz.prog.funcNamed "loop.example/g01261/laws.FnExactCrossOf" = some 3 by kernel_rfl).symm.trans hf) |>.symm
      obtain rfl : fn = Tryz.f3 := (Option.some.inj (Tryz.func3.symm.trans hfn)).symm
      exact ⟨VL.looks_seat, fun j t ht => by
        rw [Tryz.params3] at ht
        have hm : t ∈ [22, 23, 2, 2] := by simpa using Array.mem_of_getElem? ht
        have hall : ([22, 23, 2, 2].all fun u => !Tryz.prog.wantsStandIn u) = true := by kernel_rfl
        exact (show Tryz.prog.wantsStandIn t = false by simpa using List.all_eq_true.1 hall t hm)⟩)
    (by kernel_rfl)
#print axioms fnExactCrossOf_holds
end Go.Proofs.YtkgboidjghcegaaGreatDoor
