/- Proved here: the law 'laws.FnCounts' answers true for every input, and the input reads as it did; no condition. -/
import Derived.Test.YtkgboidjghcegaaGreatDoorTie
import Derived.Test.YtkgboidjghcegaaGreatDoorCards
import Derived.LaidMore
import Derived.Lay
import Derived.SevenTiedAt
import Derived.Stop.Joined
import Derived.ChangeSame
import Derived.ChangeVars
import Derived.Test.YtkgboidjghcegaaGreatDoorRows
import Derived.Test.YtkgboidjghcegaaGreatDoorWLC
import Derived.Test.YtkgboidjghcegaaGreatDoorLF
import Derived.Test.YtkgboidjghcegaaGreatDoorBvb
import Derived.WalkKit
import Derived.ProofKit
import Derived.OpenShut
import Derived.ShutString
import Derived.ChangeOld
import Derived.Below
import Derived.SizedLaws
set_option linter.unusedVariables false
set_option linter.unusedSimpArgs false
set_option maxRecDepth 100000
namespace Go.Proofs.YtkgboidjghcegaaGreatDoor.VL
open Go Go.ChangeShapes Go.RowKit Go.ChangeAt Go.WideShapes
theorem lift_fnCounts (os : Os) (started : os.Started) (H : Type) (enc : TypeId × Value → H) :
    ReturnsInHanded {} Tryz.checked os 4 .any (fun w args => (Rows.fnCountsSpec.pre enc Tryz.prog Tryz.f4 Rows.fnCountsRow.domain false w args ∧ laidMetH Tryz.prog Rows.fnCountsRow.laid w) ∧ sizedMet enc Tryz.prog Tryz.f4 (OpenSpec.ofChange Rows.fnCountsSpec) false w args)
      (Rows.fnCountsSpec.post enc Tryz.prog Tryz.f4 false true false false) := by
  refine returnsInHanded_of_change_and (C := Tryz.checked) (X := fun w _ => laidMetH Tryz.prog Rows.fnCountsRow.laid w) (fun _ _ _ hh h => h.of_heap hh) own_seat started (by kernel_rfl) Tryz.func4
    (ChangeSpec.witness_shaped (enc := enc) (C := Tryz.checked) (os := os) (X := fun w _ => laidMetH Tryz.prog Rows.fnCountsRow.laid w) false (World.laidAll Tryz.prog os Rows.fnCountsRow.laid) #[.slice none 0 0, .slice none 0 0] 8 (World.laidAll_os _ _ _)
      (shaped_seat os _) (by kernel_rfl) (by kernel_rfl) (by kernel_rfl) (laid_seat os _)) ?_
  intro W base args ds gs before hval0 hW hcnd hsz0 hXX _
  have hval : ∀ (j : Nat) t v, Tryz.f4.params[j]? = some t → args[j]? = some v → Value.okWide Tryz.prog W .any base t v := hval0
  have hW' := hW
  obtain ⟨p, q, hA0, hV, rfl, hfz, hnd⟩ := hW
  have hA : DataW.TrodAll enc Tryz.prog W 0 (fun _ => true) true Tryz.f4.params.toList args.toList ds p := hA0
  obtain ⟨rfl, rfl⟩ := trodVars_none hV
  have hsz : (DataW.weightsEach Tryz.prog (Tryz.f4.params.toList ++ []) (ds ++ [])).all (· ≤ reachBytes) = true := hsz0
  rw [Tryz.params4] at hA hval hsz
  obtain ⟨v0, vs0, d0, ds0, p0, q0, hargs, rfl, rfl, h0, r0⟩ := trodAll_cons hA
  obtain ⟨v1, vs1, d1, ds1, p1, q1, rfl, rfl, rfl, h1, r1⟩ := trodAll_cons r0
  obtain ⟨rfl, rfl, rfl⟩ := trodAll_nil r1
  obtain rfl : args = #[v0, v1] := by cases args; simp_all
  simp only [List.cons_append, List.nil_append, DataW.weightsEach, List.all_append, List.append_nil, Bool.and_eq_true] at hsz
  obtain ⟨x0, e0, s0⟩ := KT.arg (KT.slice (B := 1) Tryz.underlying40 (by kernel_rfl) (KT.int Tryz.underlying5 (by kernel_rfl)) (by kernel_rfl)) (by kernel_rfl) (hval 0 40 v0 rfl rfl) h0 hsz.1
  obtain ⟨x1, e1, s1⟩ := KT.arg (KT.slice (B := 1) Tryz.underlying40 (by kernel_rfl) (KT.int Tryz.underlying5 (by kernel_rfl)) (by kernel_rfl)) (by kernel_rfl) (hval 1 40 v1 rfl rfl) h1 hsz.2
  refine law_calls (ins := [.cel (Kd.slice (Kd.int .u8)) x0, .cel (Kd.slice (Kd.int .u8)) x1]) (by kernel_rfl) (by kernel_rfl) rfl rfl Tryz.underlying4 ⟨rfl, rfl, rfl⟩ hW' (c_laws_FnCounts x0 x1 ).1 ⟨fun h => h.elim, fun h => h.elim⟩ rfl ?_
  intro i
  match i with
  | 0 => exact e0
  | 1 => exact e1
  | n + 2 => exact fun b hb => hb
theorem closed_fnCounts : joinedFacts Tryz.prog 4 Tryz.f4 Rows.fnCountsSpec Rows.fnCountsRow = true :=
  joinedFacts_of (by kernel_rfl) (by kernel_rfl) (by kernel_rfl) (by kernel_rfl) (by kernel_rfl) (by kernel_rfl) may_seat lift_seat make_seat (by kernel_rfl)
theorem over_fnCounts : Rows.fnCountsRow.holds Tryz.pinned (OpenSpec.ofChange Rows.fnCountsSpec) :=
  OpenClaim.holds_of_wide 4 Tryz.f4 rfl rfl rfl rfl rfl rfl rfl ⟨rfl, rfl, rfl, rfl, rfl⟩ rfl rfl rfl rfl rfl (by kernel_rfl) Tryz.func4 closed_fnCounts
    (of_decide_eq_true (by kernel_rfl)) (by unfold Func.isWrapper; first | (rw [if_pos (by decide +kernel)]; kernel_rfl) | (rw [if_neg (by decide +kernel)]; exact ⟨rfl, rfl⟩))
    (fun os started H enc _ => lift_fnCounts os started H enc)

end Go.Proofs.YtkgboidjghcegaaGreatDoor.VL
namespace Go.Proofs.YtkgboidjghcegaaGreatDoor
open Go
/-- The row, and the card round it: what it lists is tied to the program's text (the tie is given). -/
theorem fnCounts_holds : Rows.FnCountsCardSaid :=
  Claim7.holds_tied_plain_at .later [] [.data, .pinned] true (true, "9856475878e8d5f77b411eb633d4a7cc4f43ce5350ce5f2fb4a5a242e5bfb599") false VL.over_fnCounts (fun _ h => by cases h) (by kernel_rfl) (fun _ h => by cases h) fnCounts_row_tie rfl ⟨rfl, rfl⟩ VL.main_seat rfl
    (fun f fn hf hfn => by
      obtain rfl : f = 4 := Option.some.inj ((show Tryz.prog.funcNamed "loop.example/g01261/laws.FnCounts" = some 4 by kernel_rfl).symm.trans hf) |>.symm
      obtain rfl : fn = Tryz.f4 := (Option.some.inj (Tryz.func4.symm.trans hfn)).symm
      exact ⟨VL.looks_seat, fun j t ht => by
        rw [Tryz.params4] at ht
        have hm : t ∈ [40, 40] := by simpa using Array.mem_of_getElem? ht
        have hall : ([40, 40].all fun u => !Tryz.prog.wantsStandIn u) = true := by kernel_rfl
        exact (show Tryz.prog.wantsStandIn t = false by simpa using List.all_eq_true.1 hall t hm)⟩)
    (by kernel_rfl)
#print axioms fnCounts_holds
end Go.Proofs.YtkgboidjghcegaaGreatDoor
