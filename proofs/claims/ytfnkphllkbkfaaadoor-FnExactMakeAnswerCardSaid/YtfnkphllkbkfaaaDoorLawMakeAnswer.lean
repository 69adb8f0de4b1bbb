/- Proved here: the law 'laws.FnExactMakeAnswer' answers true for every input, and the input reads as it did; no condition. -/
import Derived.Test.YtfnkphllkbkfaaaDoorTie
import Derived.Test.YtfnkphllkbkfaaaDoorCards
import Derived.LaidMore
import Derived.Lay
import Derived.SevenTiedAt
import Derived.Stop.Joined
import Derived.ChangeSame
import Derived.ChangeVars
import Derived.Test.YtfnkphllkbkfaaaDoorRows
import Derived.Test.YtfnkphllkbkfaaaDoorWMA
import Derived.Test.YtfnkphllkbkfaaaDoorLF
import Derived.Test.YtfnkphllkbkfaaaDoorBvc
import Derived.WalkKit
import Derived.ProofKit
import Derived.OpenShut
import Derived.ShutString
import Derived.ChangeOld
import Derived.Below
import Derived.SizedLaws
set_option linter.unusedVariables false
set_option linter.unusedSimpArgs false
set_option maxRecDepth 100000
namespace Go.Proofs.YtfnkphllkbkfaaaDoor.VL
open Go Go.ChangeShapes Go.RowKit Go.ChangeAt Go.WideShapes
theorem lift_fnExactMakeAnswer (os : Os) (started : os.Started) (H : Type) (enc : TypeId × Value → H) :
    ReturnsInHanded {} Tryd.checked os 11 .any (fun w args => (Rows.fnExactMakeAnswerSpec.pre enc Tryd.prog Tryd.f11 Rows.fnExactMakeAnswerRow.domain false w args ∧ laidMetH Tryd.prog Rows.fnExactMakeAnswerRow.laid w) ∧ sizedMet enc Tryd.prog Tryd.f11 (OpenSpec.ofChange Rows.fnExactMakeAnswerSpec) false w args)
      (Rows.fnExactMakeAnswerSpec.post enc Tryd.prog Tryd.f11 false true false false) := by
  refine returnsInHanded_of_change_and (C := Tryd.checked) (X := fun w _ => laidMetH Tryd.prog Rows.fnExactMakeAnswerRow.laid w) (fun _ _ _ hh h => h.of_heap hh) own_seat started (by kernel_rfl) Tryd.func11
    (ChangeSpec.witness_shaped (enc := enc) (C := Tryd.checked) (os := os) (X := fun w _ => laidMetH Tryd.prog Rows.fnExactMakeAnswerRow.laid w) false (World.laidAll Tryd.prog os Rows.fnExactMakeAnswerRow.laid) #[.slice none 0 0, .agg #[.int .u64 0, .int .u64 0, .int .u64 0, .int .u64 0]] 8 (World.laidAll_os _ _ _)
      (shaped_seat os _) (by kernel_rfl) (by kernel_rfl) (by kernel_rfl) (laid_seat os _)) ?_
  intro W base args ds gs before hval0 hW hcnd hsz0 _ _
  have hval : ∀ (j : Nat) t v, Tryd.f11.params[j]? = some t → args[j]? = some v → Value.okWide Tryd.prog W .any base t v := hval0
  have hW' := hW
  obtain ⟨p, q, hA0, hV, rfl, hfz, hnd⟩ := hW
  have hA : DataW.TrodAll enc Tryd.prog W 0 (fun _ => true) true Tryd.f11.params.toList args.toList ds p := hA0
  obtain ⟨rfl, rfl⟩ := trodVars_none hV
  have hsz : (DataW.weightsEach Tryd.prog (Tryd.f11.params.toList ++ []) (ds ++ [])).all (· ≤ reachBytes) = true := hsz0
  rw [Tryd.params11] at hA hval hsz
  obtain ⟨v0, vs0, d0, ds0, p0, q0, hargs, rfl, rfl, h0, r0⟩ := trodAll_cons hA
  obtain ⟨v1, vs1, d1, ds1, p1, q1, rfl, rfl, rfl, h1, r1⟩ := trodAll_cons r0
  obtain ⟨rfl, rfl, rfl⟩ := trodAll_nil r1
  obtain rfl : args = #[v0, v1] := by cases args; simp_all
  simp only [List.cons_append, List.nil_append, DataW.weightsEach, List.all_append, List.append_nil, Bool.and_eq_true] at hsz
  obtain ⟨x0, e0, s0⟩ := KT.arg (KT.slice (B := 32) Tryd.underlying31 (by kernel_rfl) (KT.struct Tryd.underlying97 (by kernel_rfl) (KTs.cons rfl (KT.str Tryd.underlying9 (by kernel_rfl)) (KTs.one rfl (KT.two Tryd.underlying50 (by kernel_rfl) (KT.u64 Tryd.underlying49 (by kernel_rfl)))))) (by kernel_rfl)) (by kernel_rfl) (hval 0 31 v0 rfl rfl) h0 hsz.1
  obtain ⟨x1, e1, s1⟩ := KT.argA (KT.struct Tryd.underlying72 (by kernel_rfl) (KTs.cons rfl (KT.two Tryd.underlying50 (by kernel_rfl) (KT.u64 Tryd.underlying49 (by kernel_rfl))) (KTs.one rfl (KT.two Tryd.underlying50 (by kernel_rfl) (KT.u64 Tryd.underlying49 (by kernel_rfl)))))) (by kernel_rfl) (hval 1 72 v1 rfl rfl) h1 hsz.2
  refine law_calls (ins := [.cel (Kd.slice kCard) x0, .agg kQuery x1]) (by kernel_rfl) (by kernel_rfl) rfl rfl Tryd.underlying4 ⟨rfl, rfl, rfl⟩ hW' (c_laws_FnExactMakeAnswer x0 x1 ).1 rfl ?_
  intro i
  match i with
  | 0 => exact e0
  | 1 => exact e1
  | n + 2 => exact fun b hb => hb
theorem closed_fnExactMakeAnswer : joinedFacts Tryd.prog 11 Tryd.f11 Rows.fnExactMakeAnswerSpec Rows.fnExactMakeAnswerRow = true :=
  joinedFacts_of (by kernel_rfl) (by kernel_rfl) (by kernel_rfl) (by kernel_rfl) (by kernel_rfl) (by kernel_rfl) may_seat lift_seat make_seat (by kernel_rfl)
theorem over_fnExactMakeAnswer : Rows.fnExactMakeAnswerRow.holds Tryd.pinned (OpenSpec.ofChange Rows.fnExactMakeAnswerSpec) :=
  OpenClaim.holds_of_wide 11 Tryd.f11 rfl rfl rfl rfl rfl rfl rfl ⟨rfl, rfl, rfl, rfl, rfl⟩ rfl rfl rfl rfl rfl (by kernel_rfl) Tryd.func11 closed_fnExactMakeAnswer
    (of_decide_eq_true (by kernel_rfl)) (by unfold Func.isWrapper; first | (rw [if_pos (by decide +kernel)]; kernel_rfl) | (rw [if_neg (by decide +kernel)]; exact ⟨rfl, rfl⟩))
    (fun os started H enc _ => lift_fnExactMakeAnswer os started H enc)

end Go.Proofs.YtfnkphllkbkfaaaDoor.VL
namespace Go.Proofs.YtfnkphllkbkfaaaDoor
open Go
/-- The row, and the card round it: what it lists is tied to the program's text (the tie is given). -/
theorem fnExactMakeAnswer_holds : Rows.FnExactMakeAnswerCardSaid :=
  Claim7.holds_tied_plain_at .later [] [.data, .pinned] true (true, "4dc1a625074d2aa0a8c3d26eaed0d73b4cd06da793638868688bacf935ab753c") false VL.over_fnExactMakeAnswer (fun _ h => by cases h) (by kernel_rfl) (fun _ h => by cases h) fnExactMakeAnswer_row_tie rfl ⟨rfl, rfl⟩ VL.main_seat rfl
    (fun f fn hf hfn => by
      obtain rfl : f = 11 := Option.some.inj ((show Tryd.prog.funcNamed "loop.example/g01261/laws.FnExactMakeAnswer" = some 11 by kernel_rfl).symm.trans hf) |>.symm
      obtain rfl : fn = Tryd.f11 := (Option.some.inj (Tryd.func11.symm.trans hfn)).symm
      exact ⟨VL.looks_seat, fun j t ht => by
        rw [Tryd.params11] at ht
        have hm : t ∈ [31, 72] := by simpa using Array.mem_of_getElem? ht
        have hall : ([31, 72].all fun u => !Tryd.prog.wantsStandIn u) = true := by kernel_rfl
        exact (show Tryd.prog.wantsStandIn t = false by simpa using List.all_eq_true.1 hall t hm)⟩)
    (by kernel_rfl)
#print axioms fnExactMakeAnswer_holds
end Go.Proofs.YtfnkphllkbkfaaaDoor
