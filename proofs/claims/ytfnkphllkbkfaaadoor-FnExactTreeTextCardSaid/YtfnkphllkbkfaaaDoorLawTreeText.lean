/- Proved here: the law 'laws.FnExactTreeText' answers true for every input, and the input reads as it did; no condition. -/
import Derived.Test.YtfnkphllkbkfaaaDoorTie
import Derived.Test.YtfnkphllkbkfaaaDoorCards
import Derived.LaidMore
import Derived.Lay
import Derived.SevenTiedAt
import Derived.Stop.Joined
import Derived.ChangeSame
import Derived.ChangeVars
import Derived.Test.YtfnkphllkbkfaaaDoorRows
import Derived.Test.YtfnkphllkbkfaaaDoorWTT
import Derived.Test.YtfnkphllkbkfaaaDoorLF
import Derived.Test.YtfnkphllkbkfaaaDoorBvc
import Derived.WalkKit
import Derived.ProofKit
import Derived.OpenShut
import Derived.ShutString
import Derived.ChangeOld
import Derived.Below
import Derived.SizedLaws
set_option linter.unusedVariables false
set_option linter.unusedSimpArgs false
set_option maxRecDepth 100000
namespace Go.Proofs.YtfnkphllkbkfaaaDoor.VL
open Go Go.ChangeShapes Go.RowKit Go.ChangeAt Go.WideShapes
theorem shaped_fnExactTreeText (os : Os) (args : Array Value) : ((World.laidAll Tryd.prog os Rows.fnExactTreeTextRow.laid).forCall (fun _ _ => 0) ⟨#[], args, []⟩).Shaped Tryd.prog := World.shaped_of_ZipB (by kernel_rfl) (by kernel_rfl)
theorem laid_fnExactTreeText (os : Os) (args : Array Value) : laidMetH Tryd.prog Rows.fnExactTreeTextRow.laid ((World.laidAll Tryd.prog os Rows.fnExactTreeTextRow.laid).forCall (fun _ _ => 0) ⟨#[], args, []⟩).memory := by rw [MakeChecks.laidMetH_plain _ _ _ (by kernel_rfl)]; exact laidMet_laidAll _ (by kernel_rfl) (by kernel_rfl)
theorem glb_fnExactTreeText {W : World} (h : laidMetH Tryd.prog Rows.fnExactTreeTextRow.laid W) : Glb Tryd.prog (hpOf W) := glb_of_laid (g := 0) (t := 216) (e := 49) h (by kernel_rfl) (by kernel_rfl) (by kernel_rfl) (by kernel_rfl) (by kernel_rfl) (by kernel_rfl) (by kernel_rfl)
theorem lift_fnExactTreeText (os : Os) (started : os.Started) (H : Type) (enc : TypeId × Value → H) :
    ReturnsInHanded {} Tryd.checked os 10 .any (fun w args => (Rows.fnExactTreeTextSpec.pre enc Tryd.prog Tryd.f10 Rows.fnExactTreeTextRow.domain false w args ∧ laidMetH Tryd.prog Rows.fnExactTreeTextRow.laid w) ∧ sizedMet enc Tryd.prog Tryd.f10 (OpenSpec.ofChange Rows.fnExactTreeTextSpec) false w args)
      (Rows.fnExactTreeTextSpec.post enc Tryd.prog Tryd.f10 false true false false) := by
  refine returnsInHanded_of_change_and (C := Tryd.checked) (X := fun w _ => laidMetH Tryd.prog Rows.fnExactTreeTextRow.laid w) (fun _ _ _ hh h => h.of_heap hh) own_seat started (by kernel_rfl) Tryd.func10
    (ChangeSpec.witness_shaped (enc := enc) (C := Tryd.checked) (os := os) (X := fun w _ => laidMetH Tryd.prog Rows.fnExactTreeTextRow.laid w) false (World.laidAll Tryd.prog os Rows.fnExactTreeTextRow.laid) #[.slice none 0 0] 8 (World.laidAll_os _ _ _)
      (shaped_fnExactTreeText os _) (by kernel_rfl) (by kernel_rfl) (by kernel_rfl) (laid_fnExactTreeText os _)) ?_
  intro W base args ds gs before hval0 hW hcnd hsz0 hXX _
  have hval : ∀ (j : Nat) t v, Tryd.f10.params[j]? = some t → args[j]? = some v → Value.okWide Tryd.prog W .any base t v := hval0
  have hW' := hW
  obtain ⟨p, q, hA0, hV, rfl, hfz, hnd⟩ := hW
  have hA : DataW.TrodAll enc Tryd.prog W 0 (fun _ => true) true Tryd.f10.params.toList args.toList ds p := hA0
  obtain ⟨rfl, rfl⟩ := trodVars_none hV
  have hsz : (DataW.weightsEach Tryd.prog (Tryd.f10.params.toList ++ []) (ds ++ [])).all (· ≤ reachBytes) = true := hsz0
  rw [Tryd.params10] at hA hval hsz
  obtain ⟨v0, vs0, d0, ds0, p0, q0, hargs, rfl, rfl, h0, r0⟩ := trodAll_cons hA
  obtain ⟨rfl, rfl, rfl⟩ := trodAll_nil r0
  obtain rfl : args = #[v0] := by cases args; simp_all
  simp only [List.cons_append, List.nil_append, DataW.weightsEach, List.all_append, List.append_nil, Bool.and_eq_true] at hsz
  obtain ⟨x0, e0, s0⟩ := KT.arg (KT.slice (B := 80) Tryd.underlying64 (by kernel_rfl) (KT.struct Tryd.underlying126 (by kernel_rfl) (KTs.cons rfl (KT.int Tryd.underlying48 (by kernel_rfl)) (KTs.cons rfl (KT.slice (B := 8) Tryd.underlying75 (by kernel_rfl) (KT.int Tryd.underlying2 (by kernel_rfl)) (by kernel_rfl)) (KTs.cons rfl (KT.slice (B := 2) Tryd.underlying124 (by kernel_rfl) (KT.int Tryd.underlying48 (by kernel_rfl)) (by kernel_rfl)) (KTs.one rfl (KT.slice (B := 8) Tryd.underlying75 (by kernel_rfl) (KT.int Tryd.underlying2 (by kernel_rfl)) (by kernel_rfl))))))) (by kernel_rfl)) (by kernel_rfl) (hval 0 64 v0 rfl rfl) h0 hsz
  refine law_calls (ins := [.cel (Kd.slice kKnot) x0]) (by kernel_rfl) (by kernel_rfl) rfl rfl Tryd.underlying4 ⟨rfl, rfl, rfl⟩ hW' (c_laws_FnExactTreeText x0 ).1 (glb_fnExactTreeText hXX) rfl ?_
  intro i
  match i with
  | 0 => exact e0
  | n + 1 => exact fun b hb => hb
theorem closed_fnExactTreeText : joinedFacts Tryd.prog 10 Tryd.f10 Rows.fnExactTreeTextSpec Rows.fnExactTreeTextRow = true :=
  joinedFacts_of (by kernel_rfl) (by kernel_rfl) (by kernel_rfl) (by kernel_rfl) (by kernel_rfl) (by kernel_rfl) may_seat lift_seat make_seat (by kernel_rfl)
theorem over_fnExactTreeText : Rows.fnExactTreeTextRow.holds Tryd.pinned (OpenSpec.ofChange Rows.fnExactTreeTextSpec) :=
  OpenClaim.holds_of_wide 10 Tryd.f10 rfl rfl rfl rfl rfl rfl rfl ⟨rfl, rfl, rfl, rfl, rfl⟩ rfl rfl rfl rfl rfl (by kernel_rfl) Tryd.func10 closed_fnExactTreeText
    (of_decide_eq_true (by kernel_rfl)) (by unfold Func.isWrapper; first | (rw [if_pos (by decide +kernel)]; kernel_rfl) | (rw [if_neg (by decide +kernel)]; exact ⟨rfl, rfl⟩))
    (fun os started H enc _ => lift_fnExactTreeText os started H enc)

end Go.Proofs.YtfnkphllkbkfaaaDoor.VL
namespace Go.Proofs.YtfnkphllkbkfaaaDoor
open Go
/-- The row, and the card round it: what it lists is tied to the program's text (the tie is given). -/
theorem fnExactTreeText_holds : Rows.FnExactTreeTextCardSaid :=
  Claim7.holds_tied_plain_at .later [] [.data, .data, .data] true (true, "4dc1a625074d2aa0a8c3d26eaed0d73b4cd06da793638868688bacf935ab753c") false VL.over_fnExactTreeText (fun _ h => by cases h) (by kernel_rfl) (fun _ h => by cases h) fnExactTreeText_row_tie rfl ⟨rfl, rfl⟩ VL.main_seat rfl
    (fun f fn hf hfn => by
      obtain rfl : f = 10 := Option.some.inj ((show Tryd.prog.funcNamed "loop.example/g01261/laws.FnExactTreeText" = some 10 by kernel_rfl).symm.trans hf) |>.symm
      obtain rfl : fn = Tryd.f10 := (Option.some.inj (Tryd.func10.symm.trans hfn)).symm
      exact ⟨VL.looks_seat, fun j t ht => by
        rw [Tryd.params10] at ht
        have hm : t ∈ [64] := by simpa using Array.mem_of_getElem? ht
        have hall : ([64].all fun u => !Tryd.prog.wantsStandIn u) = true := by kernel_rfl
        exact (show Tryd.prog.wantsStandIn t = false by simpa using List.all_eq_true.1 hall t hm)⟩)
    (by kernel_rfl)
#print axioms fnExactTreeText_holds
end Go.Proofs.YtfnkphllkbkfaaaDoor
