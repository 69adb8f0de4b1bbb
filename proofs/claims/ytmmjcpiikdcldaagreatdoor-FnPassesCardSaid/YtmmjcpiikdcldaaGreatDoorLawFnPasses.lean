/- Proved here: the law 'laws.FnPasses' answers true for every input, and the input reads as it did; no condition. -/
import Derived.Test.YtmmjcpiikdcldaaGreatDoorTie
import Derived.Test.YtmmjcpiikdcldaaGreatDoorCards
import Derived.LaidMore
import Derived.Lay
import Derived.SevenTiedAt
import Derived.Stop.Joined
import Derived.ChangeSame
import Derived.ChangeVars
import Derived.Test.YtmmjcpiikdcldaaGreatDoorRows
import Derived.Test.YtmmjcpiikdcldaaGreatDoorWLPS
import Derived.Test.YtmmjcpiikdcldaaGreatDoorLF
import Derived.Test.YtmmjcpiikdcldaaGreatDoorBvb
import Derived.WalkKit
import Derived.ProofKit
import Derived.OpenShut
import Derived.ShutString
import Derived.ChangeOld
import Derived.Below
import Derived.SizedLaws
set_option linter.unusedVariables false
set_option linter.unusedSimpArgs false
set_option maxRecDepth 100000
namespace Go.Proofs.YtmmjcpiikdcldaaGreatDoor.VL
open Go Go.ChangeShapes Go.RowKit Go.ChangeAt Go.WideShapes
theorem glb_fnPasses {W : World} (h : laidMetH Tryz.prog Rows.fnPassesRow.laid W) : Glb Tryz.prog (hpOf W) := ⟨glb_of_laid (g := 0) (t := 185) (e := 36) h (by kernel_rfl) (by kernel_rfl) (by kernel_rfl) (by kernel_rfl) (by kernel_rfl) (by kernel_rfl) (by kernel_rfl), (glbe_of_laid (t1 := [105, 110, 118, 97, 108, 105, 100, 32, 115, 121, 110, 116, 97, 120]) (t2 := [118, 97, 108, 117, 101, 32, 111, 117, 116, 32, 111, 102, 32, 114, 97, 110, 103, 101]) (g1 := 2) (g2 := 3) (ti := 150) (tp := 206) (te := 208) (ts := 9) h (by kernel_rfl) (by kernel_rfl) (by kernel_rfl) (by kernel_rfl) (by kernel_rfl) (by kernel_rfl) Tryz.underlying150 (fun u hu => typeName_ptr_named (nm := "errors.errorString") (by rw [star_err]; kernel_rfl) (by kernel_rfl) (by decide) u (by rw [star_err]; exact hu)) Tryz.underlying206 Tryz.underlying208 rfl rfl Tryz.underlying9 (by kernel_rfl) (by kernel_rfl))⟩
theorem lift_fnPasses (os : Os) (started : os.Started) (H : Type) (enc : TypeId × Value → H) :
    ReturnsInHanded {} Tryz.checked os 3 .any (fun w args => (Rows.fnPassesSpec.pre enc Tryz.prog Tryz.f3 Rows.fnPassesRow.domain false w args ∧ laidMetH Tryz.prog Rows.fnPassesRow.laid w) ∧ sizedMet enc Tryz.prog Tryz.f3 (OpenSpec.ofChange Rows.fnPassesSpec) false w args)
      (Rows.fnPassesSpec.post enc Tryz.prog Tryz.f3 false true false false) := by
  refine returnsInHanded_of_change_and (C := Tryz.checked) (X := fun w _ => laidMetH Tryz.prog Rows.fnPassesRow.laid w) (fun _ _ _ hh h => h.of_heap hh) own_seat started (by kernel_rfl) Tryz.func3
    (ChangeSpec.witness_shaped (enc := enc) (C := Tryz.checked) (os := os) (X := fun w _ => laidMetH Tryz.prog Rows.fnPassesRow.laid w) false (World.laidAll Tryz.prog os Rows.fnPassesRow.laid) #[.slice none 0 0, .slice none 0 0] 8 (World.laidAll_os _ _ _)
      (shaped_seat os _) (by kernel_rfl) (by kernel_rfl) (by kernel_rfl) (laid_seat os _)) ?_
  intro W base args ds gs before hval0 hW hcnd hsz0 hXX _
  have hval : ∀ (j : Nat) t v, Tryz.f3.params[j]? = some t → args[j]? = some v → Value.okWide Tryz.prog W .any base t v := hval0
  have hW' := hW
  obtain ⟨p, q, hA0, hV, rfl, hfz, hnd⟩ := hW
  have hA : DataW.TrodAll enc Tryz.prog W 0 (fun _ => true) true Tryz.f3.params.toList args.toList ds p := hA0
  obtain ⟨rfl, rfl⟩ := trodVars_none hV
  have hsz : (DataW.weightsEach Tryz.prog (Tryz.f3.params.toList ++ []) (ds ++ [])).all (· ≤ reachBytes) = true := hsz0
  rw [Tryz.params3] at hA hval hsz
  obtain ⟨v0, vs0, d0, ds0, p0, q0, hargs, rfl, rfl, h0, r0⟩ := trodAll_cons hA
  obtain ⟨v1, vs1, d1, ds1, p1, q1, rfl, rfl, rfl, h1, r1⟩ := trodAll_cons r0
  obtain ⟨rfl, rfl, rfl⟩ := trodAll_nil r1
  obtain rfl : args = #[v0, v1] := by cases args; simp_all
  simp only [List.cons_append, List.nil_append, DataW.weightsEach, List.all_append, List.append_nil, Bool.and_eq_true] at hsz
  obtain ⟨x0, e0, s0⟩ := KT.arg (KT.slice (B := 1) Tryz.underlying22 (by kernel_rfl) (KT.int Tryz.underlying5 (by kernel_rfl)) (by kernel_rfl)) (by kernel_rfl) (hval 0 22 v0 rfl rfl) h0 hsz.1
  obtain ⟨x1, e1, s1⟩ := KT.arg (KT.slice (B := 1) Tryz.underlying22 (by kernel_rfl) (KT.int Tryz.underlying5 (by kernel_rfl)) (by kernel_rfl)) (by kernel_rfl) (hval 1 22 v1 rfl rfl) h1 hsz.2
  refine law_calls (ins := [.cel (Kd.slice (Kd.int .u8)) x0, .cel (Kd.slice (Kd.int .u8)) x1]) (by kernel_rfl) (by kernel_rfl) rfl rfl Tryz.underlying4 ⟨rfl, rfl, rfl⟩ hW' (c_laws_FnPasses x0 x1 ).1 (glb_fnPasses hXX) rfl ?_
  intro i
  match i with
  | 0 => exact e0
  | 1 => exact e1
  | n + 2 => exact fun b hb => hb
theorem closed_fnPasses : joinedFacts Tryz.prog 3 Tryz.f3 Rows.fnPassesSpec Rows.fnPassesRow = true :=
  joinedFacts_of (by kernel_rfl) (by kernel_rfl) (by kernel_rfl) (by kernel_rfl) (by kernel_rfl) (by kernel_rfl) may_seat lift_seat make_seat (by kernel_rfl)
theorem over_fnPasses : Rows.fnPassesRow.holds Tryz.pinned (OpenSpec.ofChange Rows.fnPassesSpec) :=
  OpenClaim.holds_of_wide 3 Tryz.f3 rfl rfl rfl rfl rfl rfl rfl ⟨rfl, rfl, rfl, rfl, rfl⟩ rfl rfl rfl rfl rfl (by kernel_rfl) Tryz.func3 closed_fnPasses
    (of_decide_eq_true (by kernel_rfl)) (by unfold Func.isWrapper; first | (rw [if_pos (by decide +kernel)]; kernel_rfl) | (rw [if_neg (by decide +kernel)]; exact ⟨rfl, rfl⟩))
    (fun os started H enc _ => lift_fnPasses os started H enc)

end Go.Proofs.YtmmjcpiikdcldaaGreatDoor.VL
namespace Go.Proofs.YtmmjcpiikdcldaaGreatDoor
open Go
/-- The row, and the card round it: what it lists is tied to the program's text (the tie is given). -/
theorem fnPasses_holds : Rows.FnPassesCardSaid :=
  Claim7.holds_tied_plain_at .later [] [.data, .data, .data, .data, .sentinel, .sentinel, .pinned] true (true, "cfd40914d2bf50940549f2d15538c91cfe2c924c174bce5acfa0f63ab2638ec7") true VL.over_fnPasses (fun _ h => by cases h) (by kernel_rfl) (fun _ h => by cases h) fnPasses_row_tie rfl ⟨rfl, rfl⟩ VL.main_seat rfl
    (fun f fn hf hfn => by
      obtain rfl : f = 3 := Option.some.inj ((show Tryz.prog.funcNamed "loop.example/g01261/laws.FnPasses" = some 3 by kernel_rfl).symm.trans hf) |>.symm
      obtain rfl : fn = Tryz.f3 := (Option.some.inj (Tryz.func3.symm.trans hfn)).symm
      exact ⟨VL.looks_seat, fun j t ht => by
        rw [Tryz.params3] at ht
        have hm : t ∈ [22, 22] := by simpa using Array.mem_of_getElem? ht
        have hall : ([22, 22].all fun u => !Tryz.prog.wantsStandIn u) = true := by kernel_rfl
        exact (show Tryz.prog.wantsStandIn t = false by simpa using List.all_eq_true.1 hall t hm)⟩)
    (by kernel_rfl)
#print axioms fnPasses_holds
end Go.Proofs.YtmmjcpiikdcldaaGreatDoor
