/- Proved here: the law 'laws.FnEntries' answers true for every input, and the input reads as it did; no condition. -/
import Derived.Test.YtconciibbhpigaaDoorTie
import Derived.Test.YtconciibbhpigaaDoorCards
import Derived.LaidMore
import Derived.Lay
import Derived.SevenTiedAt
import Derived.Stop.Joined
import Derived.ChangeSame
import Derived.ChangeVars
import Derived.Test.YtconciibbhpigaaDoorRows
import Derived.Test.YtconciibbhpigaaDoorWEL
import Derived.Test.YtconciibbhpigaaDoorLF
import Derived.Test.YtconciibbhpigaaDoorBvb
import Derived.WalkKit
import Derived.ProofKit
import Derived.OpenShut
import Derived.ShutString
import Derived.ChangeOld
import Derived.Below
import Derived.SizedLaws
set_option linter.unusedVariables false
set_option linter.unusedSimpArgs false
set_option maxRecDepth 100000
namespace Go.Proofs.YtconciibbhpigaaDoor.VL
open Go Go.ChangeShapes Go.RowKit Go.ChangeAt Go.WideShapes
theorem lift_fnEntries (os : Os) (started : os.Started) (H : Type) (enc : TypeId × Value → H) :
    ReturnsInHanded {} Tryd.checked os 3 .any (fun w args => (Rows.fnEntriesSpec.pre enc Tryd.prog Tryd.f3 Rows.fnEntriesRow.domain false w args ∧ laidMetH Tryd.prog Rows.fnEntriesRow.laid w) ∧ sizedMet enc Tryd.prog Tryd.f3 (OpenSpec.ofChange Rows.fnEntriesSpec) false w args)
      (Rows.fnEntriesSpec.post enc Tryd.prog Tryd.f3 false true false false) := by
  refine returnsInHanded_of_change_and (C := Tryd.checked) (X := fun w _ => laidMetH Tryd.prog Rows.fnEntriesRow.laid w) (fun _ _ _ hh h => h.of_heap hh) own_seat started (by kernel_rfl) Tryd.func3
    (ChangeSpec.witness_shaped (enc := enc) (C := Tryd.checked) (os := os) (X := fun w _ => laidMetH Tryd.prog Rows.fnEntriesRow.laid w) false (World.laidAll Tryd.prog os Rows.fnEntriesRow.laid) #[.slice none 0 0, .slice none 0 0] 8 (World.laidAll_os _ _ _)
      (shaped_seat os _) (by kernel_rfl) (by kernel_rfl) (by kernel_rfl) (laid_seat os _)) ?_
  intro W base args ds gs before hval0 hW hcnd hsz0 hXX _
  have hval : ∀ (j : Nat) t v, Tryd.f3.params[j]? = some t → args[j]? = some v → Value.okWide Tryd.prog W .any base t v := hval0
  have hW' := hW
  obtain ⟨p, q, hA0, hV, rfl, hfz, hnd⟩ := hW
  have hA : DataW.TrodAll enc Tryd.prog W 0 (fun _ => true) true Tryd.f3.params.toList args.toList ds p := hA0
  obtain ⟨rfl, rfl⟩ := trodVars_none hV
  have hsz : (DataW.weightsEach Tryd.prog (Tryd.f3.params.toList ++ []) (ds ++ [])).all (· ≤ reachBytes) = true := hsz0
  rw [Tryd.params3] at hA hval hsz
  obtain ⟨v0, vs0, d0, ds0, p0, q0, hargs, rfl, rfl, h0, r0⟩ := trodAll_cons hA
  obtain ⟨v1, vs1, d1, ds1, p1, q1, rfl, rfl, rfl, h1, r1⟩ := trodAll_cons r0
  obtain ⟨rfl, rfl, rfl⟩ := trodAll_nil r1
  obtain rfl : args = #[v0, v1] := by cases args; simp_all
  simp only [List.cons_append, List.nil_append, DataW.weightsEach, List.all_append, List.append_nil, Bool.and_eq_true] at hsz
  obtain ⟨x0, e0, s0⟩ := KT.arg (KT.slice (B := 1) Tryd.underlying22 (by kernel_rfl) (KT.int Tryd.underlying5 (by kernel_rfl)) (by kernel_rfl)) (by kernel_rfl) (hval 0 22 v0 rfl rfl) h0 hsz.1
  obtain ⟨x1, e1, s1⟩ := KT.arg (KT.slice (B := 1) Tryd.underlying22 (by kernel_rfl) (KT.int Tryd.underlying5 (by kernel_rfl)) (by kernel_rfl)) (by kernel_rfl) (hval 1 22 v1 rfl rfl) h1 hsz.2
  refine law_calls (ins := [.cel (Kd.slice (Kd.int .u8)) x0, .cel (Kd.slice (Kd.int .u8)) x1]) (by kernel_rfl) (by kernel_rfl) rfl rfl Tryd.underlying4 ⟨rfl, rfl, rfl⟩ hW' (c_laws_FnEntries x0 x1 ).1 ⟨fun h => h.elim, fun h => h.elim⟩ rfl ?_
  intro i
  match i with
  | 0 => exact e0
  | 1 => exact e1
  | n + 2 => exact fun b hb => hb
theorem closed_fnEntries : joinedFacts Tryd.prog 3 Tryd.f3 Rows.fnEntriesSpec Rows.fnEntriesRow = true :=
  joinedFacts_of (by kernel_rfl) (by kernel_rfl) (by kernel_rfl) (by kernel_rfl) (by kernel_rfl) (by kernel_rfl) may_seat lift_seat make_seat (by kernel_rfl)
theorem over_fnEntries : Rows.fnEntriesRow.holds Tryd.pinned (OpenSpec.ofChange Rows.fnEntriesSpec) :=
  OpenClaim.holds_of_wide 3 Tryd.f3 rfl rfl rfl rfl rfl rfl rfl ⟨rfl, rfl, rfl, rfl, rfl⟩ rfl rfl rfl rfl rfl (by kernel_rfl) Tryd.func3 closed_fnEntries
    (of_decide_eq_true (by kernel_rfl)) (by unfold Func.isWrapper; first | (rw [if_pos (by decide +kernel)]; kernel_rfl) | (rw [if_neg (by decide +kernel)]; exact ⟨rfl, rfl⟩))
    (fun os started H enc _ => lift_fnEntries os started H enc)

end Go.Proofs.YtconciibbhpigaaDoor.VL
namespace Go.Proofs.YtconciibbhpigaaDoor
open Go
/-- The row, and the card round it: what it lists is tied to the program's text (the tie is given). -/
theorem fnEntries_holds : Rows.FnEntriesCardSaid :=
  Claim7.holds_tied_plain_at .later [] [.data, .pinned] true (true, "9e49adb38975630ca422f5764fd9388099d478357848782d196855eac118f9bc") false VL.over_fnEntries (fun _ h => by cases h) (by kernel_rfl) (fun _ h => by cases h) fnEntries_row_tie rfl ⟨rfl, rfl⟩ VL.main_seat rfl
    (fun f fn hf hfn => by
      obtain rfl : f = 3 := Option.some.inj ((show Tryd.prog.funcNamed "loop.example/g01261/laws.FnEntries" = some 3 by kernel_rfl).symm.trans hf) |>.symm
      obtain rfl : fn = Tryd.f3 := (Option.some.inj (Tryd.func3.symm.trans hfn)).symm
      exact ⟨VL.looks_seat, fun j t ht => by
        rw [Tryd.params3] at ht
        have hm : t ∈ [22, 22] := by simpa using Array.mem_of_getElem? ht
        have hall : ([22, 22].all fun u => !Tryd.prog.wantsStandIn u) = true := by kernel_rfl
        exact (show Tryd.prog.wantsStandIn t = false by simpa using List.all_eq_true.1 hall t hm)⟩)
    (by kernel_rfl)
#print axioms fnEntries_holds
end Go.Proofs.YtconciibbhpigaaDoor
