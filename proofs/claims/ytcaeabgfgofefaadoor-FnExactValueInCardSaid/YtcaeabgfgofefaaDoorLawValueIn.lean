/- Proved here: the law 'laws.FnExactValueIn' answers true for every input, and the input reads as it did; no condition. -/
import Derived.Test.YtcaeabgfgofefaaDoorTie
import Derived.Test.YtcaeabgfgofefaaDoorCards
import Derived.LaidMore
import Derived.Lay
import Derived.SevenTiedAt
import Derived.Stop.Joined
import Derived.ChangeSame
import Derived.ChangeVars
import Derived.Test.YtcaeabgfgofefaaDoorRows
import Derived.Test.YtcaeabgfgofefaaDoorWV
import Derived.Test.YtcaeabgfgofefaaDoorLF
import Derived.Test.YtcaeabgfgofefaaDoorVO
import Derived.WalkKit
import Derived.ProofKit
import Derived.OpenShut
import Derived.ShutString
import Derived.ChangeOld
import Derived.Below
import Derived.SizedLaws
set_option linter.unusedVariables false
set_option linter.unusedSimpArgs false
set_option maxRecDepth 100000
namespace Go.Proofs.YtcaeabgfgofefaaDoor.VL
open Go Go.ChangeShapes Go.RowKit Go.ChangeAt Go.WideShapes
theorem lift_fnExactValueIn (os : Os) (started : os.Started) (H : Type) (enc : TypeId × Value → H) :
    ReturnsInHanded {} Tryd.checked os 8 .any (fun w args => (Rows.fnExactValueInSpec.pre enc Tryd.prog Tryd.f8 Rows.fnExactValueInRow.domain false w args ∧ laidMetH Tryd.prog Rows.fnExactValueInRow.laid w) ∧ sizedMet enc Tryd.prog Tryd.f8 (OpenSpec.ofChange Rows.fnExactValueInSpec) false w args)
      (Rows.fnExactValueInSpec.post enc Tryd.prog Tryd.f8 false true false false) := by
  refine returnsInHanded_of_change_and (C := Tryd.checked) (X := fun w _ => laidMetH Tryd.prog Rows.fnExactValueInRow.laid w) (fun _ _ _ hh h => h.of_heap hh) own_seat started (by kernel_rfl) Tryd.func8
    (ChangeSpec.witness_shaped (enc := enc) (C := Tryd.checked) (os := os) (X := fun w _ => laidMetH Tryd.prog Rows.fnExactValueInRow.laid w) false (World.laidAll Tryd.prog os Rows.fnExactValueInRow.laid) #[.agg #[.string .empty, .int .i8 0, .int .i16 0, .int .i16 0], .agg #[.string .empty, .int .u64 0, .int .u64 0]] 8 (World.laidAll_os _ _ _)
      (shaped_seat os _) (by kernel_rfl) (by kernel_rfl) (by kernel_rfl) (laid_seat os _)) ?_
  intro W base args ds gs before hval0 hW hcnd hsz0 _ _
  have hval : ∀ (j : Nat) t v, Tryd.f8.params[j]? = some t → args[j]? = some v → Value.okWide Tryd.prog W .any base t v := hval0
  have hW' := hW
  obtain ⟨p, q, hA0, hV, rfl, hfz, hnd⟩ := hW
  have hA : DataW.TrodAll enc Tryd.prog W 0 (fun _ => true) true Tryd.f8.params.toList args.toList ds p := hA0
  obtain ⟨rfl, rfl⟩ := trodVars_none hV
  have hsz : (DataW.weightsEach Tryd.prog (Tryd.f8.params.toList ++ []) (ds ++ [])).all (· ≤ reachBytes) = true := hsz0
  rw [Tryd.params8] at hA hval hsz
  obtain ⟨v0, vs0, d0, ds0, p0, q0, hargs, rfl, rfl, h0, r0⟩ := trodAll_cons hA
  obtain ⟨v1, vs1, d1, ds1, p1, q1, rfl, rfl, rfl, h1, r1⟩ := trodAll_cons r0
  obtain ⟨rfl, rfl, rfl⟩ := trodAll_nil r1
  obtain rfl : args = #[v0, v1] := by cases args; simp_all
  simp only [List.cons_append, List.nil_append, DataW.weightsEach, List.all_append, List.append_nil, Bool.and_eq_true] at hsz
  obtain ⟨x0, e0, s0⟩ := KT.argA (KT.struct Tryd.underlying53 (by kernel_rfl) (KTs.cons rfl (KT.str Tryd.underlying9 (by kernel_rfl)) (KTs.cons rfl (KT.int Tryd.underlying50 (by kernel_rfl)) (KTs.cons rfl (KT.int Tryd.underlying51 (by kernel_rfl)) (KTs.one rfl (KT.int Tryd.underlying51 (by kernel_rfl))))))) (by kernel_rfl) (hval 0 53 v0 rfl rfl) h0 hsz.1
  obtain ⟨x1, e1, s1⟩ := KT.argA (KT.struct Tryd.underlying25 (by kernel_rfl) (KTs.cons rfl (KT.str Tryd.underlying9 (by kernel_rfl)) (KTs.one rfl (KT.two Tryd.underlying23 (by kernel_rfl) (KT.u64 Tryd.underlying22 (by kernel_rfl)))))) (by kernel_rfl) (hval 1 25 v1 rfl rfl) h1 hsz.2
  refine law_calls (ins := [.agg kField x0, .agg kCard x1]) (by kernel_rfl) (by kernel_rfl) rfl rfl Tryd.underlying4 ⟨rfl, rfl, rfl⟩ hW' (c_laws_FnExactValueIn x0 x1 ).1 rfl ?_
  intro i
  match i with
  | 0 => exact e0
  | 1 => exact e1
  | n + 2 => exact fun b hb => hb
theorem closed_fnExactValueIn : joinedFacts Tryd.prog 8 Tryd.f8 Rows.fnExactValueInSpec Rows.fnExactValueInRow = true :=
  joinedFacts_of (by kernel_rfl) (by kernel_rfl) (by kernel_rfl) (by kernel_rfl) (by kernel_rfl) (by kernel_rfl) may_seat lift_seat make_seat (by kernel_rfl)
theorem over_fnExactValueIn : Rows.fnExactValueInRow.holds Tryd.pinned (OpenSpec.ofChange Rows.fnExactValueInSpec) :=
  OpenClaim.holds_of_wide 8 Tryd.f8 rfl rfl rfl rfl rfl rfl rfl ⟨rfl, rfl, rfl, rfl, rfl⟩ rfl rfl rfl rfl rfl (by kernel_rfl) Tryd.func8 closed_fnExactValueIn
    (of_decide_eq_true (by kernel_rfl)) (by unfold Func.isWrapper; first | (rw [if_pos (by decide +kernel)]; kernel_rfl) | (rw [if_neg (by decide +kernel)]; exact ⟨rfl, rfl⟩))
    (fun os started H enc _ => lift_fnExactValueIn os started H enc)

end Go.Proofs.YtcaeabgfgofefaaDoor.VL
namespace Go.Proofs.YtcaeabgfgofefaaDoor
open Go
/-- The row, and the card round it: what it lists is tied to the program's text (the tie is given). -/
theorem fnExactValueIn_holds : Rows.FnExactValueInCardSaid :=
  Claim7.holds_tied_plain_at .later [] [.data, .pinned] true (true, "412c60e8ed7c506071ce7fd8c1ce45ae76393dee1f0714938873f45079763b84") false VL.over_fnExactValueIn (fun _ h => by cases h) (by kernel_rfl) (fun _ h => by cases h) fnExactValueIn_row_tie rfl ⟨rfl, rfl⟩ VL.main_seat rfl
    (fun f fn hf hfn => by
      obtain rfl : f = 8 := Option.some.inj ((show Tryd.prog.funcNamed "loop.example/g01261/laws.FnExactValueIn" = some 8 by kernel_rfl).symm.trans hf) |>.symm
      obtain rfl : fn = Tryd.f8 := (Option.some.inj (Tryd.func8.symm.trans hfn)).symm
      exact ⟨VL.looks_seat, fun j t ht => by
        rw [Tryd.params8] at ht
        have hm : t ∈ [53, 25] := by simpa using Array.mem_of_getElem? ht
        have hall : ([53, 25].all fun u => !Tryd.prog.wantsStandIn u) = true := by kernel_rfl
        exact (show Tryd.prog.wantsStandIn t = false by simpa using List.all_eq_true.1 hall t hm)⟩)
    (by kernel_rfl)
#print axioms fnExactValueIn_holds
end Go.Proofs.YtcaeabgfgofefaaDoor
