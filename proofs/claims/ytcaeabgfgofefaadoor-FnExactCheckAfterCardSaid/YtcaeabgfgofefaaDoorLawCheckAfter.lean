/- Proved here: the law 'laws.FnExactCheckAfter' answers true for every input, and the input reads as it did; no condition. -/
import Derived.Test.YtcaeabgfgofefaaDoorTie
import Derived.Test.YtcaeabgfgofefaaDoorCards
import Derived.LaidMore
import Derived.Lay
import Derived.SevenTiedAt
import Derived.Stop.Joined
import Derived.ChangeSame
import Derived.ChangeVars
import Derived.Test.YtcaeabgfgofefaaDoorRows
import Derived.Test.YtcaeabgfgofefaaDoorWX
import Derived.Test.YtcaeabgfgofefaaDoorLF
import Derived.Test.YtcaeabgfgofefaaDoorVO
import Derived.WalkKit
import Derived.ProofKit
import Derived.OpenShut
import Derived.ShutString
import Derived.ChangeOld
import Derived.Below
import Derived.SizedLaws
set_option linter.unusedVariables false
set_option linter.unusedSimpArgs false
set_option maxRecDepth 100000
namespace Go.Proofs.YtcaeabgfgofefaaDoor.VL
open Go Go.ChangeShapes Go.RowKit Go.ChangeAt Go.WideShapes
theorem lift_fnExactCheckAfter (os : Os) (started : os.Started) (H : Type) (enc : TypeId × Value → H) :
    ReturnsInHanded {} Tryd.checked os 14 .any (fun w args => (Rows.fnExactCheckAfterSpec.pre enc Tryd.prog Tryd.f14 Rows.fnExactCheckAfterRow.domain false w args ∧ laidMetH Tryd.prog Rows.fnExactCheckAfterRow.laid w) ∧ sizedMet enc Tryd.prog Tryd.f14 (OpenSpec.ofChange Rows.fnExactCheckAfterSpec) false w args)
      (Rows.fnExactCheckAfterSpec.post enc Tryd.prog Tryd.f14 false true false false) := by
  refine returnsInHanded_of_change_and (C := Tryd.checked) (X := fun w _ => laidMetH Tryd.prog Rows.fnExactCheckAfterRow.laid w) (fun _ _ _ hh h => h.of_heap hh) own_seat started (by kernel_rfl) Tryd.func14
    (ChangeSpec.witness_shaped (enc := enc) (C := Tryd.checked) (os := os) (X := fun w _ => laidMetH Tryd.prog Rows.fnExactCheckAfterRow.laid w) false (World.laidAll Tryd.prog os Rows.fnExactCheckAfterRow.laid) #[.int .u64 0, .slice none 0 0, .agg #[.int .i8 0, .string .empty, .int .i16 0, .int .u64 0, .int .u64 0]] 8 (World.laidAll_os _ _ _)
      (shaped_seat os _) (by kernel_rfl) (by kernel_rfl) (by kernel_rfl) (laid_seat os _)) ?_
  intro W base args ds gs before hval0 hW hcnd hsz0 _ _
  have hval : ∀ (j : Nat) t v, Tryd.f14.params[j]? = some t → args[j]? = some v → Value.okWide Tryd.prog W .any base t v := hval0
  have hW' := hW
  obtain ⟨p, q, hA0, hV, rfl, hfz, hnd⟩ := hW
  have hA : DataW.TrodAll enc Tryd.prog W 0 (fun _ => true) true Tryd.f14.params.toList args.toList ds p := hA0
  obtain ⟨rfl, rfl⟩ := trodVars_none hV
  have hsz : (DataW.weightsEach Tryd.prog (Tryd.f14.params.toList ++ []) (ds ++ [])).all (· ≤ reachBytes) = true := hsz0
  rw [Tryd.params14] at hA hval hsz
  obtain ⟨v0, vs0, d0, ds0, p0, q0, hargs, rfl, rfl, h0, r0⟩ := trodAll_cons hA
  obtain ⟨v1, vs1, d1, ds1, p1, q1, rfl, rfl, rfl, h1, r1⟩ := trodAll_cons r0
  obtain ⟨v2, vs2, d2, ds2, p2, q2, rfl, rfl, rfl, h2, r2⟩ := trodAll_cons r1
  obtain ⟨rfl, rfl, rfl⟩ := trodAll_nil r2
  obtain rfl : args = #[v0, v1, v2] := by cases args; simp_all
  simp only [List.cons_append, List.nil_append, DataW.weightsEach, List.all_append, List.append_nil, Bool.and_eq_true] at hsz
  obtain ⟨x0, e0, s0⟩ := KT.arg (KT.u64 Tryd.underlying22 (by kernel_rfl)) (by kernel_rfl) (hval 0 22 v0 rfl rfl) h0 hsz.1
  obtain ⟨x1, e1, s1⟩ := KT.arg (KT.slice (B := 32) Tryd.underlying34 (by kernel_rfl) (KT.struct Tryd.underlying25 (by kernel_rfl) (KTs.cons rfl (KT.str Tryd.underlying9 (by kernel_rfl)) (KTs.one rfl (KT.two Tryd.underlying23 (by kernel_rfl) (KT.u64 Tryd.underlying22 (by kernel_rfl)))))) (by kernel_rfl)) (by kernel_rfl) (hval 1 34 v1 rfl rfl) h1 hsz.2.1
  obtain ⟨x2, e2, s2⟩ := KT.argA (KT.struct Tryd.underlying96 (by kernel_rfl) (KTs.cons rfl (KT.int Tryd.underlying50 (by kernel_rfl)) (KTs.cons rfl (KT.str Tryd.underlying9 (by kernel_rfl)) (KTs.cons rfl (KT.int Tryd.underlying51 (by kernel_rfl)) (KTs.one rfl (KT.two Tryd.underlying23 (by kernel_rfl) (KT.u64 Tryd.underlying22 (by kernel_rfl)))))))) (by kernel_rfl) (hval 2 96 v2 rfl rfl) h2 hsz.2.2
  refine law_calls (ins := [.cel Kd.u64 x0, .cel (Kd.slice kCard) x1, .agg kEdit x2]) (by kernel_rfl) (by kernel_rfl) rfl rfl Tryd.underlying4 ⟨rfl, rfl, rfl⟩ hW' (c_laws_FnExactCheckAfter x0 x1 x2 ).1 rfl ?_
  intro i
  match i with
  | 0 => exact e0
  | 1 => exact e1
  | 2 => exact e2
  | n + 3 => exact fun b hb => hb
theorem closed_fnExactCheckAfter : joinedFacts Tryd.prog 14 Tryd.f14 Rows.fnExactCheckAfterSpec Rows.fnExactCheckAfterRow = true :=
  joinedFacts_of (by kernel_rfl) (by kernel_rfl) (by kernel_rfl) (by kernel_rfl) (by kernel_rfl) (by kernel_rfl) may_seat lift_seat make_seat (by kernel_rfl)
theorem over_fnExactCheckAfter : Rows.fnExactCheckAfterRow.holds Tryd.pinned (OpenSpec.ofChange Rows.fnExactCheckAfterSpec) :=
  OpenClaim.holds_of_wide 14 Tryd.f14 rfl rfl rfl rfl rfl rfl rfl ⟨rfl, rfl, rfl, rfl, rfl⟩ rfl rfl rfl rfl rfl (by kernel_rfl) Tryd.func14 closed_fnExactCheckAfter
    (of_decide_eq_true (by kernel_rfl)) (by unfold Func.isWrapper; first | (rw [if_pos (by decide +kernel)]; kernel_rfl) | (rw [if_neg (by decide +kernel)]; exact ⟨rfl, rfl⟩))
    (fun os started H enc _ => lift_fnExactCheckAfter os started H enc)

end Go.Proofs.YtcaeabgfgofefaaDoor.VL
namespace Go.Proofs.YtcaeabgfgofefaaDoor
open Go
/-- The row, and the card round it: what it lists is tied to the program's text (the tie is given). -/
theorem fnExactCheckAfter_holds : Rows.FnExactCheckAfterCardSaid :=
  Claim7.holds_tied_plain_at .later [] [.data, .pinned] true (true, "412c60e8ed7c506071ce7fd8c1ce45ae76393dee1f0714938873f45079763b84") false VL.over_fnExactCheckAfter (fun _ h => by cases h) (by kernel_rfl) (fun _ h => by cases h) fnExactCheckAfter_row_tie rfl ⟨rfl, rfl⟩ VL.main_seat rfl
    (fun f fn hf hfn => by
      obtain rfl : f = 14 := Option.some.inj ((show Tryd.prog.funcNamed "loop.example/g01261/laws.FnExactCheckAfter" = some 14 by kernel_rfl).symm.trans hf) |>.symm
      obtain rfl : fn = Tryd.f14 := (Option.some.inj (Tryd.func14.symm.trans hfn)).symm
      exact ⟨VL.looks_seat, fun j t ht => by
        rw [Tryd.params14] at ht
        have hm : t ∈ [22, 34, 96] := by simpa using Array.mem_of_getElem? ht
        have hall : ([22, 34, 96].all fun u => !Tryd.prog.wantsStandIn u) = true := by kernel_rfl
        exact (show Tryd.prog.wantsStandIn t = false by simpa using List.all_eq_true.1 hall t hm)⟩)
    (by kernel_rfl)
#print axioms fnExactCheckAfter_holds
end Go.Proofs.YtcaeabgfgofefaaDoor
