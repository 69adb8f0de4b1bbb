/- Proved here: the law 'laws.FnTopOfAll' answers true for every input, and the input reads as it did; no condition. -/
import Derived.Test.YtlhfmcbmlmhgaaaGreatDoorTie
import Derived.Test.YtlhfmcbmlmhgaaaGreatDoorCards
import Derived.LaidMore
import Derived.Lay
import Derived.SevenTiedAt
import Derived.Stop.Joined
import Derived.ChangeSame
import Derived.ChangeVars
import Derived.Test.YtlhfmcbmlmhgaaaGreatDoorRows
import Derived.Test.YtlhfmcbmlmhgaaaGreatDoorWTA2
import Derived.Test.YtlhfmcbmlmhgaaaGreatDoorLF
import Derived.Test.YtlhfmcbmlmhgaaaGreatDoorBvc
import Derived.WalkKit
import Derived.ProofKit
import Derived.OpenShut
import Derived.ShutString
import Derived.ChangeOld
import Derived.Below
import Derived.SizedLaws
set_option linter.unusedVariables false
set_option linter.unusedSimpArgs false
set_option maxRecDepth 100000
namespace Go.Proofs.YtlhfmcbmlmhgaaaGreatDoor.VL
open Go Go.ChangeShapes Go.RowKit Go.ChangeAt Go.WideShapes
theorem lift_fnTopOfAll (os : Os) (started : os.Started) (H : Type) (enc : TypeId × Value → H) :
    ReturnsInHanded {} Tryz.checked os 3 .any (fun w args => (Rows.fnTopOfAllSpec.pre enc Tryz.prog Tryz.f3 Rows.fnTopOfAllRow.domain false w args ∧ laidMetH Tryz.prog Rows.fnTopOfAllRow.laid w) ∧ sizedMet enc Tryz.prog Tryz.f3 (OpenSpec.ofChange Rows.fnTopOfAllSpec) false w args)
      (Rows.fnTopOfAllSpec.post enc Tryz.prog Tryz.f3 false true false false) := by
  refine returnsInHanded_of_change_and (C := Tryz.checked) (X := fun w _ => laidMetH Tryz.prog Rows.fnTopOfAllRow.laid w) (fun _ _ _ hh h => h.of_heap hh) own_seat started (by kernel_rfl) Tryz.func3
    (ChangeSpec.witness_shaped (enc := enc) (C := Tryz.checked) (os := os) (X := fun w _ => laidMetH Tryz.prog Rows.fnTopOfAllRow.laid w) false (World.laidAll Tryz.prog os Rows.fnTopOfAllRow.laid) #[.slice none 0 0, .string .empty, .slice none 0 0, .slice none 0 0, .agg #[.string .empty, .int .i8 0, .int .i16 0, .int .i16 0], .int .i64 0, .slice none 0 0] 8 (World.laidAll_os _ _ _)
      (shaped_seat os _) (by kernel_rfl) (by kernel_rfl) (by kernel_rfl) (laid_seat os _)) ?_
  intro W base args ds gs before hval0 hW hcnd hsz0 hXX _
  have hval : ∀ (j : Nat) t v, Tryz.f3.params[j]? = some t → args[j]? = some v → Value.okWide Tryz.prog W .any base t v := hval0
  have hW' := hW
  obtain ⟨p, q, hA0, hV, rfl, hfz, hnd⟩ := hW
  have hA : DataW.TrodAll enc Tryz.prog W 0 (fun _ => true) true Tryz.f3.params.toList args.toList ds p := hA0
  obtain ⟨rfl, rfl⟩ := trodVars_none hV
  have hsz : (DataW.weightsEach Tryz.prog (Tryz.f3.params.toList ++ []) (ds ++ [])).all (· ≤ reachBytes) = true := hsz0
  rw [Tryz.params3] at hA hval hsz
  obtain ⟨v0, vs0, d0, ds0, p0, q0, hargs, rfl, rfl, h0, r0⟩ := trodAll_cons hA
  obtain ⟨v1, vs1, d1, ds1, p1, q1, rfl, rfl, rfl, h1, r1⟩ := trodAll_cons r0
  obtain ⟨v2, vs2, d2, ds2, p2, q2, rfl, rfl, rfl, h2, r2⟩ := trodAll_cons r1
  obtain ⟨v3, vs3, d3, ds3, p3, q3, rfl, rfl, rfl, h3, r3⟩ := trodAll_cons r2
  obtain ⟨v4, vs4, d4, ds4, p4, q4, rfl, rfl, rfl, h4, r4⟩ := trodAll_cons r3
  obtain ⟨v5, vs5, d5, ds5, p5, q5, rfl, rfl, rfl, h5, r5⟩ := trodAll_cons r4
  obtain ⟨v6, vs6, d6, ds6, p6, q6, rfl, rfl, rfl, h6, r6⟩ := trodAll_cons r5
  obtain ⟨rfl, rfl, rfl⟩ := trodAll_nil r6
  obtain rfl : args = #[v0, v1, v2, v3, v4, v5, v6] := by cases args; simp_all
  simp only [List.cons_append, List.nil_append, DataW.weightsEach, List.all_append, List.append_nil, Bool.and_eq_true] at hsz
  obtain ⟨x0, e0, s0⟩ := KT.arg (KT.slice (B := 24) Tryz.underlying22 (by kernel_rfl) (KT.struct Tryz.underlying28 (by kernel_rfl) (KTs.cons rfl (KT.str Tryz.underlying9 (by kernel_rfl)) (KTs.cons rfl (KT.int Tryz.underlying25 (by kernel_rfl)) (KTs.cons rfl (KT.int Tryz.underlying26 (by kernel_rfl)) (KTs.one rfl (KT.int Tryz.underlying26 (by kernel_rfl))))))) (by kernel_rfl)) (by kernel_rfl) (hval 0 22 v0 rfl rfl) h0 hsz.1
  obtain ⟨x1, e1, s1⟩ := KT.arg (KT.str Tryz.underlying9 (by kernel_rfl)) (by kernel_rfl) (hval 1 9 v1 rfl rfl) h1 hsz.2.1
  obtain ⟨x2, e2, s2⟩ := KT.arg (KT.slice (B := 8) Tryz.underlying23 (by kernel_rfl) (KT.int Tryz.underlying2 (by kernel_rfl)) (by kernel_rfl)) (by kernel_rfl) (hval 2 23 v2 rfl rfl) h2 hsz.2.2.1
  obtain ⟨x3, e3, s3⟩ := KT.arg (KT.slice (B := 32) Tryz.underlying24 (by kernel_rfl) (KT.struct Tryz.underlying33 (by kernel_rfl) (KTs.cons rfl (KT.str Tryz.underlying9 (by kernel_rfl)) (KTs.one rfl (KT.two Tryz.underlying31 (by kernel_rfl) (KT.u64 Tryz.underlying29 (by kernel_rfl)))))) (by kernel_rfl)) (by kernel_rfl) (hval 3 24 v3 rfl rfl) h3 hsz.2.2.2.1
  obtain ⟨x4, e4, s4⟩ := KT.argA (KT.struct Tryz.underlying28 (by kernel_rfl) (KTs.cons rfl (KT.str Tryz.underlying9 (by kernel_rfl)) (KTs.cons rfl (KT.int Tryz.underlying25 (by kernel_rfl)) (KTs.cons rfl (KT.int Tryz.underlying26 (by kernel_rfl)) (KTs.one rfl (KT.int Tryz.underlying26 (by kernel_rfl))))))) (by kernel_rfl) (hval 4 28 v4 rfl rfl) h4 hsz.2.2.2.2.1
  obtain ⟨x5, e5, s5⟩ := KT.arg (KT.int Tryz.underlying2 (by kernel_rfl)) (by kernel_rfl) (hval 5 2 v5 rfl rfl) h5 hsz.2.2.2.2.2.1
  obtain ⟨x6, e6, s6⟩ := KT.arg (KT.slice (B := 32) Tryz.underlying24 (by kernel_rfl) (KT.struct Tryz.underlying33 (by kernel_rfl) (KTs.cons rfl (KT.str Tryz.underlying9 (by kernel_rfl)) (KTs.one rfl (KT.two Tryz.underlying31 (by kernel_rfl) (KT.u64 Tryz.underlying29 (by kernel_rfl)))))) (by kernel_rfl)) (by kernel_rfl) (hval 6 24 v6 rfl rfl) h6 hsz.2.2.2.2.2.2
  refine law_calls (ins := [.cel (Kd.slice kField) x0, .cel Kd.str x1, .cel (Kd.slice (Kd.int .i64)) x2, .cel (Kd.slice kCard) x3, .agg kField x4, .cel (Kd.int .i64) x5, .cel (Kd.slice kCard) x6]) (by kernel_rfl) (by kernel_rfl) rfl rfl Tryz.underlying4 ⟨rfl, rfl, rfl⟩ hW' (c_laws_FnTopOfAll x0 x1 x2 x3 x4 x5 x6 ).1 (fun h => h.elim) rfl ?_
  intro i
  match i with
  | 0 => exact e0
  | 1 => exact e1
  | 2 => exact e2
  | 3 => exact e3
  | 4 => exact e4
  | 5 => exact e5
  | 6 => exact e6
  | n + 7 => exact fun b hb => hb
theorem closed_fnTopOfAll : joinedFacts Tryz.prog 3 Tryz.f3 Rows.fnTopOfAllSpec Rows.fnTopOfAllRow = true :=
  joinedFacts_of (by kernel_rfl) (by kernel_rfl) (by kernel_rfl) (by kernel_rfl) (by kernel_rfl) (by kernel_rfl) may_seat lift_seat make_seat (by kernel_rfl)
theorem over_fnTopOfAll : Rows.fnTopOfAllRow.holds Tryz.pinned (OpenSpec.ofChange Rows.fnTopOfAllSpec) :=
  OpenClaim.holds_of_wide 3 Tryz.f3 rfl rfl rfl rfl rfl rfl rfl ⟨rfl, rfl, rfl, rfl, rfl⟩ rfl rfl rfl rfl rfl (by kernel_rfl) Tryz.func3 closed_fnTopOfAll
    (of_decide_eq_true (by kernel_rfl)) (by unfold Func.isWrapper; first | (rw [if_pos (by decide +kernel)]; kernel_rfl) | (rw [if_neg (by decide +kernel)]; exact ⟨rfl, rfl⟩))
    (fun os started H enc _ => lift_fnTopOfAll os started H enc)

end Go.Proofs.YtlhfmcbmlmhgaaaGreatDoor.VL
namespace Go.Proofs.YtlhfmcbmlmhgaaaGreatDoor
open Go
theorem fnTopOfAll_holds : Rows.FnTopOfAllCardSaid :=
  Claim7.holds_tied_plain_at .later [] [.data, .pinned] true (true, "f4ede92ce11079b725545c95e823d984d2d590d40deaa19457f0534b94aabf07") false VL.over_fnTopOfAll (fun _ h => by cases h) (by kernel_rfl) (fun _ h => by cases h) fnTopOfAll_row_tie rfl ⟨rfl, rfl⟩ VL.main_seat rfl
    (fun f fn hf hfn => by
      obtain rfl : f = 3 := Option.some.inj ((show Tryz.prog.funcNamed "loop.example/g01261/laws.FnTopOfAll" = some 3 by kernel_rfl).symm.trans hf) |>.symm
      obtain rfl : fn = Tryz.f3 := (Option.some.inj (Tryz.func3.symm.trans hfn)).symm
      exact ⟨VL.looks_seat, fun j t ht => by
        rw [Tryz.params3] at ht
        have hm : t ∈ [22, 9, 23, 24, 28, 2, 24] := by simpa using Array.mem_of_getElem? ht
        have hall : ([22, 9, 23, 24, 28, 2, 24].all fun u => !Tryz.prog.wantsStandIn u) = true := by kernel_rfl
        exact (show Tryz.prog.wantsStandIn t = false by simpa using List.all_eq_true.1 hall t hm)⟩)
    (by kernel_rfl)
#print axioms fnTopOfAll_holds
end Go.Proofs.YtlhfmcbmlmhgaaaGreatDoor
