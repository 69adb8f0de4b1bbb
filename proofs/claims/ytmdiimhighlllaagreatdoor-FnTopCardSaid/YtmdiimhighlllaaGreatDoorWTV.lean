/- Proved here: what some functions of the program take and give: walks with the words of VA..VQ. Printed by program. -/
import Derived.Test.YtmdiimhighlllaaGreatDoorWT
import Derived.Test.YtmdiimhighlllaaGreatDoorPZW
import Derived.Test.YtmdiimhighlllaaGreatDoorWV
import Derived.Test.YtmdiimhighlllaaGreatDoorWSR
set_option linter.unusedVariables false
set_option linter.unusedSimpArgs false
set_option maxRecDepth 4000
namespace Go.Proofs.YtmdiimhighlllaaGreatDoor.VL
open Go
/-- spec.A2Values -/
theorem c_spec_A2Values (l : List Int) (s : List DField) (h : (∀ b ∈ l, 0 ≤ b ∧ b ≤ 255) ∧ l.length ≤ 1000000) (hs : schemeOK s) : AC Tryz.prog 25 [.cel (Kd.slice (Kd.int .u8)) l, .cel (Kd.slice kField) s] [.deep (OSh.ex (fun x : List (Int) => .cel (Kd.slice (Kd.int .i64)) x) (fun x => valsOK s x))] [] := by
 refine acI (N := 29) Tryz.func25 (Nat.le_of_ble_eq_true rfl) rfl fun w0 hd s0 ar => ?_
 refine AW.to (kc2 0 1 rfl <| Kn) ?_
 have h0 : srcI 0 (l, 0, 0#64) := ⟨h.1, h.2, Int.le_refl 0, Int.le_refl 0⟩
 have hsl : s.length ≤ 12 := hs.1
 refine sr ?_
 refine st (OpT.move (A := .cel _ _) (.inr rfl) rfl (ok' rfl) (Opd.nilslice (Kd.int .i64)) rfl) rfl ?_
 refine ng ?_
 refine sr ?_
 refine st (mvT rfl) rfl ?_
 refine st (OpT.c1 (ms := [.flat]) (c_spec_l00From _) (H rfl) (Af (T1 rfl) rfl rfl <| An) rfl rfl) rfl ?_
 refine sg (OpT.take (.inl rfl) rfl (ok' rfl) (Root.self (by decide)) rfl rfl (by decide)) (kb 5 rfl <| kc4 8 4 0 1 rfl <| Kn) rfl ?_
 refine ng ?_
 refine sr ?_
 refine st (OpT.buildSlice0 (m := 0) (z := .bool false) (Kd.int .i64) (H rfl) el43 sz2 (by decide)) rfl ?_
 refine sg (OpT.take (.inl rfl) rfl (ok' rfl) (Root.self (by decide)) rfl rfl (by decide)) (ko 6 rfl <| kb 5 rfl <| kc4 8 4 0 1 rfl <| Kn) rfl ?_
 refine ng ?_
 refine AW.seq ?_
 refine sr ?_
 refine st (asI rfl) rfl ?_
 refine ng ?_
 refine AW.block ?_
 refine AW.loop (fun p : Nat × DSrc × List Int => p.1 ≤ s.length ∧ srcI (2 * (p.1 : Int)) p.2.1 ∧ valsP s p.1 p.2.2) (fun p : Nat × DSrc × List Int => keep [(1, .cel (Kd.slice kField) s), (5, .box 154 (Kd.pair (Kd.slice (Kd.int .u8)) (Kd.pair (Kd.int .i64) Kd.u64)) p.2.1), (6, .own 2 (Kd.int .i64) p.2.2), (7, .cel (Kd.int .i64) (p.1 : Int))]) (fun p : Nat × DSrc × List Int => s.length - p.1) ((0, (l, 0, 0#64), [])) ⟨Nat.zero_le _, h0.le (by simp only []; omega), valsP_nil _⟩ (Kc 1 _ (Kv rfl rfl) <| Kc 5 _ (Kb rfl rfl) <| Kc 6 _ (Ko rfl rfl) <| Kc 7 _ (Kv rfl rfl) <| Kn) ?_
 intro p hI
 refine AW.seq ?_
 refine sr ?_
 refine st (mvT rfl) rfl ?_
 refine st (mvT rfl) rfl ?_
 refine st (OpT.len (H rfl) (T1 rfl) el24) rfl ?_
 refine st (OpT.lss (H rfl) (T1 rfl) (T1 rfl)) rfl ?_
 refine ng ?_
 refine cd rfl (fun hc1 => ?_) fun hc1 => ?_
 ·
  obtain ⟨hc1, hc1'⟩ := pT hc1
  obtain ⟨f, hf⟩ := getI (x := s) (z := p.1) (by omega)
  have hfo := sch_field hs hf
  have htp := top_in hfo
  have hpi := pick_in hI.2.1 (topF f + 2)
  have hps := pick_src hI.2.1 (topF f + 2)
  have hiv : inV f ((pick p.2.1 (topF f + 2)).1 - 1) := by unfold inV; omega
  refine AW.skip ?_
  refine AX.go ?_
  refine AW.seq ?_
  refine AW.block ?_
  refine AW.region ?_
  refine st (OpT.alias (H rfl) (by decide) (by decide)) rfl ?_
  refine st (OpT.alias (H rfl) (by decide) (by decide)) rfl ?_
  refine st (mvT rfl) rfl ?_
  refine st (mvT rfl) rfl ?_
  refine st (OpT.indexAddr (H rfl) (T1 rfl) (T1 rfl) el24 sz52 (by omega) hf) rfl ?_
  refine st (OpT.c1 (ms := [.flat]) (c_spec_l01Most _ hfo) (H rfl) (Af (T1 rfl) rfl rfl <| An) rfl rfl) rfl ?_
  refine st (OpT.add (H rfl) (T1 rfl) (I rfl) (nw (by omega))) rfl ?_
  refine sg (OpT.cr (ms := [.root 5, .flat]) (c_spec_l00Src_pick _ _ (hI.2.1.le (by omega))) (H rfl) (Ar (Root.ali rfl (by decide) (by decide)) rfl rfl rfl <| Af (T1 rfl) rfl rfl <| An) rfl (.inl rfl) rfl) (kc4 24 23 22 21 rfl <| kc2 20 19 rfl <| Kc 18 (.ali _) rfl <| Kc 17 (.ali _) rfl <| kc4 14 13 12 11 rfl <| kc 1 rfl <| kb 5 rfl <| ko 6 rfl <| kc 7 rfl <| Kn) rfl ?_
  refine st (OpT.sub (H rfl) (T1 rfl) (I rfl) (nw (by omega))) rfl ?_
  refine st (OpT.buildSlice (H rfl) el43 zr2 sz2 rfl (by decide) zk2 (by decide) (Built.cel (T1 rfl) rfl rfl (sub_arr (by decide) (0 : Int)) (Built.nil _))) rfl ?_
  refine sg (OpT.append (H rfl) (Root.ali rfl (by decide) (by decide)) rfl (Src.own (Root.self (t := 26) (by decide)) rfl) (by decide) el43 zr2 rfl sz2 by2 (by decide) (by have h70 := hI.2.2.1; simp only [List.length_set, List.length_replicate]; omega)) (ko 27 rfl <| ko 26 rfl <| kc4 25 24 23 22 rfl <| kc3 21 20 19 rfl <| Kc 18 (.ali _) rfl <| kc4 14 13 12 11 rfl <| kc 1 rfl <| kb 5 rfl <| kc 7 rfl <| Kn) rfl ?_
  refine sg (OpT.take (.inl rfl) rfl (ok' rfl) (Root.self (by decide)) rfl rfl (by decide)) (ko 6 rfl <| ko 26 rfl <| kc4 25 24 23 22 rfl <| kc3 21 20 19 rfl <| Kc 18 (.ali _) rfl <| kc4 14 13 12 11 rfl <| kc 1 rfl <| kb 5 rfl <| kc 7 rfl <| Kn) rfl ?_
  refine nn ?_
  refine AX.normal_block ?_
  refine AX.go ?_
  refine AW.region ?_
  refine st (mvT rfl) rfl ?_
  refine st (OpT.add (H rfl) (T1 rfl) (I rfl) (nw (by omega))) rfl ?_
  refine st (asT rfl) rfl ?_
  refine nn ?_
  exact AX.again ((p.1 + 1, (pick p.2.1 (topF f + 2)).2, p.2.2 ++ [(pick p.2.1 (topF f + 2)).1 - 1])) ⟨by simp only []; omega, hps.le (by simp only []; omega), valsP_add hI.2.2 hf hiv⟩ (by simp only []; omega) (Kc 1 _ (Kv rfl rfl) <| Kc 5 _ (Kb rfl rfl) <| Kc 6 _ (Ko rfl rfl) <| Kc 7 _ (Kv rfl (by simp only []; omega)) <| Kn)
 ·
  obtain ⟨hc1, hc1'⟩ := pF hc1
  refine AW.exit ?_
  refine xT <| xT <| AX.exit_hit ?_
  refine AX.go ?_
  refine sr ?_
  refine st (OpT.alias (H rfl) (by decide) (by decide)) rfl ?_
  refine sg (OpT.take (.inl rfl) rfl (ok' rfl) (Root.ali rfl (by decide) (by decide)) rfl rfl (by decide)) (ko 4 rfl <| kc4 14 13 12 11 rfl <| kc 1 rfl <| kb 5 rfl <| kc 7 rfl <| Kn) rfl ?_
  refine ng ?_
  refine AW.ret ?_
  refine AX.freeze (t := 4) rfl ?_
  refine AX.pr (kc4 4 14 13 12 rfl <| kc2 11 1 rfl <| kb 5 rfl <| kc 7 rfl <| Kn) ?_
  refine AX.vw (vclo (A := fun x : List (Int) => .cel (Kd.slice (Kd.int .i64)) x) (p := fun x => valsOK s x) _ (valsP_ok hI.2.2 (by omega) (by omega)) 4 9097 rfl rfl (by decide) rfl) fun _ => ?_
  refine AX.pr (Kc 4 (.deep _) rfl <| kc4 14 13 12 11 rfl <| kc 1 rfl <| kb 5 rfl <| kc 7 rfl <| Kn) ?_
  exact AX.rt (rs := [.tmp 4]) (ts := [some 4]) (.inl rfl) rfl (ROs.cons (RO.tmp (At.self (by decide)) (Ke rfl rfl) rfl) <| ROs.nil) (by decide) OutsOK.nil
end Go.Proofs.YtmdiimhighlllaaGreatDoor.VL
