/- Proved here: what some functions of the program take and give: walks with the words of VA..VQ. Printed by program. -/
import Derived.Test.YtohcpnobmknglaaGreatDoorWT
import Derived.Test.YtohcpnobmknglaaGreatDoorPZL
import Derived.Test.YtohcpnobmknglaaGreatDoorPZS
import Derived.Test.YtohcpnobmknglaaGreatDoorWCH
import Derived.Test.YtohcpnobmknglaaGreatDoorWSR
set_option linter.unusedVariables false
set_option linter.unusedSimpArgs false
set_option maxRecDepth 4000
namespace Go.Proofs.YtohcpnobmknglaaGreatDoor.VL
open Go
attribute [local irreducible] pick nxt txtD

/-- spec.l03Vocabulary -/
theorem c_spec_l03Vocabulary  : AC Tryz.prog 75 [] [.cel (Kd.slice Kd.str) vocL] [] := by
 refine acI (N := 2) Tryz.func75 (Nat.le_of_ble_eq_true rfl) rfl fun w0 hd s0 ar => ?_
 refine AW.to (Kn) ?_
 refine sr ?_
 refine st (OpT.move (A := .cel _ _) (.inr rfl) rfl (ok' rfl) (Opd.nilslice Kd.str) rfl) rfl ?_
 refine ng ?_
 refine sr ?_
 refine st (OpT.buildSlice (H rfl) el54 zr9 sz9 rfl (by decide) zk9 (by decide) (Built.cel (Opd.str (by decide)) rfl rfl (sub_arr (by decide) (.empty : ByteArray)) (Built.cel (Opd.str (by decide)) rfl rfl (sub_arr (by decide) (.empty : ByteArray)) (Built.cel (Opd.str (by decide)) rfl rfl (sub_arr (by decide) (.empty : ByteArray)) (Built.cel (Opd.str (by decide)) rfl rfl (sub_arr (by decide) (.empty : ByteArray)) (Built.cel (Opd.str (by decide)) rfl rfl (sub_arr (by decide) (.empty : ByteArray)) (Built.cel (Opd.str (by decide)) rfl rfl (sub_arr (by decide) (.empty : ByteArray)) (Built.cel (Opd.str (by decide)) rfl rfl (sub_arr (by decide) (.empty : ByteArray)) (Built.cel (Opd.str (by decide)) rfl rfl (sub_arr (by decide) (.empty : ByteArray)) (Built.cel (Opd.str (by decide)) rfl rfl (sub_arr (by decide) (.empty : ByteArray)) (Built.cel (Opd.str (by decide)) rfl rfl (sub_arr (by decide) (.empty : ByteArray)) (Built.cel (Opd.str (by decide)) rfl rfl (sub_arr (by decide) (.empty : ByteArray)) (Built.cel (Opd.str (by decide)) rfl rfl (sub_arr (by decide) (.empty : ByteArray)) (Built.cel (Opd.str (by decide)) rfl rfl (sub_arr (by decide) (.empty : ByteArray)) (Built.cel (Opd.str (by decide)) rfl rfl (sub_arr (by decide) (.empty : ByteArray)) (Built.nil _)))))))))))))))) rfl ?_
 refine sg (OpT.take (.inl rfl) rfl (ok' rfl) (Root.self (by decide)) rfl rfl (by decide)) (ko 0 rfl <| Kn) rfl ?_
 refine ng ?_
 refine AW.ret ?_
 refine AX.freeze (t := 0) rfl ?_
 refine AX.pr (kc 0 rfl <| Kn) ?_
 exact rt1 rfl (.inl rfl) rfl

/-- spec.P6Lot -/
theorem c_spec_P6Lot (l : List Int) (h : (∀ b ∈ l, 0 ≤ b ∧ b ≤ 255) ∧ l.length ≤ 1000000) : AC Tryz.prog 25 [.cel (Kd.slice (Kd.int .u8)) l] [.deep (OSh.ex (fun x : List (List (ByteArray)) => .cel (Kd.slice (Kd.slice Kd.str)) x) (fun x => x.length ≤ 6 ∧ allL (wordsOK 4) x))] [] := by
 refine acI (N := 35) Tryz.func25 (Nat.le_of_ble_eq_true rfl) rfl fun w0 hd s0 ar => ?_
 refine AW.to (kc 0 rfl <| Kn) ?_
 have h0 : srcI 0 (l, 0, 0#64) := ⟨h.1, h.2, Int.le_refl 0, Int.le_refl 0⟩
 have hq1 := pick_in h0 7
 have hq2 := pick_src h0 7
 refine sr ?_
 refine st (OpT.move (A := .cel _ _) (.inr rfl) rfl (ok' rfl) (Opd.nilslice (Kd.slice Kd.str)) rfl) rfl ?_
 refine ng ?_
 refine sr ?_
 refine st (mvT rfl) rfl ?_
 refine st (OpT.c1 (ms := [.flat]) (c_spec_l00From _) (H rfl) (Af (T1 rfl) rfl rfl <| An) rfl rfl) rfl ?_
 refine sg (OpT.take (.inl rfl) rfl (ok' rfl) (Root.self (by decide)) rfl rfl (by decide)) (kb 3 rfl <| kc3 8 2 0 rfl <| Kn) rfl ?_
 refine ng ?_
 refine sr ?_
 refine st (OpT.buildSlice0 (m := 0) (z := .bool false) (Kd.slice Kd.str) (H rfl) el51 sz54 (by decide)) rfl ?_
 refine sg (OpT.take (.inl rfl) rfl (ok' rfl) (Root.self (by decide)) rfl rfl (by decide)) (ko 4 rfl <| kb 3 rfl <| kc3 8 2 0 rfl <| Kn) rfl ?_
 refine ng ?_
 refine AW.seq ?_
 refine sr ?_
 refine st (OpT.alias (H rfl) (by decide) (by decide)) rfl ?_
 refine sg (OpT.cr (ms := [.root 3, .flat]) (c_spec_l00Src_pick _ _ (h0.le (by omega))) (H rfl) (Ar (Root.ali rfl (by decide) (by decide)) rfl rfl rfl <| Af (I rfl) rfl rfl <| An) rfl (.inl rfl) rfl) (kc 12 rfl <| Kc 11 (.ali _) rfl <| ko 4 rfl <| kb 3 rfl <| kc3 8 2 0 rfl <| Kn) rfl ?_
 refine st (asT rfl) rfl ?_
 refine ng ?_
 refine AW.block ?_
 refine AW.loop (fun p : Nat × DSrc × List (List ByteArray) => srcI (1000 - 100 * (p.1 : Int)) p.2.1 ∧ p.1 + p.2.2.length ≤ 6 ∧ allL (wordsOK 4) p.2.2) (fun p : Nat × DSrc × List (List ByteArray) => keep [(3, .box 148 (Kd.pair (Kd.slice (Kd.int .u8)) (Kd.pair (Kd.int .i64) Kd.u64)) p.2.1), (4, .own 54 (Kd.slice Kd.str) p.2.2), (5, .cel (Kd.int .i64) (p.1 : Int))]) (fun p : Nat × DSrc × List (List ByteArray) => p.1) (((pick (l, 0, 0#64) 7).1.toNat, (pick (l, 0, 0#64) 7).2, [])) ⟨hq2.le (by simp only []; omega), by simp only [List.length_nil]; omega, allL_nil⟩ (Kc 3 _ (Kb rfl rfl) <| Kc 4 _ (Ko rfl rfl) <| Kc 5 _ (Kv rfl (by simp only []; omega)) <| Kn) ?_
 intro p hI
 refine AW.seq ?_
 refine sr ?_
 refine st (mvT rfl) rfl ?_
 refine st (OpT.gtr (H rfl) (T1 rfl) (I rfl)) rfl ?_
 refine ng ?_
 refine cd rfl (fun hc1 => ?_) fun hc1 => ?_
 ·
  obtain ⟨hc1, hc1'⟩ := pT hc1
  have hp1 := pick_in hI.1 5
  have hp2 := pick_src hI.1 5
  refine AW.skip ?_
  refine AX.go ?_
  refine AW.seq ?_
  refine AW.block ?_
  refine sr ?_
  refine st (OpT.buildSlice0 (m := 0) (z := .bool false) Kd.str (H rfl) el54 sz9 (by decide)) rfl ?_
  refine sg (OpT.take (.inl rfl) rfl (ok' rfl) (Root.self (by decide)) rfl rfl (by decide)) (ko 6 rfl <| kc2 14 13 rfl <| kb 3 rfl <| ko 4 rfl <| kc 5 rfl <| Kn) rfl ?_
  refine ng ?_
  refine AW.seq ?_
  refine sr ?_
  refine st (OpT.alias (H rfl) (by decide) (by decide)) rfl ?_
  refine sg (OpT.cr (ms := [.root 3, .flat]) (c_spec_l00Src_pick _ _ (hI.1.le (by omega))) (H rfl) (Ar (Root.ali rfl (by decide) (by decide)) rfl rfl rfl <| Af (I rfl) rfl rfl <| An) rfl (.inl rfl) rfl) (kc 19 rfl <| Kc 18 (.ali _) rfl <| ko 6 rfl <| kc2 14 13 rfl <| kb 3 rfl <| ko 4 rfl <| kc 5 rfl <| Kn) rfl ?_
  refine st (asT rfl) rfl ?_
  refine ng ?_
  refine AW.block ?_
  refine AW.loop (fun q : Nat × DSrc × List ByteArray => q.1 ≤ 4 ∧ srcI (1002 - 100 * (p.1 : Int) + 2 * (4 - (q.1 : Int))) q.2.1 ∧ q.1 + q.2.2.length ≤ 4 ∧ allL nameOK q.2.2) (fun q : Nat × DSrc × List ByteArray => keep [(3, .box 148 (Kd.pair (Kd.slice (Kd.int .u8)) (Kd.pair (Kd.int .i64) Kd.u64)) q.2.1), (4, .own 54 (Kd.slice Kd.str) p.2.2), (5, .cel (Kd.int .i64) (p.1 : Int)), (6, .own 9 Kd.str q.2.2), (7, .cel (Kd.int .i64) (q.1 : Int))]) (fun q : Nat × DSrc × List ByteArray => q.1) (((pick p.2.1 5).1.toNat, (pick p.2.1 5).2, [])) ⟨by simp only []; omega, hp2.le (by simp only []; omega), by simp only [List.length_nil]; omega, allL_nil⟩ (Kc 3 _ (Kb rfl rfl) <| Kc 4 _ (Ko rfl rfl) <| Kc 5 _ (Kv rfl rfl) <| Kc 6 _ (Ko rfl rfl) <| Kc 7 _ (Kv rfl (by simp only []; omega)) <| Kn) ?_
  intro q hJ -- hI
  refine AW.seq ?_
  refine sr ?_
  refine st (mvT rfl) rfl ?_
  refine st (OpT.gtr (H rfl) (T1 rfl) (I rfl)) rfl ?_
  refine ng ?_
  refine cd rfl (fun hc2 => ?_) fun hc2 => ?_
  ·
   obtain ⟨hc2, hc2'⟩ := pT hc2
   have hv := voc_ok hJ.2.1
   have hps := pick_src hJ.2.1 (vocL.length : Int)
   refine AW.skip ?_
   refine AX.go ?_
   refine AW.seq ?_
   refine AW.block ?_
   refine AW.region ?_
   refine st (OpT.alias (H rfl) (by decide) (by decide)) rfl ?_
   refine st (OpT.alias (H rfl) (by decide) (by decide)) rfl ?_
   refine st (OpT.c1 (ms := []) (c_spec_l03Vocabulary ) (H rfl) (An) rfl rfl) rfl ?_
   refine sg (OpT.cr (ms := [.root 3, .flat]) (c_spec_l00Src_text _ vocL ⟨(hJ.2.1.le (by omega)), by decide⟩) (H rfl) (Ar (Root.ali rfl (by decide) (by decide)) rfl rfl rfl <| Af (T1 rfl) rfl rfl <| An) rfl (.inl rfl) rfl) (kc2 27 26 rfl <| Kc 25 (.ali _) rfl <| Kc 24 (.ali _) rfl <| kc2 21 20 rfl <| kb 3 rfl <| ko 4 rfl <| kc 5 rfl <| ko 6 rfl <| kc 7 rfl <| Kn) rfl ?_
   refine st (OpT.buildSlice (H rfl) el54 zr9 sz9 rfl (by decide) zk9 (by decide) (Built.cel (T1 rfl) rfl rfl (sub_arr (by decide) (.empty : ByteArray)) (Built.nil _))) rfl ?_
   refine sg (OpT.append (H rfl) (Root.ali rfl (by decide) (by decide)) rfl (Src.own (Root.self (t := 28) (by decide)) rfl) (by decide) el54 zr9 rfl sz9 by9 (by decide) (by simp only [List.length_set, List.length_replicate]; omega)) (ko 29 rfl <| ko 28 rfl <| kc2 27 26 rfl <| Kc 25 (.ali _) rfl <| kc2 21 20 rfl <| kb 3 rfl <| ko 4 rfl <| kc2 5 7 rfl <| Kn) rfl ?_
   refine sg (OpT.take (.inl rfl) rfl (ok' rfl) (Root.self (by decide)) rfl rfl (by decide)) (ko 6 rfl <| ko 28 rfl <| kc2 27 26 rfl <| Kc 25 (.ali _) rfl <| kc2 21 20 rfl <| kb 3 rfl <| ko 4 rfl <| kc2 5 7 rfl <| Kn) rfl ?_
   refine nn ?_
   refine AX.normal_block ?_
   refine AX.go ?_
   refine AW.region ?_
   refine st (mvT rfl) rfl ?_
   refine st (OpT.sub (H rfl) (T1 rfl) (I rfl) (nw (by omega))) rfl ?_
   refine st (asT rfl) rfl ?_
   refine nn ?_
   exact AX.again ((q.1 - 1, (pick q.2.1 (vocL.length : Int)).2, q.2.2 ++ [txtD q.2.1 vocL])) ⟨by simp only []; omega, hps.le (by simp only []; omega), by simp only [List.length_append, List.length_cons, List.length_nil]; omega, allL_add hJ.2.2.2 hv⟩ (by simp only []; omega) (Kc 3 _ (Kb rfl rfl) <| Kc 4 _ (Ko rfl rfl) <| Kc 5 _ (Kv rfl rfl) <| Kc 6 _ (Ko rfl rfl) <| Kc 7 _ (Kv rfl (by simp only []; omega)) <| Kn)
  ·
   obtain ⟨hc2, hc2'⟩ := pF hc2
   refine AW.exit ?_
   refine xT <| xT <| AX.exit_hit ?_
   refine AX.go ?_
   refine AW.region ?_
   refine st (OpT.alias (H rfl) (by decide) (by decide)) rfl ?_
   refine AWl.freeze (t := 6) rfl ?_
   refine AWl.to (Kc 30 (.ali _) rfl <| kc2 21 20 rfl <| kb 3 rfl <| ko 4 rfl <| kc3 5 6 7 rfl <| Kn) ?_
   refine st (mvT rfl) rfl ?_
   refine st (OpT.buildSlice (H rfl) el51 zr54 sz54 rfl (by decide) zk54 (by decide) (Built.cel (T1 rfl) rfl rfl (sub_arr (by decide) ([] : List (ByteArray))) (Built.nil _))) rfl ?_
   refine sg (OpT.append (H rfl) (Root.ali rfl (by decide) (by decide)) rfl (Src.own (Root.self (t := 32) (by decide)) rfl) (by decide) el51 zr54 rfl sz54 by54 (by decide) (by simp only [List.length_set, List.length_replicate]; omega)) (ko 33 rfl <| ko 32 rfl <| kc3 31 21 20 rfl <| kb 3 rfl <| kc3 5 6 7 rfl <| Kn) rfl ?_
   refine sg (OpT.take (.inl rfl) rfl (ok' rfl) (Root.self (by decide)) rfl rfl (by decide)) (ko 4 rfl <| ko 32 rfl <| kc3 31 21 20 rfl <| kb 3 rfl <| kc3 5 6 7 rfl <| Kn) rfl ?_
   refine nn ?_
   refine AX.normal_block ?_
   refine AX.go ?_
   refine AW.region ?_
   refine st (mvT rfl) rfl ?_
   refine st (OpT.sub (H rfl) (T1 rfl) (I rfl) (nw (by omega))) rfl ?_
   refine st (asT rfl) rfl ?_
   refine nn ?_
   exact AX.again ((p.1 - 1, q.2.1, p.2.2 ++ [q.2.2])) ⟨hJ.2.1.le (by simp only []; omega), by simp only [List.length_append, List.length_cons, List.length_nil]; omega, allL_add hI.2.2 ⟨by omega, hJ.2.2.2⟩⟩ (by simp only []; omega) (Kc 3 _ (Kb rfl rfl) <| Kc 4 _ (Ko rfl rfl) <| Kc 5 _ (Kv rfl (by simp only []; omega)) <| Kn)
 ·
  obtain ⟨hc1, hc1'⟩ := pF hc1
  refine AW.exit ?_
  refine xT <| xT <| AX.exit_hit ?_
  refine AX.go ?_
  refine sr ?_
  refine st (OpT.alias (H rfl) (by decide) (by decide)) rfl ?_
  refine sg (OpT.take (.inl rfl) rfl (ok' rfl) (Root.ali rfl (by decide) (by decide)) rfl rfl (by decide)) (ko 2 rfl <| kc2 14 13 rfl <| kb 3 rfl <| kc 5 rfl <| Kn) rfl ?_
  refine ng ?_
  refine AW.ret ?_
  refine AX.freeze (t := 2) rfl ?_
  refine AX.pr (kc3 2 14 13 rfl <| kb 3 rfl <| kc 5 rfl <| Kn) ?_
  refine AX.vw (vclo (A := fun x : List (List (ByteArray)) => .cel (Kd.slice (Kd.slice Kd.str)) x) (p := fun x => x.length ≤ 6 ∧ allL (wordsOK 4) x) _ ⟨by omega, hI.2.2⟩ 2 9097 rfl rfl (by decide) rfl) fun _ => ?_
  refine AX.pr (Kc 2 (.deep _) rfl <| kc2 14 13 rfl <| kb 3 rfl <| kc 5 rfl <| Kn) ?_
  exact AX.rt (rs := [.tmp 2]) (ts := [some 2]) (.inl rfl) rfl (ROs.cons (RO.tmp (At.self (by decide)) (Ke rfl rfl) rfl) <| ROs.nil) (by decide) OutsOK.nil
end Go.Proofs.YtohcpnobmknglaaGreatDoor.VL
