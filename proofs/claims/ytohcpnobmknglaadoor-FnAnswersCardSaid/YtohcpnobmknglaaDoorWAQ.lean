/- Proved here: what some functions of the program take and give: walks with the words of VA..VQ. Printed by program. -/
import Derived.Test.YtohcpnobmknglaaDoorWT
import Derived.Test.YtohcpnobmknglaaDoorPZQ
import Derived.Test.YtohcpnobmknglaaDoorBpa
import Derived.Test.YtohcpnobmknglaaDoorWP
import Derived.Test.YtohcpnobmknglaaDoorWDK
import Derived.Test.YtohcpnobmknglaaDoorWB
import Derived.Test.YtohcpnobmknglaaDoorWSR
import Derived.Test.YtohcpnobmknglaaDoorWV
import Derived.Test.YtohcpnobmknglaaDoorWN
import Derived.Test.YtohcpnobmknglaaDoorWL
set_option linter.unusedVariables false
set_option linter.unusedSimpArgs false
set_option maxRecDepth 4000
namespace Go.Proofs.YtohcpnobmknglaaDoor.VL
open Go
set_option maxHeartbeats 4000000 in
/-- spec.l02Asking -/
theorem c_spec_l02Asking (ss : DSrc) (x : List DField) (h : srcI 100 ss) (hx : schemeOK x ∧ 1 ≤ x.length) : AC Tryd.prog 83 [.box 163 (Kd.pair (Kd.slice (Kd.int .u8)) (Kd.pair (Kd.int .i64) Kd.u64)) ss, .cel (Kd.slice kField) x] [.agg kQuery (askS ss x)] [] := by
 refine acI (N := 50) Tryd.func83 (Nat.le_of_ble_eq_true rfl) rfl fun w0 hd s0 ar => ?_
 refine AW.to (kb 0 rfl <| kc 1 rfl <| Kn) ?_
 have hxl : x.length ≤ 12 := hx.1.1
 have hpk := pick_in h (x.length : Int)
 have hfo := askF_ok h hx.2 hx.1
 have htp := top_in hfo
 have hp1 := pick_src h (x.length : Int)
 have hpv := pick_in hp1 (topF (askF ss x) + 1)
 have hp2 := pick_src hp1 (topF (askF ss x) + 1)
 have hp3 := pick_src hp2 4
 have hpb := pick_in hp3 96
 have hp4 := pick_src hp3 96
 refine sr ?_
 refine st (OpT.alloc (H rfl) zr55 zk55) rfl ?_
 refine ng ?_
 refine sr ?_
 refine st (OpT.build (H rfl) pl55 zr55 zk55 (Built.nil _)) rfl ?_
 refine st (OpT.alloc (H rfl) zr55 zk55) rfl ?_
 refine sk (OpT.storeBA rfl rfl (Opd.whole (Root.self (t := 5) (by decide)) rfl) rfl sz55 (by decide) (T1 rfl)) rfl ?_
 refine ng ?_
 refine sr ?_
 refine st (mvT rfl) rfl ?_
 refine st (OpT.alias (H rfl) (by decide) (by decide)) rfl ?_
 refine st (mvT rfl) rfl ?_
 refine st (OpT.len (H rfl) (T1 rfl) el24) rfl ?_
 refine sg (OpT.cr (ms := [.root 0, .flat]) (c_spec_l00Src_pick _ _ (h.le (by omega))) (H rfl) (Ar (Root.ali rfl (by decide) (by decide)) rfl rfl rfl <| Af (T1 rfl) rfl rfl <| An) rfl (.inl rfl) rfl) (kc3 13 12 11 rfl <| Kc 10 (.ali _) rfl <| kc 9 rfl <| kb 5 rfl <| ka 8 rfl <| kb 4 rfl <| kb 0 rfl <| kc 1 rfl <| Kn) rfl ?_
 refine st (OpT.indexAddr (H rfl) (T1 rfl) (T1 rfl) el24 sz141 (by omega) (askF_get h hx.2)) rfl ?_
 refine st (asT rfl) rfl ?_
 refine ng ?_
 refine sr ?_
 refine st (mvT rfl) rfl ?_
 refine st (OpT.alias (H rfl) (by decide) (by decide)) rfl ?_
 refine st (mvT rfl) rfl ?_
 refine st (OpT.c1 (ms := [.flat]) (c_spec_l01Most _ hfo) (H rfl) (Af (T1 rfl) rfl rfl <| An) rfl rfl) rfl ?_
 refine st (OpT.add (H rfl) (T1 rfl) (I rfl) (nw (by omega))) rfl ?_
 refine sg (OpT.cr (ms := [.root 0, .flat]) (c_spec_l00Src_pick _ _ (hp1.le (by omega))) (H rfl) (Ar (Root.ali rfl (by decide) (by decide)) rfl rfl rfl <| Af (T1 rfl) rfl rfl <| An) rfl (.inl rfl) rfl) (kc4 20 19 18 17 rfl <| Kc 16 (.ali _) rfl <| kc4 15 6 14 13 rfl <| kc2 12 11 rfl <| Kc 10 (.ali _) rfl <| kc 9 rfl <| kb 5 rfl <| ka 8 rfl <| kb 4 rfl <| kb 0 rfl <| kc 1 rfl <| Kn) rfl ?_
 refine st (OpT.c1 (ms := [.flat, .flat]) (c_codeI _ _ hfo (by omega)) (H rfl) (Af (T1 rfl) rfl rfl <| Af (T1 rfl) rfl rfl <| An) rfl rfl) rfl ?_
 refine st (OpT.alloc (H rfl) zr30 zk30) rfl ?_
 refine sk (OpT.storeBA rfl rfl (Opd.whole (Root.self (t := 7) (by decide)) rfl) rfl sz30 (by decide) (T1 rfl)) rfl ?_
 refine AWl.to (kb 7 rfl <| kc 6 rfl <| kb 5 rfl <| kb 4 rfl <| kb 0 rfl <| Kn) ?_
 refine ng ?_
 refine AW.seq ?_
 refine sr ?_
 refine st (OpT.alias (H rfl) (by decide) (by decide)) rfl ?_
 refine sg (OpT.cr (ms := [.root 0, .flat]) (c_spec_l00Src_pick _ _ (hp2.le (by omega))) (H rfl) (Ar (Root.ali rfl (by decide) (by decide)) rfl rfl rfl <| Af (I rfl) rfl rfl <| An) rfl (.inl rfl) rfl) (kc 23 rfl <| Kc 22 (.ali _) rfl <| kb 7 rfl <| kc 6 rfl <| kb 5 rfl <| kb 4 rfl <| kb 0 rfl <| Kn) rfl ?_
 refine ng ?_
 refine AW.block ?_
 refine sr ?_
 refine st (OpT.eql (H rfl) (T1 rfl) (I rfl)) rfl ?_
 refine st (asT rfl) rfl ?_
 refine ng ?_
 refine cd rfl (fun hc1 => ?_) fun hc1 => ?_
 ·
  obtain ⟨hc1, hc1'⟩ := pT hc1
  refine AW.region ?_
  refine st (OpT.loadB (H rfl) (Root.self (t := 7) (by decide)) rfl ag30 sz30) rfl ?_
  refine st (OpT.fieldAddrB (H rfl) (Root.self (t := 5) (by decide)) rfl (by decide) fd55_0 sz30 (by decide) sb55_0) rfl ?_
  refine sk (OpT.storeBA rfl rfl (T1 rfl) rfl sz30 (by decide) (T1 rfl)) rfl ?_
  refine nn ?_
  refine AX.normal_block ?_
  refine AX.go ?_
  refine AW.seq ?_
  refine sr ?_
  refine st (OpT.alias (H rfl) (by decide) (by decide)) rfl ?_
  refine sg (OpT.cr (ms := [.root 0, .flat]) (c_spec_l00Src_one _ _ (by first | exact hp3.le (by omega) | exact hp4.le (by omega))) (H rfl) (Ar (Root.ali rfl (by decide) (by decide)) rfl rfl rfl <| Af (I rfl) rfl rfl <| An) rfl (.inl rfl) rfl) (kc 45 rfl <| Kc 44 (.ali _) rfl <| kb 5 rfl <| Kc 31 (.pel _ _ _ _ _ _ _) rfl <| ka 30 rfl <| kc3 28 29 23 rfl <| Kc 22 (.ali _) rfl <| kb 7 rfl <| kc 6 rfl <| kb 4 rfl <| kb 0 rfl <| Kn) rfl ?_
  refine ng ?_
  refine cd rfl (fun hc2 => ?_) fun hc2 => ?_
  ·
   obtain ⟨hc2, hc2'⟩ := pT hc2
   refine AW.region ?_
   refine st (OpT.alias (H rfl) (by decide) (by decide)) rfl ?_
   refine sg (OpT.crn (ms := [.root 0]) (c_spec_l01Any _ (by first | exact (pick_src hp3 20).le (by omega) | exact (pick_src hp4 20).le (by omega))) (H rfl) (Ar (O := .any) (Root.ali rfl (by decide) (by decide)) rfl rfl rfl <| An) rfl rfl (.inl rfl) rfl) (ka 47 rfl <| Kc 46 (.ali _) rfl <| kc 45 rfl <| Kc 44 (.ali _) rfl <| kb 5 rfl <| Kc 31 (.pel _ _ _ _ _ _ _) rfl <| ka 30 rfl <| kc3 28 29 23 rfl <| Kc 22 (.ali _) rfl <| kb 7 rfl <| kc 6 rfl <| kb 4 rfl <| Kn) rfl ?_
   refine st (OpT.fieldAddrB (H rfl) (Root.self (t := 5) (by decide)) rfl (by decide) fd55_1 sz30 (by decide) sb55_1) rfl ?_
   refine sk (OpT.storeBA rfl rfl (T1 rfl) rfl sz30 (by decide) (T1 rfl)) rfl ?_
   refine AWl.to (kb 5 rfl <| kb 4 rfl <| Kn) ?_
   refine ng ?_
   refine sr ?_
   refine st (OpT.loadB (H rfl) (Root.self (t := 5) (by decide)) rfl ag55 sz55) rfl ?_
   refine sk (OpT.storeBA rfl rfl (Opd.whole (Root.self (t := 4) (by decide)) rfl) rfl sz55 (by decide) (T1 rfl)) rfl ?_
   refine ng ?_
   refine AW.ret ?_
   exact AX.rt (rs := [.cell 4 55]) (ts := [none]) (.inl rfl) rfl (ROs.cons (RO.cellA (by decide) (Kb rfl (by unfold askS askE askQ; simp_all [zM])) ag55 sz55) <| ROs.nil) (by decide) OutsOK.nil
  ·
   obtain ⟨hc2, hc2'⟩ := pF hc2
   refine AW.skip ?_
   refine AX.pr (kb 5 rfl <| kb 4 rfl <| Kn) ?_
   refine AX.go ?_
   refine sr ?_
   refine st (OpT.loadB (H rfl) (Root.self (t := 5) (by decide)) rfl ag55 sz55) rfl ?_
   refine sk (OpT.storeBA rfl rfl (Opd.whole (Root.self (t := 4) (by decide)) rfl) rfl sz55 (by decide) (T1 rfl)) rfl ?_
   refine ng ?_
   refine AW.ret ?_
   exact AX.rt (rs := [.cell 4 55]) (ts := [none]) (.inl rfl) rfl (ROs.cons (RO.cellA (by decide) (Kb rfl (by unfold askS askE askQ; simp_all [zM])) ag55 sz55) <| ROs.nil) (by decide) OutsOK.nil
 ·
  obtain ⟨hc1, hc1'⟩ := pF hc1
  refine sr ?_
  refine st (OpT.eql (H rfl) (T1 rfl) (I rfl)) rfl ?_
  refine st (asT rfl) rfl ?_
  refine AWl.to (kc2 32 23 rfl <| kb 7 rfl <| kc 6 rfl <| kb 5 rfl <| kb 4 rfl <| kb 0 rfl <| Kn) ?_
  refine ng ?_
  refine cd rfl (fun hc3 => ?_) fun hc3 => ?_
  ·
   obtain ⟨hc3, hc3'⟩ := pT hc3
   refine dh fomo ?_
   refine d1 [7] (fun ve h => OpT.loadB (H rfl) (Root.self (t := 7) (by decide)) ((h _ (List.elem_iff.1 rfl)).trans rfl) ag30 sz30) rfl ?_
   refine d1 [6] (fun ve h => OpT.move (A := .cel _ _) (.inl rfl) rfl (ok' rfl) (D1 h rfl) rfl) rfl ?_
   refine d1 [35] (fun ve h => OpT.c1 (ms := [.flat]) (c_spec_l01Part _ hfo) (H rfl) (Af (D1 h rfl) rfl rfl <| An) rfl rfl) rfl ?_
   refine d1 [7] (fun ve h => OpT.loadB (H rfl) (Root.self (t := 7) (by decide)) ((h _ (List.elem_iff.1 rfl)).trans rfl) ag30 sz30) rfl ?_
   refine d1 [36, 37] (fun ve h => OpT.c1 (ms := [.flat, .flat]) (c_spec_l01Less _ _) (H rfl) (Af (D1 h rfl) rfl rfl <| Af (D1 h rfl) rfl rfl <| An) rfl rfl) rfl ?_
   refine d1 [34, 38] (fun ve h => OpT.build (H rfl) pl55 zr55 zk55 (Built.agg (D1 h rfl) rfl (by decide) sb55_0 (Built.agg (D1 h rfl) rfl (by decide) sb55_1 (Built.nil _)))) rfl ?_
   refine dm (t := 5) [5, 39] (fun ve h => OpT.storeBA rfl rfl (Opd.whole (Root.self (t := 5) (by decide)) ((h _ (List.elem_iff.1 rfl)).trans rfl)) ((h _ (List.elem_iff.1 rfl)).trans rfl) sz55 (by decide) (D1 h rfl)) rfl ?_
   refine dn ⟨by kernel_rfl, by kernel_rfl, ?_⟩
   refine AX.normal_block ?_
   refine AX.pr (kb 5 rfl <| kb 4 rfl <| kb 0 rfl <| Kn) ?_
   refine AX.go ?_
   refine AW.seq ?_
   refine sr ?_
   refine st (OpT.alias (H rfl) (by decide) (by decide)) rfl ?_
   refine sg (OpT.cr (ms := [.root 0, .flat]) (c_spec_l00Src_one _ _ (by first | exact hp3.le (by omega) | exact hp4.le (by omega))) (H rfl) (Ar (Root.ali rfl (by decide) (by decide)) rfl rfl rfl <| Af (I rfl) rfl rfl <| An) rfl (.inl rfl) rfl) (kc 45 rfl <| Kc 44 (.ali _) rfl <| kb 5 rfl <| kb 4 rfl <| kb 0 rfl <| Kn) rfl ?_
   refine ng ?_
   refine cd rfl (fun hc4 => ?_) fun hc4 => ?_
   ·
    obtain ⟨hc4, hc4'⟩ := pT hc4
    refine AW.region ?_
    refine st (OpT.alias (H rfl) (by decide) (by decide)) rfl ?_
    refine sg (OpT.crn (ms := [.root 0]) (c_spec_l01Any _ (by first | exact (pick_src hp3 20).le (by omega) | exact (pick_src hp4 20).le (by omega))) (H rfl) (Ar (O := .any) (Root.ali rfl (by decide) (by decide)) rfl rfl rfl <| An) rfl rfl (.inl rfl) rfl) (ka 47 rfl <| Kc 46 (.ali _) rfl <| kc 45 rfl <| Kc 44 (.ali _) rfl <| kb 5 rfl <| kb 4 rfl <| Kn) rfl ?_
    refine st (OpT.fieldAddrB (H rfl) (Root.self (t := 5) (by decide)) rfl (by decide) fd55_1 sz30 (by decide) sb55_1) rfl ?_
    refine sk (OpT.storeBA rfl rfl (T1 rfl) rfl sz30 (by decide) (T1 rfl)) rfl ?_
    refine ng ?_
    refine sr ?_
    refine st (OpT.loadB (H rfl) (Root.self (t := 5) (by decide)) rfl ag55 sz55) rfl ?_
    refine sk (OpT.storeBA rfl rfl (Opd.whole (Root.self (t := 4) (by decide)) rfl) rfl sz55 (by decide) (T1 rfl)) rfl ?_
    refine ng ?_
    refine AW.ret ?_
    exact AX.rt (rs := [.cell 4 55]) (ts := [none]) (.inl rfl) rfl (ROs.cons (RO.cellA (by decide) (Kb rfl (by unfold askS askE askQ; simp_all [zM])) ag55 sz55) <| ROs.nil) (by decide) OutsOK.nil
   ·
    obtain ⟨hc4, hc4'⟩ := pF hc4
    refine AW.skip ?_
    refine AX.go ?_
    refine sr ?_
    refine st (OpT.loadB (H rfl) (Root.self (t := 5) (by decide)) rfl ag55 sz55) rfl ?_
    refine sk (OpT.storeBA rfl rfl (Opd.whole (Root.self (t := 4) (by decide)) rfl) rfl sz55 (by decide) (T1 rfl)) rfl ?_
    refine ng ?_
    refine AW.ret ?_
    exact AX.rt (rs := [.cell 4 55]) (ts := [none]) (.inl rfl) rfl (ROs.cons (RO.cellA (by decide) (Kb rfl (by unfold askS askE askQ; simp_all [zM])) ag55 sz55) <| ROs.nil) (by decide) OutsOK.nil
  ·
   obtain ⟨hc3, hc3'⟩ := pF hc3
   refine sr ?_
   refine st (OpT.eql (H rfl) (T1 rfl) (I rfl)) rfl ?_
   refine st (asT rfl) rfl ?_
   refine ng ?_
   refine cd rfl (fun hc5 => ?_) fun hc5 => ?_
   ·
    obtain ⟨hc5, hc5'⟩ := pT hc5
    refine AW.region ?_
    refine st (OpT.loadB (H rfl) (Root.self (t := 7) (by decide)) rfl ag30 sz30) rfl ?_
    refine st (OpT.fieldAddrB (H rfl) (Root.self (t := 5) (by decide)) rfl (by decide) fd55_1 sz30 (by decide) sb55_1) rfl ?_
    refine sk (OpT.storeBA rfl rfl (T1 rfl) rfl sz30 (by decide) (T1 rfl)) rfl ?_
    refine nn ?_
    refine AX.normal_block ?_
    refine AX.go ?_
    refine AW.seq ?_
    refine sr ?_
    refine st (OpT.alias (H rfl) (by decide) (by decide)) rfl ?_
    refine sg (OpT.cr (ms := [.root 0, .flat]) (c_spec_l00Src_one _ _ (by first | exact hp3.le (by omega) | exact hp4.le (by omega))) (H rfl) (Ar (Root.ali rfl (by decide) (by decide)) rfl rfl rfl <| Af (I rfl) rfl rfl <| An) rfl (.inl rfl) rfl) (kc 45 rfl <| Kc 44 (.ali _) rfl <| kb 5 rfl <| Kc 43 (.pel _ _ _ _ _ _ _) rfl <| ka 42 rfl <| kc4 40 41 32 23 rfl <| kb 7 rfl <| kc 6 rfl <| kb 4 rfl <| kb 0 rfl <| Kn) rfl ?_
    refine ng ?_
    refine cd rfl (fun hc6 => ?_) fun hc6 => ?_
    ·
     obtain ⟨hc6, hc6'⟩ := pT hc6
     refine AW.region ?_
     refine st (OpT.alias (H rfl) (by decide) (by decide)) rfl ?_
     refine sg (OpT.crn (ms := [.root 0]) (c_spec_l01Any _ (by first | exact (pick_src hp3 20).le (by omega) | exact (pick_src hp4 20).le (by omega))) (H rfl) (Ar (O := .any) (Root.ali rfl (by decide) (by decide)) rfl rfl rfl <| An) rfl rfl (.inl rfl) rfl) (ka 47 rfl <| Kc 46 (.ali _) rfl <| kc 45 rfl <| Kc 44 (.ali _) rfl <| kb 5 rfl <| Kc 43 (.pel _ _ _ _ _ _ _) rfl <| ka 42 rfl <| kc4 40 41 32 23 rfl <| kb 7 rfl <| kc 6 rfl <| kb 4 rfl <| Kn) rfl ?_
     refine st (OpT.fieldAddrB (H rfl) (Root.self (t := 5) (by decide)) rfl (by decide) fd55_1 sz30 (by decide) sb55_1) rfl ?_
     refine sk (OpT.storeBA rfl rfl (T1 rfl) rfl sz30 (by decide) (T1 rfl)) rfl ?_
     refine AWl.to (kb 5 rfl <| kb 4 rfl <| Kn) ?_
     refine ng ?_
     refine sr ?_
     refine st (OpT.loadB (H rfl) (Root.self (t := 5) (by decide)) rfl ag55 sz55) rfl ?_
     refine sk (OpT.storeBA rfl rfl (Opd.whole (Root.self (t := 4) (by decide)) rfl) rfl sz55 (by decide) (T1 rfl)) rfl ?_
     refine ng ?_
     refine AW.ret ?_
     exact AX.rt (rs := [.cell 4 55]) (ts := [none]) (.inl rfl) rfl (ROs.cons (RO.cellA (by decide) (Kb rfl (by unfold askS askE askQ; simp_all [zM])) ag55 sz55) <| ROs.nil) (by decide) OutsOK.nil
    ·
     obtain ⟨hc6, hc6'⟩ := pF hc6
     refine AW.skip ?_
     refine AX.pr (kb 5 rfl <| kb 4 rfl <| Kn) ?_
     refine AX.go ?_
     refine sr ?_
     refine st (OpT.loadB (H rfl) (Root.self (t := 5) (by decide)) rfl ag55 sz55) rfl ?_
     refine sk (OpT.storeBA rfl rfl (Opd.whole (Root.self (t := 4) (by decide)) rfl) rfl sz55 (by decide) (T1 rfl)) rfl ?_
     refine ng ?_
     refine AW.ret ?_
     exact AX.rt (rs := [.cell 4 55]) (ts := [none]) (.inl rfl) rfl (ROs.cons (RO.cellA (by decide) (Kb rfl (by unfold askS askE askQ; simp_all [zM])) ag55 sz55) <| ROs.nil) (by decide) OutsOK.nil
   ·
    obtain ⟨hc5, hc5'⟩ := pF hc5
    refine AW.region ?_
    refine st (OpT.alias (H rfl) (by decide) (by decide)) rfl ?_
    refine sg (OpT.cr (ms := [.root 0, .flat]) (c_spec_l00Src_pick _ _ (hp3.le (by omega))) (H rfl) (Ar (Root.ali rfl (by decide) (by decide)) rfl rfl rfl <| Af (I rfl) rfl rfl <| An) rfl (.inl rfl) rfl) (kc 25 rfl <| Kc 24 (.ali _) rfl <| kc4 40 41 32 23 rfl <| kb 7 rfl <| kc 6 rfl <| kb 5 rfl <| kb 4 rfl <| kb 0 rfl <| Kn) rfl ?_
    refine st (OpT.c1 (ms := [.flat]) (c_spec_l01Bit _ (by omega)) (H rfl) (Af (T1 rfl) rfl rfl <| An) rfl rfl) rfl ?_
    refine st (OpT.fieldAddrB (H rfl) (Root.self (t := 5) (by decide)) rfl (by decide) fd55_0 sz30 (by decide) sb55_0) rfl ?_
    refine sk (OpT.storeBA rfl rfl (T1 rfl) rfl sz30 (by decide) (T1 rfl)) rfl ?_
    refine nn ?_
    refine AX.normal_block ?_
    refine AX.pr (kb 5 rfl <| kb 4 rfl <| kb 0 rfl <| Kn) ?_
    refine AX.go ?_
    refine AW.seq ?_
    refine sr ?_
    refine st (OpT.alias (H rfl) (by decide) (by decide)) rfl ?_
    refine sg (OpT.cr (ms := [.root 0, .flat]) (c_spec_l00Src_one _ _ (by first | exact hp3.le (by omega) | exact hp4.le (by omega))) (H rfl) (Ar (Root.ali rfl (by decide) (by decide)) rfl rfl rfl <| Af (I rfl) rfl rfl <| An) rfl (.inl rfl) rfl) (kc 45 rfl <| Kc 44 (.ali _) rfl <| kb 5 rfl <| kb 4 rfl <| kb 0 rfl <| Kn) rfl ?_
    refine ng ?_
    refine cd rfl (fun hc7 => ?_) fun hc7 => ?_
    ·
     obtain ⟨hc7, hc7'⟩ := pT hc7
     refine AW.region ?_
     refine st (OpT.alias (H rfl) (by decide) (by decide)) rfl ?_
     refine sg (OpT.crn (ms := [.root 0]) (c_spec_l01Any _ (by first | exact (pick_src hp3 20).le (by omega) | exact (pick_src hp4 20).le (by omega))) (H rfl) (Ar (O := .any) (Root.ali rfl (by decide) (by decide)) rfl rfl rfl <| An) rfl rfl (.inl rfl) rfl) (ka 47 rfl <| Kc 46 (.ali _) rfl <| kc 45 rfl <| Kc 44 (.ali _) rfl <| kb 5 rfl <| kb 4 rfl <| Kn) rfl ?_
     refine st (OpT.fieldAddrB (H rfl) (Root.self (t := 5) (by decide)) rfl (by decide) fd55_1 sz30 (by decide) sb55_1) rfl ?_
     refine sk (OpT.storeBA rfl rfl (T1 rfl) rfl sz30 (by decide) (T1 rfl)) rfl ?_
     refine ng ?_
     refine sr ?_
     refine st (OpT.loadB (H rfl) (Root.self (t := 5) (by decide)) rfl ag55 sz55) rfl ?_
     refine sk (OpT.storeBA rfl rfl (Opd.whole (Root.self (t := 4) (by decide)) rfl) rfl sz55 (by decide) (T1 rfl)) rfl ?_
     refine ng ?_
     refine AW.ret ?_
     exact AX.rt (rs := [.cell 4 55]) (ts := [none]) (.inl rfl) rfl (ROs.cons (RO.cellA (by decide) (Kb rfl (by unfold askS askE askQ; simp_all [zM])) ag55 sz55) <| ROs.nil) (by decide) OutsOK.nil
    ·
     obtain ⟨hc7, hc7'⟩ := pF hc7
     refine AW.skip ?_
     refine AX.go ?_
     refine sr ?_
     refine st (OpT.loadB (H rfl) (Root.self (t := 5) (by decide)) rfl ag55 sz55) rfl ?_
     refine sk (OpT.storeBA rfl rfl (Opd.whole (Root.self (t := 4) (by decide)) rfl) rfl sz55 (by decide) (T1 rfl)) rfl ?_
     refine ng ?_
     refine AW.ret ?_
     exact AX.rt (rs := [.cell 4 55]) (ts := [none]) (.inl rfl) rfl (ROs.cons (RO.cellA (by decide) (Kb rfl (by unfold askS askE askQ; simp_all [zM])) ag55 sz55) <| ROs.nil) (by decide) OutsOK.nil

/-- spec.A2Query -/
theorem c_spec_A2Query (l : List Int) (x : List DField) (h : (∀ b ∈ l, 0 ≤ b ∧ b ≤ 255) ∧ l.length ≤ 1000000) (hx : schemeOK x ∧ 1 ≤ x.length) : AC Tryd.prog 28 [.cel (Kd.slice (Kd.int .u8)) l, .cel (Kd.slice kField) x] [.agg kQuery (drQ l x)] [] := by
 refine acI (N := 24) Tryd.func28 (Nat.le_of_ble_eq_true rfl) rfl fun w0 hd s0 ar => ?_
 refine AW.to (kc2 0 1 rfl <| Kn) ?_
 refine sr ?_
 refine st (OpT.alloc (H rfl) zr55 zk55) rfl ?_
 refine ng ?_
 refine sr ?_
 refine st (mvT rfl) rfl ?_
 refine st (OpT.c1 (ms := [.flat]) (c_spec_l00From _) (H rfl) (Af (T1 rfl) rfl rfl <| An) rfl rfl) rfl ?_
 refine st (mvT rfl) rfl ?_
 refine sg (OpT.crn (ms := [.root 7, .flat]) (c_spec_l02Asking _ _ ⟨h.1, h.2, Int.le_refl 0, (by show (0 : Int) ≤ 100; omega)⟩ hx) (H rfl) (Ar (O := .any) (Root.self (t := 7) (by decide)) rfl rfl rfl <| Af (T1 rfl) rfl rfl <| An) rfl rfl (.inl rfl) rfl) (ka 9 rfl <| kc2 8 6 rfl <| kb 4 rfl <| kc2 0 1 rfl <| Kn) rfl ?_
 refine st (OpT.alloc (H rfl) zr55 zk55) rfl ?_
 refine sk (OpT.storeBA rfl rfl (Opd.whole (Root.self (t := 5) (by decide)) rfl) rfl sz55 (by decide) (T1 rfl)) rfl ?_
 refine ng ?_
 refine sr ?_
 refine st (OpT.fieldAddrB (H rfl) (Root.self (t := 5) (by decide)) rfl (by decide) fd55_1 sz30 (by decide) sb55_1) rfl ?_
 refine st (OpT.loadPA (H rfl) (T1 rfl) (.inl ⟨_, rfl, rfl⟩) ag30 sz30) rfl ?_
 refine st (OpT.fieldAddrB (H rfl) (Root.self (t := 5) (by decide)) rfl (by decide) fd55_0 sz30 (by decide) sb55_0) rfl ?_
 refine st (OpT.loadPA (H rfl) (T1 rfl) (.inl ⟨_, rfl, rfl⟩) ag30 sz30) rfl ?_
 refine st (OpT.c1 (ms := [.flat, .flat]) (c_spec_l01Less _ _) (H rfl) (Af (T1 rfl) rfl rfl <| Af (T1 rfl) rfl rfl <| An) rfl rfl) rfl ?_
 refine st (OpT.fieldAddrB (H rfl) (Root.self (t := 5) (by decide)) rfl (by decide) fd55_1 sz30 (by decide) sb55_1) rfl ?_
 refine sk (OpT.storeBA rfl rfl (T1 rfl) rfl sz30 (by decide) (T1 rfl)) rfl ?_
 refine AWl.to (kb 5 rfl <| kb 4 rfl <| Kn) ?_
 refine ng ?_
 refine sr ?_
 refine st (OpT.fieldAddrB (H rfl) (Root.self (t := 5) (by decide)) rfl (by decide) fd55_1 sz30 (by decide) sb55_1) rfl ?_
 refine st (OpT.indexAddrE (H rfl) (T1 rfl) (.inl ⟨_, rfl, rfl⟩) (by decide) (I rfl) ar30 sz28 (by decide) sx30_1 (by decide)) rfl ?_
 refine st (OpT.loadP (H rfl) (T1 rfl) (.inl ⟨_, rfl, rfl⟩) ag28 rfl) rfl ?_
 refine st (OpT.shl (H rfl) (T1 rfl) (I rfl) (by decide)) rfl ?_
 refine st (OpT.shr (H rfl) (T1 rfl) (I rfl) (by decide)) rfl ?_
 refine st (OpT.fieldAddrB (H rfl) (Root.self (t := 5) (by decide)) rfl (by decide) fd55_1 sz30 (by decide) sb55_1) rfl ?_
 refine st (OpT.indexAddrE (H rfl) (T1 rfl) (.inl ⟨_, rfl, rfl⟩) (by decide) (I rfl) ar30 sz28 (by decide) sx30_1 (by decide)) rfl ?_
 refine sk (OpT.storeB rfl rfl (T1 rfl) rfl sz28 rfl (T1 rfl)) rfl ?_
 refine ng ?_
 refine sr ?_
 refine st (OpT.loadB (H rfl) (Root.self (t := 5) (by decide)) rfl ag55 sz55) rfl ?_
 refine sk (OpT.storeBA rfl rfl (Opd.whole (Root.self (t := 4) (by decide)) rfl) rfl sz55 (by decide) (T1 rfl)) rfl ?_
 refine AWl.to (kb 4 rfl <| Kn) ?_
 refine ng ?_
 refine AW.ret ?_
 exact AX.rt (rs := [.cell 4 55]) (ts := [none]) (.inl rfl) rfl (ROs.cons (RO.cellA (by decide) (Kb rfl rfl) ag55 sz55) <| ROs.nil) (by decide) OutsOK.nil

/-- spec.l02Answer -/
theorem c_spec_l02Answer (x : List DCard) (q : DQuery) (hl : x.length ≤ 80) : AC Tryd.prog 91 [.cel (Kd.slice kCard) x, .cel (Kd.slice kQuery) [q]] [.cel (Kd.slice (Kd.int .i64)) (hitsP q x x.length)] [] := by
 refine acI (N := 35) Tryd.func91 (Nat.le_of_ble_eq_true rfl) rfl fun w0 hd s0 ar => ?_
 refine AW.to (kc2 0 1 rfl <| Kn) ?_
 refine sr ?_
 refine st (OpT.move (A := .cel _ _) (.inr rfl) rfl (ok' rfl) (Opd.nilslice (Kd.int .i64)) rfl) rfl ?_
 refine ng ?_
 refine sr ?_
 refine st (OpT.buildSlice0 (m := 0) (z := .bool false) (Kd.int .i64) (H rfl) el34 sz2 (by decide)) rfl ?_
 refine sg (OpT.take (.inl rfl) rfl (ok' rfl) (Root.self (by decide)) rfl rfl (by decide)) (ko 5 rfl <| kc3 4 0 1 rfl <| Kn) rfl ?_
 refine ng ?_
 refine AW.seq ?_
 refine sr ?_
 refine st (asI rfl) rfl ?_
 refine ng ?_
 refine AW.block ?_
 refine AW.loop (fun z : Nat => z ≤ x.length) (fun z : Nat => keep [(0, .cel (Kd.slice kCard) x), (1, .cel (Kd.slice kQuery) [q]), (5, .own 2 (Kd.int .i64) (hitsP q x z)), (6, .cel (Kd.int .i64) (z : Int))]) (fun z : Nat => x.length - z) (0) (Nat.zero_le _) (Kc 0 _ (Kv rfl rfl) <| Kc 1 _ (Kv rfl rfl) <| Kc 5 _ (Ko rfl rfl) <| Kc 6 _ (Kv rfl rfl) <| Kn) ?_
 intro z hI
 refine AW.seq ?_
 refine sr ?_
 refine st (mvT rfl) rfl ?_
 refine st (mvT rfl) rfl ?_
 refine st (OpT.len (H rfl) (T1 rfl) el26) rfl ?_
 refine st (OpT.lss (H rfl) (T1 rfl) (T1 rfl)) rfl ?_
 refine ng ?_
 refine cd rfl (fun hc1 => ?_) fun hc1 => ?_
 ·
  obtain ⟨hc1, hc1'⟩ := pT hc1
  obtain ⟨e, he⟩ := getI (x := x) (z := z) (by omega)
  refine AW.skip ?_
  refine AX.go ?_
  refine AW.seq ?_
  refine AW.block ?_
  refine sr ?_
  refine st (asI rfl) rfl ?_
  refine ng ?_
  refine AW.block ?_
  refine AW.loop (fun y : Nat => y ≤ 1 ∧ (y = 1 → dropsQ q e.2 = false)) (fun y : Nat => keep [(0, .cel (Kd.slice kCard) x), (1, .cel (Kd.slice kQuery) [q]), (5, .own 2 (Kd.int .i64) (hitsP q x z)), (6, .cel (Kd.int .i64) (z : Int)), (7, .cel (Kd.int .i64) (y : Int))]) (fun y : Nat => 1 - y) (0) ⟨Nat.zero_le _, fun h => absurd h (by decide)⟩ (Kc 0 _ (Kv rfl rfl) <| Kc 1 _ (Kv rfl rfl) <| Kc 5 _ (Ko rfl rfl) <| Kc 6 _ (Kv rfl rfl) <| Kc 7 _ (Kv rfl rfl) <| Kn) ?_
  intro y hJ -- hI
  refine AW.seq ?_
  refine sr ?_
  refine st (mvT rfl) rfl ?_
  refine st (mvT rfl) rfl ?_
  refine st (OpT.len (H rfl) (T1 rfl) el123) rfl ?_
  refine st (OpT.lss (H rfl) (T1 rfl) (T1 rfl)) rfl ?_
  refine ng ?_
  refine cd rfl (fun hc2 => ?_) fun hc2 => ?_
  ·
   obtain ⟨hc2, hc2'⟩ := pT hc2
   try simp only [List.length_cons, List.length_nil] at hc2'
   refine AW.skip ?_
   refine AX.go ?_
   refine AW.seq ?_
   refine AW.block ?_
   refine AW.seq ?_
   refine dh fomo ?_
   refine d1 [1] (fun ve h => OpT.move (A := .cel _ _) (.inl rfl) rfl (ok' rfl) (D1 h rfl) rfl) rfl ?_
   refine d1 [7] (fun ve h => OpT.move (A := .cel _ _) (.inl rfl) rfl (ok' rfl) (D1 h rfl) rfl) rfl ?_
   refine d1 [21, 22] (fun ve h => OpT.indexAddr (H rfl) (D1 h rfl) (D1 h rfl) el123 sz55 (by omega) (one_get (by omega))) rfl ?_
   refine d1 [0] (fun ve h => OpT.move (A := .cel _ _) (.inl rfl) rfl (ok' rfl) (D1 h rfl) rfl) rfl ?_
   refine d1 [6] (fun ve h => OpT.move (A := .cel _ _) (.inl rfl) rfl (ok' rfl) (D1 h rfl) rfl) rfl ?_
   refine d1 [24, 25] (fun ve h => OpT.indexAddr (H rfl) (D1 h rfl) (D1 h rfl) el26 sz42 (by omega) he) rfl ?_
   refine d1 [26] (fun ve h => OpT.fieldAddr (H rfl) (D1 h rfl) fd42_1 sz30 (by decide) sb42_1) rfl ?_
   refine d1 [27] (fun ve h => OpT.loadA (H rfl) (D1 h rfl) ag30 sz30) rfl ?_
   refine d1 [23, 28] (fun ve h => OpT.c1 (ms := [.flat, .flat]) (c_spec_l02Drops _ _) (H rfl) (Af (D1 h rfl) rfl rfl <| Af (D1 h rfl) rfl rfl <| An) rfl rfl) rfl ?_
   refine dn ⟨by kernel_rfl, by kernel_rfl, ?_⟩
   refine AX.go ?_
   refine cd rfl (fun hc3 => ?_) fun hc3 => ?_
   ·
    obtain ⟨hc3, hc3'⟩ := pT hc3
    refine sr ?_
    refine st (OpT.alias (H rfl) (by decide) (by decide)) rfl ?_
    refine st (mvT rfl) rfl ?_
    refine st (OpT.buildSlice (H rfl) el34 zr2 sz2 rfl (by decide) zk2 (by decide) (Built.cel (T1 rfl) rfl rfl (sub_arr (by decide) (0 : Int)) (Built.nil _))) rfl ?_
    refine sg (OpT.append (H rfl) (Root.ali rfl (by decide) (by decide)) rfl (Src.own (Root.self (t := 32) (by decide)) rfl) (by decide) el34 zr2 rfl sz2 by2 (by decide) (by have h70 := hits_len q x z; simp only [List.length_set, List.length_replicate]; omega)) (ko 33 rfl <| ko 32 rfl <| kc2 31 29 rfl <| ka 28 rfl <| kc4 27 26 25 24 rfl <| kc4 23 22 21 18 rfl <| kc4 17 16 15 0 rfl <| kc3 1 6 7 rfl <| Kn) rfl ?_
    refine sg (OpT.take (.inl rfl) rfl (ok' rfl) (Root.self (by decide)) rfl rfl (by decide)) (ko 5 rfl <| ko 32 rfl <| kc2 31 29 rfl <| ka 28 rfl <| kc4 27 26 25 24 rfl <| kc4 23 22 21 18 rfl <| kc4 17 16 15 0 rfl <| kc3 1 6 7 rfl <| Kn) rfl ?_
    refine ng ?_
    refine AW.exit ?_
    refine xM rfl <| xT <| xT <| AX.exit_hit ?_
    refine AX.normal_block ?_
    refine AX.go ?_
    refine AW.region ?_
    refine st (mvT rfl) rfl ?_
    refine st (OpT.add (H rfl) (T1 rfl) (I rfl) (nw (by omega))) rfl ?_
    refine st (asT rfl) rfl ?_
    refine nn ?_
    exact AX.again (z + 1) (by omega) (by omega) (Kc 0 _ (Kv rfl rfl) <| Kc 1 _ (Kv rfl rfl) <| Kc 5 _ (Ko rfl (by first | exact hits_yes he (by assumption) | exact hits_no he (hJ.2 (by omega)))) <| Kc 6 _ (Kv rfl (by omega)) <| Kn)
   ·
    obtain ⟨hc3, hc3'⟩ := pF hc3
    refine AW.skip ?_
    refine AX.normal_block ?_
    refine AX.go ?_
    refine AW.region ?_
    refine st (mvT rfl) rfl ?_
    refine st (OpT.add (H rfl) (T1 rfl) (I rfl) (nw (by omega))) rfl ?_
    refine st (asT rfl) rfl ?_
    refine nn ?_
    exact AX.again (y + 1) ⟨by omega, fun _ => by assumption⟩ (by omega) (Kc 0 _ (Kv rfl rfl) <| Kc 1 _ (Kv rfl rfl) <| Kc 5 _ (Ko rfl rfl) <| Kc 6 _ (Kv rfl rfl) <| Kc 7 _ (Kv rfl (by omega)) <| Kn)
  ·
   obtain ⟨hc2, hc2'⟩ := pF hc2
   try simp only [List.length_cons, List.length_nil] at hc2'
   refine AW.exit ?_
   refine xT <| xT <| AX.exit_hit ?_
   refine AX.normal_block ?_
   refine AX.go ?_
   refine AW.region ?_
   refine st (mvT rfl) rfl ?_
   refine st (OpT.add (H rfl) (T1 rfl) (I rfl) (nw (by omega))) rfl ?_
   refine st (asT rfl) rfl ?_
   refine nn ?_
   exact AX.again (z + 1) (by omega) (by omega) (Kc 0 _ (Kv rfl rfl) <| Kc 1 _ (Kv rfl rfl) <| Kc 5 _ (Ko rfl (by first | exact hits_yes he (by assumption) | exact hits_no he (hJ.2 (by omega)))) <| Kc 6 _ (Kv rfl (by omega)) <| Kn)
 ·
  obtain ⟨hc1, hc1'⟩ := pF hc1
  refine AW.exit ?_
  refine xT <| xT <| AX.exit_hit ?_
  refine AX.go ?_
  refine sr ?_
  refine st (OpT.alias (H rfl) (by decide) (by decide)) rfl ?_
  refine sg (OpT.take (.inl rfl) rfl (ok' rfl) (Root.ali rfl (by decide) (by decide)) rfl rfl (by decide)) (ko 4 rfl <| kc4 12 11 10 9 rfl <| kc3 0 1 6 rfl <| Kn) rfl ?_
  refine ng ?_
  refine AW.ret ?_
  refine AX.freeze (t := 4) rfl ?_
  refine AX.pr (kc4 4 12 11 10 rfl <| kc4 9 0 1 6 rfl <| Kn) ?_
  exact rt1 rfl (.inl rfl) (by rw [show z = x.length by omega])

/-- spec.AnswerOf -/
theorem c_spec_AnswerOf (x : List DCard) (q : DQuery) : AC Tryd.prog 33 [.cel (Kd.slice kCard) x, .agg kQuery q] [.cel (Kd.slice (Kd.int .i64)) (mkA x q).1.2.1, .cel (Kd.int .i64) (mkA x q).2] [] := by
 refine acI (N := 18) Tryd.func33 (Nat.le_of_ble_eq_true rfl) rfl fun w0 hd s0 ar => ?_
 refine AW.to (kc 0 rfl <| ka 1 rfl <| Kn) ?_
 refine sr ?_
 refine st (OpT.frz (OpT.boxA (E := 55) (H rfl) (T1 rfl))) rfl ?_
 refine st (OpT.move (A := .cel _ _) (.inr rfl) rfl (ok' rfl) (Opd.nilslice (Kd.int .i64)) rfl) rfl ?_
 refine st (asI rfl) rfl ?_
 refine ng ?_
 refine AW.seq ?_
 refine sr ?_
 refine st (mvT rfl) rfl ?_
 refine st (OpT.c1 (ms := [.flat]) (c_spec_l02Ok _) (H rfl) (Af (T1 rfl) rfl rfl <| An) rfl rfl) rfl ?_
 refine st (OpT.not (H rfl) (T1 rfl)) rfl ?_
 refine st (mvT rfl) rfl ?_
 apply AWl.or (d := 12) (t := 9) rfl
 ·
  intro hb1 Q1 k1
  have hb1' := lF hb1
  refine rs hb1 (OpT.c1 (ms := [.flat]) (c_spec_l02Query _) (H rfl) (Af (T1 rfl) rfl rfl <| An) rfl rfl) rfl ?_
  refine rs hb1 (OpT.not (H rfl) (T1 rfl)) rfl ?_
  refine st (OpT.pickF (A := .cel _ _) (H rfl) (T1 rfl) hb1 (T1 rfl) rfl) rfl ?_
  exact AWl.to (junk 2 rfl) k1
 ·
  intro hb1 Q1 k1
  refine ps hb1 rfl ?_
  refine ps hb1 rfl ?_
  refine st (OpT.pickT (A := .cel _ _) (H rfl) (T1 rfl) hb1 Opd.bool rfl) rfl ?_
  exact k1
 refine ng ?_
 refine cd rfl (fun hc1 => ?_) fun hc1 => ?_
 ·
  obtain ⟨hc1, hc1'⟩ := pT hc1
  refine sr ?_
  refine st (OpT.buildSlice0 (m := 0) (z := .bool false) (Kd.int .i64) (H rfl) el34 sz2 (by decide)) rfl ?_
  refine sg (OpT.take (.inl rfl) rfl (ok' rfl) (Root.self (by decide)) rfl rfl (by decide)) (ko 4 rfl <| kc4 12 9 8 7 rfl <| kc4 6 5 3 0 rfl <| ka 1 rfl <| Kn) rfl ?_
  refine st (asI rfl) rfl ?_
  refine ng ?_
  refine AW.ret ?_
  refine rT ?_
  refine AX.freeze (t := 4) rfl ?_
  refine AX.pr (kc4 5 4 12 9 rfl <| kc4 8 7 6 5 rfl <| kc2 3 0 rfl <| ka 1 rfl <| Kn) ?_
  exact rt2 rfl (.inl rfl) (by first | (rw [mkA_no hc1]; first | done | rfl) | (rw [mkA_yes hc1]; first | done | rfl)) (by first | (rw [mkA_no hc1]; first | done | rfl) | (rw [mkA_yes hc1]; first | done | rfl))
 ·
  obtain ⟨hc1, hc1'⟩ := pF hc1
  have hin := mkA_in hc1
  refine AW.skip ?_
  refine AX.go ?_
  refine sr ?_
  refine st (mvT rfl) rfl ?_
  refine st (OpT.loadA (H rfl) (T1 rfl) ag55 sz55) rfl ?_
  refine st (OpT.buildSlice (H rfl) el123 zr55 sz55 rfl (by decide) zk55 (by decide) (Built.agg (T1 rfl) rfl (by decide) (sub_arr (by decide) (((0, 0), (0, 0)) : (BitVec 64 × BitVec 64) × (BitVec 64 × BitVec 64))) (Built.nil _))) rfl ?_
  refine AWl.freeze (t := 16) rfl ?_
  refine AWl.to (kc 16 rfl <| ka 15 rfl <| kc4 14 12 9 8 rfl <| kc4 7 6 5 4 rfl <| kc2 3 0 rfl <| ka 1 rfl <| Kn) ?_
  refine st (OpT.c1 (ms := [.flat, .flat]) (c_spec_l02Answer _ _ hin.1) (H rfl) (Af (T1 rfl) rfl rfl <| Af (T1 rfl) rfl rfl <| An) rfl rfl) rfl ?_
  refine st (asT rfl) rfl ?_
  refine st (asI rfl) rfl ?_
  refine AWl.to (kc2 5 4 rfl <| Kn) ?_
  refine ng ?_
  refine AW.ret ?_
  exact rt2 rfl (.inl rfl) (by first | (rw [mkA_no hc1]; first | done | rfl) | (rw [mkA_yes hc1]; first | done | rfl)) (by first | (rw [mkA_no hc1]; first | done | rfl) | (rw [mkA_yes hc1]; first | done | rfl))

/-- impl.HasHole -/
theorem c_impl_HasHole (m : DMask) (h : Int) : AC Tryd.prog 38 [.agg kMask m, .cel (Kd.int .i64) h] [.cel Kd.bool (hasS m h).1, .cel (Kd.int .i64) (hasS m h).2] [] := by
 refine acI (N := 15) Tryd.func38 (Nat.le_of_ble_eq_true rfl) rfl fun w0 hd s0 ar => ?_
 refine AW.to (ka 0 rfl <| kc 1 rfl <| Kn) ?_
 refine sr ?_
 refine st (OpT.frz (OpT.boxA (E := 30) (H rfl) (T1 rfl))) rfl ?_
 refine st (asB rfl) rfl ?_
 refine st (asI rfl) rfl ?_
 refine ng ?_
 refine AW.seq ?_
 refine sr ?_
 refine st (OpT.loadA (H rfl) (T1 rfl) ag30 sz30) rfl ?_
 refine st (OpT.c1 (ms := [.flat]) (c_impl_isMask _) (H rfl) (Af (T1 rfl) rfl rfl <| An) rfl rfl) rfl ?_
 refine st (OpT.not (H rfl) (T1 rfl)) rfl ?_
 refine ng ?_
 refine cd rfl (fun hc1 => ?_) fun hc1 => ?_
 ·
  obtain ⟨hc1, hc1'⟩ := pT hc1
  refine sr ?_
  refine st (asB rfl) rfl ?_
  refine st (asI rfl) rfl ?_
  refine ng ?_
  refine AW.ret ?_
  refine rT ?_
  exact rt2 rfl (.inl rfl) (by simp_all [hasS]) (by simp_all [hasS])
 ·
  obtain ⟨hc1, hc1'⟩ := pF hc1
  refine AW.skip ?_
  refine AX.go ?_
  refine AW.seq ?_
  refine sr ?_
  refine st (mvT rfl) rfl ?_
  refine st (OpT.c1 (ms := [.flat]) (c_impl_isHole _) (H rfl) (Af (T1 rfl) rfl rfl <| An) rfl rfl) rfl ?_
  refine st (OpT.not (H rfl) (T1 rfl)) rfl ?_
  refine ng ?_
  refine cd rfl (fun hc2 => ?_) fun hc2 => ?_
  ·
   obtain ⟨hc2, hc2'⟩ := pT hc2
   refine sr ?_
   refine st (asB rfl) rfl ?_
   refine st (asI rfl) rfl ?_
   refine ng ?_
   refine AW.ret ?_
   refine rT ?_
   exact rt2 rfl (.inl rfl) (by simp_all [hasS]) (by simp_all [hasS])
  ·
   obtain ⟨hc2, hc2'⟩ := pF hc2
   refine AW.skip ?_
   refine AX.go ?_
   refine sr ?_
   refine st (OpT.loadA (H rfl) (T1 rfl) ag30 sz30) rfl ?_
   refine st (mvT rfl) rfl ?_
   refine st (OpT.c1 (ms := [.flat, .flat]) (c_impl_Mask_has _ _ (by have := hole_in (h := h) (by assumption); omega)) (H rfl) (Af (T1 rfl) rfl rfl <| Af (T1 rfl) rfl rfl <| An) rfl rfl) rfl ?_
   refine st (asT rfl) rfl ?_
   refine st (asI rfl) rfl ?_
   refine AWl.to (kc2 5 4 rfl <| Kn) ?_
   refine ng ?_
   refine AW.ret ?_
   exact rt2 rfl (.inl rfl) (by simp_all [hasS]) (by simp_all [hasS])

/-- laws.a2At -/
theorem c_laws_a2At (l : List Int) (i n : Int) (h : 0 ≤ i ∧ ∀ b ∈ l, 0 ≤ b ∧ b ≤ 255) : AC Tryd.prog 36 [.cel (Kd.slice (Kd.int .u8)) l, .cel (Kd.int .i64) i, .cel (Kd.int .i64) n] [.cel (Kd.int .i64) (atS l i n)] [] := by
 refine acI (N := 22) Tryd.func36 (Nat.le_of_ble_eq_true rfl) rfl fun w0 hd s0 ar => ?_
 refine AW.to (kc3 0 1 2 rfl <| Kn) ?_
 refine sr ?_
 refine st (asI rfl) rfl ?_
 refine ng ?_
 refine AW.seq ?_
 refine sr ?_
 refine st (mvT rfl) rfl ?_
 refine st (mvT rfl) rfl ?_
 refine st (OpT.len (H rfl) (T1 rfl) el22) rfl ?_
 refine st (OpT.geq (H rfl) (T1 rfl) (T1 rfl)) rfl ?_
 refine st (mvT rfl) rfl ?_
 apply AWl.or (d := 14) (t := 11) rfl
 ·
  intro hb1 Q1 k1
  have hb1' := lF hb1
  refine rs hb1 (mvT rfl) rfl ?_
  refine rs hb1 (OpT.lss (H rfl) (T1 rfl) (I rfl)) rfl ?_
  refine st (OpT.pickF (A := .cel _ _) (H rfl) (T1 rfl) hb1 (T1 rfl) rfl) rfl ?_
  exact AWl.to (junk 2 rfl) k1
 ·
  intro hb1 Q1 k1
  refine ps hb1 rfl ?_
  refine ps hb1 rfl ?_
  refine st (OpT.pickT (A := .cel _ _) (H rfl) (T1 rfl) hb1 Opd.bool rfl) rfl ?_
  exact k1
 refine ng ?_
 refine cd rfl (fun hc1 => ?_) fun hc1 => ?_
 ·
  obtain ⟨hc1, hc1'⟩ := pT hc1
  refine sr ?_
  refine st (asI rfl) rfl ?_
  refine ng ?_
  refine AW.ret ?_
  refine rT ?_
  exact rt1 rfl (.inl rfl) (by first | exact (atS_no (by omega)).symm | exact (atS_yes (by omega) hb).symm)
 ·
  obtain ⟨hc1, hc1'⟩ := pF hc1
  obtain ⟨b, hb⟩ : ∃ b, l[Int.toNat i]? = some b := ⟨_, List.getElem?_eq_getElem (by omega)⟩
  have hbb := h.2 b (List.mem_of_getElem? hb)
  have htm := tmod_lt' (a := b) (n := n) (by omega) (by omega)
  refine AW.skip ?_
  refine AX.go ?_
  refine sr ?_
  refine st (mvT rfl) rfl ?_
  refine st (mvT rfl) rfl ?_
  refine st (OpT.indexAddr (H rfl) (T1 rfl) (T1 rfl) el22 sz5 (by omega) hb) rfl ?_
  refine st (OpT.load (H rfl) (T1 rfl) ag5 rfl) rfl ?_
  refine st (OpT.conv (H rfl) us5 Tryd.underlying2 (T1 rfl) (nw (by omega))) rfl ?_
  refine st (mvT rfl) rfl ?_
  refine st (OpT.rem (H rfl) (T1 rfl) (T1 rfl) (by omega)) rfl ?_
  refine st (asT rfl) rfl ?_
  refine AWl.to (kc 6 rfl <| Kn) ?_
  refine ng ?_
  refine AW.ret ?_
  exact rt1 rfl (.inl rfl) (by first | exact (atS_no (by omega)).symm | exact (atS_yes (by omega) hb).symm)
end Go.Proofs.YtohcpnobmknglaaDoor.VL
