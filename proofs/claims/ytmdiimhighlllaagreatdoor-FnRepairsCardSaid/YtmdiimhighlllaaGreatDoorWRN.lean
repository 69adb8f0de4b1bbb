/- Proved here: what some functions of the program take and give: walks with the words of VA..VQ. Printed by program. -/
import Derived.Test.YtmdiimhighlllaaGreatDoorWT
import Derived.Test.YtmdiimhighlllaaGreatDoorPZR
import Derived.Test.YtmdiimhighlllaaGreatDoorBpa
import Derived.Test.YtmdiimhighlllaaGreatDoorWB
import Derived.Test.YtmdiimhighlllaaGreatDoorWV
import Derived.Test.YtmdiimhighlllaaGreatDoorWN
import Derived.Test.YtmdiimhighlllaaGreatDoorWP
set_option linter.unusedVariables false
set_option linter.unusedSimpArgs false
set_option maxRecDepth 4000
namespace Go.Proofs.YtmdiimhighlllaaGreatDoor.VL
open Go
theorem c_codeR (f : DField) (v : Int) (hok : fieldOK f) (hv : 0 ≤ v ∧ v ≤ topF f) : AC Tryz.prog 108 [.cel (Kd.ptr kField) f, .cel (Kd.int .i64) v] [.agg kMask (codeF f v)] [] := by
 have h := c_spec_l01Code f v.toNat hok (by omega)
 rwa [Int.toNat_of_nonneg hv.1] at h
theorem c_encR (f : DField) (v : Int) (hok : fieldOK f) (hv : 0 ≤ v ∧ v ≤ topF f) : AC Tryz.prog 78 [.agg kField f, .cel (Kd.int .i64) v] [.agg kMask (codeF f v)] [] := by
 have h := c_impl_Field_encode f v.toNat hok (by omega)
 rwa [Int.toNat_of_nonneg hv.1] at h

/-- spec.l04Differ -/
theorem c_spec_l04Differ (f : DField) (v : Int) (m : DMask) (hok : fieldOK f) (hv : 0 ≤ v ∧ v ≤ topF f) : AC Tryz.prog 163 [.cel (Kd.ptr kField) f, .cel (Kd.int .i64) v, .agg kMask m] [.cel (Kd.int .i64) (distM (codeF f v) m)] [] := by
 refine acI (N := 20) Tryz.func163 (Nat.le_of_ble_eq_true rfl) rfl fun w0 hd s0 ar => ?_
 refine AW.to (kc2 0 1 rfl <| ka 2 rfl <| Kn) ?_
 have h1 := cntM_in (lessM (codeF f v) m)
 have h2 := cntM_in (lessM m (codeF f v))
 refine sr ?_
 refine st (OpT.frz (OpT.boxA (E := 34) (H rfl) (T1 rfl))) rfl ?_
 refine st (asI rfl) rfl ?_
 refine ng ?_
 refine sr ?_
 refine st (mvT rfl) rfl ?_
 refine st (mvT rfl) rfl ?_
 refine st (OpT.c1 (ms := [.flat, .flat]) (c_codeR _ _ hok hv) (H rfl) (Af (T1 rfl) rfl rfl <| Af (T1 rfl) rfl rfl <| An) rfl rfl) rfl ?_
 refine st (OpT.alloc (H rfl) zr34 zk34) rfl ?_
 refine sk (OpT.storeBA rfl rfl (Opd.whole (Root.self (t := 7) (by decide)) rfl) rfl sz34 (by decide) (T1 rfl)) rfl ?_
 refine AWl.to (kb 7 rfl <| kc2 6 5 rfl <| Kn) ?_
 refine ng ?_
 refine AW.seq ?_
 refine dh fomo ?_
 refine d1 [7] (fun ve h => OpT.loadB (H rfl) (Root.self (t := 7) (by decide)) ((h _ (List.elem_iff.1 rfl)).trans rfl) ag34 sz34) rfl ?_
 refine d1 [5] (fun ve h => OpT.loadA (H rfl) (D1 h rfl) ag34 sz34) rfl ?_
 refine d1 [11, 12] (fun ve h => OpT.c1 (ms := [.flat, .flat]) (c_spec_l01Less _ _) (H rfl) (Af (D1 h rfl) rfl rfl <| Af (D1 h rfl) rfl rfl <| An) rfl rfl) rfl ?_
 refine d1 [13] (fun ve h => OpT.c1 (ms := [.flat]) (c_spec_CountHoles _) (H rfl) (Af (D1 h rfl) rfl rfl <| An) rfl rfl) rfl ?_
 refine d1 [5] (fun ve h => OpT.loadA (H rfl) (D1 h rfl) ag34 sz34) rfl ?_
 refine d1 [7] (fun ve h => OpT.loadB (H rfl) (Root.self (t := 7) (by decide)) ((h _ (List.elem_iff.1 rfl)).trans rfl) ag34 sz34) rfl ?_
 refine d1 [15, 16] (fun ve h => OpT.c1 (ms := [.flat, .flat]) (c_spec_l01Less _ _) (H rfl) (Af (D1 h rfl) rfl rfl <| Af (D1 h rfl) rfl rfl <| An) rfl rfl) rfl ?_
 refine d1 [17] (fun ve h => OpT.c1 (ms := [.flat]) (c_spec_CountHoles _) (H rfl) (Af (D1 h rfl) rfl rfl <| An) rfl rfl) rfl ?_
 refine d1 [14, 18] (fun ve h => OpT.add (H rfl) (D1 h rfl) (D1 h rfl) (nw (by omega))) rfl ?_
 refine d1 [19] (fun ve h => OpT.move (A := .cel _ _) (.inr rfl) rfl (ok' rfl) (D1 h rfl) rfl) rfl ?_
 refine dn ⟨by kernel_rfl, by kernel_rfl, ?_⟩
 refine AX.pr (kc 6 rfl <| Kn) ?_
 refine AX.go ?_
 refine AW.ret ?_
 exact rt1 rfl (.inl rfl) rfl

/-- spec.l04Near -/
theorem c_spec_l04Near_o (f : DField) (m : DMask) (far : Int) (hok : fieldOK f) : AC Tryz.prog 120 [.cel (Kd.ptr kField) f, .agg kMask m, .cel (Kd.int .i64) far] [.own 2 (Kd.int .i64) (nearF f m far)] [] := by
 refine acI (N := 32) Tryz.func120 (Nat.le_of_ble_eq_true rfl) rfl fun w0 hd s0 ar => ?_
 refine AW.to (kc 0 rfl <| ka 1 rfl <| kc 2 rfl <| Kn) ?_
 have htp := top_in hok
 refine sr ?_
 refine st (OpT.frz (OpT.boxA (E := 34) (H rfl) (T1 rfl))) rfl ?_
 refine st (nilO (E := 2) (Kd.int .i64) rfl (.inl rfl)) rfl ?_
 refine AWl.to (ko 6 rfl <| kc3 4 0 2 rfl <| Kn) ?_
 refine ng ?_
 refine AW.seq ?_
 refine dh fomo ?_
 refine d1 [4] (fun ve h => OpT.loadA (H rfl) (D1 h rfl) ag34 sz34) rfl ?_
 refine d1 [0] (fun ve h => OpT.move (A := .cel _ _) (.inl rfl) rfl (ok' rfl) (D1 h rfl) rfl) rfl ?_
 refine d1 [11] (fun ve h => OpT.c1 (ms := [.flat]) (c_spec_l01Part _ hok) (H rfl) (Af (D1 h rfl) rfl rfl <| An) rfl rfl) rfl ?_
 refine d1 [10, 12] (fun ve h => OpT.c1 (ms := [.flat, .flat]) (c_spec_l01Meet _ _) (H rfl) (Af (D1 h rfl) rfl rfl <| Af (D1 h rfl) rfl rfl <| An) rfl rfl) rfl ?_
 refine d1 [] (fun ve h => OpT.alloc (H rfl) zr34 zk34) rfl ?_
 refine dm (t := 7) [7, 13] (fun ve h => OpT.storeBA rfl rfl (Opd.whole (Root.self (t := 7) (by decide)) ((h _ (List.elem_iff.1 rfl)).trans rfl)) ((h _ (List.elem_iff.1 rfl)).trans rfl) sz34 (by decide) (D1 h rfl)) rfl ?_
 refine dn ⟨by kernel_rfl, by kernel_rfl, ?_⟩
 refine AX.go ?_
 refine sr ?_
 refine st (OpT.buildSlice0 (m := 0) (z := .bool false) (Kd.int .i64) (H rfl) el43 sz2 (by decide)) rfl ?_
 refine sg (OpT.take (.inl rfl) rfl (ok' rfl) (Root.self (by decide)) rfl rfl (by decide)) (ko 8 rfl <| kb 7 rfl <| ka 13 rfl <| ka 12 rfl <| kc 11 rfl <| ka 10 rfl <| ko 6 rfl <| kc3 4 0 2 rfl <| Kn) rfl ?_
 refine ng ?_
 refine AW.seq ?_
 refine sr ?_
 refine st (asI rfl) rfl ?_
 refine ng ?_
 refine AW.block ?_
 refine AW.loop (fun z : Nat => z ≤ (topF f + 1).toNat) (fun z : Nat => keep [(0, .cel (Kd.ptr kField) f), (2, .cel (Kd.int .i64) far), (7, .box 34 kMask (meetM m (partF f))), (8, .own 2 (Kd.int .i64) (nearN f m far z)), (9, .cel (Kd.int .i64) (z : Int))]) (fun z : Nat => (topF f + 1).toNat - z) (0) (Nat.zero_le _) (Kc 0 _ (Kv rfl rfl) <| Kc 2 _ (Kv rfl rfl) <| Kc 7 _ (Kb rfl rfl) <| Kc 8 _ (Ko rfl rfl) <| Kc 9 _ (Kv rfl rfl) <| Kn) ?_
 intro z hI
 refine AW.seq ?_
 refine sr ?_
 refine st (mvT rfl) rfl ?_
 refine st (mvT rfl) rfl ?_
 refine st (OpT.c1 (ms := [.flat]) (c_spec_l01Most _ hok) (H rfl) (Af (T1 rfl) rfl rfl <| An) rfl rfl) rfl ?_
 refine st (OpT.leq (H rfl) (T1 rfl) (T1 rfl)) rfl ?_
 refine ng ?_
 refine cd rfl (fun hc1 => ?_) fun hc1 => ?_
 ·
  obtain ⟨hc1, hc1'⟩ := pT hc1
  refine AW.skip ?_
  refine AX.go ?_
  refine AW.seq ?_
  refine AW.block ?_
  refine sr ?_
  refine st (mvT rfl) rfl ?_
  refine st (mvT rfl) rfl ?_
  refine st (OpT.loadB (H rfl) (Root.self (t := 7) (by decide)) rfl ag34 sz34) rfl ?_
  refine st (OpT.c1 (ms := [.flat, .flat, .flat]) (c_spec_l04Differ _ (z : Int) _ hok (by omega)) (H rfl) (Af (T1 rfl) rfl rfl <| Af (T1 rfl) rfl rfl <| Af (T1 rfl) rfl rfl <| An) rfl rfl) rfl ?_
  refine st (mvT rfl) rfl ?_
  refine st (OpT.leq (H rfl) (T1 rfl) (T1 rfl)) rfl ?_
  refine ng ?_
  refine cd rfl (fun hc2 => ?_) fun hc2 => ?_
  ·
   obtain ⟨hc2, hc2'⟩ := pT hc2
   refine AW.region ?_
   refine st (OpT.alias (H rfl) (by decide) (by decide)) rfl ?_
   refine st (mvT rfl) rfl ?_
   refine st (OpT.buildSlice (H rfl) el43 zr2 sz2 rfl (by decide) zk2 (by decide) (Built.cel (T1 rfl) rfl rfl (sub_arr (by decide) (0 : Int)) (Built.nil _))) rfl ?_
   refine sg (OpT.append (H rfl) (Root.ali rfl (by decide) (by decide)) rfl (Src.own (Root.self (t := 29) (by decide)) rfl) (by decide) el43 zr2 rfl sz2 by2 (by decide) (by have h70 := nearN_len (f := f) (m := m) (far := far) (z := z); simp only [List.length_set, List.length_replicate]; omega)) (ko 30 rfl <| ko 29 rfl <| kc4 28 26 25 24 rfl <| ka 23 rfl <| kc4 22 21 18 17 rfl <| kc4 16 15 0 2 rfl <| kb 7 rfl <| kc 9 rfl <| Kn) rfl ?_
   refine sg (OpT.take (.inl rfl) rfl (ok' rfl) (Root.self (by decide)) rfl rfl (by decide)) (ko 8 rfl <| ko 29 rfl <| kc4 28 26 25 24 rfl <| ka 23 rfl <| kc4 22 21 18 17 rfl <| kc4 16 15 0 2 rfl <| kb 7 rfl <| kc 9 rfl <| Kn) rfl ?_
   refine nn ?_
   refine AX.normal_block ?_
   refine AX.go ?_
   refine AW.region ?_
   refine st (mvT rfl) rfl ?_
   refine st (OpT.add (H rfl) (T1 rfl) (I rfl) (nw (by omega))) rfl ?_
   refine st (asT rfl) rfl ?_
   refine nn ?_
   exact AX.again (z + 1) (by omega) (by omega) (Kc 0 _ (Kv rfl rfl) <| Kc 2 _ (Kv rfl rfl) <| Kc 7 _ (Kb rfl rfl) <| Kc 8 _ (Ko rfl (by first | exact near_yes (by omega) | exact near_no (by omega))) <| Kc 9 _ (Kv rfl (by omega)) <| Kn)
  ·
   obtain ⟨hc2, hc2'⟩ := pF hc2
   refine AW.skip ?_
   refine AX.normal_block ?_
   refine AX.go ?_
   refine AW.region ?_
   refine st (mvT rfl) rfl ?_
   refine st (OpT.add (H rfl) (T1 rfl) (I rfl) (nw (by omega))) rfl ?_
   refine st (asT rfl) rfl ?_
   refine nn ?_
   exact AX.again (z + 1) (by omega) (by omega) (Kc 0 _ (Kv rfl rfl) <| Kc 2 _ (Kv rfl rfl) <| Kc 7 _ (Kb rfl rfl) <| Kc 8 _ (Ko rfl (by first | exact near_yes (by omega) | exact near_no (by omega))) <| Kc 9 _ (Kv rfl (by omega)) <| Kn)
 ·
  obtain ⟨hc1, hc1'⟩ := pF hc1
  refine AW.exit ?_
  refine xT <| xT <| AX.exit_hit ?_
  refine AX.go ?_
  refine sr ?_
  refine st (OpT.alias (H rfl) (by decide) (by decide)) rfl ?_
  refine sg (OpT.take (.inl rfl) rfl (ok' rfl) (Root.ali rfl (by decide) (by decide)) rfl rfl (by decide)) (ko 6 rfl <| kc4 18 17 16 15 rfl <| kc2 0 2 rfl <| kb 7 rfl <| kc 9 rfl <| Kn) rfl ?_
  refine ng ?_
  refine AW.ret ?_
  exact AX.rt (rs := [.tmp 6]) (ts := [some 6]) (.inl rfl) rfl (ROs.cons (RO.tmp (At.self (by decide)) (Ko rfl (nearN_end (by omega) (by omega))) rfl) <| ROs.nil) (by decide) OutsOK.nil
theorem c_spec_l04Near (f : DField) (m : DMask) (far : Int) (hok : fieldOK f) : AC Tryz.prog 120 [.cel (Kd.ptr kField) f, .agg kMask m, .cel (Kd.int .i64) far] [.cel (Kd.slice (Kd.int .i64)) (nearF f m far)] [] := (c_spec_l04Near_o f m far hok).frz rfl

/-- impl.Field).near -/
theorem c_impl_Field_near_o (f : DField) (m : DMask) (far : Int) (hok : fieldOK f) : AC Tryz.prog 117 [.agg kField f, .agg kMask m, .cel (Kd.int .i64) far] [.own 2 (Kd.int .i64) (nearF f m far)] [] := by
 refine acI (N := 34) Tryz.func117 (Nat.le_of_ble_eq_true rfl) rfl fun w0 hd s0 ar => ?_
 refine AW.to (ka 0 rfl <| ka 1 rfl <| kc 2 rfl <| Kn) ?_
 have htp := top_in hok
 refine sr ?_
 refine st (OpT.frz (OpT.boxA (E := 52) (H rfl) (T1 rfl))) rfl ?_
 refine st (OpT.frz (OpT.boxA (E := 34) (H rfl) (T1 rfl))) rfl ?_
 refine st (nilO (E := 2) (Kd.int .i64) rfl (.inl rfl)) rfl ?_
 refine AWl.to (ko 6 rfl <| kc3 4 3 2 rfl <| Kn) ?_
 refine ng ?_
 refine AW.seq ?_
 refine dh fomo ?_
 refine d1 [4] (fun ve h => OpT.loadA (H rfl) (D1 h rfl) ag34 sz34) rfl ?_
 refine d1 [3] (fun ve h => OpT.loadA (H rfl) (D1 h rfl) ag52 sz52) rfl ?_
 refine d1 [11] (fun ve h => OpT.c1 (ms := [.flat]) (c_impl_Field_part _ hok) (H rfl) (Af (D1 h rfl) rfl rfl <| An) rfl rfl) rfl ?_
 refine d1 [10, 12] (fun ve h => OpT.c1 (ms := [.flat, .flat]) (c_impl_MeetMasks _ _) (H rfl) (Af (D1 h rfl) rfl rfl <| Af (D1 h rfl) rfl rfl <| An) rfl rfl) rfl ?_
 refine d1 [] (fun ve h => OpT.alloc (H rfl) zr34 zk34) rfl ?_
 refine dm (t := 7) [7, 13] (fun ve h => OpT.storeBA rfl rfl (Opd.whole (Root.self (t := 7) (by decide)) ((h _ (List.elem_iff.1 rfl)).trans rfl)) ((h _ (List.elem_iff.1 rfl)).trans rfl) sz34 (by decide) (D1 h rfl)) rfl ?_
 refine dn ⟨by kernel_rfl, by kernel_rfl, ?_⟩
 refine AX.go ?_
 refine sr ?_
 refine st (OpT.buildSlice0 (m := 0) (z := .bool false) (Kd.int .i64) (H rfl) el43 sz2 (by decide)) rfl ?_
 refine sg (OpT.take (.inl rfl) rfl (ok' rfl) (Root.self (by decide)) rfl rfl (by decide)) (ko 8 rfl <| kb 7 rfl <| ka 13 rfl <| ka 12 rfl <| ka 11 rfl <| ka 10 rfl <| ko 6 rfl <| kc3 4 3 2 rfl <| Kn) rfl ?_
 refine ng ?_
 refine AW.seq ?_
 refine sr ?_
 refine st (OpT.loadA (H rfl) (T1 rfl) ag52 sz52) rfl ?_
 refine st (OpT.c1 (ms := [.flat]) (c_impl_Field_most _ hok) (H rfl) (Af (T1 rfl) rfl rfl <| An) rfl rfl) rfl ?_
 refine st (OpT.add (H rfl) (T1 rfl) (I rfl) (nw (by omega))) rfl ?_
 refine st (mvI rfl) rfl ?_
 refine ng ?_
 refine AW.block ?_
 refine AW.loop (fun z : Nat => z ≤ (topF f + 1).toNat) (fun z : Nat => keep [(2, .cel (Kd.int .i64) far), (3, .cel (Kd.ptr kField) f), (7, .box 34 kMask (meetM m (partF f))), (8, .own 2 (Kd.int .i64) (nearN f m far z)), (17, .cel (Kd.int .i64) (topF f + 1)), (18, .cel (Kd.int .i64) (z : Int))]) (fun z : Nat => (topF f + 1).toNat - z) (0) (Nat.zero_le _) (Kc 2 _ (Kv rfl rfl) <| Kc 3 _ (Kv rfl rfl) <| Kc 7 _ (Kb rfl rfl) <| Kc 8 _ (Ko rfl rfl) <| Kc 17 _ (Kv rfl rfl) <| Kc 18 _ (Kv rfl rfl) <| Kn) ?_
 intro z hI
 refine sr ?_
 refine st (OpT.lss (H rfl) (T1 rfl) (T1 rfl)) rfl ?_
 refine ng ?_
 refine AW.seq ?_
 refine cd rfl (fun hc1 => ?_) fun hc1 => ?_
 ·
  obtain ⟨hc1, hc1'⟩ := pT hc1
  refine AW.skip ?_
  refine AX.go ?_
  refine AW.seq ?_
  refine AW.block ?_
  refine sr ?_
  refine st (mvT rfl) rfl ?_
  refine st (asT rfl) rfl ?_
  refine ng ?_
  refine AW.seq ?_
  refine dh fomo ?_
  refine d1 [3] (fun ve h => OpT.loadA (H rfl) (D1 h rfl) ag52 sz52) rfl ?_
  refine d1 [9] (fun ve h => OpT.move (A := .cel _ _) (.inl rfl) rfl (ok' rfl) (D1 h rfl) rfl) rfl ?_
  refine d1 [21, 22] (fun ve h => OpT.c1 (ms := [.flat, .flat]) (c_encR _ (z : Int) hok (by omega)) (H rfl) (Af (D1 h rfl) rfl rfl <| Af (D1 h rfl) rfl rfl <| An) rfl rfl) rfl ?_
  refine d1 [7] (fun ve h => OpT.loadB (H rfl) (Root.self (t := 7) (by decide)) ((h _ (List.elem_iff.1 rfl)).trans rfl) ag34 sz34) rfl ?_
  refine d1 [23, 24] (fun ve h => OpT.c1 (ms := [.flat, .flat]) (c_impl_distance _ _) (H rfl) (Af (D1 h rfl) rfl rfl <| Af (D1 h rfl) rfl rfl <| An) rfl rfl) rfl ?_
  refine d1 [2] (fun ve h => OpT.move (A := .cel _ _) (.inl rfl) rfl (ok' rfl) (D1 h rfl) rfl) rfl ?_
  refine d1 [25, 26] (fun ve h => OpT.leq (H rfl) (D1 h rfl) (D1 h rfl)) rfl ?_
  refine dn ⟨by kernel_rfl, by kernel_rfl, ?_⟩
  refine AX.go ?_
  refine cd rfl (fun hc2 => ?_) fun hc2 => ?_
  ·
   obtain ⟨hc2, hc2'⟩ := pT hc2
   refine AW.region ?_
   refine st (OpT.alias (H rfl) (by decide) (by decide)) rfl ?_
   refine st (mvT rfl) rfl ?_
   refine st (OpT.buildSlice (H rfl) el43 zr2 sz2 rfl (by decide) zk2 (by decide) (Built.cel (T1 rfl) rfl rfl (sub_arr (by decide) (0 : Int)) (Built.nil _))) rfl ?_
   refine sg (OpT.append (H rfl) (Root.ali rfl (by decide) (by decide)) rfl (Src.own (Root.self (t := 30) (by decide)) rfl) (by decide) el43 zr2 rfl sz2 by2 (by decide) (by have h70 := nearN_len (f := f) (m := m) (far := far) (z := z); simp only [List.length_set, List.length_replicate]; omega)) (ko 31 rfl <| ko 30 rfl <| kc4 29 27 26 25 rfl <| ka 24 rfl <| ka 23 rfl <| kc 22 rfl <| ka 21 rfl <| kc4 9 20 19 2 rfl <| kc 3 rfl <| kb 7 rfl <| kc2 17 18 rfl <| Kn) rfl ?_
   refine sg (OpT.take (.inl rfl) rfl (ok' rfl) (Root.self (by decide)) rfl rfl (by decide)) (ko 8 rfl <| ko 30 rfl <| kc4 29 27 26 25 rfl <| ka 24 rfl <| ka 23 rfl <| kc 22 rfl <| ka 21 rfl <| kc4 9 20 19 2 rfl <| kc 3 rfl <| kb 7 rfl <| kc2 17 18 rfl <| Kn) rfl ?_
   refine nn ?_
   refine AX.normal_block ?_
   refine AX.go ?_
   refine AW.region ?_
   refine st (OpT.add (H rfl) (T1 rfl) (I rfl) (nw (by omega))) rfl ?_
   refine st (mvT rfl) rfl ?_
   refine nn ?_
   exact AX.again (z + 1) (by omega) (by omega) (Kc 2 _ (Kv rfl rfl) <| Kc 3 _ (Kv rfl rfl) <| Kc 7 _ (Kb rfl rfl) <| Kc 8 _ (Ko rfl (by first | exact near_yes (by omega) | exact near_no (by omega))) <| Kc 17 _ (Kv rfl rfl) <| Kc 18 _ (Kv rfl (by omega)) <| Kn)
  ·
   obtain ⟨hc2, hc2'⟩ := pF hc2
   refine AW.skip ?_
   refine AX.normal_block ?_
   refine AX.go ?_
   refine AW.region ?_
   refine st (OpT.add (H rfl) (T1 rfl) (I rfl) (nw (by omega))) rfl ?_
   refine st (mvT rfl) rfl ?_
   refine nn ?_
   exact AX.again (z + 1) (by omega) (by omega) (Kc 2 _ (Kv rfl rfl) <| Kc 3 _ (Kv rfl rfl) <| Kc 7 _ (Kb rfl rfl) <| Kc 8 _ (Ko rfl (by first | exact near_yes (by omega) | exact near_no (by omega))) <| Kc 17 _ (Kv rfl rfl) <| Kc 18 _ (Kv rfl (by omega)) <| Kn)
 ·
  obtain ⟨hc1, hc1'⟩ := pF hc1
  refine AW.exit ?_
  refine xT <| xT <| AX.exit_hit ?_
  refine AX.go ?_
  refine sr ?_
  refine st (OpT.alias (H rfl) (by decide) (by decide)) rfl ?_
  refine sg (OpT.take (.inl rfl) rfl (ok' rfl) (Root.ali rfl (by decide) (by decide)) rfl rfl (by decide)) (ko 6 rfl <| kc3 19 2 3 rfl <| kb 7 rfl <| kc2 17 18 rfl <| Kn) rfl ?_
  refine ng ?_
  refine AW.ret ?_
  exact AX.rt (rs := [.tmp 6]) (ts := [some 6]) (.inl rfl) rfl (ROs.cons (RO.tmp (At.self (by decide)) (Ko rfl (nearN_end (by omega) (by omega))) rfl) <| ROs.nil) (by decide) OutsOK.nil
theorem c_impl_Field_near (f : DField) (m : DMask) (far : Int) (hok : fieldOK f) : AC Tryz.prog 117 [.agg kField f, .agg kMask m, .cel (Kd.int .i64) far] [.cel (Kd.slice (Kd.int .i64)) (nearF f m far)] [] := (c_impl_Field_near_o f m far hok).frz rfl

set_option maxHeartbeats 4000000 in
/-- spec.l04Agreed -/
theorem c_spec_l04Agreed (f : DField) (x : List DMask) (hok : fieldOK f) (hx : x.length ≤ 1000) : AC Tryz.prog 118 [.cel (Kd.ptr kField) f, .cel (Kd.slice kMask) x] [.cel (Kd.int .i64) (agrS f x).1, .cel Kd.bool (agrS f x).2] [] := by
 refine acI (N := 67) Tryz.func118 (Nat.le_of_ble_eq_true rfl) rfl fun w0 hd s0 ar => ?_
 refine AW.to (kc2 0 1 rfl <| Kn) ?_
 refine AW.fact (fun a w hr => (ok_slice (R_ok (t := 1) rfl hr)).2) (fun hl1 => ?_)
 refine sr ?_
 refine st (asI rfl) rfl ?_
 refine st (asB rfl) rfl ?_
 refine ng ?_
 refine sr ?_
 refine st (OpT.buildSlice0 (m := 0) (z := .bool false) (Kd.int .i64) (H rfl) el43 sz2 (by decide)) rfl ?_
 refine sg (OpT.take (.inl rfl) rfl (ok' rfl) (Root.self (by decide)) rfl rfl (by decide)) (ko 6 rfl <| kc4 5 4 0 1 rfl <| Kn) rfl ?_
 refine ng ?_
 refine AW.seq ?_
 refine sr ?_
 refine st (asI rfl) rfl ?_
 refine ng ?_
 refine AW.block ?_
 refine AW.loop (fun z : Nat => z ≤ x.length) (fun z : Nat => keep [(0, .cel (Kd.ptr kField) f), (1, .cel (Kd.slice kMask) x), (6, .own 2 (Kd.int .i64) (valsC f (x.take z))), (7, .cel (Kd.int .i64) (z : Int))]) (fun z : Nat => x.length - z) (0) (Nat.zero_le _) (Kc 0 _ (Kv rfl rfl) <| Kc 1 _ (Kv rfl rfl) <| Kc 6 _ (Ko rfl rfl) <| Kc 7 _ (Kv rfl rfl) <| Kn) ?_
 intro z hI
 refine AW.seq ?_
 refine sr ?_
 refine st (mvT rfl) rfl ?_
 refine st (mvT rfl) rfl ?_
 refine st (OpT.len (H rfl) (T1 rfl) el55) rfl ?_
 refine st (OpT.lss (H rfl) (T1 rfl) (T1 rfl)) rfl ?_
 refine ng ?_
 refine cd rfl (fun hc1 => ?_) fun hc1 => ?_
 ·
  obtain ⟨hc1, hc1'⟩ := pT hc1
  obtain ⟨a, ha⟩ := getI (x := x) (z := z) (by omega)
  refine AW.skip ?_
  refine AX.go ?_
  refine AW.seq ?_
  refine AW.block ?_
  refine sr ?_
  refine st (mvT rfl) rfl ?_
  refine st (mvT rfl) rfl ?_
  refine st (mvT rfl) rfl ?_
  refine st (OpT.indexAddr (H rfl) (T1 rfl) (T1 rfl) el55 sz34 (by omega) (by assumption)) rfl ?_
  refine st (OpT.loadA (H rfl) (T1 rfl) ag34 sz34) rfl ?_
  refine s2 (OpT.c2 (ms := [.flat, .flat]) (c_spec_l01Value _ _ hok) (H rfl) (Af (T1 rfl) rfl rfl <| Af (T1 rfl) rfl rfl <| An) rfl rfl rfl) rfl ?_
  refine st (OpT.alias (H rfl) (by decide) (by decide)) rfl ?_
  refine st (OpT.extractV (m := 10026) (H rfl) rfl rfl rfl rfl rfl rfl rfl) rfl ?_
  refine st (OpT.extractV (m := 20026) (H rfl) rfl rfl rfl rfl rfl rfl rfl) rfl ?_
  refine st (asT rfl) rfl ?_
  refine st (asT rfl) rfl ?_
  refine ng ?_
  refine sr ?_
  refine st (mvT rfl) rfl ?_
  refine st (OpT.eql (H rfl) (T1 rfl) (I rfl)) rfl ?_
  refine ng ?_
  refine cd rfl (fun hc2 => ?_) fun hc2 => ?_
  ·
   obtain ⟨hc2, hc2'⟩ := pT hc2
   have hvz : (valS f a).2 = 0 := by omega
   refine AW.region ?_
   refine st (OpT.alias (H rfl) (by decide) (by decide)) rfl ?_
   refine st (mvT rfl) rfl ?_
   refine st (OpT.buildSlice (H rfl) el43 zr2 sz2 rfl (by decide) zk2 (by decide) (Built.cel (T1 rfl) rfl rfl (sub_arr (by decide) (0 : Int)) (Built.nil _))) rfl ?_
   refine sg (OpT.append (H rfl) (Root.ali rfl (by decide) (by decide)) rfl (Src.own (Root.self (t := 33) (by decide)) rfl) (by decide) el43 zr2 rfl sz2 by2 (by decide) (by have h70 := valsC_len (f := f) (x := x.take z); rw [List.length_take] at h70; simp only [List.length_set, List.length_replicate]; omega)) (ko 34 rfl <| ko 33 rfl <| kc4 32 30 29 9 rfl <| kc3 8 28 27 rfl <| Kc 20 (.ali _) rfl <| kc2 10026 20026 rfl <| ka 25 rfl <| kc4 24 23 22 21 rfl <| kc4 17 16 15 14 rfl <| kc3 0 1 7 rfl <| Kn) rfl ?_
   refine sg (OpT.take (.inl rfl) rfl (ok' rfl) (Root.self (by decide)) rfl rfl (by decide)) (ko 6 rfl <| ko 33 rfl <| kc4 32 30 29 9 rfl <| kc3 8 28 27 rfl <| Kc 20 (.ali _) rfl <| kc2 10026 20026 rfl <| ka 25 rfl <| kc4 24 23 22 21 rfl <| kc4 17 16 15 14 rfl <| kc3 0 1 7 rfl <| Kn) rfl ?_
   refine nn ?_
   refine AX.normal_block ?_
   refine AX.go ?_
   refine AW.region ?_
   refine st (mvT rfl) rfl ?_
   refine st (OpT.add (H rfl) (T1 rfl) (I rfl) (nw (by omega))) rfl ?_
   refine st (asT rfl) rfl ?_
   refine nn ?_
   exact AX.again (z + 1) (by omega) (by omega) (Kc 0 _ (Kv rfl rfl) <| Kc 1 _ (Kv rfl rfl) <| Kc 6 _ (Ko rfl (by first | exact valsC_yes ha hvz | exact valsC_no ha hvz)) <| Kc 7 _ (Kv rfl (by omega)) <| Kn)
  ·
   obtain ⟨hc2, hc2'⟩ := pF hc2
   have hvz : ¬ (valS f a).2 = 0 := by omega
   refine AW.skip ?_
   refine AX.normal_block ?_
   refine AX.go ?_
   refine AW.region ?_
   refine st (mvT rfl) rfl ?_
   refine st (OpT.add (H rfl) (T1 rfl) (I rfl) (nw (by omega))) rfl ?_
   refine st (asT rfl) rfl ?_
   refine nn ?_
   exact AX.again (z + 1) (by omega) (by omega) (Kc 0 _ (Kv rfl rfl) <| Kc 1 _ (Kv rfl rfl) <| Kc 6 _ (Ko rfl (by first | exact valsC_yes ha hvz | exact valsC_no ha hvz)) <| Kc 7 _ (Kv rfl (by omega)) <| Kn)
 ·
  obtain ⟨hc1, hc1'⟩ := pF hc1
  refine AW.exit ?_
  refine xT <| xT <| AX.exit_hit ?_
  refine AX.go ?_
  refine AW.seq ?_
  refine sr ?_
  refine st (asI rfl) rfl ?_
  refine ng ?_
  refine AW.block ?_
  refine AW.loop (fun y : Nat => y ≤ (valsC f x).length ∧ ∀ i, i < y → nI (majB (valsC f x)) (valsC f x) i) (fun y : Nat => keep [(6, .own 2 (Kd.int .i64) (valsC f x)), (10, .cel (Kd.int .i64) (y : Int))]) (fun y : Nat => (valsC f x).length - y) (0) ⟨Nat.zero_le _, all_none⟩ (Kc 6 _ (Ko rfl (by rw [List.take_of_length_le (by omega)])) <| Kc 10 _ (Kv rfl rfl) <| Kn) ?_
  intro y hI
  have hvl := valsC_len (f := f) (x := x)
  refine AW.seq ?_
  refine sr ?_
  refine st (mvT rfl) rfl ?_
  refine st (OpT.alias (H rfl) (by decide) (by decide)) rfl ?_
  refine st (OpT.lenO (H rfl) (Root.ali rfl (by decide) (by decide)) rfl el43) rfl ?_
  refine st (OpT.lss (H rfl) (T1 rfl) (T1 rfl)) rfl ?_
  refine ng ?_
  refine cd rfl (fun hc3 => ?_) fun hc3 => ?_
  ·
   obtain ⟨hc3, hc3'⟩ := pT hc3
   obtain ⟨v, hv⟩ := getI (x := (valsC f x)) (z := y) (by omega)
   refine AW.skip ?_
   refine AX.go ?_
   refine AW.seq ?_
   refine AW.block ?_
   refine sr ?_
   refine st (asI rfl) rfl ?_
   refine ng ?_
   refine AW.seq ?_
   refine sr ?_
   refine st (asI rfl) rfl ?_
   refine ng ?_
   refine AW.block ?_
   have hI0 := hI
   refine AW.loop (fun u : Nat => u ≤ (valsC f x).length) (fun u : Nat => keep [(6, .own 2 (Kd.int .i64) (valsC f x)), (10, .cel (Kd.int .i64) (y : Int)), (11, .cel (Kd.int .i64) (cntQ (fun o => o == v) ((valsC f x).take u))), (12, .cel (Kd.int .i64) (u : Int))]) (fun u : Nat => (valsC f x).length - u) (0) (Nat.zero_le _) (Kc 6 _ (Ko rfl rfl) <| Kc 10 _ (Kv rfl rfl) <| Kc 11 _ (Kv rfl rfl) <| Kc 12 _ (Kv rfl rfl) <| Kn) ?_
   intro u hI
   have hcq := cntQ_in (fun o => o == v) ((valsC f x).take u)
   rw [List.length_take] at hcq
   refine AW.seq ?_
   refine sr ?_
   refine st (mvT rfl) rfl ?_
   refine st (OpT.alias (H rfl) (by decide) (by decide)) rfl ?_
   refine st (OpT.lenO (H rfl) (Root.ali rfl (by decide) (by decide)) rfl el43) rfl ?_
   refine st (OpT.lss (H rfl) (T1 rfl) (T1 rfl)) rfl ?_
   refine ng ?_
   refine cd rfl (fun hc4 => ?_) fun hc4 => ?_
   ·
    obtain ⟨hc4, hc4'⟩ := pT hc4
    obtain ⟨o, ho⟩ := getI (x := (valsC f x)) (z := u) (by omega)
    refine AW.skip ?_
    refine AX.go ?_
    refine AW.seq ?_
    refine AW.block ?_
    refine AW.seq ?_
    refine dh fomo ?_
    refine d1 [] (fun ve h => OpT.alias (H rfl) (by decide) (by decide)) rfl ?_
    refine d1 [12] (fun ve h => OpT.move (A := .cel _ _) (.inl rfl) rfl (ok' rfl) (D1 h rfl) rfl) rfl ?_
    refine d1 [6, 47, 48] (fun ve h => OpT.indexAddrO (H rfl) (Root.ali ((h _ (List.elem_iff.1 rfl)).trans rfl) (by decide) (by decide)) ((h _ (List.elem_iff.1 rfl)).trans rfl) (by decide) (D1 h rfl) el43 sz2 (by omega) (by assumption)) rfl ?_
    refine d1 [6, 49] (fun ve h => OpT.loadP (H rfl) (D1 h rfl) (.inr ⟨_, _, ((h _ (List.elem_iff.1 rfl)).trans rfl), (by assumption)⟩) ag2 rfl) rfl ?_
    refine d1 [] (fun ve h => OpT.alias (H rfl) (by decide) (by decide)) rfl ?_
    refine d1 [10] (fun ve h => OpT.move (A := .cel _ _) (.inl rfl) rfl (ok' rfl) (D1 h rfl) rfl) rfl ?_
    refine d1 [6, 51, 52] (fun ve h => OpT.indexAddrO (H rfl) (Root.ali ((h _ (List.elem_iff.1 rfl)).trans rfl) (by decide) (by decide)) ((h _ (List.elem_iff.1 rfl)).trans rfl) (by decide) (D1 h rfl) el43 sz2 (by omega) (by assumption)) rfl ?_
    refine d1 [6, 53] (fun ve h => OpT.loadP (H rfl) (D1 h rfl) (.inr ⟨_, _, ((h _ (List.elem_iff.1 rfl)).trans rfl), (by assumption)⟩) ag2 rfl) rfl ?_
    refine d1 [50, 54] (fun ve h => OpT.eql (H rfl) (D1 h rfl) (D1 h rfl)) rfl ?_
    refine dn ⟨by kernel_rfl, by kernel_rfl, ?_⟩
    refine AX.go ?_
    refine cd rfl (fun hc5 => ?_) fun hc5 => ?_
    ·
     obtain ⟨hc5, hc5'⟩ := pT hc5
     have hov : (o == v) = true := by simpa using hc5
     refine AW.region ?_
     refine st (mvT rfl) rfl ?_
     refine st (OpT.add (H rfl) (T1 rfl) (I rfl) (nw (by omega))) rfl ?_
     refine st (asT rfl) rfl ?_
     refine nn ?_
     refine AX.normal_block ?_
     refine AX.go ?_
     refine AW.region ?_
     refine st (mvT rfl) rfl ?_
     refine st (OpT.add (H rfl) (T1 rfl) (I rfl) (nw (by omega))) rfl ?_
     refine st (asT rfl) rfl ?_
     refine nn ?_
     exact AX.again (u + 1) (by omega) (by omega) (Kc 6 _ (Ko rfl rfl) <| Kc 10 _ (Kv rfl rfl) <| Kc 11 _ (Kv rfl (by first | exact cntQ_yes (q := fun o => o == v) ho hov | exact cntQ_no (q := fun o => o == v) ho hov)) <| Kc 12 _ (Kv rfl (by omega)) <| Kn)
    ·
     obtain ⟨hc5, hc5'⟩ := pF hc5
     have hov : (o == v) = false := by simpa using hc5
     refine AW.skip ?_
     refine AX.normal_block ?_
     refine AX.go ?_
     refine AW.region ?_
     refine st (mvT rfl) rfl ?_
     refine st (OpT.add (H rfl) (T1 rfl) (I rfl) (nw (by omega))) rfl ?_
     refine st (asT rfl) rfl ?_
     refine nn ?_
     exact AX.again (u + 1) (by omega) (by omega) (Kc 6 _ (Ko rfl rfl) <| Kc 10 _ (Kv rfl rfl) <| Kc 11 _ (Kv rfl (by first | exact cntQ_yes (q := fun o => o == v) ho hov | exact cntQ_no (q := fun o => o == v) ho hov)) <| Kc 12 _ (Kv rfl (by omega)) <| Kn)
   ·
    obtain ⟨hc4, hc4'⟩ := pF hc4
    have hmj := maj_iff (l := (valsC f x)) (v := v) (z := u) (by omega) rfl
    refine AW.exit ?_
    refine xT <| xT <| AX.exit_hit ?_
    refine AX.go ?_
    refine sr ?_
    refine st (mvT rfl) rfl ?_
    refine st (OpT.mul (H rfl) (I rfl) (T1 rfl) (nw (by omega))) rfl ?_
    refine st (OpT.alias (H rfl) (by decide) (by decide)) rfl ?_
    refine st (OpT.lenO (H rfl) (Root.ali rfl (by decide) (by decide)) rfl el43) rfl ?_
    refine st (OpT.gtr (H rfl) (T1 rfl) (T1 rfl)) rfl ?_
    refine ng ?_
    refine cd rfl (fun hc6 => ?_) fun hc6 => ?_
    ·
     obtain ⟨hc6, hc6'⟩ := pT hc6
     have hfd := agr_at (f := f) (x := x) hI0.2 hv (by rw [hmj]; exact decide_eq_true (by omega))
     refine sr ?_
     refine st (OpT.alias (H rfl) (by decide) (by decide)) rfl ?_
     refine st (mvT rfl) rfl ?_
     refine st (OpT.indexAddrO (H rfl) (Root.ali rfl (by decide) (by decide)) rfl (by decide) (T1 rfl) el43 sz2 (by omega) (by assumption)) rfl ?_
     refine st (OpT.loadP (H rfl) (T1 rfl) (.inr ⟨_, _, rfl, (by assumption)⟩) ag2 rfl) rfl ?_
     refine st (asT rfl) rfl ?_
     refine st (asB rfl) rfl ?_
     refine ng ?_
     refine AW.ret ?_
     refine rK <| rT <| rT <| rK <| rT ?_
     exact rt2 rfl (.inl rfl) (by first | (rw [hfd.2]; done) | (rw [hfn.2]; done)) (by first | (rw [hfd.2]; done) | (rw [hfn.2]; done))
    ·
     obtain ⟨hc6, hc6'⟩ := pF hc6
     have hnm : majB (valsC f x) v = false := by rw [hmj]; exact decide_eq_false (by omega)
     refine AW.skip ?_
     refine AX.normal_block ?_
     refine AX.go ?_
     refine AW.region ?_
     refine st (mvT rfl) rfl ?_
     refine st (OpT.add (H rfl) (T1 rfl) (I rfl) (nw (by omega))) rfl ?_
     refine st (asT rfl) rfl ?_
     refine nn ?_
     exact AX.again (y + 1) ⟨by omega, all_step hI0.2 ((nI_iff hv).2 hnm)⟩ (by omega) (Kc 6 _ (Ko rfl rfl) <| Kc 10 _ (Kv rfl (by omega)) <| Kn)
  ·
   obtain ⟨hc3, hc3'⟩ := pF hc3
   have hfn := agr_no (f := f) (x := x) hI.2 (by omega)
   refine AW.exit ?_
   refine xT <| xT <| AX.exit_hit ?_
   refine AX.go ?_
   refine sr ?_
   refine st (asI rfl) rfl ?_
   refine st (asB rfl) rfl ?_
   refine ng ?_
   refine AW.ret ?_
   exact rt2 rfl (.inl rfl) (by first | (rw [hfd.2]; done) | (rw [hfn.2]; done)) (by first | (rw [hfd.2]; done) | (rw [hfn.2]; done))

/-- spec.l04Put -/
theorem c_spec_l04Put (f : DField) (m : DMask) (v : Int) (hok : fieldOK f) (hv : 0 ≤ v ∧ v ≤ topF f) : AC Tryz.prog 119 [.cel (Kd.ptr kField) f, .agg kMask m, .cel (Kd.int .i64) v] [.agg kMask (putM f m v)] [] := by
 refine acI (N := 15) Tryz.func119 (Nat.le_of_ble_eq_true rfl) rfl fun w0 hd s0 ar => ?_
 refine AW.to (kc 0 rfl <| ka 1 rfl <| kc 2 rfl <| Kn) ?_
 refine sr ?_
 refine st (OpT.frz (OpT.boxA (E := 34) (H rfl) (T1 rfl))) rfl ?_
 refine st (OpT.alloc (H rfl) zr34 zk34) rfl ?_
 refine AWl.to (kb 6 rfl <| kc3 4 0 2 rfl <| Kn) ?_
 refine ng ?_
 refine AW.seq ?_
 refine dh fomo ?_
 refine d1 [4] (fun ve h => OpT.loadA (H rfl) (D1 h rfl) ag34 sz34) rfl ?_
 refine d1 [0] (fun ve h => OpT.move (A := .cel _ _) (.inl rfl) rfl (ok' rfl) (D1 h rfl) rfl) rfl ?_
 refine d1 [8] (fun ve h => OpT.c1 (ms := [.flat]) (c_spec_l01Part _ hok) (H rfl) (Af (D1 h rfl) rfl rfl <| An) rfl rfl) rfl ?_
 refine d1 [7, 9] (fun ve h => OpT.c1 (ms := [.flat, .flat]) (c_spec_l01Less _ _) (H rfl) (Af (D1 h rfl) rfl rfl <| Af (D1 h rfl) rfl rfl <| An) rfl rfl) rfl ?_
 refine d1 [0] (fun ve h => OpT.move (A := .cel _ _) (.inl rfl) rfl (ok' rfl) (D1 h rfl) rfl) rfl ?_
 refine d1 [2] (fun ve h => OpT.move (A := .cel _ _) (.inl rfl) rfl (ok' rfl) (D1 h rfl) rfl) rfl ?_
 refine d1 [11, 12] (fun ve h => OpT.c1 (ms := [.flat, .flat]) (c_codeR _ _ hok hv) (H rfl) (Af (D1 h rfl) rfl rfl <| Af (D1 h rfl) rfl rfl <| An) rfl rfl) rfl ?_
 refine d1 [10, 13] (fun ve h => OpT.c1 (ms := [.flat, .flat]) (c_spec_l01Join _ _) (H rfl) (Af (D1 h rfl) rfl rfl <| Af (D1 h rfl) rfl rfl <| An) rfl rfl) rfl ?_
 refine dm (t := 6) [6, 14] (fun ve h => OpT.storeBA rfl rfl (Opd.whole (Root.self (t := 6) (by decide)) ((h _ (List.elem_iff.1 rfl)).trans rfl)) ((h _ (List.elem_iff.1 rfl)).trans rfl) sz34 (by decide) (D1 h rfl)) rfl ?_
 refine dn ⟨by kernel_rfl, by kernel_rfl, ?_⟩
 refine AX.pr (kb 6 rfl <| Kn) ?_
 refine AX.go ?_
 refine AW.ret ?_
 exact AX.rt (rs := [.cell 6 34]) (ts := [none]) (.inl rfl) rfl (ROs.cons (RO.cellA (by decide) (Kb rfl rfl) ag34 sz34) <| ROs.nil) (by decide) OutsOK.nil

/-- spec.l04Repair -/
theorem c_spec_l04Repair (f : DField) (m : DMask) (x : List DMask) (hok : fieldOK f) (hx : x.length ≤ 1000) : AC Tryz.prog 60 [.cel (Kd.ptr kField) f, .agg kMask m, .cel (Kd.slice kMask) x] [.agg kMask (repS f m x).1, .cel (Kd.int .i64) (repS f m x).2] [] := by
 refine acI (N := 46) Tryz.func60 (Nat.le_of_ble_eq_true rfl) rfl fun w0 hd s0 ar => ?_
 refine AW.to (kc 0 rfl <| ka 1 rfl <| kc 2 rfl <| Kn) ?_
 refine AW.fact (fun a w hr => (ok_slice (R_ok (t := 2) rfl hr)).2) (fun hl2 => ?_)
 refine sr ?_
 refine st (OpT.frz (OpT.boxA (E := 34) (H rfl) (T1 rfl))) rfl ?_
 refine st (OpT.alloc (H rfl) zr34 zk34) rfl ?_
 refine st (asI rfl) rfl ?_
 refine ng ?_
 refine AW.seq ?_
 refine sr ?_
 refine st (mvT rfl) rfl ?_
 refine st (OpT.loadA (H rfl) (T1 rfl) ag34 sz34) rfl ?_
 refine s2 (OpT.c2 (ms := [.flat, .flat]) (c_spec_l01Value _ _ hok) (H rfl) (Af (T1 rfl) rfl rfl <| Af (T1 rfl) rfl rfl <| An) rfl rfl rfl) rfl ?_
 refine st (OpT.alias (H rfl) (by decide) (by decide)) rfl ?_
 refine st (OpT.extractV (m := 10016) (H rfl) rfl rfl rfl rfl rfl rfl rfl) rfl ?_
 refine st (OpT.extractV (m := 20016) (H rfl) rfl rfl rfl rfl rfl rfl rfl) rfl ?_
 refine st (asT rfl) rfl ?_
 refine st (asT rfl) rfl ?_
 refine ng ?_
 refine sr ?_
 refine st (mvT rfl) rfl ?_
 refine st (OpT.neq (H rfl) (T1 rfl) (I rfl)) rfl ?_
 refine AWl.to (kc2 20 7 rfl <| kb 6 rfl <| kc3 4 0 2 rfl <| Kn) ?_
 refine ng ?_
 refine cd rfl (fun hc1 => ?_) fun hc1 => ?_
 ·
  obtain ⟨hc1, hc1'⟩ := pT hc1
  have hq8 : ¬ (valS f m).2 = 8 := by omega
  refine sr ?_
  refine st (OpT.loadA (H rfl) (T1 rfl) ag34 sz34) rfl ?_
  refine sk (OpT.storeBA rfl rfl (Opd.whole (Root.self (t := 6) (by decide)) rfl) rfl sz34 (by decide) (T1 rfl)) rfl ?_
  refine st (asI rfl) rfl ?_
  refine ng ?_
  refine AW.ret ?_
  refine rT ?_
  exact AX.rt (rs := [.cell 6 34, .tmp 7]) (ts := [none, some 7]) (.inl rfl) rfl (ROs.cons (RO.cellA (by decide) (Kb rfl (by first | (rw [rep_same hq8]; done) | (rw [rep_agree hq8 hag]; first | done | rfl) | (rw [rep_near hq8 hag hnr]; first | done | rfl) | (rw [rep_none hq8 hag hnr]; done))) ag34 sz34) <| ROs.cons (RO.tmp (At.self (by decide)) (Kv rfl (by first | (rw [rep_same hq8]; done) | (rw [rep_agree hq8 hag]; first | done | rfl) | (rw [rep_near hq8 hag hnr]; first | done | rfl) | (rw [rep_none hq8 hag hnr]; done))) rfl) <| ROs.nil) (by decide) OutsOK.nil
 ·
  obtain ⟨hc1, hc1'⟩ := pF hc1
  have hq8 : (valS f m).2 = 8 := by omega
  refine AW.skip ?_
  refine AX.go ?_
  refine AW.seq ?_
  refine sr ?_
  refine st (mvT rfl) rfl ?_
  refine st (mvT rfl) rfl ?_
  refine s2 (OpT.c2 (ms := [.flat, .flat]) (c_spec_l04Agreed _ _ hok hx) (H rfl) (Af (T1 rfl) rfl rfl <| Af (T1 rfl) rfl rfl <| An) rfl rfl rfl) rfl ?_
  refine st (OpT.alias (H rfl) (by decide) (by decide)) rfl ?_
  refine st (OpT.extractV (m := 10025) (H rfl) rfl rfl rfl rfl rfl rfl rfl) rfl ?_
  refine st (OpT.extractV (m := 20025) (H rfl) rfl rfl rfl rfl rfl rfl rfl) rfl ?_
  refine st (asT rfl) rfl ?_
  refine st (asT rfl) rfl ?_
  refine ng ?_
  refine sr ?_
  refine st (mvT rfl) rfl ?_
  refine ng ?_
  refine cd rfl (fun hc2 => ?_) fun hc2 => ?_
  ·
   obtain ⟨hc2, hc2'⟩ := pT hc2
   have hya := agr_yes (x := x) hok hc2
   have hag := hya.1
   refine sr ?_
   refine st (mvT rfl) rfl ?_
   refine st (OpT.loadA (H rfl) (T1 rfl) ag34 sz34) rfl ?_
   refine st (mvT rfl) rfl ?_
   refine st (OpT.c1 (ms := [.flat, .flat, .flat]) (c_spec_l04Put _ _ _ hok hya.2) (H rfl) (Af (T1 rfl) rfl rfl <| Af (T1 rfl) rfl rfl <| Af (T1 rfl) rfl rfl <| An) rfl rfl) rfl ?_
   refine sk (OpT.storeBA rfl rfl (Opd.whole (Root.self (t := 6) (by decide)) rfl) rfl sz34 (by decide) (T1 rfl)) rfl ?_
   refine st (asI rfl) rfl ?_
   refine AWl.to (kc 7 rfl <| kb 6 rfl <| kc2 4 0 rfl <| Kn) ?_
   refine ng ?_
   refine AW.ret ?_
   refine rT ?_
   exact AX.rt (rs := [.cell 6 34, .tmp 7]) (ts := [none, some 7]) (.inl rfl) rfl (ROs.cons (RO.cellA (by decide) (Kb rfl (by first | (rw [rep_same hq8]; done) | (rw [rep_agree hq8 hag]; first | done | rfl) | (rw [rep_near hq8 hag hnr]; first | done | rfl) | (rw [rep_none hq8 hag hnr]; done))) ag34 sz34) <| ROs.cons (RO.tmp (At.self (by decide)) (Kv rfl (by first | (rw [rep_same hq8]; done) | (rw [rep_agree hq8 hag]; first | done | rfl) | (rw [rep_near hq8 hag hnr]; first | done | rfl) | (rw [rep_none hq8 hag hnr]; done))) rfl) <| ROs.nil) (by decide) OutsOK.nil
  ·
   obtain ⟨hc2, hc2'⟩ := pF hc2
   have hag := agr_none (f := f) (x := x) hc2
   refine AW.skip ?_
   refine AX.pr (kc 7 rfl <| kb 6 rfl <| kc2 4 0 rfl <| Kn) ?_
   refine AX.go ?_
   refine AW.seq ?_
   refine sr ?_
   refine st (mvT rfl) rfl ?_
   refine st (OpT.loadA (H rfl) (T1 rfl) ag34 sz34) rfl ?_
   refine st (OpT.c1 (ms := [.flat, .flat, .flat]) (c_spec_l04Near _ _ _ hok) (H rfl) (Af (T1 rfl) rfl rfl <| Af (T1 rfl) rfl rfl <| Af (I rfl) rfl rfl <| An) rfl rfl) rfl ?_
   refine st (asT rfl) rfl ?_
   refine ng ?_
   refine sr ?_
   refine st (mvT rfl) rfl ?_
   refine st (OpT.len (H rfl) (T1 rfl) el43) rfl ?_
   refine st (OpT.eql (H rfl) (T1 rfl) (I rfl)) rfl ?_
   refine AWl.to (kc3 38 12 7 rfl <| kb 6 rfl <| kc2 4 0 rfl <| Kn) ?_
   refine ng ?_
   refine cd rfl (fun hc3 => ?_) fun hc3 => ?_
   ·
    obtain ⟨hc3, hc3'⟩ := pT hc3
    have hnr : (nearF f m 1).length = 1 := by omega
    have hng := nearF_get (f := f) (m := m) (far := 1) (top_in hok).1 hnr
    refine AW.seq ?_
    refine dh fomo ?_
    refine d1 [0] (fun ve h => OpT.move (A := .cel _ _) (.inl rfl) rfl (ok' rfl) (D1 h rfl) rfl) rfl ?_
    refine d1 [4] (fun ve h => OpT.loadA (H rfl) (D1 h rfl) ag34 sz34) rfl ?_
    refine d1 [12] (fun ve h => OpT.move (A := .cel _ _) (.inl rfl) rfl (ok' rfl) (D1 h rfl) rfl) rfl ?_
    refine d1 [41] (fun ve h => OpT.indexAddr (H rfl) (D1 h rfl) (I rfl) el43 sz2 (by omega) hng.1) rfl ?_
    refine d1 [42] (fun ve h => OpT.load (H rfl) (D1 h rfl) ag2 rfl) rfl ?_
    refine d1 [39, 40, 43] (fun ve h => OpT.c1 (ms := [.flat, .flat, .flat]) (c_spec_l04Put _ _ _ hok hng.2) (H rfl) (Af (D1 h rfl) rfl rfl <| Af (D1 h rfl) rfl rfl <| Af (D1 h rfl) rfl rfl <| An) rfl rfl) rfl ?_
    refine dm (t := 6) [6, 44] (fun ve h => OpT.storeBA rfl rfl (Opd.whole (Root.self (t := 6) (by decide)) ((h _ (List.elem_iff.1 rfl)).trans rfl)) ((h _ (List.elem_iff.1 rfl)).trans rfl) sz34 (by decide) (D1 h rfl)) rfl ?_
    refine d1 [] (fun ve h => asI rfl) rfl ?_
    refine dn ⟨by kernel_rfl, by kernel_rfl, ?_⟩
    refine AX.pr (kc 7 rfl <| kb 6 rfl <| kc 4 rfl <| Kn) ?_
    refine AX.go ?_
    refine AW.ret ?_
    refine rT ?_
    exact AX.rt (rs := [.cell 6 34, .tmp 7]) (ts := [none, some 7]) (.inl rfl) rfl (ROs.cons (RO.cellA (by decide) (Kb rfl (by first | (rw [rep_same hq8]; done) | (rw [rep_agree hq8 hag]; first | done | rfl) | (rw [rep_near hq8 hag hnr]; first | done | rfl) | (rw [rep_none hq8 hag hnr]; done))) ag34 sz34) <| ROs.cons (RO.tmp (At.self (by decide)) (Kv rfl (by first | (rw [rep_same hq8]; done) | (rw [rep_agree hq8 hag]; first | done | rfl) | (rw [rep_near hq8 hag hnr]; first | done | rfl) | (rw [rep_none hq8 hag hnr]; done))) rfl) <| ROs.nil) (by decide) OutsOK.nil
   ·
    obtain ⟨hc3, hc3'⟩ := pF hc3
    have hnr : ¬ (nearF f m 1).length = 1 := by omega
    refine AW.skip ?_
    refine AX.go ?_
    refine sr ?_
    refine st (OpT.loadA (H rfl) (T1 rfl) ag34 sz34) rfl ?_
    refine sk (OpT.storeBA rfl rfl (Opd.whole (Root.self (t := 6) (by decide)) rfl) rfl sz34 (by decide) (T1 rfl)) rfl ?_
    refine st (asI rfl) rfl ?_
    refine ng ?_
    refine AW.ret ?_
    exact AX.rt (rs := [.cell 6 34, .tmp 7]) (ts := [none, some 7]) (.inl rfl) rfl (ROs.cons (RO.cellA (by decide) (Kb rfl (by first | (rw [rep_same hq8]; done) | (rw [rep_agree hq8 hag]; first | done | rfl) | (rw [rep_near hq8 hag hnr]; first | done | rfl) | (rw [rep_none hq8 hag hnr]; done))) ag34 sz34) <| ROs.cons (RO.tmp (At.self (by decide)) (Kv rfl (by first | (rw [rep_same hq8]; done) | (rw [rep_agree hq8 hag]; first | done | rfl) | (rw [rep_near hq8 hag hnr]; first | done | rfl) | (rw [rep_none hq8 hag hnr]; done))) rfl) <| ROs.nil) (by decide) OutsOK.nil

set_option maxHeartbeats 4000000 in
/-- impl.Field).repaired -/
theorem c_impl_Field_repaired (f : DField) (m : DMask) (x : List DMask) (hok : fieldOK f) (hx : x.length ≤ 1000) : AC Tryz.prog 59 [.agg kField f, .agg kMask m, .cel (Kd.slice kMask) x] [.agg kMask (repS f m x).1, .cel (Kd.int .i64) (repS f m x).2] [] := by
 refine acI (N := 99) Tryz.func59 (Nat.le_of_ble_eq_true rfl) rfl fun w0 hd s0 ar => ?_
 refine AW.to (ka 0 rfl <| ka 1 rfl <| kc 2 rfl <| Kn) ?_
 refine AW.fact (fun a w hr => (ok_slice (R_ok (t := 2) rfl hr)).2) (fun hl2 => ?_)
 refine sr ?_
 refine st (OpT.frz (OpT.boxA (E := 52) (H rfl) (T1 rfl))) rfl ?_
 refine st (OpT.frz (OpT.boxA (E := 34) (H rfl) (T1 rfl))) rfl ?_
 refine st (OpT.alloc (H rfl) zr34 zk34) rfl ?_
 refine st (asI rfl) rfl ?_
 refine ng ?_
 refine AW.seq ?_
 refine sr ?_
 refine st (OpT.loadA (H rfl) (T1 rfl) ag52 sz52) rfl ?_
 refine st (OpT.loadA (H rfl) (T1 rfl) ag34 sz34) rfl ?_
 refine s2 (OpT.c2 (ms := [.flat, .flat]) (c_impl_Field_decode _ _ hok) (H rfl) (Af (T1 rfl) rfl rfl <| Af (T1 rfl) rfl rfl <| An) rfl rfl rfl) rfl ?_
 refine st (OpT.alias (H rfl) (by decide) (by decide)) rfl ?_
 refine st (OpT.extractV (m := 10024) (H rfl) rfl rfl rfl rfl rfl rfl rfl) rfl ?_
 refine st (OpT.extractV (m := 20024) (H rfl) rfl rfl rfl rfl rfl rfl rfl) rfl ?_
 refine st (asT rfl) rfl ?_
 refine st (asT rfl) rfl ?_
 refine ng ?_
 refine sr ?_
 refine st (mvT rfl) rfl ?_
 refine st (OpT.neq (H rfl) (T1 rfl) (I rfl)) rfl ?_
 refine AWl.to (kc2 28 7 rfl <| kb 6 rfl <| kc3 4 3 2 rfl <| Kn) ?_
 refine ng ?_
 refine cd rfl (fun hc1 => ?_) fun hc1 => ?_
 ·
  obtain ⟨hc1, hc1'⟩ := pT hc1
  have hq8 : ¬ (valS f m).2 = 8 := by omega
  refine sr ?_
  refine st (OpT.loadA (H rfl) (T1 rfl) ag34 sz34) rfl ?_
  refine sk (OpT.storeBA rfl rfl (Opd.whole (Root.self (t := 6) (by decide)) rfl) rfl sz34 (by decide) (T1 rfl)) rfl ?_
  refine st (asI rfl) rfl ?_
  refine ng ?_
  refine AW.ret ?_
  refine rT ?_
  exact AX.rt (rs := [.cell 6 34, .tmp 7]) (ts := [none, some 7]) (.inl rfl) rfl (ROs.cons (RO.cellA (by decide) (Kb rfl (by first | (rw [rep_same hq8]; done) | (rw [rep_agree hq8 hag]; first | done | rfl) | (rw [rep_near hq8 hag hnr]; first | done | rfl) | (rw [rep_none hq8 hag hnr]; done))) ag34 sz34) <| ROs.cons (RO.tmp (At.self (by decide)) (Kv rfl (by first | (rw [rep_same hq8]; done) | (rw [rep_agree hq8 hag]; first | done | rfl) | (rw [rep_near hq8 hag hnr]; first | done | rfl) | (rw [rep_none hq8 hag hnr]; done))) rfl) <| ROs.nil) (by decide) OutsOK.nil
 ·
  obtain ⟨hc1, hc1'⟩ := pF hc1
  have hq8 : (valS f m).2 = 8 := by omega
  refine AW.skip ?_
  refine AX.go ?_
  refine sr ?_
  refine st (OpT.buildSlice0 (m := 0) (z := .bool false) (Kd.int .i64) (H rfl) el43 sz2 (by decide)) rfl ?_
  refine sg (OpT.take (.inl rfl) rfl (ok' rfl) (Root.self (by decide)) rfl rfl (by decide)) (ko 10 rfl <| kc2 28 7 rfl <| kb 6 rfl <| kc3 4 3 2 rfl <| Kn) rfl ?_
  refine ng ?_
  refine AW.seq ?_
  refine sr ?_
  refine st (mvT rfl) rfl ?_
  refine st (OpT.len (H rfl) (T1 rfl) el55) rfl ?_
  refine st (mvI rfl) rfl ?_
  refine ng ?_
  refine AW.block ?_
  refine AW.loop (fun z : Nat => z ≤ x.length) (fun z : Nat => keep [(3, .cel (Kd.ptr kField) f), (4, .cel (Kd.ptr kMask) m), (6, .box 34 kMask (0#64, 0#64)), (10, .own 2 (Kd.int .i64) (valsC f (x.take z))), (31, .cel (Kd.slice kMask) x), (32, .cel (Kd.int .i64) (x.length : Int)), (33, .cel (Kd.int .i64) (z : Int))]) (fun z : Nat => x.length - z) (0) (Nat.zero_le _) (Kc 3 _ (Kv rfl rfl) <| Kc 4 _ (Kv rfl rfl) <| Kc 6 _ (Kb rfl rfl) <| Kc 10 _ (Ko rfl rfl) <| Kc 31 _ (Kv rfl rfl) <| Kc 32 _ (Kv rfl rfl) <| Kc 33 _ (Kv rfl rfl) <| Kn) ?_
  intro z hI
  refine sr ?_
  refine st (OpT.lss (H rfl) (T1 rfl) (T1 rfl)) rfl ?_
  refine ng ?_
  refine AW.seq ?_
  refine cd rfl (fun hc2 => ?_) fun hc2 => ?_
  ·
   obtain ⟨hc2, hc2'⟩ := pT hc2
   obtain ⟨a, ha⟩ := getI (x := x) (z := z) (by omega)
   refine AW.skip ?_
   refine AX.go ?_
   refine AW.seq ?_
   refine AW.block ?_
   refine sr ?_
   refine st (OpT.indexAddr (H rfl) (T1 rfl) (T1 rfl) el55 sz34 (by omega) (by assumption)) rfl ?_
   refine st (OpT.loadA (H rfl) (T1 rfl) ag34 sz34) rfl ?_
   refine st (OpT.alloc (H rfl) zr34 zk34) rfl ?_
   refine sk (OpT.storeBA rfl rfl (Opd.whole (Root.self (t := 12) (by decide)) rfl) rfl sz34 (by decide) (T1 rfl)) rfl ?_
   refine ng ?_
   refine sr ?_
   refine st (OpT.loadA (H rfl) (T1 rfl) ag52 sz52) rfl ?_
   refine st (OpT.loadB (H rfl) (Root.self (t := 12) (by decide)) rfl ag34 sz34) rfl ?_
   refine s2 (OpT.c2 (ms := [.flat, .flat]) (c_impl_Field_decode _ _ hok) (H rfl) (Af (T1 rfl) rfl rfl <| Af (T1 rfl) rfl rfl <| An) rfl rfl rfl) rfl ?_
   refine st (OpT.alias (H rfl) (by decide) (by decide)) rfl ?_
   refine st (OpT.extractV (m := 10040) (H rfl) rfl rfl rfl rfl rfl rfl rfl) rfl ?_
   refine st (OpT.extractV (m := 20040) (H rfl) rfl rfl rfl rfl rfl rfl rfl) rfl ?_
   refine st (asT rfl) rfl ?_
   refine st (asT rfl) rfl ?_
   refine ng ?_
   refine sr ?_
   refine st (mvT rfl) rfl ?_
   refine st (OpT.eql (H rfl) (T1 rfl) (I rfl)) rfl ?_
   refine ng ?_
   refine cd rfl (fun hc3 => ?_) fun hc3 => ?_
   ·
    obtain ⟨hc3, hc3'⟩ := pT hc3
    have hvz : (valS f a).2 = 0 := by omega
    refine AW.region ?_
    refine st (OpT.alias (H rfl) (by decide) (by decide)) rfl ?_
    refine st (mvT rfl) rfl ?_
    refine st (OpT.buildSlice (H rfl) el43 zr2 sz2 rfl (by decide) zk2 (by decide) (Built.cel (T1 rfl) rfl rfl (sub_arr (by decide) (0 : Int)) (Built.nil _))) rfl ?_
    refine sg (OpT.append (H rfl) (Root.ali rfl (by decide) (by decide)) rfl (Src.own (Root.self (t := 47) (by decide)) rfl) (by decide) el43 zr2 rfl sz2 by2 (by decide) (by have h70 := valsC_len (f := f) (x := x.take z); rw [List.length_take] at h70; simp only [List.length_set, List.length_replicate]; omega)) (ko 48 rfl <| ko 47 rfl <| kc4 46 44 43 14 rfl <| kc3 13 42 41 rfl <| Kc 37 (.ali _) rfl <| kc2 10040 20040 rfl <| ka 39 rfl <| ka 38 rfl <| kb 12 rfl <| ka 36 rfl <| kc4 35 34 3 4 rfl <| kb 6 rfl <| kc3 31 32 33 rfl <| Kn) rfl ?_
    refine sg (OpT.take (.inl rfl) rfl (ok' rfl) (Root.self (by decide)) rfl rfl (by decide)) (ko 10 rfl <| ko 47 rfl <| kc4 46 44 43 14 rfl <| kc3 13 42 41 rfl <| Kc 37 (.ali _) rfl <| kc2 10040 20040 rfl <| ka 39 rfl <| ka 38 rfl <| kb 12 rfl <| ka 36 rfl <| kc4 35 34 3 4 rfl <| kb 6 rfl <| kc3 31 32 33 rfl <| Kn) rfl ?_
    refine nn ?_
    refine AX.normal_block ?_
    refine AX.go ?_
    refine AW.region ?_
    refine st (OpT.add (H rfl) (T1 rfl) (I rfl) (nw (by omega))) rfl ?_
    refine st (mvT rfl) rfl ?_
    refine nn ?_
    exact AX.again (z + 1) (by omega) (by omega) (Kc 3 _ (Kv rfl rfl) <| Kc 4 _ (Kv rfl rfl) <| Kc 6 _ (Kb rfl rfl) <| Kc 10 _ (Ko rfl (by first | exact valsC_yes ha hvz | exact valsC_no ha hvz)) <| Kc 31 _ (Kv rfl rfl) <| Kc 32 _ (Kv rfl rfl) <| Kc 33 _ (Kv rfl (by omega)) <| Kn)
   ·
    obtain ⟨hc3, hc3'⟩ := pF hc3
    have hvz : ¬ (valS f a).2 = 0 := by omega
    refine AW.skip ?_
    refine AX.normal_block ?_
    refine AX.go ?_
    refine AW.region ?_
    refine st (OpT.add (H rfl) (T1 rfl) (I rfl) (nw (by omega))) rfl ?_
    refine st (mvT rfl) rfl ?_
    refine nn ?_
    exact AX.again (z + 1) (by omega) (by omega) (Kc 3 _ (Kv rfl rfl) <| Kc 4 _ (Kv rfl rfl) <| Kc 6 _ (Kb rfl rfl) <| Kc 10 _ (Ko rfl (by first | exact valsC_yes ha hvz | exact valsC_no ha hvz)) <| Kc 31 _ (Kv rfl rfl) <| Kc 32 _ (Kv rfl rfl) <| Kc 33 _ (Kv rfl (by omega)) <| Kn)
  ·
   obtain ⟨hc2, hc2'⟩ := pF hc2
   refine AW.exit ?_
   refine xT <| xT <| AX.exit_hit ?_
   refine AX.go ?_
   refine AW.seq ?_
   refine sr ?_
   refine st (OpT.alias (H rfl) (by decide) (by decide)) rfl ?_
   refine st (OpT.lenO (H rfl) (Root.ali rfl (by decide) (by decide)) rfl el43) rfl ?_
   refine st (mvI rfl) rfl ?_
   refine ng ?_
   refine AW.block ?_
   refine AW.loop (fun y : Nat => y ≤ (valsC f x).length ∧ ∀ i, i < y → nI (majB (valsC f x)) (valsC f x) i) (fun y : Nat => keep [(3, .cel (Kd.ptr kField) f), (4, .cel (Kd.ptr kMask) m), (6, .box 34 kMask (0#64, 0#64)), (10, .own 2 (Kd.int .i64) (valsC f x)), (50, .ali 10), (51, .cel (Kd.int .i64) ((valsC f x).length : Int)), (52, .cel (Kd.int .i64) (y : Int))]) (fun y : Nat => (valsC f x).length - y) (0) ⟨Nat.zero_le _, all_none⟩ (Kc 3 _ (Kv rfl rfl) <| Kc 4 _ (Kv rfl rfl) <| Kc 6 _ (Kb rfl rfl) <| Kc 10 _ (Ko rfl (by rw [List.take_of_length_le (by omega)])) <| Kc 50 _ (rfl) <| Kc 51 _ (Kv rfl (by rw [List.take_of_length_le (by omega)])) <| Kc 52 _ (Kv rfl rfl) <| Kn) ?_
   intro y hI
   have hvl := valsC_len (f := f) (x := x)
   refine sr ?_
   refine st (OpT.lss (H rfl) (T1 rfl) (T1 rfl)) rfl ?_
   refine ng ?_
   refine AW.seq ?_
   refine cd rfl (fun hc4 => ?_) fun hc4 => ?_
   ·
    obtain ⟨hc4, hc4'⟩ := pT hc4
    obtain ⟨v, hv⟩ := getI (x := (valsC f x)) (z := y) (by omega)
    refine AW.skip ?_
    refine AX.go ?_
    refine AW.seq ?_
    refine AW.block ?_
    refine sr ?_
    refine st (OpT.indexAddrO (H rfl) (Root.ali rfl (by decide) (by decide)) rfl (by decide) (T1 rfl) el43 sz2 (by omega) (by assumption)) rfl ?_
    refine st (OpT.loadP (H rfl) (T1 rfl) (.inr ⟨_, _, rfl, (by assumption)⟩) ag2 rfl) rfl ?_
    refine st (asT rfl) rfl ?_
    refine ng ?_
    refine sr ?_
    refine st (asI rfl) rfl ?_
    refine ng ?_
    refine AW.seq ?_
    refine sr ?_
    refine st (OpT.alias (H rfl) (by decide) (by decide)) rfl ?_
    refine st (OpT.lenO (H rfl) (Root.ali rfl (by decide) (by decide)) rfl el43) rfl ?_
    refine st (mvI rfl) rfl ?_
    refine ng ?_
    refine AW.block ?_
    have hI0 := hI
    refine AW.loop (fun u : Nat => u ≤ (valsC f x).length) (fun u : Nat => keep [(3, .cel (Kd.ptr kField) f), (4, .cel (Kd.ptr kMask) m), (6, .box 34 kMask (0#64, 0#64)), (10, .own 2 (Kd.int .i64) (valsC f x)), (50, .ali 10), (51, .cel (Kd.int .i64) ((valsC f x).length : Int)), (52, .cel (Kd.int .i64) (y : Int)), (56, .ali 10), (57, .cel (Kd.int .i64) ((valsC f x).length : Int)), (58, .cel (Kd.int .i64) (u : Int)), (16, .cel (Kd.int .i64) v), (17, .cel (Kd.int .i64) (cntQ (fun o => o == v) ((valsC f x).take u)))]) (fun u : Nat => (valsC f x).length - u) (0) (Nat.zero_le _) (Kc 3 _ (Kv rfl rfl) <| Kc 4 _ (Kv rfl rfl) <| Kc 6 _ (Kb rfl rfl) <| Kc 10 _ (Ko rfl rfl) <| Kc 50 _ (rfl) <| Kc 51 _ (Kv rfl rfl) <| Kc 52 _ (Kv rfl rfl) <| Kc 56 _ (rfl) <| Kc 57 _ (Kv rfl rfl) <| Kc 58 _ (Kv rfl rfl) <| Kc 16 _ (Kv rfl rfl) <| Kc 17 _ (Kv rfl rfl) <| Kn) ?_
    intro u hI
    have hcq := cntQ_in (fun o => o == v) ((valsC f x).take u)
    rw [List.length_take] at hcq
    refine sr ?_
    refine st (OpT.lss (H rfl) (T1 rfl) (T1 rfl)) rfl ?_
    refine ng ?_
    refine AW.seq ?_
    refine cd rfl (fun hc5 => ?_) fun hc5 => ?_
    ·
     obtain ⟨hc5, hc5'⟩ := pT hc5
     obtain ⟨o, ho⟩ := getI (x := (valsC f x)) (z := u) (by omega)
     refine AW.skip ?_
     refine AX.go ?_
     refine AW.seq ?_
     refine AW.block ?_
     refine sr ?_
     refine st (OpT.indexAddrO (H rfl) (Root.ali rfl (by decide) (by decide)) rfl (by decide) (T1 rfl) el43 sz2 (by omega) (by assumption)) rfl ?_
     refine st (OpT.loadP (H rfl) (T1 rfl) (.inr ⟨_, _, rfl, (by assumption)⟩) ag2 rfl) rfl ?_
     refine st (asT rfl) rfl ?_
     refine ng ?_
     refine sr ?_
     refine st (mvT rfl) rfl ?_
     refine st (mvT rfl) rfl ?_
     refine st (OpT.eql (H rfl) (T1 rfl) (T1 rfl)) rfl ?_
     refine ng ?_
     refine cd rfl (fun hc6 => ?_) fun hc6 => ?_
     ·
      obtain ⟨hc6, hc6'⟩ := pT hc6
      have hov : (o == v) = true := by simpa using hc6
      refine AW.region ?_
      refine st (mvT rfl) rfl ?_
      refine st (OpT.add (H rfl) (T1 rfl) (I rfl) (nw (by omega))) rfl ?_
      refine st (asT rfl) rfl ?_
      refine nn ?_
      refine AX.normal_block ?_
      refine AX.go ?_
      refine AW.region ?_
      refine st (OpT.add (H rfl) (T1 rfl) (I rfl) (nw (by omega))) rfl ?_
      refine st (mvT rfl) rfl ?_
      refine nn ?_
      exact AX.again (u + 1) (by omega) (by omega) (Kc 3 _ (Kv rfl rfl) <| Kc 4 _ (Kv rfl rfl) <| Kc 6 _ (Kb rfl rfl) <| Kc 10 _ (Ko rfl rfl) <| Kc 50 _ (rfl) <| Kc 51 _ (Kv rfl rfl) <| Kc 52 _ (Kv rfl rfl) <| Kc 56 _ (rfl) <| Kc 57 _ (Kv rfl rfl) <| Kc 58 _ (Kv rfl (by omega)) <| Kc 16 _ (Kv rfl rfl) <| Kc 17 _ (Kv rfl (by first | exact cntQ_yes (q := fun o => o == v) ho hov | exact cntQ_no (q := fun o => o == v) ho hov)) <| Kn)
     ·
      obtain ⟨hc6, hc6'⟩ := pF hc6
      have hov : (o == v) = false := by simpa using hc6
      refine AW.skip ?_
      refine AX.normal_block ?_
      refine AX.go ?_
      refine AW.region ?_
      refine st (OpT.add (H rfl) (T1 rfl) (I rfl) (nw (by omega))) rfl ?_
      refine st (mvT rfl) rfl ?_
      refine nn ?_
      exact AX.again (u + 1) (by omega) (by omega) (Kc 3 _ (Kv rfl rfl) <| Kc 4 _ (Kv rfl rfl) <| Kc 6 _ (Kb rfl rfl) <| Kc 10 _ (Ko rfl rfl) <| Kc 50 _ (rfl) <| Kc 51 _ (Kv rfl rfl) <| Kc 52 _ (Kv rfl rfl) <| Kc 56 _ (rfl) <| Kc 57 _ (Kv rfl rfl) <| Kc 58 _ (Kv rfl (by omega)) <| Kc 16 _ (Kv rfl rfl) <| Kc 17 _ (Kv rfl (by first | exact cntQ_yes (q := fun o => o == v) ho hov | exact cntQ_no (q := fun o => o == v) ho hov)) <| Kn)
    ·
     obtain ⟨hc5, hc5'⟩ := pF hc5
     have hmj := maj_iff (l := (valsC f x)) (v := v) (z := u) (by omega) rfl
     refine AW.exit ?_
     refine xT <| xT <| AX.exit_hit ?_
     refine AX.go ?_
     refine sr ?_
     refine st (mvT rfl) rfl ?_
     refine st (OpT.mul (H rfl) (I rfl) (T1 rfl) (nw (by omega))) rfl ?_
     refine st (OpT.alias (H rfl) (by decide) (by decide)) rfl ?_
     refine st (OpT.lenO (H rfl) (Root.ali rfl (by decide) (by decide)) rfl el43) rfl ?_
     refine st (OpT.gtr (H rfl) (T1 rfl) (T1 rfl)) rfl ?_
     refine ng ?_
     refine cd rfl (fun hc7 => ?_) fun hc7 => ?_
     ·
      obtain ⟨hc7, hc7'⟩ := pT hc7
      have hfd := agr_at (f := f) (x := x) hI0.2 hv (by rw [hmj]; exact decide_eq_true (by omega))
      have hva := valsC_mem (x := x) hok (mem_getI hv)
      have hag := hfd.1
      refine AW.seq ?_
      refine dh fomo ?_
      refine d1 [4] (fun ve h => OpT.loadA (H rfl) (D1 h rfl) ag34 sz34) rfl ?_
      refine d1 [3] (fun ve h => OpT.loadA (H rfl) (D1 h rfl) ag52 sz52) rfl ?_
      refine d1 [74] (fun ve h => OpT.c1 (ms := [.flat]) (c_impl_Field_part _ hok) (H rfl) (Af (D1 h rfl) rfl rfl <| An) rfl rfl) rfl ?_
      refine d1 [73, 75] (fun ve h => OpT.c1 (ms := [.flat, .flat]) (c_impl_LessMask _ _) (H rfl) (Af (D1 h rfl) rfl rfl <| Af (D1 h rfl) rfl rfl <| An) rfl rfl) rfl ?_
      refine d1 [3] (fun ve h => OpT.loadA (H rfl) (D1 h rfl) ag52 sz52) rfl ?_
      refine d1 [16] (fun ve h => OpT.move (A := .cel _ _) (.inl rfl) rfl (ok' rfl) (D1 h rfl) rfl) rfl ?_
      refine d1 [77, 78] (fun ve h => OpT.c1 (ms := [.flat, .flat]) (c_encR _ _ hok hva) (H rfl) (Af (D1 h rfl) rfl rfl <| Af (D1 h rfl) rfl rfl <| An) rfl rfl) rfl ?_
      refine d1 [76, 79] (fun ve h => OpT.c1 (ms := [.flat, .flat]) (c_impl_JoinMasks _ _) (H rfl) (Af (D1 h rfl) rfl rfl <| Af (D1 h rfl) rfl rfl <| An) rfl rfl) rfl ?_
      refine dm (t := 6) [6, 80] (fun ve h => OpT.storeBA rfl rfl (Opd.whole (Root.self (t := 6) (by decide)) ((h _ (List.elem_iff.1 rfl)).trans rfl)) ((h _ (List.elem_iff.1 rfl)).trans rfl) sz34 (by decide) (D1 h rfl)) rfl ?_
      refine d1 [] (fun ve h => asI rfl) rfl ?_
      refine dn ⟨by kernel_rfl, by kernel_rfl, ?_⟩
      refine AX.go ?_
      refine AW.ret ?_
      refine rK <| rT <| rT <| rK <| rT ?_
      exact AX.rt (rs := [.cell 6 34, .tmp 7]) (ts := [none, some 7]) (.inl rfl) rfl (ROs.cons (RO.cellA (by decide) (Kb rfl (by first | (rw [rep_same hq8]; done) | (rw [rep_agree hq8 hag]; first | done | rfl) | (rw [rep_near hq8 hag hnr]; first | done | rfl) | (rw [rep_none hq8 hag hnr]; done))) ag34 sz34) <| ROs.cons (RO.tmp (At.self (by decide)) (Kv rfl (by first | (rw [rep_same hq8]; done) | (rw [rep_agree hq8 hag]; first | done | rfl) | (rw [rep_near hq8 hag hnr]; first | done | rfl) | (rw [rep_none hq8 hag hnr]; done))) rfl) <| ROs.nil) (by decide) OutsOK.nil
     ·
      obtain ⟨hc7, hc7'⟩ := pF hc7
      have hnm : majB (valsC f x) v = false := by rw [hmj]; exact decide_eq_false (by omega)
      refine AW.skip ?_
      refine AX.normal_block ?_
      refine AX.go ?_
      refine AW.region ?_
      refine st (OpT.add (H rfl) (T1 rfl) (I rfl) (nw (by omega))) rfl ?_
      refine st (mvT rfl) rfl ?_
      refine nn ?_
      exact AX.again (y + 1) ⟨by omega, all_step hI0.2 ((nI_iff hv).2 hnm)⟩ (by omega) (Kc 3 _ (Kv rfl rfl) <| Kc 4 _ (Kv rfl rfl) <| Kc 6 _ (Kb rfl rfl) <| Kc 10 _ (Ko rfl rfl) <| Kc 50 _ (rfl) <| Kc 51 _ (Kv rfl rfl) <| Kc 52 _ (Kv rfl (by omega)) <| Kn)
   ·
    obtain ⟨hc4, hc4'⟩ := pF hc4
    have hfn := agr_no (f := f) (x := x) hI.2 (by omega)
    have hag := hfn.1
    refine AW.exit ?_
    refine xT <| xT <| AX.exit_hit ?_
    refine AX.go ?_
    refine AW.seq ?_
    refine sr ?_
    refine st (OpT.loadA (H rfl) (T1 rfl) ag52 sz52) rfl ?_
    refine st (OpT.loadA (H rfl) (T1 rfl) ag34 sz34) rfl ?_
    refine st (OpT.c1 (ms := [.flat, .flat, .flat]) (c_impl_Field_near _ _ _ hok) (H rfl) (Af (T1 rfl) rfl rfl <| Af (T1 rfl) rfl rfl <| Af (I rfl) rfl rfl <| An) rfl rfl) rfl ?_
    refine st (asT rfl) rfl ?_
    refine ng ?_
    refine sr ?_
    refine st (mvT rfl) rfl ?_
    refine st (OpT.len (H rfl) (T1 rfl) el43) rfl ?_
    refine st (OpT.eql (H rfl) (T1 rfl) (I rfl)) rfl ?_
    refine AWl.to (kc4 87 20 3 4 rfl <| kb 6 rfl <| Kn) ?_
    refine ng ?_
    refine cd rfl (fun hc8 => ?_) fun hc8 => ?_
    ·
     obtain ⟨hc8, hc8'⟩ := pT hc8
     have hnr : (nearF f m 1).length = 1 := by omega
     have hng := nearF_get (f := f) (m := m) (far := 1) (top_in hok).1 hnr
     refine AW.seq ?_
     refine dh fomo ?_
     refine d1 [4] (fun ve h => OpT.loadA (H rfl) (D1 h rfl) ag34 sz34) rfl ?_
     refine d1 [3] (fun ve h => OpT.loadA (H rfl) (D1 h rfl) ag52 sz52) rfl ?_
     refine d1 [89] (fun ve h => OpT.c1 (ms := [.flat]) (c_impl_Field_part _ hok) (H rfl) (Af (D1 h rfl) rfl rfl <| An) rfl rfl) rfl ?_
     refine d1 [88, 90] (fun ve h => OpT.c1 (ms := [.flat, .flat]) (c_impl_LessMask _ _) (H rfl) (Af (D1 h rfl) rfl rfl <| Af (D1 h rfl) rfl rfl <| An) rfl rfl) rfl ?_
     refine d1 [3] (fun ve h => OpT.loadA (H rfl) (D1 h rfl) ag52 sz52) rfl ?_
     refine d1 [20] (fun ve h => OpT.move (A := .cel _ _) (.inl rfl) rfl (ok' rfl) (D1 h rfl) rfl) rfl ?_
     refine d1 [93] (fun ve h => OpT.indexAddr (H rfl) (D1 h rfl) (I rfl) el43 sz2 (by omega) hng.1) rfl ?_
     refine d1 [94] (fun ve h => OpT.load (H rfl) (D1 h rfl) ag2 rfl) rfl ?_
     refine d1 [92, 95] (fun ve h => OpT.c1 (ms := [.flat, .flat]) (c_encR _ _ hok hng.2) (H rfl) (Af (D1 h rfl) rfl rfl <| Af (D1 h rfl) rfl rfl <| An) rfl rfl) rfl ?_
     refine d1 [91, 96] (fun ve h => OpT.c1 (ms := [.flat, .flat]) (c_impl_JoinMasks _ _) (H rfl) (Af (D1 h rfl) rfl rfl <| Af (D1 h rfl) rfl rfl <| An) rfl rfl) rfl ?_
     refine dm (t := 6) [6, 97] (fun ve h => OpT.storeBA rfl rfl (Opd.whole (Root.self (t := 6) (by decide)) ((h _ (List.elem_iff.1 rfl)).trans rfl)) ((h _ (List.elem_iff.1 rfl)).trans rfl) sz34 (by decide) (D1 h rfl)) rfl ?_
     refine d1 [] (fun ve h => asI rfl) rfl ?_
     refine dn ⟨by kernel_rfl, by kernel_rfl, ?_⟩
     refine AX.pr (kc 7 rfl <| kb 6 rfl <| kc 4 rfl <| Kn) ?_
     refine AX.go ?_
     refine AW.ret ?_
     refine rT ?_
     exact AX.rt (rs := [.cell 6 34, .tmp 7]) (ts := [none, some 7]) (.inl rfl) rfl (ROs.cons (RO.cellA (by decide) (Kb rfl (by first | (rw [rep_same hq8]; done) | (rw [rep_agree hq8 hag]; first | done | rfl) | (rw [rep_near hq8 hag hnr]; first | done | rfl) | (rw [rep_none hq8 hag hnr]; done))) ag34 sz34) <| ROs.cons (RO.tmp (At.self (by decide)) (Kv rfl (by first | (rw [rep_same hq8]; done) | (rw [rep_agree hq8 hag]; first | done | rfl) | (rw [rep_near hq8 hag hnr]; first | done | rfl) | (rw [rep_none hq8 hag hnr]; done))) rfl) <| ROs.nil) (by decide) OutsOK.nil
    ·
     obtain ⟨hc8, hc8'⟩ := pF hc8
     have hnr : ¬ (nearF f m 1).length = 1 := by omega
     refine AW.skip ?_
     refine AX.go ?_
     refine sr ?_
     refine st (OpT.loadA (H rfl) (T1 rfl) ag34 sz34) rfl ?_
     refine sk (OpT.storeBA rfl rfl (Opd.whole (Root.self (t := 6) (by decide)) rfl) rfl sz34 (by decide) (T1 rfl)) rfl ?_
     refine st (asI rfl) rfl ?_
     refine ng ?_
     refine AW.ret ?_
     exact AX.rt (rs := [.cell 6 34, .tmp 7]) (ts := [none, some 7]) (.inl rfl) rfl (ROs.cons (RO.cellA (by decide) (Kb rfl (by first | (rw [rep_same hq8]; done) | (rw [rep_agree hq8 hag]; first | done | rfl) | (rw [rep_near hq8 hag hnr]; first | done | rfl) | (rw [rep_none hq8 hag hnr]; done))) ag34 sz34) <| ROs.cons (RO.tmp (At.self (by decide)) (Kv rfl (by first | (rw [rep_same hq8]; done) | (rw [rep_agree hq8 hag]; first | done | rfl) | (rw [rep_near hq8 hag hnr]; first | done | rfl) | (rw [rep_none hq8 hag hnr]; done))) rfl) <| ROs.nil) (by decide) OutsOK.nil
end Go.Proofs.YtmdiimhighlllaaGreatDoor.VL
