/- Proved here: what some functions of the program take and give: walks with the words of VA..VQ. Printed by program. -/
import Derived.Test.YtlhfmcbmlmhgaaaGreatDoorWT
import Derived.Test.YtlhfmcbmlmhgaaaGreatDoorPZK
import Derived.Test.YtlhfmcbmlmhgaaaGreatDoorWN
import Derived.Test.YtlhfmcbmlmhgaaaGreatDoorWP
import Derived.Test.YtlhfmcbmlmhgaaaGreatDoorWM
import Derived.Test.YtlhfmcbmlmhgaaaGreatDoorWL
set_option linter.unusedVariables false
set_option linter.unusedSimpArgs false
set_option maxRecDepth 4000
namespace Go.Proofs.YtlhfmcbmlmhgaaaGreatDoor.VL
open Go
theorem c_slices_Reverse_int64_int64 (x : List Int) (hx : x.length ≤ 1000) : AC Tryz.prog 94 [.own 2 (Kd.int .i64) x] [] [.own 2 (Kd.int .i64) x.reverse] := by
 refine acI (N := 28) Tryz.func94 (Nat.le_of_ble_eq_true rfl) rfl fun w0 hd s0 ar => ?_
 refine AW.to (ko 0 rfl <| Kn) ?_
 refine sr ?_
 refine st (OpT.alias (H rfl) (by decide) (by decide)) rfl ?_
 refine st (OpT.lenO (H rfl) (Root.ali rfl (by decide) (by decide)) rfl el23) rfl ?_
 refine st (OpT.sub (H rfl) (T1 rfl) (I rfl) (nw (by omega))) rfl ?_
 refine st (asI rfl) rfl ?_
 refine st (asT rfl) rfl ?_
 refine ng ?_
 refine AW.block ?_
 refine AW.loop (fun z : Nat => (z : Int) ≤ x.length ∧ (2 * (z : Int) ≤ x.length + 1)) (fun z : Nat => keep [(0, .own 2 (Kd.int .i64) (revP x z)), (2, .cel (Kd.int .i64) (z : Int)), (3, .cel (Kd.int .i64) ((x.length : Int) - 1 - (z : Int)))]) (fun z : Nat => x.length - z) (0) (by omega) (Kc 0 _ (Ko rfl (revP_zero x)) <| Kc 2 _ (Kv rfl rfl) <| Kc 3 _ (Kv rfl (by omega)) <| Kn) ?_
 intro z hI
 refine AW.seq ?_
 refine sr ?_
 refine st (mvT rfl) rfl ?_
 refine st (mvT rfl) rfl ?_
 refine st (OpT.lss (H rfl) (T1 rfl) (T1 rfl)) rfl ?_
 refine ng ?_
 refine cd rfl (fun hc1 => ?_) fun hc1 => ?_
 ·
  obtain ⟨hc1, hc1'⟩ := pT hc1
  obtain ⟨a, b, ha, hb, ha2, hrv⟩ := revP_at (x := x) (z := z) (by omega)
  refine AW.skip ?_
  refine AX.go ?_
  refine AW.seq ?_
  refine AW.block ?_
  refine dh fomo ?_
  refine d1 [] (fun ve h => OpT.alias (H rfl) (by decide) (by decide)) rfl ?_
  refine d1 [2] (fun ve h => OpT.move (A := .cel _ _) (.inl rfl) rfl (ok' rfl) (D1 h rfl) rfl) rfl ?_
  refine d1 [] (fun ve h => OpT.alias (H rfl) (by decide) (by decide)) rfl ?_
  refine d1 [3] (fun ve h => OpT.move (A := .cel _ _) (.inl rfl) rfl (ok' rfl) (D1 h rfl) rfl) rfl ?_
  refine d1 [] (fun ve h => OpT.alias (H rfl) (by decide) (by decide)) rfl ?_
  refine d1 [3] (fun ve h => OpT.move (A := .cel _ _) (.inl rfl) rfl (ok' rfl) (D1 h rfl) rfl) rfl ?_
  refine d1 [0, 18, 19] (fun ve h => OpT.indexAddrO (H rfl) (Root.ali ((h _ (List.elem_iff.1 rfl)).trans rfl) (by decide) (by decide)) ((h _ (List.elem_iff.1 rfl)).trans rfl) (by decide) (D1 h rfl) el23 sz2 (by omega) ha) rfl ?_
  refine d1 [0, 20] (fun ve h => OpT.loadP (H rfl) (D1 h rfl) (.inr ⟨_, _, ((h _ (List.elem_iff.1 rfl)).trans rfl), (by assumption)⟩) ag2 rfl) rfl ?_
  refine d1 [] (fun ve h => OpT.alias (H rfl) (by decide) (by decide)) rfl ?_
  refine d1 [2] (fun ve h => OpT.move (A := .cel _ _) (.inl rfl) rfl (ok' rfl) (D1 h rfl) rfl) rfl ?_
  refine d1 [0, 22, 23] (fun ve h => OpT.indexAddrO (H rfl) (Root.ali ((h _ (List.elem_iff.1 rfl)).trans rfl) (by decide) (by decide)) ((h _ (List.elem_iff.1 rfl)).trans rfl) (by decide) (D1 h rfl) el23 sz2 (by omega) hb) rfl ?_
  refine d1 [0, 24] (fun ve h => OpT.loadP (H rfl) (D1 h rfl) (.inr ⟨_, _, ((h _ (List.elem_iff.1 rfl)).trans rfl), (by assumption)⟩) ag2 rfl) rfl ?_
  refine d1 [0, 14, 15] (fun ve h => OpT.indexAddrO (H rfl) (Root.ali ((h _ (List.elem_iff.1 rfl)).trans rfl) (by decide) (by decide)) ((h _ (List.elem_iff.1 rfl)).trans rfl) (by decide) (D1 h rfl) el23 sz2 (by omega) hb) rfl ?_
  refine dm (t := 0) [0, 21, 26] (fun ve h => OpT.storeO rfl rfl (D1 h rfl) ((h _ (List.elem_iff.1 rfl)).trans rfl) (by assumption) sz2 rfl (D1 h rfl)) rfl ?_
  refine d1 [0, 16, 17] (fun ve h => OpT.indexAddrO (H rfl) (Root.ali ((h _ (List.elem_iff.1 rfl)).trans rfl) (by decide) (by decide)) ((h _ (List.elem_iff.1 rfl)).trans rfl) (by decide) (D1 h rfl) el23 sz2 (by omega) ha2) rfl ?_
  refine dm (t := 0) [0, 25, 27] (fun ve h => OpT.storeO rfl rfl (D1 h rfl) ((h _ (List.elem_iff.1 rfl)).trans rfl) (by assumption) sz2 rfl (D1 h rfl)) rfl ?_
  refine dn ⟨by kernel_rfl, by kernel_rfl, ?_⟩
  refine AX.normal_block ?_
  refine AX.go ?_
  refine AW.region ?_
  refine st (mvT rfl) rfl ?_
  refine st (OpT.add (H rfl) (T1 rfl) (I rfl) (nw (by omega))) rfl ?_
  refine st (mvT rfl) rfl ?_
  refine st (OpT.sub (H rfl) (T1 rfl) (I rfl) (nw (by omega))) rfl ?_
  refine st (asT rfl) rfl ?_
  refine st (asT rfl) rfl ?_
  refine nn ?_
  exact AX.again (z + 1) (by omega) (by omega) (Kc 0 _ (Ko rfl hrv) <| Kc 2 _ (Kv rfl (by omega)) <| Kc 3 _ (Kv rfl (by omega)) <| Kn)
 ·
  obtain ⟨hc1, hc1'⟩ := pF hc1
  refine AW.exit ?_
  refine xT <| xT <| AX.exit_hit ?_
  exact AX.rt (rs := []) (ts := []) (.inr rfl) rfl (ROs.nil) (by decide) (fun i => match i with | 0 => .inr ⟨rfl, Ko rfl (revP_end (by omega)), rfl, by decide⟩ | _ + 1 => .inl rfl)

theorem c_impl_split_o (x : List DCard) (h : Int) (hh : 0 ≤ h ∧ h < 128) (hx : x.length ≤ 1000) : AC Tryz.prog 93 [.cel (Kd.slice kCard) x, .cel (Kd.int .i64) h] [.own 33 kCard (stayM x h), .own 33 kCard (dropM x h)] [] := by
 refine acI (N := 33) Tryz.func93 (Nat.le_of_ble_eq_true rfl) rfl fun w0 hd s0 ar => ?_
 refine AW.to (kc2 0 1 rfl <| Kn) ?_
 refine sr ?_
 refine st (nilO (E := 33) kCard rfl (.inl rfl)) rfl ?_
 refine st (nilO (E := 33) kCard rfl (.inl rfl)) rfl ?_
 refine ng ?_
 refine sr ?_
 refine st (OpT.buildSlice0 (m := 0) (z := .bool false) kCard (H rfl) el24 sz33 (by decide)) rfl ?_
 refine st (OpT.buildSlice0 (m := 0) (z := .bool false) kCard (H rfl) el24 sz33 (by decide)) rfl ?_
 refine sg (OpT.take (.inl rfl) rfl (ok' rfl) (Root.self (by decide)) rfl rfl (by decide)) (ko 6 rfl <| ko 11 rfl <| ko 5 rfl <| ko 4 rfl <| kc2 0 1 rfl <| Kn) rfl ?_
 refine sg (OpT.take (.inl rfl) rfl (ok' rfl) (Root.self (by decide)) rfl rfl (by decide)) (ko 7 rfl <| ko 6 rfl <| ko 5 rfl <| ko 4 rfl <| kc2 0 1 rfl <| Kn) rfl ?_
 refine ng ?_
 refine AW.seq ?_
 refine sr ?_
 refine st (mvT rfl) rfl ?_
 refine st (OpT.len (H rfl) (T1 rfl) el24) rfl ?_
 refine st (mvI rfl) rfl ?_
 refine ng ?_
 refine AW.block ?_
 refine AW.loop (fun z : Nat => z ≤ x.length) (fun z : Nat => keep [(1, .cel (Kd.int .i64) h), (6, .own 33 kCard (stayM (x.take z) h)), (7, .own 33 kCard (dropM (x.take z) h)), (12, .cel (Kd.slice kCard) x), (13, .cel (Kd.int .i64) (x.length : Int)), (14, .cel (Kd.int .i64) (z : Int))]) (fun z : Nat => x.length - z) (0) (Nat.zero_le _) (Kc 1 _ (Kv rfl rfl) <| Kc 6 _ (Ko rfl rfl) <| Kc 7 _ (Ko rfl rfl) <| Kc 12 _ (Kv rfl rfl) <| Kc 13 _ (Kv rfl rfl) <| Kc 14 _ (Kv rfl rfl) <| Kn) ?_
 intro z hI
 refine sr ?_
 refine st (OpT.lss (H rfl) (T1 rfl) (T1 rfl)) rfl ?_
 refine ng ?_
 refine AW.seq ?_
 refine cd rfl (fun hc1 => ?_) fun hc1 => ?_
 ·
  obtain ⟨hc1, hc1'⟩ := pT hc1
  obtain ⟨a, ha⟩ := getI (x := x) (z := z) (by omega)
  refine AW.skip ?_
  refine AX.go ?_
  refine AW.seq ?_
  refine AW.block ?_
  refine sr ?_
  refine st (OpT.indexAddr (H rfl) (T1 rfl) (T1 rfl) el24 sz33 (by omega) (by assumption)) rfl ?_
  refine st (OpT.loadA (H rfl) (T1 rfl) ag33 sz33) rfl ?_
  refine st (OpT.alloc (H rfl) zr33 zk33) rfl ?_
  refine sk (OpT.storeBA rfl rfl (Opd.whole (Root.self (t := 9) (by decide)) rfl) rfl sz33 (by decide) (T1 rfl)) rfl ?_
  refine ng ?_
  refine sr ?_
  refine st (OpT.fieldAddrB (H rfl) (Root.self (t := 9) (by decide)) rfl (by decide) fd33_1 sz31 (by decide) sb33_1) rfl ?_
  refine st (OpT.loadPA (H rfl) (T1 rfl) (.inl ⟨_, rfl, rfl⟩) ag31 sz31) rfl ?_
  refine st (mvT rfl) rfl ?_
  refine st (OpT.c1 (ms := [.flat, .flat]) (c_impl_Mask_has _ _ (by omega)) (H rfl) (Af (T1 rfl) rfl rfl <| Af (T1 rfl) rfl rfl <| An) rfl rfl) rfl ?_
  refine ng ?_
  refine cd rfl (fun hc2 => ?_) fun hc2 => ?_
  ·
   obtain ⟨hc2, hc2'⟩ := pT hc2
   have hhs : hasM a.2 h = true := by simpa using hc2
   refine AW.region ?_
   refine st (OpT.alias (H rfl) (by decide) (by decide)) rfl ?_
   refine st (OpT.loadB (H rfl) (Root.self (t := 9) (by decide)) rfl ag33 sz33) rfl ?_
   refine st (OpT.buildSlice (H rfl) el24 zr33 sz33 rfl (by decide) zk33 (by decide) (Built.agg (T1 rfl) rfl (by decide) (sub_arr (by decide) ((.empty, (0, 0)) : ByteArray × (BitVec 64 × BitVec 64))) (Built.nil _))) rfl ?_
   refine sg (OpT.append (H rfl) (Root.ali rfl (by decide) (by decide)) rfl (Src.own (Root.self (t := 24) (by decide)) rfl) (by decide) el24 zr33 rfl sz33 by33 (by decide) (by have h70 := stay_len (x.take z) h; have h71 := drop_len (x.take z) h; rw [List.length_take] at h70 h71; simp only [List.length_set, List.length_replicate]; omega)) (ko 25 rfl <| ko 24 rfl <| ka 23 rfl <| kc2 21 20 rfl <| ka 19 rfl <| Kc 18 (.pel _ _ _ _ _ _ _) rfl <| kb 9 rfl <| ka 17 rfl <| kc3 16 15 1 rfl <| ko 6 rfl <| kc3 12 13 14 rfl <| Kn) rfl ?_
   refine sg (OpT.take (.inl rfl) rfl (ok' rfl) (Root.self (by decide)) rfl rfl (by decide)) (ko 7 rfl <| ko 24 rfl <| ka 23 rfl <| kc2 21 20 rfl <| ka 19 rfl <| Kc 18 (.pel _ _ _ _ _ _ _) rfl <| kb 9 rfl <| ka 17 rfl <| kc3 16 15 1 rfl <| ko 6 rfl <| kc3 12 13 14 rfl <| Kn) rfl ?_
   refine nn ?_
   refine AX.normal_block ?_
   refine AX.go ?_
   refine AW.region ?_
   refine st (OpT.add (H rfl) (T1 rfl) (I rfl) (nw (by omega))) rfl ?_
   refine st (mvT rfl) rfl ?_
   refine nn ?_
   exact AX.again (z + 1) (by omega) (by omega) (Kc 1 _ (Kv rfl rfl) <| Kc 6 _ (Ko rfl (by first | exact stay_yes ha hhs | exact stay_no ha hhs)) <| Kc 7 _ (Ko rfl (by first | exact drop_yes ha hhs | exact drop_no ha hhs)) <| Kc 12 _ (Kv rfl rfl) <| Kc 13 _ (Kv rfl rfl) <| Kc 14 _ (Kv rfl (by omega)) <| Kn)
  ·
   obtain ⟨hc2, hc2'⟩ := pF hc2
   have hhs : hasM a.2 h = false := by simpa using hc2
   refine AW.region ?_
   refine st (OpT.alias (H rfl) (by decide) (by decide)) rfl ?_
   refine st (OpT.loadB (H rfl) (Root.self (t := 9) (by decide)) rfl ag33 sz33) rfl ?_
   refine st (OpT.buildSlice (H rfl) el24 zr33 sz33 rfl (by decide) zk33 (by decide) (Built.agg (T1 rfl) rfl (by decide) (sub_arr (by decide) ((.empty, (0, 0)) : ByteArray × (BitVec 64 × BitVec 64))) (Built.nil _))) rfl ?_
   refine sg (OpT.append (H rfl) (Root.ali rfl (by decide) (by decide)) rfl (Src.own (Root.self (t := 28) (by decide)) rfl) (by decide) el24 zr33 rfl sz33 by33 (by decide) (by have h70 := stay_len (x.take z) h; have h71 := drop_len (x.take z) h; rw [List.length_take] at h70 h71; simp only [List.length_set, List.length_replicate]; omega)) (ko 29 rfl <| ko 28 rfl <| ka 27 rfl <| kc2 21 20 rfl <| ka 19 rfl <| Kc 18 (.pel _ _ _ _ _ _ _) rfl <| kb 9 rfl <| ka 17 rfl <| kc3 16 15 1 rfl <| ko 7 rfl <| kc3 12 13 14 rfl <| Kn) rfl ?_
   refine sg (OpT.take (.inl rfl) rfl (ok' rfl) (Root.self (by decide)) rfl rfl (by decide)) (ko 6 rfl <| ko 28 rfl <| ka 27 rfl <| kc2 21 20 rfl <| ka 19 rfl <| Kc 18 (.pel _ _ _ _ _ _ _) rfl <| kb 9 rfl <| ka 17 rfl <| kc3 16 15 1 rfl <| ko 7 rfl <| kc3 12 13 14 rfl <| Kn) rfl ?_
   refine nn ?_
   refine AX.normal_block ?_
   refine AX.go ?_
   refine AW.region ?_
   refine st (OpT.add (H rfl) (T1 rfl) (I rfl) (nw (by omega))) rfl ?_
   refine st (mvT rfl) rfl ?_
   refine nn ?_
   exact AX.again (z + 1) (by omega) (by omega) (Kc 1 _ (Kv rfl rfl) <| Kc 6 _ (Ko rfl (by first | exact stay_yes ha hhs | exact stay_no ha hhs)) <| Kc 7 _ (Ko rfl (by first | exact drop_yes ha hhs | exact drop_no ha hhs)) <| Kc 12 _ (Kv rfl rfl) <| Kc 13 _ (Kv rfl rfl) <| Kc 14 _ (Kv rfl (by omega)) <| Kn)
 ·
  obtain ⟨hc1, hc1'⟩ := pF hc1
  refine AW.exit ?_
  refine xT <| xT <| AX.exit_hit ?_
  refine AX.go ?_
  refine sr ?_
  refine st (OpT.alias (H rfl) (by decide) (by decide)) rfl ?_
  refine st (OpT.alias (H rfl) (by decide) (by decide)) rfl ?_
  refine sg (OpT.take (.inl rfl) rfl (ok' rfl) (Root.ali rfl (by decide) (by decide)) rfl rfl (by decide)) (ko 4 rfl <| Kc 32 (.ali _) rfl <| kc2 15 1 rfl <| ko 7 rfl <| kc3 12 13 14 rfl <| Kn) rfl ?_
  refine sg (OpT.take (.inl rfl) rfl (ok' rfl) (Root.ali rfl (by decide) (by decide)) rfl rfl (by decide)) (ko 5 rfl <| ko 4 rfl <| kc4 15 1 12 13 rfl <| kc 14 rfl <| Kn) rfl ?_
  refine ng ?_
  refine AW.ret ?_
  exact AX.rt (rs := [.tmp 4, .tmp 5]) (ts := [some 4, some 5]) (.inl rfl) rfl (ROs.cons (RO.tmp (At.self (by decide)) (Ko rfl (by rw [List.take_of_length_le (by omega)])) rfl) <| ROs.cons (RO.tmp (At.self (by decide)) (Ko rfl (by rw [List.take_of_length_le (by omega)])) rfl) <| ROs.nil) (by decide) OutsOK.nil
theorem c_spec_l02Split_o (x : List DCard) (h : Int) (hh : 0 ≤ h ∧ h < 128) (hx : x.length ≤ 1000) : AC Tryz.prog 97 [.cel (Kd.slice kCard) x, .cel (Kd.int .i64) h] [.own 33 kCard (stayM x h), .own 33 kCard (dropM x h)] [] := by
 refine acI (N := 40) Tryz.func97 (Nat.le_of_ble_eq_true rfl) rfl fun w0 hd s0 ar => ?_
 refine AW.to (kc2 0 1 rfl <| Kn) ?_
 refine sr ?_
 refine st (nilO (E := 33) kCard rfl (.inl rfl)) rfl ?_
 refine st (nilO (E := 33) kCard rfl (.inl rfl)) rfl ?_
 refine ng ?_
 refine sr ?_
 refine st (OpT.buildSlice0 (m := 0) (z := .bool false) kCard (H rfl) el24 sz33 (by decide)) rfl ?_
 refine sg (OpT.take (.inl rfl) rfl (ok' rfl) (Root.self (by decide)) rfl rfl (by decide)) (ko 6 rfl <| ko 5 rfl <| ko 4 rfl <| kc2 0 1 rfl <| Kn) rfl ?_
 refine ng ?_
 refine sr ?_
 refine st (OpT.buildSlice0 (m := 0) (z := .bool false) kCard (H rfl) el24 sz33 (by decide)) rfl ?_
 refine sg (OpT.take (.inl rfl) rfl (ok' rfl) (Root.self (by decide)) rfl rfl (by decide)) (ko 7 rfl <| ko 6 rfl <| ko 5 rfl <| ko 4 rfl <| kc2 0 1 rfl <| Kn) rfl ?_
 refine ng ?_
 refine AW.seq ?_
 refine sr ?_
 refine st (asI rfl) rfl ?_
 refine ng ?_
 refine AW.block ?_
 refine AW.loop (fun z : Nat => z ≤ x.length) (fun z : Nat => keep [(0, .cel (Kd.slice kCard) x), (1, .cel (Kd.int .i64) h), (6, .own 33 kCard (stayM (x.take z) h)), (7, .own 33 kCard (dropM (x.take z) h)), (8, .cel (Kd.int .i64) (z : Int))]) (fun z : Nat => x.length - z) (0) (Nat.zero_le _) (Kc 0 _ (Kv rfl rfl) <| Kc 1 _ (Kv rfl rfl) <| Kc 6 _ (Ko rfl rfl) <| Kc 7 _ (Ko rfl rfl) <| Kc 8 _ (Kv rfl rfl) <| Kn) ?_
 intro z hI
 refine AW.seq ?_
 refine sr ?_
 refine st (mvT rfl) rfl ?_
 refine st (mvT rfl) rfl ?_
 refine st (OpT.len (H rfl) (T1 rfl) el24) rfl ?_
 refine st (OpT.lss (H rfl) (T1 rfl) (T1 rfl)) rfl ?_
 refine ng ?_
 refine cd rfl (fun hc1 => ?_) fun hc1 => ?_
 ·
  obtain ⟨hc1, hc1'⟩ := pT hc1
  obtain ⟨a, ha⟩ := getI (x := x) (z := z) (by omega)
  refine AW.skip ?_
  refine AX.go ?_
  refine AW.seq ?_
  refine AW.block ?_
  refine sr ?_
  refine st (mvT rfl) rfl ?_
  refine st (mvT rfl) rfl ?_
  refine st (OpT.indexAddr (H rfl) (T1 rfl) (T1 rfl) el24 sz33 (by omega) (by assumption)) rfl ?_
  refine st (OpT.fieldAddr (H rfl) (T1 rfl) fd33_1 sz31 (by decide) sb33_1) rfl ?_
  refine st (OpT.loadA (H rfl) (T1 rfl) ag31 sz31) rfl ?_
  refine st (mvT rfl) rfl ?_
  refine st (OpT.c1 (ms := [.flat, .flat]) (c_spec_l01Has _ _ (by omega)) (H rfl) (Af (T1 rfl) rfl rfl <| Af (T1 rfl) rfl rfl <| An) rfl rfl) rfl ?_
  refine ng ?_
  refine cd rfl (fun hc2 => ?_) fun hc2 => ?_
  ·
   obtain ⟨hc2, hc2'⟩ := pT hc2
   have hhs : hasM a.2 h = true := by simpa using hc2
   refine AW.region ?_
   refine st (OpT.alias (H rfl) (by decide) (by decide)) rfl ?_
   refine st (mvT rfl) rfl ?_
   refine st (mvT rfl) rfl ?_
   refine st (OpT.indexAddr (H rfl) (T1 rfl) (T1 rfl) el24 sz33 (by omega) (by assumption)) rfl ?_
   refine st (OpT.loadA (H rfl) (T1 rfl) ag33 sz33) rfl ?_
   refine st (OpT.buildSlice (H rfl) el24 zr33 sz33 rfl (by decide) zk33 (by decide) (Built.agg (T1 rfl) rfl (by decide) (sub_arr (by decide) ((.empty, (0, 0)) : ByteArray × (BitVec 64 × BitVec 64))) (Built.nil _))) rfl ?_
   refine sg (OpT.append (H rfl) (Root.ali rfl (by decide) (by decide)) rfl (Src.own (Root.self (t := 29) (by decide)) rfl) (by decide) el24 zr33 rfl sz33 by33 (by decide) (by have h70 := stay_len (x.take z) h; have h71 := drop_len (x.take z) h; rw [List.length_take] at h70 h71; simp only [List.length_set, List.length_replicate]; omega)) (ko 30 rfl <| ko 29 rfl <| ka 28 rfl <| kc4 27 26 25 23 rfl <| kc 22 rfl <| ka 21 rfl <| kc4 20 19 18 17 rfl <| kc4 14 13 12 11 rfl <| kc2 0 1 rfl <| ko 6 rfl <| kc 8 rfl <| Kn) rfl ?_
   refine sg (OpT.take (.inl rfl) rfl (ok' rfl) (Root.self (by decide)) rfl rfl (by decide)) (ko 7 rfl <| ko 29 rfl <| ka 28 rfl <| kc4 27 26 25 23 rfl <| kc 22 rfl <| ka 21 rfl <| kc4 20 19 18 17 rfl <| kc4 14 13 12 11 rfl <| kc2 0 1 rfl <| ko 6 rfl <| kc 8 rfl <| Kn) rfl ?_
   refine nn ?_
   refine AX.normal_block ?_
   refine AX.go ?_
   refine AW.region ?_
   refine st (mvT rfl) rfl ?_
   refine st (OpT.add (H rfl) (T1 rfl) (I rfl) (nw (by omega))) rfl ?_
   refine st (asT rfl) rfl ?_
   refine nn ?_
   exact AX.again (z + 1) (by omega) (by omega) (Kc 0 _ (Kv rfl rfl) <| Kc 1 _ (Kv rfl rfl) <| Kc 6 _ (Ko rfl (by first | exact stay_yes ha hhs | exact stay_no ha hhs)) <| Kc 7 _ (Ko rfl (by first | exact drop_yes ha hhs | exact drop_no ha hhs)) <| Kc 8 _ (Kv rfl (by omega)) <| Kn)
  ·
   obtain ⟨hc2, hc2'⟩ := pF hc2
   have hhs : hasM a.2 h = false := by simpa using hc2
   refine AW.region ?_
   refine st (OpT.alias (H rfl) (by decide) (by decide)) rfl ?_
   refine st (mvT rfl) rfl ?_
   refine st (mvT rfl) rfl ?_
   refine st (OpT.indexAddr (H rfl) (T1 rfl) (T1 rfl) el24 sz33 (by omega) (by assumption)) rfl ?_
   refine st (OpT.loadA (H rfl) (T1 rfl) ag33 sz33) rfl ?_
   refine st (OpT.buildSlice (H rfl) el24 zr33 sz33 rfl (by decide) zk33 (by decide) (Built.agg (T1 rfl) rfl (by decide) (sub_arr (by decide) ((.empty, (0, 0)) : ByteArray × (BitVec 64 × BitVec 64))) (Built.nil _))) rfl ?_
   refine sg (OpT.append (H rfl) (Root.ali rfl (by decide) (by decide)) rfl (Src.own (Root.self (t := 36) (by decide)) rfl) (by decide) el24 zr33 rfl sz33 by33 (by decide) (by have h70 := stay_len (x.take z) h; have h71 := drop_len (x.take z) h; rw [List.length_take] at h70 h71; simp only [List.length_set, List.length_replicate]; omega)) (ko 37 rfl <| ko 36 rfl <| ka 35 rfl <| kc4 34 33 32 23 rfl <| kc 22 rfl <| ka 21 rfl <| kc4 20 19 18 17 rfl <| kc4 14 13 12 11 rfl <| kc2 0 1 rfl <| ko 7 rfl <| kc 8 rfl <| Kn) rfl ?_
   refine sg (OpT.take (.inl rfl) rfl (ok' rfl) (Root.self (by decide)) rfl rfl (by decide)) (ko 6 rfl <| ko 36 rfl <| ka 35 rfl <| kc4 34 33 32 23 rfl <| kc 22 rfl <| ka 21 rfl <| kc4 20 19 18 17 rfl <| kc4 14 13 12 11 rfl <| kc2 0 1 rfl <| ko 7 rfl <| kc 8 rfl <| Kn) rfl ?_
   refine nn ?_
   refine AX.normal_block ?_
   refine AX.go ?_
   refine AW.region ?_
   refine st (mvT rfl) rfl ?_
   refine st (OpT.add (H rfl) (T1 rfl) (I rfl) (nw (by omega))) rfl ?_
   refine st (asT rfl) rfl ?_
   refine nn ?_
   exact AX.again (z + 1) (by omega) (by omega) (Kc 0 _ (Kv rfl rfl) <| Kc 1 _ (Kv rfl rfl) <| Kc 6 _ (Ko rfl (by first | exact stay_yes ha hhs | exact stay_no ha hhs)) <| Kc 7 _ (Ko rfl (by first | exact drop_yes ha hhs | exact drop_no ha hhs)) <| Kc 8 _ (Kv rfl (by omega)) <| Kn)
 ·
  obtain ⟨hc1, hc1'⟩ := pF hc1
  refine AW.exit ?_
  refine xT <| xT <| AX.exit_hit ?_
  refine AX.go ?_
  refine sr ?_
  refine st (OpT.alias (H rfl) (by decide) (by decide)) rfl ?_
  refine st (OpT.alias (H rfl) (by decide) (by decide)) rfl ?_
  refine sg (OpT.take (.inl rfl) rfl (ok' rfl) (Root.ali rfl (by decide) (by decide)) rfl rfl (by decide)) (ko 4 rfl <| Kc 39 (.ali _) rfl <| kc4 14 13 12 11 rfl <| kc2 0 1 rfl <| ko 7 rfl <| kc 8 rfl <| Kn) rfl ?_
  refine sg (OpT.take (.inl rfl) rfl (ok' rfl) (Root.ali rfl (by decide) (by decide)) rfl rfl (by decide)) (ko 5 rfl <| ko 4 rfl <| kc4 14 13 12 11 rfl <| kc3 0 1 8 rfl <| Kn) rfl ?_
  refine ng ?_
  refine AW.ret ?_
  exact AX.rt (rs := [.tmp 4, .tmp 5]) (ts := [some 4, some 5]) (.inl rfl) rfl (ROs.cons (RO.tmp (At.self (by decide)) (Ko rfl (by rw [List.take_of_length_le (by omega)])) rfl) <| ROs.cons (RO.tmp (At.self (by decide)) (Ko rfl (by rw [List.take_of_length_le (by omega)])) rfl) <| ROs.nil) (by decide) OutsOK.nil
theorem c_impl_passMany_o (x : List DCard) (l : List Int) (hl : ∀ h ∈ l, 0 ≤ h ∧ h < 96) (hx : x.length ≤ 1000) : AC Tryz.prog 43 [.cel (Kd.slice kCard) x, .cel (Kd.slice (Kd.int .i64)) l] [.own 33 kCard (manyP x l)] [] := by
 refine acI (N := 30) Tryz.func43 (Nat.le_of_ble_eq_true rfl) rfl fun w0 hd s0 ar => ?_
 refine AW.to (kc2 0 1 rfl <| Kn) ?_
 refine AW.fact (fun a w hr => (ok_slice (R_ok (t := 1) rfl hr)).2) (fun hl1 => ?_)
 refine sr ?_
 refine st (nilO (E := 33) kCard rfl (.inl rfl)) rfl ?_
 refine ng ?_
 refine sr ?_
 refine st (OpT.buildSlice0 (m := 0) (z := .bool false) kCard (H rfl) el24 sz33 (by decide)) rfl ?_
 refine st (mvT rfl) rfl ?_
 refine sg (OpT.append (H rfl) (Root.self (t := 10) (by decide)) rfl (Src.shared (T1 rfl)) (by decide) el24 zr33 rfl sz33 by33 (by decide) (by first | (simp only [List.length_set, List.length_replicate, List.length_nil]; omega) | (have h70 := split_len (manyP x (l.take z)) h; omega))) (ko 12 rfl <| kc 11 rfl <| ko 4 rfl <| kc2 0 1 rfl <| Kn) rfl ?_
 refine sg (OpT.take (.inl rfl) rfl (ok' rfl) (Root.self (by decide)) rfl rfl (by decide)) (ko 5 rfl <| kc 11 rfl <| ko 4 rfl <| kc2 0 1 rfl <| Kn) rfl ?_
 refine ng ?_
 refine AW.seq ?_
 refine sr ?_
 refine st (mvT rfl) rfl ?_
 refine st (OpT.len (H rfl) (T1 rfl) el23) rfl ?_
 refine st (mvI rfl) rfl ?_
 refine ng ?_
 refine AW.block ?_
 refine AW.loop (fun z : Nat => z ≤ l.length) (fun z : Nat => keep [(5, .own 33 kCard (manyP x (l.take z))), (13, .cel (Kd.slice (Kd.int .i64)) l), (14, .cel (Kd.int .i64) (l.length : Int)), (15, .cel (Kd.int .i64) (z : Int))]) (fun z : Nat => l.length - z) (0) (Nat.zero_le _) (Kc 5 _ (Ko rfl (by simp [manyP])) <| Kc 13 _ (Kv rfl rfl) <| Kc 14 _ (Kv rfl rfl) <| Kc 15 _ (Kv rfl rfl) <| Kn) ?_
 intro z hI
 refine sr ?_
 refine st (OpT.lss (H rfl) (T1 rfl) (T1 rfl)) rfl ?_
 refine ng ?_
 refine AW.seq ?_
 refine cd rfl (fun hc1 => ?_) fun hc1 => ?_
 ·
  obtain ⟨hc1, hc1'⟩ := pT hc1
  obtain ⟨h, hh⟩ := getI (x := l) (z := z) (by omega)
  have hhr := hl h (mem_getI hh)
  have hml := manyP_len x (l.take z)
  refine AW.skip ?_
  refine AX.go ?_
  refine AW.seq ?_
  refine AW.block ?_
  refine sr ?_
  refine st (OpT.indexAddr (H rfl) (T1 rfl) (T1 rfl) el23 sz2 (by omega) hh) rfl ?_
  refine st (OpT.load (H rfl) (T1 rfl) ag2 rfl) rfl ?_
  refine st (asT rfl) rfl ?_
  refine ng ?_
  refine sr ?_
  refine AWl.freeze (t := 5) rfl ?_
  refine AWl.to (kc4 7 18 17 16 rfl <| kc4 5 13 14 15 rfl <| Kn) ?_
  refine st (mvT rfl) rfl ?_
  refine st (mvT rfl) rfl ?_
  refine s2 (OpT.c2 (ms := [.flat, .flat]) (c_impl_split_o _ _ (by omega) (by omega)) (H rfl) (Af (T1 rfl) rfl rfl <| Af (T1 rfl) rfl rfl <| An) rfl rfl rfl) rfl ?_
  refine st (OpT.alias (H rfl) (by decide) (by decide)) rfl ?_
  refine sg (OpT.extractVO (m := 10022) (H rfl) rfl rfl rfl rfl rfl rfl) (ko 23 rfl <| Kc 19 (.ali _) rfl <| ko 20022 rfl <| kc4 21 20 7 18 rfl <| kc4 17 16 5 13 rfl <| kc2 14 15 rfl <| Kn) rfl ?_
  refine sg (OpT.extractVO (m := 20022) (H rfl) rfl rfl rfl rfl rfl rfl) (ko 24 rfl <| ko 23 rfl <| Kc 19 (.ali _) rfl <| kc4 21 20 7 18 rfl <| kc4 17 16 5 13 rfl <| kc2 14 15 rfl <| Kn) rfl ?_
  refine sg (OpT.take (.inl rfl) rfl (ok' rfl) (Root.self (by decide)) rfl rfl (by decide)) (ko 8 rfl <| ko 24 rfl <| Kc 19 (.ali _) rfl <| kc4 21 20 7 18 rfl <| kc4 17 16 5 13 rfl <| kc2 14 15 rfl <| Kn) rfl ?_
  refine sg (OpT.take (.inl rfl) rfl (ok' rfl) (Root.self (by decide)) rfl rfl (by decide)) (ko 9 rfl <| ko 8 rfl <| Kc 19 (.ali _) rfl <| kc4 21 20 7 18 rfl <| kc4 17 16 5 13 rfl <| kc2 14 15 rfl <| Kn) rfl ?_
  refine ng ?_
  refine AW.region ?_
  refine st (OpT.alias (H rfl) (by decide) (by decide)) rfl ?_
  refine st (OpT.alias (H rfl) (by decide) (by decide)) rfl ?_
  refine sg (OpT.append (H rfl) (Root.ali rfl (by decide) (by decide)) rfl (Src.own (Root.ali rfl (by decide) (by decide)) rfl) (by decide) el24 zr33 rfl sz33 by33 (by decide) (by first | (simp only [List.length_set, List.length_replicate, List.length_nil]; omega) | (have h70 := split_len (manyP x (l.take z)) h; omega))) (ko 27 rfl <| Kc 26 (.ali _) rfl <| ko 9 rfl <| Kc 19 (.ali _) rfl <| kc4 21 20 7 18 rfl <| kc4 17 16 5 13 rfl <| kc2 14 15 rfl <| Kn) rfl ?_
  refine sg (OpT.take (.inl rfl) rfl (ok' rfl) (Root.self (by decide)) rfl rfl (by decide)) (ko 5 rfl <| Kc 26 (.ali _) rfl <| ko 9 rfl <| Kc 19 (.ali _) rfl <| kc4 21 20 7 18 rfl <| kc4 17 16 13 14 rfl <| kc 15 rfl <| Kn) rfl ?_
  refine nn ?_
  refine AX.normal_block ?_
  refine AX.go ?_
  refine AW.region ?_
  refine st (OpT.add (H rfl) (T1 rfl) (I rfl) (nw (by omega))) rfl ?_
  refine st (mvT rfl) rfl ?_
  refine nn ?_
  exact AX.again (z + 1) (by omega) (by omega) (Kc 5 _ (Ko rfl (many_pass hh)) <| Kc 13 _ (Kv rfl rfl) <| Kc 14 _ (Kv rfl rfl) <| Kc 15 _ (Kv rfl (by omega)) <| Kn)
 ·
  obtain ⟨hc1, hc1'⟩ := pF hc1
  refine AW.exit ?_
  refine xT <| xT <| AX.exit_hit ?_
  refine AX.go ?_
  refine sr ?_
  refine st (OpT.alias (H rfl) (by decide) (by decide)) rfl ?_
  refine sg (OpT.take (.inl rfl) rfl (ok' rfl) (Root.ali rfl (by decide) (by decide)) rfl rfl (by decide)) (ko 4 rfl <| kc4 16 13 14 15 rfl <| Kn) rfl ?_
  refine ng ?_
  refine AW.ret ?_
  exact AX.rt (rs := [.tmp 4]) (ts := [some 4]) (.inl rfl) rfl (ROs.cons (RO.tmp (At.self (by decide)) (Ko rfl (by rw [List.take_of_length_le (by omega)])) rfl) <| ROs.nil) (by decide) OutsOK.nil
theorem c_spec_l02Many_o (x : List DCard) (l : List Int) (hl : ∀ h ∈ l, 0 ≤ h ∧ h < 96) (hx : x.length ≤ 1000) : AC Tryz.prog 47 [.cel (Kd.slice kCard) x, .cel (Kd.slice (Kd.int .i64)) l] [.own 33 kCard (manyP x l)] [] := by
 refine acI (N := 31) Tryz.func47 (Nat.le_of_ble_eq_true rfl) rfl fun w0 hd s0 ar => ?_
 refine AW.to (kc2 0 1 rfl <| Kn) ?_
 refine AW.fact (fun a w hr => (ok_slice (R_ok (t := 1) rfl hr)).2) (fun hl1 => ?_)
 refine sr ?_
 refine st (nilO (E := 33) kCard rfl (.inl rfl)) rfl ?_
 refine ng ?_
 refine sr ?_
 refine st (OpT.buildSlice0 (m := 0) (z := .bool false) kCard (H rfl) el24 sz33 (by decide)) rfl ?_
 refine st (mvT rfl) rfl ?_
 refine sg (OpT.append (H rfl) (Root.self (t := 9) (by decide)) rfl (Src.shared (T1 rfl)) (by decide) el24 zr33 rfl sz33 by33 (by decide) (by first | (simp only [List.length_set, List.length_replicate, List.length_nil]; omega) | (have h70 := split_len (manyP x (l.take z)) h; omega))) (ko 11 rfl <| kc 10 rfl <| ko 4 rfl <| kc2 0 1 rfl <| Kn) rfl ?_
 refine sg (OpT.take (.inl rfl) rfl (ok' rfl) (Root.self (by decide)) rfl rfl (by decide)) (ko 5 rfl <| kc 10 rfl <| ko 4 rfl <| kc2 0 1 rfl <| Kn) rfl ?_
 refine ng ?_
 refine AW.seq ?_
 refine sr ?_
 refine st (asI rfl) rfl ?_
 refine ng ?_
 refine AW.block ?_
 refine AW.loop (fun z : Nat => z ≤ l.length) (fun z : Nat => keep [(1, .cel (Kd.slice (Kd.int .i64)) l), (5, .own 33 kCard (manyP x (l.take z))), (6, .cel (Kd.int .i64) (z : Int))]) (fun z : Nat => l.length - z) (0) (Nat.zero_le _) (Kc 1 _ (Kv rfl rfl) <| Kc 5 _ (Ko rfl (by simp [manyP])) <| Kc 6 _ (Kv rfl rfl) <| Kn) ?_
 intro z hI
 refine AW.seq ?_
 refine sr ?_
 refine st (mvT rfl) rfl ?_
 refine st (mvT rfl) rfl ?_
 refine st (OpT.len (H rfl) (T1 rfl) el23) rfl ?_
 refine st (OpT.lss (H rfl) (T1 rfl) (T1 rfl)) rfl ?_
 refine ng ?_
 refine cd rfl (fun hc1 => ?_) fun hc1 => ?_
 ·
  obtain ⟨hc1, hc1'⟩ := pT hc1
  obtain ⟨h, hh⟩ := getI (x := l) (z := z) (by omega)
  have hhr := hl h (mem_getI hh)
  have hml := manyP_len x (l.take z)
  refine AW.skip ?_
  refine AX.go ?_
  refine AW.seq ?_
  refine AW.block ?_
  refine sr ?_
  refine AWl.freeze (t := 5) rfl ?_
  refine AWl.to (kc4 15 14 13 12 rfl <| kc3 1 5 6 rfl <| Kn) ?_
  refine st (mvT rfl) rfl ?_
  refine st (mvT rfl) rfl ?_
  refine st (mvT rfl) rfl ?_
  refine st (OpT.indexAddr (H rfl) (T1 rfl) (T1 rfl) el23 sz2 (by omega) hh) rfl ?_
  refine st (OpT.load (H rfl) (T1 rfl) ag2 rfl) rfl ?_
  refine s2 (OpT.c2 (ms := [.flat, .flat]) (c_spec_l02Split_o _ _ (by omega) (by omega)) (H rfl) (Af (T1 rfl) rfl rfl <| Af (T1 rfl) rfl rfl <| An) rfl rfl rfl) rfl ?_
  refine st (OpT.alias (H rfl) (by decide) (by decide)) rfl ?_
  refine sg (OpT.extractVO (m := 10024) (H rfl) rfl rfl rfl rfl rfl rfl) (ko 25 rfl <| Kc 18 (.ali _) rfl <| ko 20024 rfl <| kc4 23 22 21 20 rfl <| kc4 19 15 14 13 rfl <| kc4 12 1 5 6 rfl <| Kn) rfl ?_
  refine sg (OpT.extractVO (m := 20024) (H rfl) rfl rfl rfl rfl rfl rfl) (ko 26 rfl <| ko 25 rfl <| Kc 18 (.ali _) rfl <| kc4 23 22 21 20 rfl <| kc4 19 15 14 13 rfl <| kc4 12 1 5 6 rfl <| Kn) rfl ?_
  refine sg (OpT.take (.inl rfl) rfl (ok' rfl) (Root.self (by decide)) rfl rfl (by decide)) (ko 7 rfl <| ko 26 rfl <| Kc 18 (.ali _) rfl <| kc4 23 22 21 20 rfl <| kc4 19 15 14 13 rfl <| kc4 12 1 5 6 rfl <| Kn) rfl ?_
  refine sg (OpT.take (.inl rfl) rfl (ok' rfl) (Root.self (by decide)) rfl rfl (by decide)) (ko 8 rfl <| ko 7 rfl <| Kc 18 (.ali _) rfl <| kc4 23 22 21 20 rfl <| kc4 19 15 14 13 rfl <| kc4 12 1 5 6 rfl <| Kn) rfl ?_
  refine ng ?_
  refine AW.region ?_
  refine st (OpT.alias (H rfl) (by decide) (by decide)) rfl ?_
  refine st (OpT.alias (H rfl) (by decide) (by decide)) rfl ?_
  refine sg (OpT.append (H rfl) (Root.ali rfl (by decide) (by decide)) rfl (Src.own (Root.ali rfl (by decide) (by decide)) rfl) (by decide) el24 zr33 rfl sz33 by33 (by decide) (by first | (simp only [List.length_set, List.length_replicate, List.length_nil]; omega) | (have h70 := split_len (manyP x (l.take z)) h; omega))) (ko 29 rfl <| Kc 28 (.ali _) rfl <| ko 8 rfl <| Kc 18 (.ali _) rfl <| kc4 23 22 21 20 rfl <| kc4 19 15 14 13 rfl <| kc4 12 1 5 6 rfl <| Kn) rfl ?_
  refine sg (OpT.take (.inl rfl) rfl (ok' rfl) (Root.self (by decide)) rfl rfl (by decide)) (ko 5 rfl <| Kc 28 (.ali _) rfl <| ko 8 rfl <| Kc 18 (.ali _) rfl <| kc4 23 22 21 20 rfl <| kc4 19 15 14 13 rfl <| kc3 12 1 6 rfl <| Kn) rfl ?_
  refine nn ?_
  refine AX.normal_block ?_
  refine AX.go ?_
  refine AW.region ?_
  refine st (mvT rfl) rfl ?_
  refine st (OpT.add (H rfl) (T1 rfl) (I rfl) (nw (by omega))) rfl ?_
  refine st (asT rfl) rfl ?_
  refine nn ?_
  exact AX.again (z + 1) (by omega) (by omega) (Kc 1 _ (Kv rfl rfl) <| Kc 5 _ (Ko rfl (many_pass hh)) <| Kc 6 _ (Kv rfl (by omega)) <| Kn)
 ·
  obtain ⟨hc1, hc1'⟩ := pF hc1
  refine AW.exit ?_
  refine xT <| xT <| AX.exit_hit ?_
  refine AX.go ?_
  refine sr ?_
  refine st (OpT.alias (H rfl) (by decide) (by decide)) rfl ?_
  refine sg (OpT.take (.inl rfl) rfl (ok' rfl) (Root.ali rfl (by decide) (by decide)) rfl rfl (by decide)) (ko 4 rfl <| kc4 15 14 13 12 rfl <| kc2 1 6 rfl <| Kn) rfl ?_
  refine ng ?_
  refine AW.ret ?_
  exact AX.rt (rs := [.tmp 4]) (ts := [some 4]) (.inl rfl) rfl (ROs.cons (RO.tmp (At.self (by decide)) (Ko rfl (by rw [List.take_of_length_le (by omega)])) rfl) <| ROs.nil) (by decide) OutsOK.nil
set_option maxHeartbeats 4000000 in
theorem c_spec_l02Holes_o (f : DField) (hok : fieldOK f) : AC Tryz.prog 48 [.cel (Kd.ptr kField) f] [.own 2 (Kd.int .i64) (sortH f)] [] := by
 refine acI (N := 50) Tryz.func48 (Nat.le_of_ble_eq_true rfl) rfl fun w0 hd s0 ar => ?_
 refine AW.to (kc 0 rfl <| Kn) ?_
 have hsn := sortN_in hok
 have hfw := field_width hok
 have hlo := hok.2.2.2.2.2
 refine sr ?_
 refine st (nilO (E := 2) (Kd.int .i64) rfl (.inl rfl)) rfl ?_
 refine ng ?_
 refine sr ?_
 refine st (OpT.buildSlice0 (m := 0) (z := .bool false) (Kd.int .i64) (H rfl) el23 sz2 (by decide)) rfl ?_
 refine sg (OpT.take (.inl rfl) rfl (ok' rfl) (Root.self (by decide)) rfl rfl (by decide)) (ko 3 rfl <| ko 2 rfl <| kc 0 rfl <| Kn) rfl ?_
 refine ng ?_
 refine sr ?_
 refine st (mvT rfl) rfl ?_
 refine st (OpT.c1 (ms := [.flat]) (c_spec_l01Width _) (H rfl) (Af (T1 rfl) rfl rfl <| An) rfl rfl) rfl ?_
 refine st (asT rfl) rfl ?_
 refine ng ?_
 refine AW.seq ?_
 refine sr ?_
 refine st (mvT rfl) rfl ?_
 refine st (OpT.nilCheck (H rfl) (T1 rfl)) rfl ?_
 refine st (OpT.fieldAddr (H rfl) (T1 rfl) fd28_1 sz25 (by decide) sb28_1) rfl ?_
 refine st (OpT.load (H rfl) (T1 rfl) ag25 rfl) rfl ?_
 refine st (OpT.eql (H rfl) (T1 rfl) (I rfl)) rfl ?_
 refine ng ?_
 refine cd rfl (fun hc1 => ?_) fun hc1 => ?_
 ·
  obtain ⟨hc1, hc1'⟩ := pT hc1
  refine AW.region ?_
  refine st (mvT rfl) rfl ?_
  refine st (OpT.sub (H rfl) (T1 rfl) (I rfl) (nw (by omega))) rfl ?_
  refine st (asT rfl) rfl ?_
  refine ng ?_
  refine AW.seq ?_
  refine sr ?_
  refine st (asI rfl) rfl ?_
  refine ng ?_
  refine AW.block ?_
  refine AW.loop (fun z : Nat => (z : Int) ≤ sortN f) (fun z : Nat => keep [(0, .cel (Kd.ptr kField) f), (3, .own 2 (Kd.int .i64) (sortL f z)), (4, .cel (Kd.int .i64) (sortN f)), (5, .cel (Kd.int .i64) (z : Int))]) (fun z : Nat => (sortN f).toNat - z) (0) (by omega) (Kc 0 _ (Kv rfl rfl) <| Kc 3 _ (Ko rfl rfl) <| Kc 4 _ (Kv rfl (by first | (rw [sortN, if_pos (by omega)]; done) | (rw [sortN, if_neg (by omega)]; done))) <| Kc 5 _ (Kv rfl rfl) <| Kn) ?_
  intro z hI
  refine AW.seq ?_
  refine sr ?_
  refine st (mvT rfl) rfl ?_
  refine st (mvT rfl) rfl ?_
  refine st (OpT.lss (H rfl) (T1 rfl) (T1 rfl)) rfl ?_
  refine ng ?_
  refine cd rfl (fun hc2 => ?_) fun hc2 => ?_
  ·
   obtain ⟨hc2, hc2'⟩ := pT hc2
   refine AW.skip ?_
   refine AX.go ?_
   refine AW.seq ?_
   refine AW.block ?_
   refine sr ?_
   refine st (mvT rfl) rfl ?_
   refine st (OpT.nilCheck (H rfl) (T1 rfl)) rfl ?_
   refine st (OpT.fieldAddr (H rfl) (T1 rfl) fd28_1 sz25 (by decide) sb28_1) rfl ?_
   refine st (OpT.load (H rfl) (T1 rfl) ag25 rfl) rfl ?_
   refine st (OpT.eql (H rfl) (T1 rfl) (I rfl)) rfl ?_
   refine ng ?_
   refine cd rfl (fun hc3 => ?_) fun hc3 => ?_
   ·
    obtain ⟨hc3, hc3'⟩ := pT hc3
    refine AW.region ?_
    refine st (OpT.alias (H rfl) (by decide) (by decide)) rfl ?_
    refine st (mvT rfl) rfl ?_
    refine st (OpT.nilCheck (H rfl) (T1 rfl)) rfl ?_
    refine st (OpT.fieldAddr (H rfl) (T1 rfl) fd28_2 sz26 (by decide) sb28_2) rfl ?_
    refine st (OpT.load (H rfl) (T1 rfl) ag26 rfl) rfl ?_
    refine st (OpT.conv (H rfl) us26 Tryz.underlying2 (T1 rfl) (nw (by omega))) rfl ?_
    refine st (mvT rfl) rfl ?_
    refine st (OpT.add (H rfl) (T1 rfl) (T1 rfl) (nw (by omega))) rfl ?_
    refine st (OpT.buildSlice (H rfl) el23 zr2 sz2 rfl (by decide) zk2 (by decide) (Built.cel (T1 rfl) rfl rfl (sub_arr (by decide) (0 : Int)) (Built.nil _))) rfl ?_
    refine sg (OpT.append (H rfl) (Root.ali rfl (by decide) (by decide)) rfl (Src.own (Root.self (t := 34) (by decide)) rfl) (by decide) el23 zr2 rfl sz2 by2 (by decide) (by have h70 := sortL_len (f := f) (z := z); simp only [List.length_set, List.length_replicate]; omega)) (ko 35 rfl <| ko 34 rfl <| kc4 33 32 31 30 rfl <| kc4 29 28 27 25 rfl <| kc4 24 23 22 21 rfl <| kc4 18 17 16 0 rfl <| kc2 4 5 rfl <| Kn) rfl ?_
    refine sg (OpT.take (.inl rfl) rfl (ok' rfl) (Root.self (by decide)) rfl rfl (by decide)) (ko 3 rfl <| ko 34 rfl <| kc4 33 32 31 30 rfl <| kc4 29 28 27 25 rfl <| kc4 24 23 22 21 rfl <| kc4 18 17 16 0 rfl <| kc2 4 5 rfl <| Kn) rfl ?_
    refine nn ?_
    refine AX.normal_block ?_
    refine AX.go ?_
    refine AW.region ?_
    refine st (mvT rfl) rfl ?_
    refine st (OpT.add (H rfl) (T1 rfl) (I rfl) (nw (by omega))) rfl ?_
    refine st (asT rfl) rfl ?_
    refine nn ?_
    exact AX.again (z + 1) (by omega) (by omega) (Kc 0 _ (Kv rfl rfl) <| Kc 3 _ (Ko rfl (by first | exact (congrArg (fun v => sortL f z ++ [v]) (sortA_dir (by omega))).trans sortL_next | exact (congrArg (fun v => sortL f z ++ [v]) (sortA_oth (by omega))).trans sortL_next)) <| Kc 4 _ (Kv rfl rfl) <| Kc 5 _ (Kv rfl (by omega)) <| Kn)
   ·
    obtain ⟨hc3, hc3'⟩ := pF hc3
    refine AW.region ?_
    refine st (OpT.alias (H rfl) (by decide) (by decide)) rfl ?_
    refine st (mvT rfl) rfl ?_
    refine st (OpT.nilCheck (H rfl) (T1 rfl)) rfl ?_
    refine st (OpT.fieldAddr (H rfl) (T1 rfl) fd28_2 sz26 (by decide) sb28_2) rfl ?_
    refine st (OpT.load (H rfl) (T1 rfl) ag26 rfl) rfl ?_
    refine st (OpT.conv (H rfl) us26 Tryz.underlying2 (T1 rfl) (nw (by omega))) rfl ?_
    refine st (mvT rfl) rfl ?_
    refine st (OpT.add (H rfl) (T1 rfl) (T1 rfl) (nw (by omega))) rfl ?_
    refine st (OpT.sub (H rfl) (T1 rfl) (I rfl) (nw (by omega))) rfl ?_
    refine st (mvT rfl) rfl ?_
    refine st (OpT.sub (H rfl) (T1 rfl) (T1 rfl) (nw (by omega))) rfl ?_
    refine st (OpT.buildSlice (H rfl) el23 zr2 sz2 rfl (by decide) zk2 (by decide) (Built.cel (T1 rfl) rfl rfl (sub_arr (by decide) (0 : Int)) (Built.nil _))) rfl ?_
    refine sg (OpT.append (H rfl) (Root.ali rfl (by decide) (by decide)) rfl (Src.own (Root.self (t := 47) (by decide)) rfl) (by decide) el23 zr2 rfl sz2 by2 (by decide) (by have h70 := sortL_len (f := f) (z := z); simp only [List.length_set, List.length_replicate]; omega)) (ko 48 rfl <| ko 47 rfl <| kc4 46 45 44 43 rfl <| kc4 42 41 40 39 rfl <| kc4 38 37 25 24 rfl <| kc4 23 22 21 18 rfl <| kc4 17 16 0 4 rfl <| kc 5 rfl <| Kn) rfl ?_
    refine sg (OpT.take (.inl rfl) rfl (ok' rfl) (Root.self (by decide)) rfl rfl (by decide)) (ko 3 rfl <| ko 47 rfl <| kc4 46 45 44 43 rfl <| kc4 42 41 40 39 rfl <| kc4 38 37 25 24 rfl <| kc4 23 22 21 18 rfl <| kc4 17 16 0 4 rfl <| kc 5 rfl <| Kn) rfl ?_
    refine nn ?_
    refine AX.normal_block ?_
    refine AX.go ?_
    refine AW.region ?_
    refine st (mvT rfl) rfl ?_
    refine st (OpT.add (H rfl) (T1 rfl) (I rfl) (nw (by omega))) rfl ?_
    refine st (asT rfl) rfl ?_
    refine nn ?_
    exact AX.again (z + 1) (by omega) (by omega) (Kc 0 _ (Kv rfl rfl) <| Kc 3 _ (Ko rfl (by first | exact (congrArg (fun v => sortL f z ++ [v]) (sortA_dir (by omega))).trans sortL_next | exact (congrArg (fun v => sortL f z ++ [v]) (sortA_oth (by omega))).trans sortL_next)) <| Kc 4 _ (Kv rfl rfl) <| Kc 5 _ (Kv rfl (by omega)) <| Kn)
  ·
   obtain ⟨hc2, hc2'⟩ := pF hc2
   refine AW.exit ?_
   refine xT <| xT <| AX.exit_hit ?_
   refine AX.go ?_
   refine sr ?_
   refine st (OpT.alias (H rfl) (by decide) (by decide)) rfl ?_
   refine sg (OpT.take (.inl rfl) rfl (ok' rfl) (Root.ali rfl (by decide) (by decide)) rfl rfl (by decide)) (ko 2 rfl <| kc4 18 17 16 0 rfl <| kc2 4 5 rfl <| Kn) rfl ?_
   refine ng ?_
   refine AW.ret ?_
   exact AX.rt (rs := [.tmp 2]) (ts := [some 2]) (.inl rfl) rfl (ROs.cons (RO.tmp (At.self (by decide)) (Ko rfl (by rw [sortH, show (sortN f).toNat = z by omega])) rfl) <| ROs.nil) (by decide) OutsOK.nil
 ·
  obtain ⟨hc1, hc1'⟩ := pF hc1
  refine AW.skip ?_
  refine AX.go ?_
  refine AW.seq ?_
  refine sr ?_
  refine st (asI rfl) rfl ?_
  refine ng ?_
  refine AW.block ?_
  refine AW.loop (fun z : Nat => (z : Int) ≤ sortN f) (fun z : Nat => keep [(0, .cel (Kd.ptr kField) f), (3, .own 2 (Kd.int .i64) (sortL f z)), (4, .cel (Kd.int .i64) (sortN f)), (5, .cel (Kd.int .i64) (z : Int))]) (fun z : Nat => (sortN f).toNat - z) (0) (by omega) (Kc 0 _ (Kv rfl rfl) <| Kc 3 _ (Ko rfl rfl) <| Kc 4 _ (Kv rfl (by first | (rw [sortN, if_pos (by omega)]; done) | (rw [sortN, if_neg (by omega)]; done))) <| Kc 5 _ (Kv rfl rfl) <| Kn) ?_
  intro z hI
  refine AW.seq ?_
  refine sr ?_
  refine st (mvT rfl) rfl ?_
  refine st (mvT rfl) rfl ?_
  refine st (OpT.lss (H rfl) (T1 rfl) (T1 rfl)) rfl ?_
  refine ng ?_
  refine cd rfl (fun hc4 => ?_) fun hc4 => ?_
  ·
   obtain ⟨hc4, hc4'⟩ := pT hc4
   refine AW.skip ?_
   refine AX.go ?_
   refine AW.seq ?_
   refine AW.block ?_
   refine sr ?_
   refine st (mvT rfl) rfl ?_
   refine st (OpT.nilCheck (H rfl) (T1 rfl)) rfl ?_
   refine st (OpT.fieldAddr (H rfl) (T1 rfl) fd28_1 sz25 (by decide) sb28_1) rfl ?_
   refine st (OpT.load (H rfl) (T1 rfl) ag25 rfl) rfl ?_
   refine st (OpT.eql (H rfl) (T1 rfl) (I rfl)) rfl ?_
   refine ng ?_
   refine cd rfl (fun hc5 => ?_) fun hc5 => ?_
   ·
    obtain ⟨hc5, hc5'⟩ := pT hc5
    refine AW.region ?_
    refine st (OpT.alias (H rfl) (by decide) (by decide)) rfl ?_
    refine st (mvT rfl) rfl ?_
    refine st (OpT.nilCheck (H rfl) (T1 rfl)) rfl ?_
    refine st (OpT.fieldAddr (H rfl) (T1 rfl) fd28_2 sz26 (by decide) sb28_2) rfl ?_
    refine st (OpT.load (H rfl) (T1 rfl) ag26 rfl) rfl ?_
    refine st (OpT.conv (H rfl) us26 Tryz.underlying2 (T1 rfl) (nw (by omega))) rfl ?_
    refine st (mvT rfl) rfl ?_
    refine st (OpT.add (H rfl) (T1 rfl) (T1 rfl) (nw (by omega))) rfl ?_
    refine st (OpT.buildSlice (H rfl) el23 zr2 sz2 rfl (by decide) zk2 (by decide) (Built.cel (T1 rfl) rfl rfl (sub_arr (by decide) (0 : Int)) (Built.nil _))) rfl ?_
    refine sg (OpT.append (H rfl) (Root.ali rfl (by decide) (by decide)) rfl (Src.own (Root.self (t := 34) (by decide)) rfl) (by decide) el23 zr2 rfl sz2 by2 (by decide) (by have h70 := sortL_len (f := f) (z := z); simp only [List.length_set, List.length_replicate]; omega)) (ko 35 rfl <| ko 34 rfl <| kc4 33 32 31 30 rfl <| kc4 29 28 27 25 rfl <| kc4 24 23 22 21 rfl <| kc4 18 17 16 0 rfl <| kc2 4 5 rfl <| Kn) rfl ?_
    refine sg (OpT.take (.inl rfl) rfl (ok' rfl) (Root.self (by decide)) rfl rfl (by decide)) (ko 3 rfl <| ko 34 rfl <| kc4 33 32 31 30 rfl <| kc4 29 28 27 25 rfl <| kc4 24 23 22 21 rfl <| kc4 18 17 16 0 rfl <| kc2 4 5 rfl <| Kn) rfl ?_
    refine nn ?_
    refine AX.normal_block ?_
    refine AX.go ?_
    refine AW.region ?_
    refine st (mvT rfl) rfl ?_
    refine st (OpT.add (H rfl) (T1 rfl) (I rfl) (nw (by omega))) rfl ?_
    refine st (asT rfl) rfl ?_
    refine nn ?_
    exact AX.again (z + 1) (by omega) (by omega) (Kc 0 _ (Kv rfl rfl) <| Kc 3 _ (Ko rfl (by first | exact (congrArg (fun v => sortL f z ++ [v]) (sortA_dir (by omega))).trans sortL_next | exact (congrArg (fun v => sortL f z ++ [v]) (sortA_oth (by omega))).trans sortL_next)) <| Kc 4 _ (Kv rfl rfl) <| Kc 5 _ (Kv rfl (by omega)) <| Kn)
   ·
    obtain ⟨hc5, hc5'⟩ := pF hc5
    refine AW.region ?_
    refine st (OpT.alias (H rfl) (by decide) (by decide)) rfl ?_
    refine st (mvT rfl) rfl ?_
    refine st (OpT.nilCheck (H rfl) (T1 rfl)) rfl ?_
    refine st (OpT.fieldAddr (H rfl) (T1 rfl) fd28_2 sz26 (by decide) sb28_2) rfl ?_
    refine st (OpT.load (H rfl) (T1 rfl) ag26 rfl) rfl ?_
    refine st (OpT.conv (H rfl) us26 Tryz.underlying2 (T1 rfl) (nw (by omega))) rfl ?_
    refine st (mvT rfl) rfl ?_
    refine st (OpT.add (H rfl) (T1 rfl) (T1 rfl) (nw (by omega))) rfl ?_
    refine st (OpT.sub (H rfl) (T1 rfl) (I rfl) (nw (by omega))) rfl ?_
    refine st (mvT rfl) rfl ?_
    refine st (OpT.sub (H rfl) (T1 rfl) (T1 rfl) (nw (by omega))) rfl ?_
    refine st (OpT.buildSlice (H rfl) el23 zr2 sz2 rfl (by decide) zk2 (by decide) (Built.cel (T1 rfl) rfl rfl (sub_arr (by decide) (0 : Int)) (Built.nil _))) rfl ?_
    refine sg (OpT.append (H rfl) (Root.ali rfl (by decide) (by decide)) rfl (Src.own (Root.self (t := 47) (by decide)) rfl) (by decide) el23 zr2 rfl sz2 by2 (by decide) (by have h70 := sortL_len (f := f) (z := z); simp only [List.length_set, List.length_replicate]; omega)) (ko 48 rfl <| ko 47 rfl <| kc4 46 45 44 43 rfl <| kc4 42 41 40 39 rfl <| kc4 38 37 25 24 rfl <| kc4 23 22 21 18 rfl <| kc4 17 16 0 4 rfl <| kc 5 rfl <| Kn) rfl ?_
    refine sg (OpT.take (.inl rfl) rfl (ok' rfl) (Root.self (by decide)) rfl rfl (by decide)) (ko 3 rfl <| ko 47 rfl <| kc4 46 45 44 43 rfl <| kc4 42 41 40 39 rfl <| kc4 38 37 25 24 rfl <| kc4 23 22 21 18 rfl <| kc4 17 16 0 4 rfl <| kc 5 rfl <| Kn) rfl ?_
    refine nn ?_
    refine AX.normal_block ?_
    refine AX.go ?_
    refine AW.region ?_
    refine st (mvT rfl) rfl ?_
    refine st (OpT.add (H rfl) (T1 rfl) (I rfl) (nw (by omega))) rfl ?_
    refine st (asT rfl) rfl ?_
    refine nn ?_
    exact AX.again (z + 1) (by omega) (by omega) (Kc 0 _ (Kv rfl rfl) <| Kc 3 _ (Ko rfl (by first | exact (congrArg (fun v => sortL f z ++ [v]) (sortA_dir (by omega))).trans sortL_next | exact (congrArg (fun v => sortL f z ++ [v]) (sortA_oth (by omega))).trans sortL_next)) <| Kc 4 _ (Kv rfl rfl) <| Kc 5 _ (Kv rfl (by omega)) <| Kn)
  ·
   obtain ⟨hc4, hc4'⟩ := pF hc4
   refine AW.exit ?_
   refine xT <| xT <| AX.exit_hit ?_
   refine AX.go ?_
   refine sr ?_
   refine st (OpT.alias (H rfl) (by decide) (by decide)) rfl ?_
   refine sg (OpT.take (.inl rfl) rfl (ok' rfl) (Root.ali rfl (by decide) (by decide)) rfl rfl (by decide)) (ko 2 rfl <| kc4 18 17 16 0 rfl <| kc2 4 5 rfl <| Kn) rfl ?_
   refine ng ?_
   refine AW.ret ?_
   exact AX.rt (rs := [.tmp 2]) (ts := [some 2]) (.inl rfl) rfl (ROs.cons (RO.tmp (At.self (by decide)) (Ko rfl (by rw [sortH, show (sortN f).toNat = z by omega])) rfl) <| ROs.nil) (by decide) OutsOK.nil
theorem c_spec_l02Holes (f : DField) (hok : fieldOK f) : AC Tryz.prog 48 [.cel (Kd.ptr kField) f] [.cel (Kd.slice (Kd.int .i64)) (sortH f)] [] := (c_spec_l02Holes_o f hok).frz rfl

theorem c_impl_Field_sorting_o (f : DField) (hok : fieldOK f) : AC Tryz.prog 44 [.agg kField f] [.own 2 (Kd.int .i64) (sortH f)] [] := by
 refine acI (N := 22) Tryz.func44 (Nat.le_of_ble_eq_true rfl) rfl fun w0 hd s0 ar => ?_
 refine AW.to (ka 0 rfl <| Kn) ?_
 have hsn := sortN_in hok
 have hfw := field_width hok
 have hlo := hok.2.2.2.2.2
 have hpl := hol_part_len hok
 refine sr ?_
 refine st (OpT.frz (OpT.boxA (E := 28) (H rfl) (T1 rfl))) rfl ?_
 refine st (nilO (E := 2) (Kd.int .i64) rfl (.inl rfl)) rfl ?_
 refine ng ?_
 refine sr ?_
 refine st (OpT.loadA (H rfl) (T1 rfl) ag28 sz28) rfl ?_
 refine st (OpT.c1 (ms := [.flat]) (c_impl_Field_part _ hok) (H rfl) (Af (T1 rfl) rfl rfl <| An) rfl rfl) rfl ?_
 refine st (OpT.c1 (ms := [.flat]) (c_impl_Mask_holes_o _) (H rfl) (Af (T1 rfl) rfl rfl <| An) rfl rfl) rfl ?_
 refine sg (OpT.take (.inl rfl) rfl (ok' rfl) (Root.self (by decide)) rfl rfl (by decide)) (ko 3 rfl <| ka 5 rfl <| ka 4 rfl <| ko 2 rfl <| kc 1 rfl <| ka 0 rfl <| Kn) rfl ?_
 refine ng ?_
 refine AW.seq ?_
 refine sr ?_
 refine st (OpT.fieldAddr (H rfl) (T1 rfl) fd28_1 sz25 (by decide) sb28_1) rfl ?_
 refine st (OpT.load (H rfl) (T1 rfl) ag25 rfl) rfl ?_
 refine ng ?_
 refine AW.block ?_
 refine sr ?_
 refine st (OpT.eql (H rfl) (T1 rfl) (I rfl)) rfl ?_
 refine st (asT rfl) rfl ?_
 refine ng ?_
 refine cd rfl (fun hc1 => ?_) fun hc1 => ?_
 ·
  obtain ⟨hc1, hc1'⟩ := pT hc1
  refine sr ?_
  refine st (OpT.alias (H rfl) (by decide) (by decide)) rfl ?_
  refine sg (OpT.take (.inl rfl) rfl (ok' rfl) (Root.ali rfl (by decide) (by decide)) rfl rfl (by decide)) (ko 2 rfl <| kc4 9 10 8 7 rfl <| ka 5 rfl <| ka 4 rfl <| kc 1 rfl <| ka 0 rfl <| Kn) rfl ?_
  refine ng ?_
  refine AW.ret ?_
  refine rK <| rT ?_
  exact AX.rt (rs := [.tmp 2]) (ts := [some 2]) (.inl rfl) rfl (ROs.cons (RO.tmp (At.self (by decide)) (Ko rfl (by first | exact sort_dir hok (by omega) | exact sort_bin hok (by omega) (by omega) | exact sort_oth hok (by omega) (by omega))) rfl) <| ROs.nil) (by decide) OutsOK.nil
 ·
  obtain ⟨hc1, hc1'⟩ := pF hc1
  refine sr ?_
  refine st (OpT.eql (H rfl) (T1 rfl) (I rfl)) rfl ?_
  refine st (asT rfl) rfl ?_
  refine ng ?_
  refine cd rfl (fun hc2 => ?_) fun hc2 => ?_
  ·
   obtain ⟨hc2, hc2'⟩ := pT hc2
   refine AW.region ?_
   refine st (OpT.alias (H rfl) (by decide) (by decide)) rfl ?_
   refine st (OpT.alias (H rfl) (by decide) (by decide)) rfl ?_
   refine st (OpT.lenO (H rfl) (Root.ali rfl (by decide) (by decide)) rfl el23) rfl ?_
   refine st (OpT.sub (H rfl) (T1 rfl) (I rfl) (nw (by omega))) rfl ?_
   refine st (OpT.vwH (H rfl) (Root.ali rfl (by decide) (by decide)) rfl (T1 rfl) el23 sz2 (by omega) (by decide)) rfl ?_
   refine sg (OpT.takeV (.inl rfl) rfl (ok' rfl) (T1 rfl) rfl (by omega)) (ko 3 rfl <| kc4 17 16 12 13 rfl <| kc4 9 10 8 7 rfl <| ka 5 rfl <| ka 4 rfl <| ko 2 rfl <| kc 1 rfl <| ka 0 rfl <| Kn) rfl ?_
   refine nn ?_
   refine AX.normal_block ?_
   refine AX.pr (ko 3 rfl <| ko 2 rfl <| Kn) ?_
   refine AX.go ?_
   refine sr ?_
   refine st (OpT.alias (H rfl) (by decide) (by decide)) rfl ?_
   refine sg (OpT.cr (ms := [.root 3]) (c_slices_Reverse_int64_int64 _ (by (try rw [List.length_take]); omega)) (H rfl) (Ar (Root.ali rfl (by decide) (by decide)) rfl rfl rfl <| An) rfl (.inl rfl) rfl) (Kc 19 (.ali _) rfl <| ko 3 rfl <| ko 2 rfl <| Kn) rfl ?_
   refine ng ?_
   refine sr ?_
   refine st (OpT.alias (H rfl) (by decide) (by decide)) rfl ?_
   refine sg (OpT.take (.inl rfl) rfl (ok' rfl) (Root.ali rfl (by decide) (by decide)) rfl rfl (by decide)) (ko 2 rfl <| Kn) rfl ?_
   refine ng ?_
   refine AW.ret ?_
   exact AX.rt (rs := [.tmp 2]) (ts := [some 2]) (.inl rfl) rfl (ROs.cons (RO.tmp (At.self (by decide)) (Ko rfl (by first | exact sort_dir hok (by omega) | exact sort_bin hok (by omega) (by omega) | exact sort_oth hok (by omega) (by omega))) rfl) <| ROs.nil) (by decide) OutsOK.nil
  ·
   obtain ⟨hc2, hc2'⟩ := pF hc2
   refine AW.skip ?_
   refine AX.normal_block ?_
   refine AX.go ?_
   refine sr ?_
   refine st (OpT.alias (H rfl) (by decide) (by decide)) rfl ?_
   refine sg (OpT.cr (ms := [.root 3]) (c_slices_Reverse_int64_int64 _ (by (try rw [List.length_take]); omega)) (H rfl) (Ar (Root.ali rfl (by decide) (by decide)) rfl rfl rfl <| An) rfl (.inl rfl) rfl) (Kc 19 (.ali _) rfl <| kc4 12 13 9 10 rfl <| kc2 8 7 rfl <| ko 3 rfl <| ka 5 rfl <| ka 4 rfl <| ko 2 rfl <| kc 1 rfl <| ka 0 rfl <| Kn) rfl ?_
   refine AWl.to (ko 3 rfl <| ko 2 rfl <| Kn) ?_
   refine ng ?_
   refine sr ?_
   refine st (OpT.alias (H rfl) (by decide) (by decide)) rfl ?_
   refine sg (OpT.take (.inl rfl) rfl (ok' rfl) (Root.ali rfl (by decide) (by decide)) rfl rfl (by decide)) (ko 2 rfl <| Kn) rfl ?_
   refine ng ?_
   refine AW.ret ?_
   exact AX.rt (rs := [.tmp 2]) (ts := [some 2]) (.inl rfl) rfl (ROs.cons (RO.tmp (At.self (by decide)) (Ko rfl (by first | exact sort_dir hok (by omega) | exact sort_bin hok (by omega) (by omega) | exact sort_oth hok (by omega) (by omega))) rfl) <| ROs.nil) (by decide) OutsOK.nil
theorem c_impl_Field_sorting (f : DField) (hok : fieldOK f) : AC Tryz.prog 44 [.agg kField f] [.cel (Kd.slice (Kd.int .i64)) (sortH f)] [] := (c_impl_Field_sorting_o f hok).frz rfl

theorem c_impl_Field_key (f : DField) (m : DMask) (hok : fieldOK f) : AC Tryz.prog 55 [.agg kField f, .agg kMask m] [.cel (Kd.int .i64) (keyF f m)] [] := by
 refine acI (N := 25) Tryz.func55 (Nat.le_of_ble_eq_true rfl) rfl fun w0 hd s0 ar => ?_
 refine AW.to (ka 0 rfl <| ka 1 rfl <| Kn) ?_
 have hsn := sortN_in hok
 have hfw := field_width hok
 have hlo := hok.2.2.2.2.2
 have hsl := sortH_len hok
 refine sr ?_
 refine st (OpT.frz (OpT.boxA (E := 28) (H rfl) (T1 rfl))) rfl ?_
 refine st (OpT.frz (OpT.boxA (E := 31) (H rfl) (T1 rfl))) rfl ?_
 refine st (asI rfl) rfl ?_
 refine ng ?_
 refine sr ?_
 refine st (asI rfl) rfl ?_
 refine ng ?_
 refine AW.seq ?_
 refine sr ?_
 refine st (OpT.loadA (H rfl) (T1 rfl) ag28 sz28) rfl ?_
 refine st (OpT.c1 (ms := [.flat]) (c_impl_Field_sorting _ hok) (H rfl) (Af (T1 rfl) rfl rfl <| An) rfl rfl) rfl ?_
 refine st (OpT.len (H rfl) (T1 rfl) el23) rfl ?_
 refine st (mvI rfl) rfl ?_
 refine ng ?_
 refine AW.block ?_
 refine AW.loop (fun z : Nat => z ≤ (sortH f).length) (fun z : Nat => keep [(3, .cel (Kd.ptr kMask) m), (5, .cel (Kd.int .i64) ((keyN m (sortH f) z : Nat) : Int)), (9, .cel (Kd.slice (Kd.int .i64)) (sortH f)), (10, .cel (Kd.int .i64) ((sortH f).length : Int)), (11, .cel (Kd.int .i64) (z : Int))]) (fun z : Nat => (sortH f).length - z) (0) (Nat.zero_le _) (Kc 3 _ (Kv rfl rfl) <| Kc 5 _ (Kv rfl rfl) <| Kc 9 _ (Kv rfl rfl) <| Kc 10 _ (Kv rfl rfl) <| Kc 11 _ (Kv rfl rfl) <| Kn) ?_
 intro z hI
 refine sr ?_
 refine st (OpT.lss (H rfl) (T1 rfl) (T1 rfl)) rfl ?_
 refine ng ?_
 refine AW.seq ?_
 refine cd rfl (fun hc1 => ?_) fun hc1 => ?_
 ·
  obtain ⟨hc1, hc1'⟩ := pT hc1
  have hg := sortH_get hok (z := z) (by omega)
  have hgr := sortA_in hok (z := z) (by omega)
  refine AW.skip ?_
  refine AX.go ?_
  refine AW.seq ?_
  refine AW.block ?_
  refine sr ?_
  refine st (mvT rfl) rfl ?_
  refine st (OpT.indexAddr (H rfl) (T1 rfl) (T1 rfl) el23 sz2 (by omega) hg) rfl ?_
  refine st (OpT.load (H rfl) (T1 rfl) ag2 rfl) rfl ?_
  refine st (asT rfl) rfl ?_
  refine st (asT rfl) rfl ?_
  refine ng ?_
  refine sr ?_
  refine st (OpT.loadA (H rfl) (T1 rfl) ag31 sz31) rfl ?_
  refine st (mvT rfl) rfl ?_
  refine st (OpT.c1 (ms := [.flat, .flat]) (c_impl_Mask_has _ _ (by omega)) (H rfl) (Af (T1 rfl) rfl rfl <| Af (T1 rfl) rfl rfl <| An) rfl rfl) rfl ?_
  refine ng ?_
  refine cd rfl (fun hc2 => ?_) fun hc2 => ?_
  ·
   obtain ⟨hc2, hc2'⟩ := pT hc2
   have hhs : hasM m (sortA f z) = true := by simpa using hc2
   refine AW.region ?_
   refine st (mvT rfl) rfl ?_
   refine st (mvT rfl) rfl ?_
   refine st (OpT.ishl (H rfl) (I rfl) (T1 rfl) (by omega) (shl_key (by omega))) rfl ?_
   refine st (OpT.ior (H rfl) (T1 rfl) (T1 rfl)) rfl ?_
   refine st (asT rfl) rfl ?_
   refine nn ?_
   refine AX.normal_block ?_
   refine AX.go ?_
   refine AW.region ?_
   refine st (OpT.add (H rfl) (T1 rfl) (I rfl) (nw (by omega))) rfl ?_
   refine st (mvT rfl) rfl ?_
   refine nn ?_
   exact AX.again (z + 1) (by omega) (by omega) (Kc 3 _ (Kv rfl rfl) <| Kc 5 _ (Kv rfl (by first | exact key_or hg hhs | (rw [keyN_no hg hhs]))) <| Kc 9 _ (Kv rfl rfl) <| Kc 10 _ (Kv rfl rfl) <| Kc 11 _ (Kv rfl (by omega)) <| Kn)
  ·
   obtain ⟨hc2, hc2'⟩ := pF hc2
   have hhs : hasM m (sortA f z) = false := by simpa using hc2
   refine AW.skip ?_
   refine AX.normal_block ?_
   refine AX.go ?_
   refine AW.region ?_
   refine st (OpT.add (H rfl) (T1 rfl) (I rfl) (nw (by omega))) rfl ?_
   refine st (mvT rfl) rfl ?_
   refine nn ?_
   exact AX.again (z + 1) (by omega) (by omega) (Kc 3 _ (Kv rfl rfl) <| Kc 5 _ (Kv rfl (by first | exact key_or hg hhs | (rw [keyN_no hg hhs]))) <| Kc 9 _ (Kv rfl rfl) <| Kc 10 _ (Kv rfl rfl) <| Kc 11 _ (Kv rfl (by omega)) <| Kn)
 ·
  obtain ⟨hc1, hc1'⟩ := pF hc1
  refine AW.exit ?_
  refine xT <| xT <| AX.exit_hit ?_
  refine AX.go ?_
  refine sr ?_
  refine st (mvT rfl) rfl ?_
  refine st (asT rfl) rfl ?_
  refine ng ?_
  refine AW.ret ?_
  exact rt1 rfl (.inl rfl) (by rw [show z = (sortH f).length by omega]; rfl)

theorem c_impl_SortDeck_o (x : List DCard) (f : DField) : AC Tryz.prog 8 [.cel (Kd.slice kCard) x, .agg kField f] [.own 33 kCard (sortS x f).1, .cel (Kd.int .i64) (sortS x f).2] [] := by
 refine acI (N := 18) Tryz.func8 (Nat.le_of_ble_eq_true rfl) rfl fun w0 hd s0 ar => ?_
 refine AW.to (kc 0 rfl <| ka 1 rfl <| Kn) ?_
 refine sr ?_
 refine st (OpT.frz (OpT.boxA (E := 28) (H rfl) (T1 rfl))) rfl ?_
 refine st (nilO (E := 33) kCard rfl (.inl rfl)) rfl ?_
 refine st (asI rfl) rfl ?_
 refine ng ?_
 refine AW.seq ?_
 refine sr ?_
 refine st (mvT rfl) rfl ?_
 refine st (OpT.c1 (ms := [.flat]) (c_impl_isDeck _) (H rfl) (Af (T1 rfl) rfl rfl <| An) rfl rfl) rfl ?_
 refine st (OpT.not (H rfl) (T1 rfl)) rfl ?_
 refine st (mvT rfl) rfl ?_
 apply AWl.or (d := 13) (t := 9) rfl
 ·
  intro hb1 Q1 k1
  have hb1' := lF hb1
  refine rs hb1 (OpT.loadA (H rfl) (T1 rfl) ag28 sz28) rfl ?_
  refine rs hb1 (OpT.c1 (ms := [.flat]) (c_impl_isField _) (H rfl) (Af (T1 rfl) rfl rfl <| An) rfl rfl) rfl ?_
  refine rs hb1 (OpT.not (H rfl) (T1 rfl)) rfl ?_
  refine st (OpT.pickF (A := .cel _ _) (H rfl) (T1 rfl) hb1 (T1 rfl) rfl) rfl ?_
  exact AWl.to (junk 3 rfl) k1
 ·
  intro hb1 Q1 k1
  refine ps hb1 rfl ?_
  refine ps hb1 rfl ?_
  refine ps hb1 rfl ?_
  refine st (OpT.pickT (A := .cel _ _) (H rfl) (T1 rfl) hb1 Opd.bool rfl) rfl ?_
  exact k1
 refine ng ?_
 refine cd rfl (fun hc1 => ?_) fun hc1 => ?_
 ·
  obtain ⟨hc1, hc1'⟩ := pT hc1
  refine sr ?_
  refine st (nilO (E := 33) kCard rfl (.inl rfl)) rfl ?_
  refine st (asI rfl) rfl ?_
  refine ng ?_
  refine AW.ret ?_
  refine rT ?_
  exact AX.rt (rs := [.tmp 4, .tmp 5]) (ts := [some 4, some 5]) (.inl rfl) rfl (ROs.cons (RO.tmp (At.self (by decide)) (Ko rfl (by first | (rw [sortS_no hc1]; done) | (rw [sortS_yes hc1]; done))) rfl) <| ROs.cons (RO.tmp (At.self (by decide)) (Kv rfl (by first | (rw [sortS_no hc1]; done) | (rw [sortS_yes hc1]; done))) rfl) <| ROs.nil) (by decide) OutsOK.nil
 ·
  obtain ⟨hc1, hc1'⟩ := pF hc1
  have hdf := df_ok hc1
  have hxl := hdf.1.1
  refine AW.skip ?_
  refine AX.go ?_
  refine sr ?_
  refine st (mvT rfl) rfl ?_
  refine st (OpT.loadA (H rfl) (T1 rfl) ag28 sz28) rfl ?_
  refine st (OpT.c1 (ms := [.flat]) (c_impl_Field_sorting _ hdf.2) (H rfl) (Af (T1 rfl) rfl rfl <| An) rfl rfl) rfl ?_
  refine st (OpT.c1 (ms := [.flat, .flat]) (c_impl_passMany_o _ _ (fun h hh => sortH_mem hdf.2 hh) (by omega)) (H rfl) (Af (T1 rfl) rfl rfl <| Af (T1 rfl) rfl rfl <| An) rfl rfl) rfl ?_
  refine sg (OpT.take (.inl rfl) rfl (ok' rfl) (Root.self (by decide)) rfl rfl (by decide)) (ko 4 rfl <| kc 16 rfl <| ka 15 rfl <| kc4 14 13 9 8 rfl <| kc4 7 6 5 3 rfl <| kc 0 rfl <| ka 1 rfl <| Kn) rfl ?_
  refine st (asI rfl) rfl ?_
  refine AWl.to (kc 5 rfl <| ko 4 rfl <| Kn) ?_
  refine ng ?_
  refine AW.ret ?_
  exact AX.rt (rs := [.tmp 4, .tmp 5]) (ts := [some 4, some 5]) (.inl rfl) rfl (ROs.cons (RO.tmp (At.self (by decide)) (Ko rfl (by first | (rw [sortS_no hc1]; done) | (rw [sortS_yes hc1]; done))) rfl) <| ROs.cons (RO.tmp (At.self (by decide)) (Kv rfl (by first | (rw [sortS_no hc1]; done) | (rw [sortS_yes hc1]; done))) rfl) <| ROs.nil) (by decide) OutsOK.nil
theorem c_impl_SortDeck (x : List DCard) (f : DField) : AC Tryz.prog 8 [.cel (Kd.slice kCard) x, .agg kField f] [.cel (Kd.slice kCard) (sortS x f).1, .cel (Kd.int .i64) (sortS x f).2] [] := (c_impl_SortDeck_o x f).frz rfl

theorem c_spec_SortDeck_o (x : List DCard) (f : DField) : AC Tryz.prog 9 [.cel (Kd.slice kCard) x, .agg kField f] [.own 33 kCard (sortS x f).1, .cel (Kd.int .i64) (sortS x f).2] [] := by
 refine acI (N := 17) Tryz.func9 (Nat.le_of_ble_eq_true rfl) rfl fun w0 hd s0 ar => ?_
 refine AW.to (kc 0 rfl <| ka 1 rfl <| Kn) ?_
 refine sr ?_
 refine st (OpT.frz (OpT.boxA (E := 28) (H rfl) (T1 rfl))) rfl ?_
 refine st (nilO (E := 33) kCard rfl (.inl rfl)) rfl ?_
 refine st (asI rfl) rfl ?_
 refine ng ?_
 refine AW.seq ?_
 refine sr ?_
 refine st (mvT rfl) rfl ?_
 refine st (OpT.c1 (ms := [.flat]) (c_spec_l02Ok _) (H rfl) (Af (T1 rfl) rfl rfl <| An) rfl rfl) rfl ?_
 refine st (OpT.not (H rfl) (T1 rfl)) rfl ?_
 refine st (mvT rfl) rfl ?_
 apply AWl.or (d := 12) (t := 9) rfl
 ·
  intro hb1 Q1 k1
  have hb1' := lF hb1
  refine rs hb1 (OpT.c1 (ms := [.flat]) (c_spec_l01Field _) (H rfl) (Af (T1 rfl) rfl rfl <| An) rfl rfl) rfl ?_
  refine rs hb1 (OpT.not (H rfl) (T1 rfl)) rfl ?_
  refine st (OpT.pickF (A := .cel _ _) (H rfl) (T1 rfl) hb1 (T1 rfl) rfl) rfl ?_
  exact AWl.to (junk 2 rfl) k1
 ·
  intro hb1 Q1 k1
  refine ps hb1 rfl ?_
  refine ps hb1 rfl ?_
  refine st (OpT.pickT (A := .cel _ _) (H rfl) (T1 rfl) hb1 Opd.bool rfl) rfl ?_
  exact k1
 refine ng ?_
 refine cd rfl (fun hc1 => ?_) fun hc1 => ?_
 ·
  obtain ⟨hc1, hc1'⟩ := pT hc1
  refine sr ?_
  refine st (OpT.buildSlice0 (m := 0) (z := .bool false) kCard (H rfl) el24 sz33 (by decide)) rfl ?_
  refine sg (OpT.take (.inl rfl) rfl (ok' rfl) (Root.self (by decide)) rfl rfl (by decide)) (ko 4 rfl <| kc4 12 9 8 7 rfl <| kc4 6 5 3 0 rfl <| ka 1 rfl <| Kn) rfl ?_
  refine st (asI rfl) rfl ?_
  refine ng ?_
  refine AW.ret ?_
  refine rT ?_
  exact AX.rt (rs := [.tmp 4, .tmp 5]) (ts := [some 4, some 5]) (.inl rfl) rfl (ROs.cons (RO.tmp (At.self (by decide)) (Ko rfl (by first | (rw [sortS_no hc1]; done) | (rw [sortS_yes hc1]; done))) rfl) <| ROs.cons (RO.tmp (At.self (by decide)) (Kv rfl (by first | (rw [sortS_no hc1]; done) | (rw [sortS_yes hc1]; done))) rfl) <| ROs.nil) (by decide) OutsOK.nil
 ·
  obtain ⟨hc1, hc1'⟩ := pF hc1
  have hdf := df_ok hc1
  have hxl := hdf.1.1
  refine AW.skip ?_
  refine AX.go ?_
  refine sr ?_
  refine st (mvT rfl) rfl ?_
  refine st (OpT.c1 (ms := [.flat]) (c_spec_l02Holes _ hdf.2) (H rfl) (Af (T1 rfl) rfl rfl <| An) rfl rfl) rfl ?_
  refine st (OpT.c1 (ms := [.flat, .flat]) (c_spec_l02Many_o _ _ (fun h hh => sortH_mem hdf.2 hh) (by omega)) (H rfl) (Af (T1 rfl) rfl rfl <| Af (T1 rfl) rfl rfl <| An) rfl rfl) rfl ?_
  refine sg (OpT.take (.inl rfl) rfl (ok' rfl) (Root.self (by decide)) rfl rfl (by decide)) (ko 4 rfl <| kc4 15 14 12 9 rfl <| kc4 8 7 6 5 rfl <| kc2 3 0 rfl <| ka 1 rfl <| Kn) rfl ?_
  refine st (asI rfl) rfl ?_
  refine AWl.to (kc 5 rfl <| ko 4 rfl <| Kn) ?_
  refine ng ?_
  refine AW.ret ?_
  exact AX.rt (rs := [.tmp 4, .tmp 5]) (ts := [some 4, some 5]) (.inl rfl) rfl (ROs.cons (RO.tmp (At.self (by decide)) (Ko rfl (by first | (rw [sortS_no hc1]; done) | (rw [sortS_yes hc1]; done))) rfl) <| ROs.cons (RO.tmp (At.self (by decide)) (Kv rfl (by first | (rw [sortS_no hc1]; done) | (rw [sortS_yes hc1]; done))) rfl) <| ROs.nil) (by decide) OutsOK.nil
theorem c_spec_SortDeck (x : List DCard) (f : DField) : AC Tryz.prog 9 [.cel (Kd.slice kCard) x, .agg kField f] [.cel (Kd.slice kCard) (sortS x f).1, .cel (Kd.int .i64) (sortS x f).2] [] := (c_spec_SortDeck_o x f).frz rfl
end Go.Proofs.YtlhfmcbmlmhgaaaGreatDoor.VL
