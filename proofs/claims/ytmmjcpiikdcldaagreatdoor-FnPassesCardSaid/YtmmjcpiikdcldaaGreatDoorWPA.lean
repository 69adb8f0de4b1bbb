/- Proved here: what some functions of the program take and give: walks with the words of VA..VQ. Printed by program. -/
import Derived.Test.YtmmjcpiikdcldaaGreatDoorWT
import Derived.Test.YtmmjcpiikdcldaaGreatDoorPZK
import Derived.Test.YtmmjcpiikdcldaaGreatDoorWN
set_option linter.unusedVariables false
set_option linter.unusedSimpArgs false
set_option maxRecDepth 4000
namespace Go.Proofs.YtmmjcpiikdcldaaGreatDoor.VL
open Go
/-- impl.split -/
theorem c_impl_split_o (x : List DCard) (h : Int) (hh : 0 ≤ h ∧ h < 128) (hx : x.length ≤ 1000) : AC Tryz.prog 43 [.cel (Kd.slice kCard) x, .cel (Kd.int .i64) h] [.own 40 kCard (stayM x h), .own 40 kCard (dropM x h)] [] := by
 refine acI (N := 33) Tryz.func43 (Nat.le_of_ble_eq_true rfl) rfl fun w0 hd s0 ar => ?_
 refine AW.to (kc2 0 1 rfl <| Kn) ?_
 refine sr ?_
 refine st (nilO (E := 40) kCard rfl (.inl rfl)) rfl ?_
 refine st (nilO (E := 40) kCard rfl (.inl rfl)) rfl ?_
 refine ng ?_
 refine sr ?_
 refine st (OpT.buildSlice0 (m := 0) (z := .bool false) kCard (H rfl) el26 sz40 (by decide)) rfl ?_
 refine st (OpT.buildSlice0 (m := 0) (z := .bool false) kCard (H rfl) el26 sz40 (by decide)) rfl ?_
 refine sg (OpT.take (.inl rfl) rfl (ok' rfl) (Root.self (by decide)) rfl rfl (by decide)) (ko 6 rfl <| ko 11 rfl <| ko 5 rfl <| ko 4 rfl <| kc2 0 1 rfl <| Kn) rfl ?_
 refine sg (OpT.take (.inl rfl) rfl (ok' rfl) (Root.self (by decide)) rfl rfl (by decide)) (ko 7 rfl <| ko 6 rfl <| ko 5 rfl <| ko 4 rfl <| kc2 0 1 rfl <| Kn) rfl ?_
 refine ng ?_
 refine AW.seq ?_
 refine sr ?_
 refine st (mvT rfl) rfl ?_
 refine st (OpT.len (H rfl) (T1 rfl) el26) rfl ?_
 refine st (mvI rfl) rfl ?_
 refine ng ?_
 refine AW.block ?_
 refine AW.loop (fun z : Nat => z ≤ x.length) (fun z : Nat => keep [(1, .cel (Kd.int .i64) h), (6, .own 40 kCard (stayM (x.take z) h)), (7, .own 40 kCard (dropM (x.take z) h)), (12, .cel (Kd.slice kCard) x), (13, .cel (Kd.int .i64) (x.length : Int)), (14, .cel (Kd.int .i64) (z : Int))]) (fun z : Nat => x.length - z) (0) (Nat.zero_le _) (Kc 1 _ (Kv rfl rfl) <| Kc 6 _ (Ko rfl rfl) <| Kc 7 _ (Ko rfl rfl) <| Kc 12 _ (Kv rfl rfl) <| Kc 13 _ (Kv rfl rfl) <| Kc 14 _ (Kv rfl rfl) <| Kn) ?_
 intro z hI
 refine sr ?_
 refine st (OpT.lss (H rfl) (T1 rfl) (T1 rfl)) rfl ?_
 refine ng ?_
 refine AW.seq ?_
 refine cd rfl (fun hc1 => ?_) fun hc1 => ?_
 ·
  obtain ⟨hc1, hc1'⟩ := pT hc1
  obtain ⟨a, ha⟩ := getI (x := x) (z := z) (by omega)
  refine AW.skip ?_
  refine AX.go ?_
  refine AW.seq ?_
  refine AW.block ?_
  refine sr ?_
  refine st (OpT.indexAddr (H rfl) (T1 rfl) (T1 rfl) el26 sz40 (by omega) (by assumption)) rfl ?_
  refine st (OpT.loadA (H rfl) (T1 rfl) ag40 sz40) rfl ?_
  refine st (OpT.alloc (H rfl) zr40 zk40) rfl ?_
  refine sk (OpT.storeBA rfl rfl (Opd.whole (Root.self (t := 9) (by decide)) rfl) rfl sz40 (by decide) (T1 rfl)) rfl ?_
  refine ng ?_
  refine sr ?_
  refine st (OpT.fieldAddrB (H rfl) (Root.self (t := 9) (by decide)) rfl (by decide) fd40_1 sz38 (by decide) sb40_1) rfl ?_
  refine st (OpT.loadPA (H rfl) (T1 rfl) (.inl ⟨_, rfl, rfl⟩) ag38 sz38) rfl ?_
  refine st (mvT rfl) rfl ?_
  refine st (OpT.c1 (ms := [.flat, .flat]) (c_impl_Mask_has _ _ (by omega)) (H rfl) (Af (T1 rfl) rfl rfl <| Af (T1 rfl) rfl rfl <| An) rfl rfl) rfl ?_
  refine ng ?_
  refine cd rfl (fun hc2 => ?_) fun hc2 => ?_
  ·
   obtain ⟨hc2, hc2'⟩ := pT hc2
   have hhs : hasM a.2 h = true := by simpa using hc2
   refine AW.region ?_
   refine st (OpT.alias (H rfl) (by decide) (by decide)) rfl ?_
   refine st (OpT.loadB (H rfl) (Root.self (t := 9) (by decide)) rfl ag40 sz40) rfl ?_
   refine st (OpT.buildSlice (H rfl) el26 zr40 sz40 rfl (by decide) zk40 (by decide) (Built.agg (T1 rfl) rfl (by decide) (sub_arr (by decide) ((.empty, (0, 0)) : ByteArray × (BitVec 64 × BitVec 64))) (Built.nil _))) rfl ?_
   refine sg (OpT.append (H rfl) (Root.ali rfl (by decide) (by decide)) rfl (Src.own (Root.self (t := 24) (by decide)) rfl) (by decide) el26 zr40 rfl sz40 by40 (by decide) (by have h70 := stay_len (x.take z) h; have h71 := drop_len (x.take z) h; rw [List.length_take] at h70 h71; simp only [List.length_set, List.length_replicate]; omega)) (ko 25 rfl <| ko 24 rfl <| ka 23 rfl <| kc2 21 20 rfl <| ka 19 rfl <| Kc 18 (.pel _ _ _ _ _ _ _) rfl <| kb 9 rfl <| ka 17 rfl <| kc3 16 15 1 rfl <| ko 6 rfl <| kc3 12 13 14 rfl <| Kn) rfl ?_
   refine sg (OpT.take (.inl rfl) rfl (ok' rfl) (Root.self (by decide)) rfl rfl (by decide)) (ko 7 rfl <| ko 24 rfl <| ka 23 rfl <| kc2 21 20 rfl <| ka 19 rfl <| Kc 18 (.pel _ _ _ _ _ _ _) rfl <| kb 9 rfl <| ka 17 rfl <| kc3 16 15 1 rfl <| ko 6 rfl <| kc3 12 13 14 rfl <| Kn) rfl ?_
   refine nn ?_
   refine AX.normal_block ?_
   refine AX.go ?_
   refine AW.region ?_
   refine st (OpT.add (H rfl) (T1 rfl) (I rfl) (nw (by omega))) rfl ?_
   refine st (mvT rfl) rfl ?_
   refine nn ?_
   exact AX.again (z + 1) (by omega) (by omega) (Kc 1 _ (Kv rfl rfl) <| Kc 6 _ (Ko rfl (by first | exact stay_yes ha hhs | exact stay_no ha hhs)) <| Kc 7 _ (Ko rfl (by first | exact drop_yes ha hhs | exact drop_no ha hhs)) <| Kc 12 _ (Kv rfl rfl) <| Kc 13 _ (Kv rfl rfl) <| Kc 14 _ (Kv rfl (by omega)) <| Kn)
  ·
   obtain ⟨hc2, hc2'⟩ := pF hc2
   have hhs : hasM a.2 h = false := by simpa using hc2
   refine AW.region ?_
   refine st (OpT.alias (H rfl) (by decide) (by decide)) rfl ?_
   refine st (OpT.loadB (H rfl) (Root.self (t := 9) (by decide)) rfl ag40 sz40) rfl ?_
   refine st (OpT.buildSlice (H rfl) el26 zr40 sz40 rfl (by decide) zk40 (by decide) (Built.agg (T1 rfl) rfl (by decide) (sub_arr (by decide) ((.empty, (0, 0)) : ByteArray × (BitVec 64 × BitVec 64))) (Built.nil _))) rfl ?_
   refine sg (OpT.append (H rfl) (Root.ali rfl (by decide) (by decide)) rfl (Src.own (Root.self (t := 28) (by decide)) rfl) (by decide) el26 zr40 rfl sz40 by40 (by decide) (by have h70 := stay_len (x.take z) h; have h71 := drop_len (x.take z) h; rw [List.length_take] at h70 h71; simp only [List.length_set, List.length_replicate]; omega)) (ko 29 rfl <| ko 28 rfl <| ka 27 rfl <| kc2 21 20 rfl <| ka 19 rfl <| Kc 18 (.pel _ _ _ _ _ _ _) rfl <| kb 9 rfl <| ka 17 rfl <| kc3 16 15 1 rfl <| ko 7 rfl <| kc3 12 13 14 rfl <| Kn) rfl ?_
   refine sg (OpT.take (.inl rfl) rfl (ok' rfl) (Root.self (by decide)) rfl rfl (by decide)) (ko 6 rfl <| ko 28 rfl <| ka 27 rfl <| kc2 21 20 rfl <| ka 19 rfl <| Kc 18 (.pel _ _ _ _ _ _ _) rfl <| kb 9 rfl <| ka 17 rfl <| kc3 16 15 1 rfl <| ko 7 rfl <| kc3 12 13 14 rfl <| Kn) rfl ?_
   refine nn ?_
   refine AX.normal_block ?_
   refine AX.go ?_
   refine AW.region ?_
   refine st (OpT.add (H rfl) (T1 rfl) (I rfl) (nw (by omega))) rfl ?_
   refine st (mvT rfl) rfl ?_
   refine nn ?_
   exact AX.again (z + 1) (by omega) (by omega) (Kc 1 _ (Kv rfl rfl) <| Kc 6 _ (Ko rfl (by first | exact stay_yes ha hhs | exact stay_no ha hhs)) <| Kc 7 _ (Ko rfl (by first | exact drop_yes ha hhs | exact drop_no ha hhs)) <| Kc 12 _ (Kv rfl rfl) <| Kc 13 _ (Kv rfl rfl) <| Kc 14 _ (Kv rfl (by omega)) <| Kn)
 ·
  obtain ⟨hc1, hc1'⟩ := pF hc1
  refine AW.exit ?_
  refine xT <| xT <| AX.exit_hit ?_
  refine AX.go ?_
  refine sr ?_
  refine st (OpT.alias (H rfl) (by decide) (by decide)) rfl ?_
  refine st (OpT.alias (H rfl) (by decide) (by decide)) rfl ?_
  refine sg (OpT.take (.inl rfl) rfl (ok' rfl) (Root.ali rfl (by decide) (by decide)) rfl rfl (by decide)) (ko 4 rfl <| Kc 32 (.ali _) rfl <| kc2 15 1 rfl <| ko 7 rfl <| kc3 12 13 14 rfl <| Kn) rfl ?_
  refine sg (OpT.take (.inl rfl) rfl (ok' rfl) (Root.ali rfl (by decide) (by decide)) rfl rfl (by decide)) (ko 5 rfl <| ko 4 rfl <| kc4 15 1 12 13 rfl <| kc 14 rfl <| Kn) rfl ?_
  refine ng ?_
  refine AW.ret ?_
  exact AX.rt (rs := [.tmp 4, .tmp 5]) (ts := [some 4, some 5]) (.inl rfl) rfl (ROs.cons (RO.tmp (At.self (by decide)) (Ko rfl (by rw [List.take_of_length_le (by omega)])) rfl) <| ROs.cons (RO.tmp (At.self (by decide)) (Ko rfl (by rw [List.take_of_length_le (by omega)])) rfl) <| ROs.nil) (by decide) OutsOK.nil
/-- spec.l02Split -/
theorem c_spec_l02Split_o (x : List DCard) (h : Int) (hh : 0 ≤ h ∧ h < 128) (hx : x.length ≤ 1000) : AC Tryz.prog 45 [.cel (Kd.slice kCard) x, .cel (Kd.int .i64) h] [.own 40 kCard (stayM x h), .own 40 kCard (dropM x h)] [] := by
 refine acI (N := 40) Tryz.func45 (Nat.le_of_ble_eq_true rfl) rfl fun w0 hd s0 ar => ?_
 refine AW.to (kc2 0 1 rfl <| Kn) ?_
 refine sr ?_
 refine st (nilO (E := 40) kCard rfl (.inl rfl)) rfl ?_
 refine st (nilO (E := 40) kCard rfl (.inl rfl)) rfl ?_
 refine ng ?_
 refine sr ?_
 refine st (OpT.buildSlice0 (m := 0) (z := .bool false) kCard (H rfl) el26 sz40 (by decide)) rfl ?_
 refine sg (OpT.take (.inl rfl) rfl (ok' rfl) (Root.self (by decide)) rfl rfl (by decide)) (ko 6 rfl <| ko 5 rfl <| ko 4 rfl <| kc2 0 1 rfl <| Kn) rfl ?_
 refine ng ?_
 refine sr ?_
 refine st (OpT.buildSlice0 (m := 0) (z := .bool false) kCard (H rfl) el26 sz40 (by decide)) rfl ?_
 refine sg (OpT.take (.inl rfl) rfl (ok' rfl) (Root.self (by decide)) rfl rfl (by decide)) (ko 7 rfl <| ko 6 rfl <| ko 5 rfl <| ko 4 rfl <| kc2 0 1 rfl <| Kn) rfl ?_
 refine ng ?_
 refine AW.seq ?_
 refine sr ?_
 refine st (asI rfl) rfl ?_
 refine ng ?_
 refine AW.block ?_
 refine AW.loop (fun z : Nat => z ≤ x.length) (fun z : Nat => keep [(0, .cel (Kd.slice kCard) x), (1, .cel (Kd.int .i64) h), (6, .own 40 kCard (stayM (x.take z) h)), (7, .own 40 kCard (dropM (x.take z) h)), (8, .cel (Kd.int .i64) (z : Int))]) (fun z : Nat => x.length - z) (0) (Nat.zero_le _) (Kc 0 _ (Kv rfl rfl) <| Kc 1 _ (Kv rfl rfl) <| Kc 6 _ (Ko rfl rfl) <| Kc 7 _ (Ko rfl rfl) <| Kc 8 _ (Kv rfl rfl) <| Kn) ?_
 intro z hI
 refine AW.seq ?_
 refine sr ?_
 refine st (mvT rfl) rfl ?_
 refine st (mvT rfl) rfl ?_
 refine st (OpT.len (H rfl) (T1 rfl) el26) rfl ?_
 refine st (OpT.lss (H rfl) (T1 rfl) (T1 rfl)) rfl ?_
 refine ng ?_
 refine cd rfl (fun hc1 => ?_) fun hc1 => ?_
 ·
  obtain ⟨hc1, hc1'⟩ := pT hc1
  obtain ⟨a, ha⟩ := getI (x := x) (z := z) (by omega)
  refine AW.skip ?_
  refine AX.go ?_
  refine AW.seq ?_
  refine AW.block ?_
  refine sr ?_
  refine st (mvT rfl) rfl ?_
  refine st (mvT rfl) rfl ?_
  refine st (OpT.indexAddr (H rfl) (T1 rfl) (T1 rfl) el26 sz40 (by omega) (by assumption)) rfl ?_
  refine st (OpT.fieldAddr (H rfl) (T1 rfl) fd40_1 sz38 (by decide) sb40_1) rfl ?_
  refine st (OpT.loadA (H rfl) (T1 rfl) ag38 sz38) rfl ?_
  refine st (mvT rfl) rfl ?_
  refine st (OpT.c1 (ms := [.flat, .flat]) (c_spec_l01Has _ _ (by omega)) (H rfl) (Af (T1 rfl) rfl rfl <| Af (T1 rfl) rfl rfl <| An) rfl rfl) rfl ?_
  refine ng ?_
  refine cd rfl (fun hc2 => ?_) fun hc2 => ?_
  ·
   obtain ⟨hc2, hc2'⟩ := pT hc2
   have hhs : hasM a.2 h = true := by simpa using hc2
   refine AW.region ?_
   refine st (OpT.alias (H rfl) (by decide) (by decide)) rfl ?_
   refine st (mvT rfl) rfl ?_
   refine st (mvT rfl) rfl ?_
   refine st (OpT.indexAddr (H rfl) (T1 rfl) (T1 rfl) el26 sz40 (by omega) (by assumption)) rfl ?_
   refine st (OpT.loadA (H rfl) (T1 rfl) ag40 sz40) rfl ?_
   refine st (OpT.buildSlice (H rfl) el26 zr40 sz40 rfl (by decide) zk40 (by decide) (Built.agg (T1 rfl) rfl (by decide) (sub_arr (by decide) ((.empty, (0, 0)) : ByteArray × (BitVec 64 × BitVec 64))) (Built.nil _))) rfl ?_
   refine sg (OpT.append (H rfl) (Root.ali rfl (by decide) (by decide)) rfl (Src.own (Root.self (t := 29) (by decide)) rfl) (by decide) el26 zr40 rfl sz40 by40 (by decide) (by have h70 := stay_len (x.take z) h; have h71 := drop_len (x.take z) h; rw [List.length_take] at h70 h71; simp only [List.length_set, List.length_replicate]; omega)) (ko 30 rfl <| ko 29 rfl <| ka 28 rfl <| kc4 27 26 25 23 rfl <| kc 22 rfl <| ka 21 rfl <| kc4 20 19 18 17 rfl <| kc4 14 13 12 11 rfl <| kc2 0 1 rfl <| ko 6 rfl <| kc 8 rfl <| Kn) rfl ?_
   refine sg (OpT.take (.inl rfl) rfl (ok' rfl) (Root.self (by decide)) rfl rfl (by decide)) (ko 7 rfl <| ko 29 rfl <| ka 28 rfl <| kc4 27 26 25 23 rfl <| kc 22 rfl <| ka 21 rfl <| kc4 20 19 18 17 rfl <| kc4 14 13 12 11 rfl <| kc2 0 1 rfl <| ko 6 rfl <| kc 8 rfl <| Kn) rfl ?_
   refine nn ?_
   refine AX.normal_block ?_
   refine AX.go ?_
   refine AW.region ?_
   refine st (mvT rfl) rfl ?_
   refine st (OpT.add (H rfl) (T1 rfl) (I rfl) (nw (by omega))) rfl ?_
   refine st (asT rfl) rfl ?_
   refine nn ?_
   exact AX.again (z + 1) (by omega) (by omega) (Kc 0 _ (Kv rfl rfl) <| Kc 1 _ (Kv rfl rfl) <| Kc 6 _ (Ko rfl (by first | exact stay_yes ha hhs | exact stay_no ha hhs)) <| Kc 7 _ (Ko rfl (by first | exact drop_yes ha hhs | exact drop_no ha hhs)) <| Kc 8 _ (Kv rfl (by omega)) <| Kn)
  ·
   obtain ⟨hc2, hc2'⟩ := pF hc2
   have hhs : hasM a.2 h = false := by simpa using hc2
   refine AW.region ?_
   refine st (OpT.alias (H rfl) (by decide) (by decide)) rfl ?_
   refine st (mvT rfl) rfl ?_
   refine st (mvT rfl) rfl ?_
   refine st (OpT.indexAddr (H rfl) (T1 rfl) (T1 rfl) el26 sz40 (by omega) (by assumption)) rfl ?_
   refine st (OpT.loadA (H rfl) (T1 rfl) ag40 sz40) rfl ?_
   refine st (OpT.buildSlice (H rfl) el26 zr40 sz40 rfl (by decide) zk40 (by decide) (Built.agg (T1 rfl) rfl (by decide) (sub_arr (by decide) ((.empty, (0, 0)) : ByteArray × (BitVec 64 × BitVec 64))) (Built.nil _))) rfl ?_
   refine sg (OpT.append (H rfl) (Root.ali rfl (by decide) (by decide)) rfl (Src.own (Root.self (t := 36) (by decide)) rfl) (by decide) el26 zr40 rfl sz40 by40 (by decide) (by have h70 := stay_len (x.take z) h; have h71 := drop_len (x.take z) h; rw [List.length_take] at h70 h71; simp only [List.length_set, List.length_replicate]; omega)) (ko 37 rfl <| ko 36 rfl <| ka 35 rfl <| kc4 34 33 32 23 rfl <| kc 22 rfl <| ka 21 rfl <| kc4 20 19 18 17 rfl <| kc4 14 13 12 11 rfl <| kc2 0 1 rfl <| ko 7 rfl <| kc 8 rfl <| Kn) rfl ?_
   refine sg (OpT.take (.inl rfl) rfl (ok' rfl) (Root.self (by decide)) rfl rfl (by decide)) (ko 6 rfl <| ko 36 rfl <| ka 35 rfl <| kc4 34 33 32 23 rfl <| kc 22 rfl <| ka 21 rfl <| kc4 20 19 18 17 rfl <| kc4 14 13 12 11 rfl <| kc2 0 1 rfl <| ko 7 rfl <| kc 8 rfl <| Kn) rfl ?_
   refine nn ?_
   refine AX.normal_block ?_
   refine AX.go ?_
   refine AW.region ?_
   refine st (mvT rfl) rfl ?_
   refine st (OpT.add (H rfl) (T1 rfl) (I rfl) (nw (by omega))) rfl ?_
   refine st (asT rfl) rfl ?_
   refine nn ?_
   exact AX.again (z + 1) (by omega) (by omega) (Kc 0 _ (Kv rfl rfl) <| Kc 1 _ (Kv rfl rfl) <| Kc 6 _ (Ko rfl (by first | exact stay_yes ha hhs | exact stay_no ha hhs)) <| Kc 7 _ (Ko rfl (by first | exact drop_yes ha hhs | exact drop_no ha hhs)) <| Kc 8 _ (Kv rfl (by omega)) <| Kn)
 ·
  obtain ⟨hc1, hc1'⟩ := pF hc1
  refine AW.exit ?_
  refine xT <| xT <| AX.exit_hit ?_
  refine AX.go ?_
  refine sr ?_
  refine st (OpT.alias (H rfl) (by decide) (by decide)) rfl ?_
  refine st (OpT.alias (H rfl) (by decide) (by decide)) rfl ?_
  refine sg (OpT.take (.inl rfl) rfl (ok' rfl) (Root.ali rfl (by decide) (by decide)) rfl rfl (by decide)) (ko 4 rfl <| Kc 39 (.ali _) rfl <| kc4 14 13 12 11 rfl <| kc2 0 1 rfl <| ko 7 rfl <| kc 8 rfl <| Kn) rfl ?_
  refine sg (OpT.take (.inl rfl) rfl (ok' rfl) (Root.ali rfl (by decide) (by decide)) rfl rfl (by decide)) (ko 5 rfl <| ko 4 rfl <| kc4 14 13 12 11 rfl <| kc3 0 1 8 rfl <| Kn) rfl ?_
  refine ng ?_
  refine AW.ret ?_
  exact AX.rt (rs := [.tmp 4, .tmp 5]) (ts := [some 4, some 5]) (.inl rfl) rfl (ROs.cons (RO.tmp (At.self (by decide)) (Ko rfl (by rw [List.take_of_length_le (by omega)])) rfl) <| ROs.cons (RO.tmp (At.self (by decide)) (Ko rfl (by rw [List.take_of_length_le (by omega)])) rfl) <| ROs.nil) (by decide) OutsOK.nil
/-- impl.passMany -/
theorem c_impl_passMany_o (x : List DCard) (l : List Int) (hl : ∀ h ∈ l, 0 ≤ h ∧ h < 96) (hx : x.length ≤ 1000) : AC Tryz.prog 51 [.cel (Kd.slice kCard) x, .cel (Kd.slice (Kd.int .i64)) l] [.own 40 kCard (manyP x l)] [] := by
 refine acI (N := 30) Tryz.func51 (Nat.le_of_ble_eq_true rfl) rfl fun w0 hd s0 ar => ?_
 refine AW.to (kc2 0 1 rfl <| Kn) ?_
 refine AW.fact (fun a w hr => (ok_slice (R_ok (t := 1) rfl hr)).2) (fun hl1 => ?_)
 refine sr ?_
 refine st (nilO (E := 40) kCard rfl (.inl rfl)) rfl ?_
 refine ng ?_
 refine sr ?_
 refine st (OpT.buildSlice0 (m := 0) (z := .bool false) kCard (H rfl) el26 sz40 (by decide)) rfl ?_
 refine st (mvT rfl) rfl ?_
 refine sg (OpT.append (H rfl) (Root.self (t := 10) (by decide)) rfl (Src.shared (T1 rfl)) (by decide) el26 zr40 rfl sz40 by40 (by decide) (by first | (simp only [List.length_set, List.length_replicate, List.length_nil]; omega) | (have h70 := split_len (manyP x (l.take z)) h; omega))) (ko 12 rfl <| kc 11 rfl <| ko 4 rfl <| kc2 0 1 rfl <| Kn) rfl ?_
 refine sg (OpT.take (.inl rfl) rfl (ok' rfl) (Root.self (by decide)) rfl rfl (by decide)) (ko 5 rfl <| kc 11 rfl <| ko 4 rfl <| kc2 0 1 rfl <| Kn) rfl ?_
 refine ng ?_
 refine AW.seq ?_
 refine sr ?_
 refine st (mvT rfl) rfl ?_
 refine st (OpT.len (H rfl) (T1 rfl) el43) rfl ?_
 refine st (mvI rfl) rfl ?_
 refine ng ?_
 refine AW.block ?_
 refine AW.loop (fun z : Nat => z ≤ l.length) (fun z : Nat => keep [(5, .own 40 kCard (manyP x (l.take z))), (13, .cel (Kd.slice (Kd.int .i64)) l), (14, .cel (Kd.int .i64) (l.length : Int)), (15, .cel (Kd.int .i64) (z : Int))]) (fun z : Nat => l.length - z) (0) (Nat.zero_le _) (Kc 5 _ (Ko rfl (by simp [manyP])) <| Kc 13 _ (Kv rfl rfl) <| Kc 14 _ (Kv rfl rfl) <| Kc 15 _ (Kv rfl rfl) <| Kn) ?_
 intro z hI
 refine sr ?_
 refine st (OpT.lss (H rfl) (T1 rfl) (T1 rfl)) rfl ?_
 refine ng ?_
 refine AW.seq ?_
 refine cd rfl (fun hc1 => ?_) fun hc1 => ?_
 ·
  obtain ⟨hc1, hc1'⟩ := pT hc1
  obtain ⟨h, hh⟩ := getI (x := l) (z := z) (by omega)
  have hhr := hl h (mem_getI hh)
  have hml := manyP_len x (l.take z)
  refine AW.skip ?_
  refine AX.go ?_
  refine AW.seq ?_
  refine AW.block ?_
  refine sr ?_
  refine st (OpT.indexAddr (H rfl) (T1 rfl) (T1 rfl) el43 sz2 (by omega) hh) rfl ?_
  refine st (OpT.load (H rfl) (T1 rfl) ag2 rfl) rfl ?_
  refine st (asT rfl) rfl ?_
  refine ng ?_
  refine sr ?_
  refine AWl.freeze (t := 5) rfl ?_
  refine AWl.to (kc4 7 18 17 16 rfl <| kc4 5 13 14 15 rfl <| Kn) ?_
  refine st (mvT rfl) rfl ?_
  refine st (mvT rfl) rfl ?_
  refine s2 (OpT.c2 (ms := [.flat, .flat]) (c_impl_split_o _ _ (by omega) (by omega)) (H rfl) (Af (T1 rfl) rfl rfl <| Af (T1 rfl) rfl rfl <| An) rfl rfl rfl) rfl ?_
  refine st (OpT.alias (H rfl) (by decide) (by decide)) rfl ?_
  refine sg (OpT.extractVO (m := 10022) (H rfl) rfl rfl rfl rfl rfl rfl) (ko 23 rfl <| Kc 19 (.ali _) rfl <| ko 20022 rfl <| kc4 21 20 7 18 rfl <| kc4 17 16 5 13 rfl <| kc2 14 15 rfl <| Kn) rfl ?_
  refine sg (OpT.extractVO (m := 20022) (H rfl) rfl rfl rfl rfl rfl rfl) (ko 24 rfl <| ko 23 rfl <| Kc 19 (.ali _) rfl <| kc4 21 20 7 18 rfl <| kc4 17 16 5 13 rfl <| kc2 14 15 rfl <| Kn) rfl ?_
  refine sg (OpT.take (.inl rfl) rfl (ok' rfl) (Root.self (by decide)) rfl rfl (by decide)) (ko 8 rfl <| ko 24 rfl <| Kc 19 (.ali _) rfl <| kc4 21 20 7 18 rfl <| kc4 17 16 5 13 rfl <| kc2 14 15 rfl <| Kn) rfl ?_
  refine sg (OpT.take (.inl rfl) rfl (ok' rfl) (Root.self (by decide)) rfl rfl (by decide)) (ko 9 rfl <| ko 8 rfl <| Kc 19 (.ali _) rfl <| kc4 21 20 7 18 rfl <| kc4 17 16 5 13 rfl <| kc2 14 15 rfl <| Kn) rfl ?_
  refine ng ?_
  refine AW.region ?_
  refine st (OpT.alias (H rfl) (by decide) (by decide)) rfl ?_
  refine st (OpT.alias (H rfl) (by decide) (by decide)) rfl ?_
  refine sg (OpT.append (H rfl) (Root.ali rfl (by decide) (by decide)) rfl (Src.own (Root.ali rfl (by decide) (by decide)) rfl) (by decide) el26 zr40 rfl sz40 by40 (by decide) (by first | (simp only [List.length_set, List.length_replicate, List.length_nil]; omega) | (have h70 := split_len (manyP x (l.take z)) h; omega))) (ko 27 rfl <| Kc 26 (.ali _) rfl <| ko 9 rfl <| Kc 19 (.ali _) rfl <| kc4 21 20 7 18 rfl <| kc4 17 16 5 13 rfl <| kc2 14 15 rfl <| Kn) rfl ?_
  refine sg (OpT.take (.inl rfl) rfl (ok' rfl) (Root.self (by decide)) rfl rfl (by decide)) (ko 5 rfl <| Kc 26 (.ali _) rfl <| ko 9 rfl <| Kc 19 (.ali _) rfl <| kc4 21 20 7 18 rfl <| kc4 17 16 13 14 rfl <| kc 15 rfl <| Kn) rfl ?_
  refine nn ?_
  refine AX.normal_block ?_
  refine AX.go ?_
  refine AW.region ?_
  refine st (OpT.add (H rfl) (T1 rfl) (I rfl) (nw (by omega))) rfl ?_
  refine st (mvT rfl) rfl ?_
  refine nn ?_
  exact AX.again (z + 1) (by omega) (by omega) (Kc 5 _ (Ko rfl (many_pass hh)) <| Kc 13 _ (Kv rfl rfl) <| Kc 14 _ (Kv rfl rfl) <| Kc 15 _ (Kv rfl (by omega)) <| Kn)
 ·
  obtain ⟨hc1, hc1'⟩ := pF hc1
  refine AW.exit ?_
  refine xT <| xT <| AX.exit_hit ?_
  refine AX.go ?_
  refine sr ?_
  refine st (OpT.alias (H rfl) (by decide) (by decide)) rfl ?_
  refine sg (OpT.take (.inl rfl) rfl (ok' rfl) (Root.ali rfl (by decide) (by decide)) rfl rfl (by decide)) (ko 4 rfl <| kc4 16 13 14 15 rfl <| Kn) rfl ?_
  refine ng ?_
  refine AW.ret ?_
  exact AX.rt (rs := [.tmp 4]) (ts := [some 4]) (.inl rfl) rfl (ROs.cons (RO.tmp (At.self (by decide)) (Ko rfl (by rw [List.take_of_length_le (by omega)])) rfl) <| ROs.nil) (by decide) OutsOK.nil
end Go.Proofs.YtmmjcpiikdcldaaGreatDoor.VL
