/- Proved here: what some functions of the program take and give: walks with the words of VA..VQ. Printed by program. -/
import Derived.Test.YtmmjcpiikdcldaaGreatDoorWT
import Derived.Test.YtmmjcpiikdcldaaGreatDoorBpa
import Derived.Test.YtmmjcpiikdcldaaGreatDoorWN
import Derived.Test.YtmmjcpiikdcldaaGreatDoorWB
import Derived.Test.YtmmjcpiikdcldaaGreatDoorWL
import Derived.Test.YtmmjcpiikdcldaaGreatDoorWX
import Derived.Test.YtmmjcpiikdcldaaGreatDoorWM
set_option linter.unusedVariables false
set_option linter.unusedSimpArgs false
set_option maxRecDepth 4000
namespace Go.Proofs.YtmmjcpiikdcldaaGreatDoor.VL
open Go
/-- spec.l01Holes -/
theorem c_spec_l01Holes_o (m : DMask) : AC Tryz.prog 132 [.agg kMask m] [.own 2 (Kd.int .i64) (hol m 96)] [] := by
 refine acI (N := 18) Tryz.func132 (Nat.le_of_ble_eq_true rfl) rfl fun w0 hd s0 ar => ?_
 refine AW.to (ka 0 rfl <| Kn) ?_
 refine sr ?_
 refine st (OpT.frz (OpT.boxA (E := 38) (H rfl) (T1 rfl))) rfl ?_
 refine st (nilO (E := 2) (Kd.int .i64) rfl (.inl rfl)) rfl ?_
 refine ng ?_
 refine sr ?_
 refine st (OpT.buildSlice0 (m := 0) (z := .bool false) (Kd.int .i64) (H rfl) el43 sz2 (by decide)) rfl ?_
 refine sg (OpT.take (.inl rfl) rfl (ok' rfl) (Root.self (by decide)) rfl rfl (by decide)) (ko 3 rfl <| ko 2 rfl <| kc 1 rfl <| ka 0 rfl <| Kn) rfl ?_
 refine ng ?_
 refine AW.seq ?_
 refine sr ?_
 refine st (asI rfl) rfl ?_
 refine ng ?_
 refine AW.block ?_
 refine AW.loop (fun z : Nat => z ≤ 96) (fun z : Nat => keep [(1, .cel (Kd.ptr kMask) m), (3, .own 2 (Kd.int .i64) (hol m z)), (4, .cel (Kd.int .i64) (z : Int))]) (fun z : Nat => 96 - z) (0) (Nat.zero_le _) (Kc 1 _ (Kv rfl rfl) <| Kc 3 _ (Ko rfl rfl) <| Kc 4 _ (Kv rfl rfl) <| Kn) ?_
 intro z hI
 refine AW.seq ?_
 refine sr ?_
 refine st (mvT rfl) rfl ?_
 refine st (OpT.lss (H rfl) (T1 rfl) (I rfl)) rfl ?_
 refine ng ?_
 refine cd rfl (fun hc1 => ?_) fun hc1 => ?_
 ·
  obtain ⟨hc1, hc1'⟩ := pT hc1
  refine AW.skip ?_
  refine AX.go ?_
  refine AW.seq ?_
  refine AW.block ?_
  refine sr ?_
  refine st (OpT.loadA (H rfl) (T1 rfl) ag38 sz38) rfl ?_
  refine st (mvT rfl) rfl ?_
  refine st (OpT.c1 (ms := [.flat, .flat]) (c_spec_l01Has _ _ (by omega)) (H rfl) (Af (T1 rfl) rfl rfl <| Af (T1 rfl) rfl rfl <| An) rfl rfl) rfl ?_
  refine ng ?_
  refine cd rfl (fun hc2 => ?_) fun hc2 => ?_
  ·
   obtain ⟨hc2, hc2'⟩ := pT hc2
   refine AW.region ?_
   refine st (OpT.alias (H rfl) (by decide) (by decide)) rfl ?_
   refine st (mvT rfl) rfl ?_
   refine st (OpT.buildSlice (H rfl) el43 zr2 sz2 rfl (by decide) zk2 (by decide) (Built.cel (T1 rfl) rfl rfl (sub_arr (by decide) (0 : Int)) (Built.nil _))) rfl ?_
   refine sg (OpT.append (H rfl) (Root.ali rfl (by decide) (by decide)) rfl (Src.own (Root.self (t := 15) (by decide)) rfl) (by decide) el43 zr2 rfl sz2 by2 (by decide) (by have := hol_len m z; simp only [List.length_set, List.length_replicate]; omega)) (ko 16 rfl <| ko 15 rfl <| kc3 14 12 11 rfl <| ka 10 rfl <| kc4 7 6 1 4 rfl <| Kn) rfl ?_
   refine sg (OpT.take (.inl rfl) rfl (ok' rfl) (Root.self (by decide)) rfl rfl (by decide)) (ko 3 rfl <| ko 15 rfl <| kc3 14 12 11 rfl <| ka 10 rfl <| kc4 7 6 1 4 rfl <| Kn) rfl ?_
   refine nn ?_
   refine AX.normal_block ?_
   refine AX.go ?_
   refine AW.region ?_
   refine st (mvT rfl) rfl ?_
   refine st (OpT.add (H rfl) (T1 rfl) (I rfl) (nw (by omega))) rfl ?_
   refine st (asT rfl) rfl ?_
   refine nn ?_
   exact AX.again (z + 1) (by omega) (by omega) (Kc 1 _ (Kv rfl rfl) <| Kc 3 _ (Ko rfl (by first | exact hol_yes hc2 (by omega) | exact hol_no hc2 (by omega))) <| Kc 4 _ (Kv rfl (by omega)) <| Kn)
  ·
   obtain ⟨hc2, hc2'⟩ := pF hc2
   refine AW.skip ?_
   refine AX.normal_block ?_
   refine AX.go ?_
   refine AW.region ?_
   refine st (mvT rfl) rfl ?_
   refine st (OpT.add (H rfl) (T1 rfl) (I rfl) (nw (by omega))) rfl ?_
   refine st (asT rfl) rfl ?_
   refine nn ?_
   exact AX.again (z + 1) (by omega) (by omega) (Kc 1 _ (Kv rfl rfl) <| Kc 3 _ (Ko rfl (by first | exact hol_yes hc2 (by omega) | exact hol_no hc2 (by omega))) <| Kc 4 _ (Kv rfl (by omega)) <| Kn)
 ·
  obtain ⟨hc1, hc1'⟩ := pF hc1
  refine AW.exit ?_
  refine xT <| xT <| AX.exit_hit ?_
  refine AX.go ?_
  refine sr ?_
  refine st (OpT.alias (H rfl) (by decide) (by decide)) rfl ?_
  refine sg (OpT.take (.inl rfl) rfl (ok' rfl) (Root.ali rfl (by decide) (by decide)) rfl rfl (by decide)) (ko 2 rfl <| kc4 7 6 1 4 rfl <| Kn) rfl ?_
  refine ng ?_
  refine AW.ret ?_
  exact AX.rt (rs := [.tmp 2]) (ts := [some 2]) (.inl rfl) rfl (ROs.cons (RO.tmp (At.self (by decide)) (Ko rfl (by rw [show z = 96 by omega])) rfl) <| ROs.nil) (by decide) OutsOK.nil
theorem c_spec_l01Holes (m : DMask) : AC Tryz.prog 132 [.agg kMask m] [.cel (Kd.slice (Kd.int .i64)) (hol m 96)] [] := (c_spec_l01Holes_o m).frz rfl

/-- spec.l07Holes -/
theorem c_spec_l07Holes (x : List DEdit) (k : Int) (s : ByteArray) (m : DMask) (h : x.length ≤ 100000) : AC Tryz.prog 104 [.own 63 kEdit x, .cel (Kd.int .i8) k, .cel Kd.str s, .agg kMask m] [.own 63 kEdit (x ++ (hol m 96).map (hlE k s))] [] := by
 refine acI (N := 31) Tryz.func104 (Nat.le_of_ble_eq_true rfl) rfl fun w0 hd s0 ar => ?_
 refine AW.to (ko 0 rfl <| kc2 1 2 rfl <| ka 3 rfl <| Kn) ?_
 have hol96 := hol_len m 96
 refine sr ?_
 refine st (OpT.frz (OpT.boxA (E := 38) (H rfl) (T1 rfl))) rfl ?_
 refine st (nilO (E := 63) kEdit rfl (.inl rfl)) rfl ?_
 refine ng ?_
 refine sr ?_
 refine st (OpT.loadA (H rfl) (T1 rfl) ag38 sz38) rfl ?_
 refine st (OpT.c1 (ms := [.flat]) (c_spec_l01Holes _) (H rfl) (Af (T1 rfl) rfl rfl <| An) rfl rfl) rfl ?_
 refine st (asT rfl) rfl ?_
 refine ng ?_
 refine AW.seq ?_
 refine sr ?_
 refine st (asI rfl) rfl ?_
 refine ng ?_
 refine AW.block ?_
 refine AW.loop (fun z : Nat => z ≤ (hol m 96).length) (fun z : Nat => keep [(0, .own 63 kEdit (x ++ ((hol m 96).take z).map (hlE k s))), (1, .cel (Kd.int .i8) k), (2, .cel Kd.str s), (9, .cel (Kd.slice (Kd.int .i64)) (hol m 96)), (10, .cel (Kd.int .i64) (z : Int))]) (fun z : Nat => (hol m 96).length - z) (0) (Nat.zero_le _) (Kc 0 _ (Ko rfl (by rw [List.take_zero, List.map_nil, List.append_nil])) <| Kc 1 _ (Kv rfl rfl) <| Kc 2 _ (Kv rfl rfl) <| Kc 9 _ (Kv rfl rfl) <| Kc 10 _ (Kv rfl rfl) <| Kn) ?_
 intro z hI
 refine AW.seq ?_
 refine sr ?_
 refine st (mvT rfl) rfl ?_
 refine st (mvT rfl) rfl ?_
 refine st (OpT.len (H rfl) (T1 rfl) el43) rfl ?_
 refine st (OpT.lss (H rfl) (T1 rfl) (T1 rfl)) rfl ?_
 refine ng ?_
 refine cd rfl (fun hc1 => ?_) fun hc1 => ?_
 ·
  obtain ⟨hc1, hc1'⟩ := pT hc1
  obtain ⟨v, hv⟩ := getI (x := hol m 96) (z := z) (by omega)
  have hvr := hol_mem (mem_getI hv)
  refine AW.skip ?_
  refine AX.go ?_
  refine AW.seq ?_
  refine AW.block ?_
  refine AW.region ?_
  refine st (OpT.alias (H rfl) (by decide) (by decide)) rfl ?_
  refine st (mvT rfl) rfl ?_
  refine st (mvT rfl) rfl ?_
  refine st (mvT rfl) rfl ?_
  refine st (mvT rfl) rfl ?_
  refine st (OpT.indexAddr (H rfl) (T1 rfl) (T1 rfl) el43 sz2 (by omega) (by assumption)) rfl ?_
  refine st (OpT.load (H rfl) (T1 rfl) ag2 rfl) rfl ?_
  refine st (OpT.conv (H rfl) us2 Tryz.underlying61 (T1 rfl) (nw16 (by omega))) rfl ?_
  refine st (OpT.build (H rfl) pl63 zr63 zk63 (Built.cel (T1 rfl) rfl rfl sb63_0 (Built.cel (T1 rfl) rfl rfl sb63_1 (Built.cel (T1 rfl) rfl rfl sb63_2 (Built.nil _))))) rfl ?_
  refine st (OpT.buildSlice (H rfl) el49 zr63 sz63 rfl (by decide) zk63 (by decide) (Built.agg (T1 rfl) rfl (by decide) (sub_arr (by decide) ((0, .empty, 0, (0, 0)) : Int × ByteArray × Int × (BitVec 64 × BitVec 64))) (Built.nil _))) rfl ?_
  refine sg (OpT.append (H rfl) (Root.ali rfl (by decide) (by decide)) rfl (Src.own (Root.self (t := 28) (by decide)) rfl) (by decide) el49 zr63 rfl sz63 by63 (by decide) (by simp only [List.length_append, List.length_map, List.length_take, List.length_set, List.length_replicate]; omega)) (ko 29 rfl <| ko 28 rfl <| ka 27 rfl <| kc4 26 25 24 23 rfl <| kc4 22 21 20 16 rfl <| kc4 15 14 13 1 rfl <| kc3 2 9 10 rfl <| Kn) rfl ?_
  refine sg (OpT.take (.inl rfl) rfl (ok' rfl) (Root.self (by decide)) rfl rfl (by decide)) (ko 0 rfl <| ko 28 rfl <| ka 27 rfl <| kc4 26 25 24 23 rfl <| kc4 22 21 20 16 rfl <| kc4 15 14 13 1 rfl <| kc3 2 9 10 rfl <| Kn) rfl ?_
  refine nn ?_
  refine AX.normal_block ?_
  refine AX.go ?_
  refine AW.region ?_
  refine st (mvT rfl) rfl ?_
  refine st (OpT.add (H rfl) (T1 rfl) (I rfl) (nw (by omega))) rfl ?_
  refine st (asT rfl) rfl ?_
  refine nn ?_
  exact AX.again (z + 1) (by omega) (by omega) (Kc 0 _ (Ko rfl (by rw [← map_more (f := hlE k s) hv, ← List.append_assoc]; rfl)) <| Kc 1 _ (Kv rfl rfl) <| Kc 2 _ (Kv rfl rfl) <| Kc 9 _ (Kv rfl rfl) <| Kc 10 _ (Kv rfl (by omega)) <| Kn)
 ·
  obtain ⟨hc1, hc1'⟩ := pF hc1
  refine AW.exit ?_
  refine xT <| xT <| AX.exit_hit ?_
  refine AX.go ?_
  refine sr ?_
  refine st (OpT.alias (H rfl) (by decide) (by decide)) rfl ?_
  refine sg (OpT.take (.inl rfl) rfl (ok' rfl) (Root.ali rfl (by decide) (by decide)) rfl rfl (by decide)) (ko 8 rfl <| kc4 16 15 14 13 rfl <| kc4 1 2 9 10 rfl <| Kn) rfl ?_
  refine ng ?_
  refine AW.ret ?_
  exact AX.rt (rs := [.tmp 8]) (ts := [some 8]) (.inl rfl) rfl (ROs.cons (RO.tmp (At.self (by decide)) (Ko rfl (by rw [List.take_of_length_le (by omega)])) rfl) <| ROs.nil) (by decide) OutsOK.nil

set_option maxHeartbeats 4000000 in
/-- spec.l07Between -/
theorem c_spec_l07Between_o (a b : List DCard) (h : a.length ≤ 80 ∧ b.length ≤ 80) : AC Tryz.prog 64 [.cel (Kd.slice kCard) a, .cel (Kd.slice kCard) b] [.own 63 kEdit (betw a b)] [] := by
 refine acI (N := 104) Tryz.func64 (Nat.le_of_ble_eq_true rfl) rfl fun w0 hd s0 ar => ?_
 refine AW.to (kc2 0 1 rfl <| Kn) ?_
 refine sr ?_
 refine st (nilO (E := 63) kEdit rfl (.inl rfl)) rfl ?_
 refine ng ?_
 refine sr ?_
 refine st (OpT.buildSlice0 (m := 0) (z := .bool false) kEdit (H rfl) el49 sz63 (by decide)) rfl ?_
 refine sg (OpT.take (.inl rfl) rfl (ok' rfl) (Root.self (by decide)) rfl rfl (by decide)) (ko 5 rfl <| ko 4 rfl <| kc2 0 1 rfl <| Kn) rfl ?_
 refine ng ?_
 refine AW.seq ?_
 refine sr ?_
 refine st (asI rfl) rfl ?_
 refine ng ?_
 refine AW.block ?_
 refine AW.loop (fun z : Nat => z ≤ a.length) (fun z : Nat => keep [(0, .cel (Kd.slice kCard) a), (1, .cel (Kd.slice kCard) b), (5, .own 63 kEdit ((a.take z).flatMap (btA b))), (6, .cel (Kd.int .i64) (z : Int))]) (fun z : Nat => a.length - z) (0) (Nat.zero_le _) (Kc 0 _ (Kv rfl rfl) <| Kc 1 _ (Kv rfl rfl) <| Kc 5 _ (Ko rfl rfl) <| Kc 6 _ (Kv rfl rfl) <| Kn) ?_
 intro z hI
 refine AW.seq ?_
 refine sr ?_
 refine st (mvT rfl) rfl ?_
 refine st (mvT rfl) rfl ?_
 refine st (OpT.len (H rfl) (T1 rfl) el26) rfl ?_
 refine st (OpT.lss (H rfl) (T1 rfl) (T1 rfl)) rfl ?_
 refine ng ?_
 refine cd rfl (fun hc1 => ?_) fun hc1 => ?_
 ·
  obtain ⟨hc1, hc1'⟩ := pT hc1
  obtain ⟨c, hcc⟩ := getI (x := a) (z := z) (by omega)
  refine AW.skip ?_
  refine AX.go ?_
  refine AW.seq ?_
  refine AW.block ?_
  refine sr ?_
  refine st (mvT rfl) rfl ?_
  refine st (mvT rfl) rfl ?_
  refine st (mvT rfl) rfl ?_
  refine st (OpT.indexAddr (H rfl) (T1 rfl) (T1 rfl) el26 sz40 (by omega) (by assumption)) rfl ?_
  refine st (OpT.fieldAddr (H rfl) (T1 rfl) fd40_0 sz9 (by decide) sb40_0) rfl ?_
  refine st (OpT.load (H rfl) (T1 rfl) ag9 rfl) rfl ?_
  refine st (OpT.c1 (ms := [.flat, .flat]) (c_spec_l02Find _ _) (H rfl) (Af (T1 rfl) rfl rfl <| Af (T1 rfl) rfl rfl <| An) rfl rfl) rfl ?_
  refine st (asT rfl) rfl ?_
  refine ng ?_
  refine AW.seq ?_
  refine sr ?_
  refine st (mvT rfl) rfl ?_
  refine st (OpT.lss (H rfl) (T1 rfl) (I rfl)) rfl ?_
  refine ng ?_
  refine cd rfl (fun hc2 => ?_) fun hc2 => ?_
  ·
   obtain ⟨hc2, hc2'⟩ := pT hc2
   refine AW.seq ?_
   refine dh fomo ?_
   refine d1 [] (fun ve h => OpT.alias (H rfl) (by decide) (by decide)) rfl ?_
   refine d1 [0] (fun ve h => OpT.move (A := .cel _ _) (.inl rfl) rfl (ok' rfl) (D1 h rfl) rfl) rfl ?_
   refine d1 [6] (fun ve h => OpT.move (A := .cel _ _) (.inl rfl) rfl (ok' rfl) (D1 h rfl) rfl) rfl ?_
   refine d1 [26, 27] (fun ve h => OpT.indexAddr (H rfl) (D1 h rfl) (D1 h rfl) el26 sz40 (by omega) (by assumption)) rfl ?_
   refine d1 [28] (fun ve h => OpT.fieldAddr (H rfl) (D1 h rfl) fd40_0 sz9 (by decide) sb40_0) rfl ?_
   refine d1 [29] (fun ve h => OpT.load (H rfl) (D1 h rfl) ag9 rfl) rfl ?_
   refine d1 [0] (fun ve h => OpT.move (A := .cel _ _) (.inl rfl) rfl (ok' rfl) (D1 h rfl) rfl) rfl ?_
   refine d1 [6] (fun ve h => OpT.move (A := .cel _ _) (.inl rfl) rfl (ok' rfl) (D1 h rfl) rfl) rfl ?_
   refine d1 [31, 32] (fun ve h => OpT.indexAddr (H rfl) (D1 h rfl) (D1 h rfl) el26 sz40 (by omega) (by assumption)) rfl ?_
   refine d1 [33] (fun ve h => OpT.fieldAddr (H rfl) (D1 h rfl) fd40_1 sz38 (by decide) sb40_1) rfl ?_
   refine d1 [34] (fun ve h => OpT.loadA (H rfl) (D1 h rfl) ag38 sz38) rfl ?_
   refine d1 [30, 35] (fun ve h => OpT.build (H rfl) pl63 zr63 zk63 (Built.cel (I rfl) rfl rfl sb63_0 (Built.cel (D1 h rfl) rfl rfl sb63_1 (Built.agg (D1 h rfl) rfl (by decide) sb63_3 (Built.nil _))))) rfl ?_
   refine d1 [36] (fun ve h => OpT.buildSlice (H rfl) el49 zr63 sz63 rfl (by decide) zk63 (by decide) (Built.agg (D1 h rfl) rfl (by decide) (sub_arr (by decide) ((0, .empty, 0, (0, 0)) : Int × ByteArray × Int × (BitVec 64 × BitVec 64))) (Built.nil _))) rfl ?_
   refine dt (t := 5) [5, 25, 37] (fun ve h => OpT.append (H rfl) (Root.ali ((h _ (List.elem_iff.1 rfl)).trans rfl) (by decide) (by decide)) ((h _ (List.elem_iff.1 rfl)).trans rfl) (Src.own (Root.self (t := 37) (by decide)) ((h _ (List.elem_iff.1 rfl)).trans rfl)) (by decide) el49 zr63 rfl sz63 by63 (by decide) (by have h70 := flatA_len b (a.take z); (try simp only [List.length_append, List.length_map, List.length_take, List.length_set, List.length_replicate] at *); omega)) rfl ?_
   refine dt (t := 38) [38] (fun ve h => OpT.take (.inl rfl) rfl (ok' rfl) (Root.self (by decide)) ((h _ (List.elem_iff.1 rfl)).trans rfl) rfl (by decide)) rfl ?_
   refine dn ⟨by kernel_rfl, by kernel_rfl, ?_⟩
   refine AX.go ?_
   refine AW.exit ?_
   refine xT <| AX.exit_hit ?_
   refine AX.go ?_
   refine AW.region ?_
   refine st (mvT rfl) rfl ?_
   refine st (OpT.add (H rfl) (T1 rfl) (I rfl) (nw (by omega))) rfl ?_
   refine st (asT rfl) rfl ?_
   refine nn ?_
   exact AX.again (z + 1) (by omega) (by omega) (Kc 0 _ (Kv rfl rfl) <| Kc 1 _ (Kv rfl rfl) <| Kc 5 _ (Ko rfl (by first | (rw [← flat_next (f := btA b) hcc, btA_no (by omega)]; rfl) | (rw [← flat_next (f := btA b) hcc, btA_yes (by omega) hdd, ← List.append_assoc]))) <| Kc 6 _ (Kv rfl (by omega)) <| Kn)
  ·
   obtain ⟨hc2, hc2'⟩ := pF hc2
   obtain ⟨d, hdd, hdn, hdl⟩ := findC_get (s := c.1) (y := b) (decide_eq_false (by omega))
   refine AW.skip ?_
   refine AX.go ?_
   refine AW.seq ?_
   refine dh fomo ?_
   refine d1 [] (fun ve h => OpT.alias (H rfl) (by decide) (by decide)) rfl ?_
   refine d1 [0] (fun ve h => OpT.move (A := .cel _ _) (.inl rfl) rfl (ok' rfl) (D1 h rfl) rfl) rfl ?_
   refine d1 [6] (fun ve h => OpT.move (A := .cel _ _) (.inl rfl) rfl (ok' rfl) (D1 h rfl) rfl) rfl ?_
   refine d1 [40, 41] (fun ve h => OpT.indexAddr (H rfl) (D1 h rfl) (D1 h rfl) el26 sz40 (by omega) (by assumption)) rfl ?_
   refine d1 [42] (fun ve h => OpT.fieldAddr (H rfl) (D1 h rfl) fd40_0 sz9 (by decide) sb40_0) rfl ?_
   refine d1 [43] (fun ve h => OpT.load (H rfl) (D1 h rfl) ag9 rfl) rfl ?_
   refine d1 [0] (fun ve h => OpT.move (A := .cel _ _) (.inl rfl) rfl (ok' rfl) (D1 h rfl) rfl) rfl ?_
   refine d1 [6] (fun ve h => OpT.move (A := .cel _ _) (.inl rfl) rfl (ok' rfl) (D1 h rfl) rfl) rfl ?_
   refine d1 [45, 46] (fun ve h => OpT.indexAddr (H rfl) (D1 h rfl) (D1 h rfl) el26 sz40 (by omega) (by assumption)) rfl ?_
   refine d1 [47] (fun ve h => OpT.fieldAddr (H rfl) (D1 h rfl) fd40_1 sz38 (by decide) sb40_1) rfl ?_
   refine d1 [48] (fun ve h => OpT.loadA (H rfl) (D1 h rfl) ag38 sz38) rfl ?_
   refine d1 [1] (fun ve h => OpT.move (A := .cel _ _) (.inl rfl) rfl (ok' rfl) (D1 h rfl) rfl) rfl ?_
   refine d1 [7] (fun ve h => OpT.move (A := .cel _ _) (.inl rfl) rfl (ok' rfl) (D1 h rfl) rfl) rfl ?_
   refine d1 [50, 51] (fun ve h => OpT.indexAddr (H rfl) (D1 h rfl) (D1 h rfl) el26 sz40 (by omega) (by assumption)) rfl ?_
   refine d1 [52] (fun ve h => OpT.fieldAddr (H rfl) (D1 h rfl) fd40_1 sz38 (by decide) sb40_1) rfl ?_
   refine d1 [53] (fun ve h => OpT.loadA (H rfl) (D1 h rfl) ag38 sz38) rfl ?_
   refine d1 [49, 54] (fun ve h => OpT.c1 (ms := [.flat, .flat]) (c_spec_l01Less _ _) (H rfl) (Af (D1 h rfl) rfl rfl <| Af (D1 h rfl) rfl rfl <| An) rfl rfl) rfl ?_
   refine dw (t := 5) [5, 39, 44, 55] (fun ve h => crd (ms := [.root 5, .flat, .flat, .flat]) (c_spec_l07Holes _ _ _ _ (by have h70 := flatA_len b (a.take z); (try simp only [List.length_append, List.length_map, List.length_take, List.length_set, List.length_replicate] at *); omega)) (H rfl) (Ar (O := .any) (Root.ali ((h _ (List.elem_iff.1 rfl)).trans rfl) (by decide) (by decide)) ((h _ (List.elem_iff.1 rfl)).trans rfl) rfl rfl <| Af (I rfl) rfl rfl <| Af (D1 h rfl) rfl rfl <| Af (D1 h rfl) rfl rfl <| An) rfl) rfl ?_
   refine dt (t := 56) [56] (fun ve h => OpT.take (.inl rfl) rfl (ok' rfl) (Root.self (by decide)) ((h _ (List.elem_iff.1 rfl)).trans rfl) rfl (by decide)) rfl ?_
   refine dn ⟨by kernel_rfl, by kernel_rfl, ?_⟩
   refine AX.go ?_
   refine dh fomo ?_
   refine d1 [] (fun ve h => OpT.alias (H rfl) (by decide) (by decide)) rfl ?_
   refine d1 [0] (fun ve h => OpT.move (A := .cel _ _) (.inl rfl) rfl (ok' rfl) (D1 h rfl) rfl) rfl ?_
   refine d1 [6] (fun ve h => OpT.move (A := .cel _ _) (.inl rfl) rfl (ok' rfl) (D1 h rfl) rfl) rfl ?_
   refine d1 [58, 59] (fun ve h => OpT.indexAddr (H rfl) (D1 h rfl) (D1 h rfl) el26 sz40 (by omega) (by assumption)) rfl ?_
   refine d1 [60] (fun ve h => OpT.fieldAddr (H rfl) (D1 h rfl) fd40_0 sz9 (by decide) sb40_0) rfl ?_
   refine d1 [61] (fun ve h => OpT.load (H rfl) (D1 h rfl) ag9 rfl) rfl ?_
   refine d1 [1] (fun ve h => OpT.move (A := .cel _ _) (.inl rfl) rfl (ok' rfl) (D1 h rfl) rfl) rfl ?_
   refine d1 [7] (fun ve h => OpT.move (A := .cel _ _) (.inl rfl) rfl (ok' rfl) (D1 h rfl) rfl) rfl ?_
   refine d1 [63, 64] (fun ve h => OpT.indexAddr (H rfl) (D1 h rfl) (D1 h rfl) el26 sz40 (by omega) (by assumption)) rfl ?_
   refine d1 [65] (fun ve h => OpT.fieldAddr (H rfl) (D1 h rfl) fd40_1 sz38 (by decide) sb40_1) rfl ?_
   refine d1 [66] (fun ve h => OpT.loadA (H rfl) (D1 h rfl) ag38 sz38) rfl ?_
   refine d1 [0] (fun ve h => OpT.move (A := .cel _ _) (.inl rfl) rfl (ok' rfl) (D1 h rfl) rfl) rfl ?_
   refine d1 [6] (fun ve h => OpT.move (A := .cel _ _) (.inl rfl) rfl (ok' rfl) (D1 h rfl) rfl) rfl ?_
   refine d1 [68, 69] (fun ve h => OpT.indexAddr (H rfl) (D1 h rfl) (D1 h rfl) el26 sz40 (by omega) (by assumption)) rfl ?_
   refine d1 [70] (fun ve h => OpT.fieldAddr (H rfl) (D1 h rfl) fd40_1 sz38 (by decide) sb40_1) rfl ?_
   refine d1 [71] (fun ve h => OpT.loadA (H rfl) (D1 h rfl) ag38 sz38) rfl ?_
   refine d1 [67, 72] (fun ve h => OpT.c1 (ms := [.flat, .flat]) (c_spec_l01Less _ _) (H rfl) (Af (D1 h rfl) rfl rfl <| Af (D1 h rfl) rfl rfl <| An) rfl rfl) rfl ?_
   refine dw (t := 5) [5, 57, 62, 73] (fun ve h => crd (ms := [.root 5, .flat, .flat, .flat]) (c_spec_l07Holes _ _ _ _ (by have h70 := flatA_len b (a.take z); have h71 := hol_len (lessM c.2 d.2) 96; (try simp only [List.length_append, List.length_map, List.length_take, List.length_set, List.length_replicate] at *); omega)) (H rfl) (Ar (O := .any) (Root.ali ((h _ (List.elem_iff.1 rfl)).trans rfl) (by decide) (by decide)) ((h _ (List.elem_iff.1 rfl)).trans rfl) rfl rfl <| Af (I rfl) rfl rfl <| Af (D1 h rfl) rfl rfl <| Af (D1 h rfl) rfl rfl <| An) rfl) rfl ?_
   refine dt (t := 74) [74] (fun ve h => OpT.take (.inl rfl) rfl (ok' rfl) (Root.self (by decide)) ((h _ (List.elem_iff.1 rfl)).trans rfl) rfl (by decide)) rfl ?_
   refine dn ⟨by kernel_rfl, by kernel_rfl, ?_⟩
   refine AX.normal_block ?_
   refine AX.go ?_
   refine AW.region ?_
   refine st (mvT rfl) rfl ?_
   refine st (OpT.add (H rfl) (T1 rfl) (I rfl) (nw (by omega))) rfl ?_
   refine st (asT rfl) rfl ?_
   refine nn ?_
   exact AX.again (z + 1) (by omega) (by omega) (Kc 0 _ (Kv rfl rfl) <| Kc 1 _ (Kv rfl rfl) <| Kc 5 _ (Ko rfl (by first | (rw [← flat_next (f := btA b) hcc, btA_no (by omega)]; rfl) | (rw [← flat_next (f := btA b) hcc, btA_yes (by omega) hdd, ← List.append_assoc]))) <| Kc 6 _ (Kv rfl (by omega)) <| Kn)
 ·
  obtain ⟨hc1, hc1'⟩ := pF hc1
  refine AW.exit ?_
  refine xT <| xT <| AX.exit_hit ?_
  refine AX.go ?_
  refine AW.seq ?_
  refine sr ?_
  refine st (asI rfl) rfl ?_
  refine ng ?_
  refine AW.block ?_
  refine AW.loop (fun y : Nat => y ≤ b.length) (fun y : Nat => keep [(0, .cel (Kd.slice kCard) a), (1, .cel (Kd.slice kCard) b), (5, .own 63 kEdit (a.flatMap (btA b) ++ ((b.take y).filter (btN a)).map btM)), (8, .cel (Kd.int .i64) (y : Int))]) (fun y : Nat => b.length - y) (0) (Nat.zero_le _) (Kc 0 _ (Kv rfl rfl) <| Kc 1 _ (Kv rfl rfl) <| Kc 5 _ (Ko rfl (by rw [List.take_of_length_le (l := a) (by omega), List.take_zero, List.filter_nil, List.map_nil, List.append_nil])) <| Kc 8 _ (Kv rfl rfl) <| Kn) ?_
  intro y hI
  refine AW.seq ?_
  refine sr ?_
  refine st (mvT rfl) rfl ?_
  refine st (mvT rfl) rfl ?_
  refine st (OpT.len (H rfl) (T1 rfl) el26) rfl ?_
  refine st (OpT.lss (H rfl) (T1 rfl) (T1 rfl)) rfl ?_
  refine ng ?_
  refine cd rfl (fun hc3 => ?_) fun hc3 => ?_
  ·
   obtain ⟨hc3, hc3'⟩ := pT hc3
   obtain ⟨c, hcc⟩ := getI (x := b) (z := y) (by omega)
   refine AW.skip ?_
   refine AX.go ?_
   refine AW.seq ?_
   refine AW.block ?_
   refine sr ?_
   refine st (mvT rfl) rfl ?_
   refine st (mvT rfl) rfl ?_
   refine st (mvT rfl) rfl ?_
   refine st (OpT.indexAddr (H rfl) (T1 rfl) (T1 rfl) el26 sz40 (by omega) (by assumption)) rfl ?_
   refine st (OpT.fieldAddr (H rfl) (T1 rfl) fd40_0 sz9 (by decide) sb40_0) rfl ?_
   refine st (OpT.load (H rfl) (T1 rfl) ag9 rfl) rfl ?_
   refine st (OpT.c1 (ms := [.flat, .flat]) (c_spec_l02Find _ _) (H rfl) (Af (T1 rfl) rfl rfl <| Af (T1 rfl) rfl rfl <| An) rfl rfl) rfl ?_
   refine st (OpT.lss (H rfl) (T1 rfl) (I rfl)) rfl ?_
   refine ng ?_
   refine cd rfl (fun hc4 => ?_) fun hc4 => ?_
   ·
    obtain ⟨hc4, hc4'⟩ := pT hc4
    refine dh fomo ?_
    refine d1 [] (fun ve h => OpT.alias (H rfl) (by decide) (by decide)) rfl ?_
    refine d1 [1] (fun ve h => OpT.move (A := .cel _ _) (.inl rfl) rfl (ok' rfl) (D1 h rfl) rfl) rfl ?_
    refine d1 [8] (fun ve h => OpT.move (A := .cel _ _) (.inl rfl) rfl (ok' rfl) (D1 h rfl) rfl) rfl ?_
    refine d1 [90, 91] (fun ve h => OpT.indexAddr (H rfl) (D1 h rfl) (D1 h rfl) el26 sz40 (by omega) (by assumption)) rfl ?_
    refine d1 [92] (fun ve h => OpT.fieldAddr (H rfl) (D1 h rfl) fd40_0 sz9 (by decide) sb40_0) rfl ?_
    refine d1 [93] (fun ve h => OpT.load (H rfl) (D1 h rfl) ag9 rfl) rfl ?_
    refine d1 [1] (fun ve h => OpT.move (A := .cel _ _) (.inl rfl) rfl (ok' rfl) (D1 h rfl) rfl) rfl ?_
    refine d1 [8] (fun ve h => OpT.move (A := .cel _ _) (.inl rfl) rfl (ok' rfl) (D1 h rfl) rfl) rfl ?_
    refine d1 [95, 96] (fun ve h => OpT.indexAddr (H rfl) (D1 h rfl) (D1 h rfl) el26 sz40 (by omega) (by assumption)) rfl ?_
    refine d1 [97] (fun ve h => OpT.fieldAddr (H rfl) (D1 h rfl) fd40_1 sz38 (by decide) sb40_1) rfl ?_
    refine d1 [98] (fun ve h => OpT.loadA (H rfl) (D1 h rfl) ag38 sz38) rfl ?_
    refine d1 [94, 99] (fun ve h => OpT.build (H rfl) pl63 zr63 zk63 (Built.cel (I rfl) rfl rfl sb63_0 (Built.cel (D1 h rfl) rfl rfl sb63_1 (Built.agg (D1 h rfl) rfl (by decide) sb63_3 (Built.nil _))))) rfl ?_
    refine d1 [100] (fun ve h => OpT.buildSlice (H rfl) el49 zr63 sz63 rfl (by decide) zk63 (by decide) (Built.agg (D1 h rfl) rfl (by decide) (sub_arr (by decide) ((0, .empty, 0, (0, 0)) : Int × ByteArray × Int × (BitVec 64 × BitVec 64))) (Built.nil _))) rfl ?_
    refine dt (t := 5) [5, 89, 101] (fun ve h => OpT.append (H rfl) (Root.ali ((h _ (List.elem_iff.1 rfl)).trans rfl) (by decide) (by decide)) ((h _ (List.elem_iff.1 rfl)).trans rfl) (Src.own (Root.self (t := 101) (by decide)) ((h _ (List.elem_iff.1 rfl)).trans rfl)) (by decide) el49 zr63 rfl sz63 by63 (by decide) (by have h70 := flatA_len b a; have h71 := List.length_filter_le (btN a) (b.take y); rw [List.length_take] at h71; simp only [List.length_append, List.length_map, List.length_set, List.length_replicate]; omega)) rfl ?_
    refine dt (t := 102) [102] (fun ve h => OpT.take (.inl rfl) rfl (ok' rfl) (Root.self (by decide)) ((h _ (List.elem_iff.1 rfl)).trans rfl) rfl (by decide)) rfl ?_
    refine dn ⟨by kernel_rfl, by kernel_rfl, ?_⟩
    refine AX.normal_block ?_
    refine AX.go ?_
    refine AW.region ?_
    refine st (mvT rfl) rfl ?_
    refine st (OpT.add (H rfl) (T1 rfl) (I rfl) (nw (by omega))) rfl ?_
    refine st (asT rfl) rfl ?_
    refine nn ?_
    exact AX.again (y + 1) (by omega) (by omega) (Kc 0 _ (Kv rfl rfl) <| Kc 1 _ (Kv rfl rfl) <| Kc 5 _ (Ko rfl (by first | (rw [← filter_yes (q := btN a) hcc (decide_eq_true (by omega)), List.map_append, ← List.append_assoc]; rfl) | (rw [← filter_no (q := btN a) hcc (decide_eq_false (by omega))]))) <| Kc 8 _ (Kv rfl (by omega)) <| Kn)
   ·
    obtain ⟨hc4, hc4'⟩ := pF hc4
    refine AW.skip ?_
    refine AX.normal_block ?_
    refine AX.go ?_
    refine AW.region ?_
    refine st (mvT rfl) rfl ?_
    refine st (OpT.add (H rfl) (T1 rfl) (I rfl) (nw (by omega))) rfl ?_
    refine st (asT rfl) rfl ?_
    refine nn ?_
    exact AX.again (y + 1) (by omega) (by omega) (Kc 0 _ (Kv rfl rfl) <| Kc 1 _ (Kv rfl rfl) <| Kc 5 _ (Ko rfl (by first | (rw [← filter_yes (q := btN a) hcc (decide_eq_true (by omega)), List.map_append, ← List.append_assoc]; rfl) | (rw [← filter_no (q := btN a) hcc (decide_eq_false (by omega))]))) <| Kc 8 _ (Kv rfl (by omega)) <| Kn)
  ·
   obtain ⟨hc3, hc3'⟩ := pF hc3
   refine AW.exit ?_
   refine xT <| xT <| AX.exit_hit ?_
   refine AX.go ?_
   refine sr ?_
   refine st (OpT.alias (H rfl) (by decide) (by decide)) rfl ?_
   refine sg (OpT.take (.inl rfl) rfl (ok' rfl) (Root.ali rfl (by decide) (by decide)) rfl rfl (by decide)) (ko 4 rfl <| kc4 78 77 76 75 rfl <| kc3 0 1 8 rfl <| Kn) rfl ?_
   refine ng ?_
   refine AW.ret ?_
   exact AX.rt (rs := [.tmp 4]) (ts := [some 4]) (.inl rfl) rfl (ROs.cons (RO.tmp (At.self (by decide)) (Ko rfl (by rw [betw, List.take_of_length_le (by omega)])) rfl) <| ROs.nil) (by decide) OutsOK.nil
/-- spec.EditsBetween -/
theorem c_spec_EditsBetween_o (a b : List DCard) : AC Tryz.prog 23 [.cel (Kd.slice kCard) a, .cel (Kd.slice kCard) b] [.own 63 kEdit (btwS a b).1, .cel (Kd.int .i64) (btwS a b).2] [] := by
 refine acI (N := 24) Tryz.func23 (Nat.le_of_ble_eq_true rfl) rfl fun w0 hd s0 ar => ?_
 refine AW.to (kc2 0 1 rfl <| Kn) ?_
 refine sr ?_
 refine st (nilO (E := 63) kEdit rfl (.inl rfl)) rfl ?_
 refine st (asI rfl) rfl ?_
 refine ng ?_
 refine AW.seq ?_
 refine sr ?_
 refine st (mvT rfl) rfl ?_
 refine st (OpT.c1 (ms := [.flat]) (c_spec_l02Ok _) (H rfl) (Af (T1 rfl) rfl rfl <| An) rfl rfl) rfl ?_
 refine st (OpT.not (H rfl) (T1 rfl)) rfl ?_
 refine st (mvT rfl) rfl ?_
 apply AWl.or (d := 14) (t := 10) rfl
 ·
  intro hb1 Q1 k1
  have hb1' := lF hb1
  refine rs hb1 (mvT rfl) rfl ?_
  refine rs hb1 (OpT.c1 (ms := [.flat]) (c_spec_l02Ok _) (H rfl) (Af (T1 rfl) rfl rfl <| An) rfl rfl) rfl ?_
  refine rs hb1 (OpT.not (H rfl) (T1 rfl)) rfl ?_
  refine st (OpT.pickF (A := .cel _ _) (H rfl) (T1 rfl) hb1 (T1 rfl) rfl) rfl ?_
  exact AWl.to (junk 3 rfl) k1
 ·
  intro hb1 Q1 k1
  refine ps hb1 rfl ?_
  refine ps hb1 rfl ?_
  refine ps hb1 rfl ?_
  refine st (OpT.pickT (A := .cel _ _) (H rfl) (T1 rfl) hb1 Opd.bool rfl) rfl ?_
  exact k1
 refine ng ?_
 refine cd rfl (fun hc1 => ?_) fun hc1 => ?_
 ·
  obtain ⟨hc1, hc1'⟩ := pT hc1
  refine sr ?_
  refine st (OpT.buildSlice0 (m := 0) (z := .bool false) kEdit (H rfl) el49 sz63 (by decide)) rfl ?_
  refine sg (OpT.take (.inl rfl) rfl (ok' rfl) (Root.self (by decide)) rfl rfl (by decide)) (ko 4 rfl <| kc4 14 10 9 8 rfl <| kc4 7 5 0 1 rfl <| Kn) rfl ?_
  refine st (asI rfl) rfl ?_
  refine ng ?_
  refine AW.ret ?_
  refine rT ?_
  exact AX.rt (rs := [.tmp 4, .tmp 5]) (ts := [some 4, some 5]) (.inl rfl) rfl (ROs.cons (RO.tmp (At.self (by decide)) (Ko rfl (by first | (rw [btw_bad hc1]; done) | (rw [btw_long hc1 (by omega)]; done) | (rw [btw_ok hc1 (by omega)]; done) | (rw [btw_ok hc1 (by omega)]; exact hbe))) rfl) <| ROs.cons (RO.tmp (At.self (by decide)) (Kv rfl (by first | (rw [btw_bad hc1]; done) | (rw [btw_long hc1 (by omega)]; done) | (rw [btw_ok hc1 (by omega)]; done) | (rw [btw_ok hc1 (by omega)]; exact hbe))) rfl) <| ROs.nil) (by decide) OutsOK.nil
 ·
  obtain ⟨hc1, hc1'⟩ := pF hc1
  have hds := decks_two hc1
  refine AW.skip ?_
  refine AX.go ?_
  refine sr ?_
  refine st (mvT rfl) rfl ?_
  refine st (mvT rfl) rfl ?_
  refine st (OpT.c1 (ms := [.flat, .flat]) (c_spec_l07Between_o _ _ ⟨hds.1, hds.2.1⟩) (H rfl) (Af (T1 rfl) rfl rfl <| Af (T1 rfl) rfl rfl <| An) rfl rfl) rfl ?_
  refine sg (OpT.take (.inl rfl) rfl (ok' rfl) (Root.self (by decide)) rfl rfl (by decide)) (ko 6 rfl <| kc4 17 16 14 10 rfl <| kc4 9 8 7 5 rfl <| ko 4 rfl <| kc2 0 1 rfl <| Kn) rfl ?_
  refine ng ?_
  refine AW.seq ?_
  refine sr ?_
  refine st (OpT.alias (H rfl) (by decide) (by decide)) rfl ?_
  refine st (OpT.lenO (H rfl) (Root.ali rfl (by decide) (by decide)) rfl el49) rfl ?_
  refine st (OpT.gtr (H rfl) (T1 rfl) (I rfl)) rfl ?_
  refine AWl.to (kc 21 rfl <| ko 6 rfl <| kc 5 rfl <| ko 4 rfl <| Kn) ?_
  refine ng ?_
  refine cd rfl (fun hc2 => ?_) fun hc2 => ?_
  ·
   obtain ⟨hc2, hc2'⟩ := pT hc2
   refine sr ?_
   refine st (OpT.buildSlice0 (m := 0) (z := .bool false) kEdit (H rfl) el49 sz63 (by decide)) rfl ?_
   refine sg (OpT.take (.inl rfl) rfl (ok' rfl) (Root.self (by decide)) rfl rfl (by decide)) (ko 4 rfl <| kc 21 rfl <| ko 6 rfl <| kc 5 rfl <| Kn) rfl ?_
   refine st (asI rfl) rfl ?_
   refine ng ?_
   refine AW.ret ?_
   refine rT ?_
   exact AX.rt (rs := [.tmp 4, .tmp 5]) (ts := [some 4, some 5]) (.inl rfl) rfl (ROs.cons (RO.tmp (At.self (by decide)) (Ko rfl (by first | (rw [btw_bad hc1]; done) | (rw [btw_long hc1 (by omega)]; done) | (rw [btw_ok hc1 (by omega)]; done) | (rw [btw_ok hc1 (by omega)]; exact hbe))) rfl) <| ROs.cons (RO.tmp (At.self (by decide)) (Kv rfl (by first | (rw [btw_bad hc1]; done) | (rw [btw_long hc1 (by omega)]; done) | (rw [btw_ok hc1 (by omega)]; done) | (rw [btw_ok hc1 (by omega)]; exact hbe))) rfl) <| ROs.nil) (by decide) OutsOK.nil
  ·
   obtain ⟨hc2, hc2'⟩ := pF hc2
   refine AW.skip ?_
   refine AX.go ?_
   refine sr ?_
   refine st (OpT.alias (H rfl) (by decide) (by decide)) rfl ?_
   refine sg (OpT.take (.inl rfl) rfl (ok' rfl) (Root.ali rfl (by decide) (by decide)) rfl rfl (by decide)) (ko 4 rfl <| kc2 21 5 rfl <| Kn) rfl ?_
   refine st (asI rfl) rfl ?_
   refine ng ?_
   refine AW.ret ?_
   exact AX.rt (rs := [.tmp 4, .tmp 5]) (ts := [some 4, some 5]) (.inl rfl) rfl (ROs.cons (RO.tmp (At.self (by decide)) (Ko rfl (by first | (rw [btw_bad hc1]; done) | (rw [btw_long hc1 (by omega)]; done) | (rw [btw_ok hc1 (by omega)]; done) | (rw [btw_ok hc1 (by omega)]; exact hbe))) rfl) <| ROs.cons (RO.tmp (At.self (by decide)) (Kv rfl (by first | (rw [btw_bad hc1]; done) | (rw [btw_long hc1 (by omega)]; done) | (rw [btw_ok hc1 (by omega)]; done) | (rw [btw_ok hc1 (by omega)]; exact hbe))) rfl) <| ROs.nil) (by decide) OutsOK.nil
theorem c_spec_EditsBetween (a b : List DCard) : AC Tryz.prog 23 [.cel (Kd.slice kCard) a, .cel (Kd.slice kCard) b] [.cel (Kd.slice kEdit) (btwS a b).1, .cel (Kd.int .i64) (btwS a b).2] [] := (c_spec_EditsBetween_o a b).frz rfl

set_option maxHeartbeats 4000000 in
/-- impl.EditsBetween -/
theorem c_impl_EditsBetween_o (a b : List DCard) : AC Tryz.prog 22 [.cel (Kd.slice kCard) a, .cel (Kd.slice kCard) b] [.own 63 kEdit (btwS a b).1, .cel (Kd.int .i64) (btwS a b).2] [] := by
 refine acI (N := 116) Tryz.func22 (Nat.le_of_ble_eq_true rfl) rfl fun w0 hd s0 ar => ?_
 refine AW.to (kc2 0 1 rfl <| Kn) ?_
 refine AW.fact (fun a w hr => (ok_slice (R_ok (t := 0) rfl hr)).2) (fun hl0 => ?_)
 refine AW.fact (fun a w hr => (ok_slice (R_ok (t := 1) rfl hr)).2) (fun hl1 => ?_)
 refine sr ?_
 refine st (nilO (E := 63) kEdit rfl (.inl rfl)) rfl ?_
 refine st (asI rfl) rfl ?_
 refine ng ?_
 refine AW.seq ?_
 refine sr ?_
 refine st (mvT rfl) rfl ?_
 refine st (OpT.c1 (ms := [.flat]) (c_impl_isDeck _) (H rfl) (Af (T1 rfl) rfl rfl <| An) rfl rfl) rfl ?_
 refine st (OpT.not (H rfl) (T1 rfl)) rfl ?_
 refine st (mvT rfl) rfl ?_
 apply AWl.or (d := 23) (t := 19) rfl
 ·
  intro hb1 Q1 k1
  have hb1' := lF hb1
  refine rs hb1 (mvT rfl) rfl ?_
  refine rs hb1 (OpT.c1 (ms := [.flat]) (c_impl_isDeck _) (H rfl) (Af (T1 rfl) rfl rfl <| An) rfl rfl) rfl ?_
  refine rs hb1 (OpT.not (H rfl) (T1 rfl)) rfl ?_
  refine st (OpT.pickF (A := .cel _ _) (H rfl) (T1 rfl) hb1 (T1 rfl) rfl) rfl ?_
  exact AWl.to (junk 3 rfl) k1
 ·
  intro hb1 Q1 k1
  refine ps hb1 rfl ?_
  refine ps hb1 rfl ?_
  refine ps hb1 rfl ?_
  refine st (OpT.pickT (A := .cel _ _) (H rfl) (T1 rfl) hb1 Opd.bool rfl) rfl ?_
  exact k1
 refine ng ?_
 refine cd rfl (fun hc1 => ?_) fun hc1 => ?_
 ·
  obtain ⟨hc1, hc1'⟩ := pT hc1
  refine sr ?_
  refine st (nilO (E := 63) kEdit rfl (.inl rfl)) rfl ?_
  refine st (asI rfl) rfl ?_
  refine ng ?_
  refine AW.ret ?_
  refine rT ?_
  exact AX.rt (rs := [.tmp 4, .tmp 5]) (ts := [some 4, some 5]) (.inl rfl) rfl (ROs.cons (RO.tmp (At.self (by decide)) (Ko rfl (by first | (rw [btw_bad hc1]; done) | (rw [btw_long hc1 (by omega)]; done) | (rw [btw_ok hc1 (by omega)]; done) | (rw [btw_ok hc1 (by omega)]; exact hbe))) rfl) <| ROs.cons (RO.tmp (At.self (by decide)) (Kv rfl (by first | (rw [btw_bad hc1]; done) | (rw [btw_long hc1 (by omega)]; done) | (rw [btw_ok hc1 (by omega)]; done) | (rw [btw_ok hc1 (by omega)]; exact hbe))) rfl) <| ROs.nil) (by decide) OutsOK.nil
 ·
  obtain ⟨hc1, hc1'⟩ := pF hc1
  have hds := decks_two hc1
  refine AW.skip ?_
  refine AX.go ?_
  refine sr ?_
  refine st (OpT.buildSlice0 (m := 0) (z := .bool false) kEdit (H rfl) el49 sz63 (by decide)) rfl ?_
  refine sg (OpT.take (.inl rfl) rfl (ok' rfl) (Root.self (by decide)) rfl rfl (by decide)) (ko 6 rfl <| kc4 23 19 18 17 rfl <| kc2 16 5 rfl <| ko 4 rfl <| kc2 0 1 rfl <| Kn) rfl ?_
  refine ng ?_
  refine AW.seq ?_
  refine sr ?_
  refine st (mvT rfl) rfl ?_
  refine st (OpT.len (H rfl) (T1 rfl) el26) rfl ?_
  refine st (mvI rfl) rfl ?_
  refine ng ?_
  refine AW.block ?_
  refine AW.loop (fun z : Nat => z ≤ a.length) (fun z : Nat => keep [(0, .cel (Kd.slice kCard) a), (1, .cel (Kd.slice kCard) b), (6, .own 63 kEdit ((a.take z).flatMap (btA b))), (25, .cel (Kd.slice kCard) a), (26, .cel (Kd.int .i64) (a.length : Int)), (27, .cel (Kd.int .i64) (z : Int))]) (fun z : Nat => a.length - z) (0) (Nat.zero_le _) (Kc 0 _ (Kv rfl rfl) <| Kc 1 _ (Kv rfl rfl) <| Kc 6 _ (Ko rfl rfl) <| Kc 25 _ (Kv rfl rfl) <| Kc 26 _ (Kv rfl rfl) <| Kc 27 _ (Kv rfl rfl) <| Kn) ?_
  intro z hI
  refine sr ?_
  refine st (OpT.lss (H rfl) (T1 rfl) (T1 rfl)) rfl ?_
  refine ng ?_
  refine AW.seq ?_
  refine cd rfl (fun hc2 => ?_) fun hc2 => ?_
  ·
   obtain ⟨hc2, hc2'⟩ := pT hc2
   obtain ⟨c, hcc⟩ := getI (x := a) (z := z) (by omega)
   refine AW.skip ?_
   refine AX.go ?_
   refine AW.seq ?_
   refine AW.block ?_
   refine sr ?_
   refine st (OpT.indexAddr (H rfl) (T1 rfl) (T1 rfl) el26 sz40 (by omega) (by assumption)) rfl ?_
   refine st (OpT.loadA (H rfl) (T1 rfl) ag40 sz40) rfl ?_
   refine st (OpT.alloc (H rfl) zr40 zk40) rfl ?_
   refine sk (OpT.storeBA rfl rfl (Opd.whole (Root.self (t := 8) (by decide)) rfl) rfl sz40 (by decide) (T1 rfl)) rfl ?_
   refine ng ?_
   refine sr ?_
   refine st (mvT rfl) rfl ?_
   refine st (OpT.fieldAddrB (H rfl) (Root.self (t := 8) (by decide)) rfl (by decide) fd40_0 sz9 (by decide) sb40_0) rfl ?_
   refine st (OpT.loadP (H rfl) (T1 rfl) (.inl ⟨_, rfl, rfl⟩) ag9 rfl) rfl ?_
   refine st (OpT.c1 (ms := [.flat, .flat]) (c_impl_placeOf _ _) (H rfl) (Af (T1 rfl) rfl rfl <| Af (T1 rfl) rfl rfl <| An) rfl rfl) rfl ?_
   refine st (asT rfl) rfl ?_
   refine ng ?_
   refine AW.seq ?_
   refine sr ?_
   refine st (mvT rfl) rfl ?_
   refine st (OpT.lss (H rfl) (T1 rfl) (I rfl)) rfl ?_
   refine ng ?_
   refine cd rfl (fun hc3 => ?_) fun hc3 => ?_
   ·
    obtain ⟨hc3, hc3'⟩ := pT hc3
    refine sr ?_
    refine st (OpT.alias (H rfl) (by decide) (by decide)) rfl ?_
    refine st (OpT.fieldAddrB (H rfl) (Root.self (t := 8) (by decide)) rfl (by decide) fd40_0 sz9 (by decide) sb40_0) rfl ?_
    refine st (OpT.loadP (H rfl) (T1 rfl) (.inl ⟨_, rfl, rfl⟩) ag9 rfl) rfl ?_
    refine st (OpT.fieldAddrB (H rfl) (Root.self (t := 8) (by decide)) rfl (by decide) fd40_1 sz38 (by decide) sb40_1) rfl ?_
    refine st (OpT.loadPA (H rfl) (T1 rfl) (.inl ⟨_, rfl, rfl⟩) ag38 sz38) rfl ?_
    refine st (OpT.build (H rfl) pl63 zr63 zk63 (Built.cel (I rfl) rfl rfl sb63_0 (Built.cel (T1 rfl) rfl rfl sb63_1 (Built.agg (T1 rfl) rfl (by decide) sb63_3 (Built.nil _))))) rfl ?_
    refine st (OpT.buildSlice (H rfl) el49 zr63 sz63 rfl (by decide) zk63 (by decide) (Built.agg (T1 rfl) rfl (by decide) (sub_arr (by decide) ((0, .empty, 0, (0, 0)) : Int × ByteArray × Int × (BitVec 64 × BitVec 64))) (Built.nil _))) rfl ?_
    refine sg (OpT.append (H rfl) (Root.ali rfl (by decide) (by decide)) rfl (Src.own (Root.self (t := 43) (by decide)) rfl) (by decide) el49 zr63 rfl sz63 by63 (by decide) (by have h70 := flatA_len b (a.take z); (try simp only [List.length_append, List.length_map, List.length_take, List.length_set, List.length_replicate] at *); omega)) (ko 44 rfl <| ko 43 rfl <| ka 42 rfl <| ka 41 rfl <| Kc 40 (.pel _ _ _ _ _ _ _) rfl <| kc 39 rfl <| Kc 38 (.pel _ _ _ _ _ _ _) rfl <| kc4 36 35 9 34 rfl <| kc 33 rfl <| Kc 32 (.pel _ _ _ _ _ _ _) rfl <| kc 31 rfl <| kb 8 rfl <| ka 30 rfl <| kc4 29 28 0 1 rfl <| kc3 25 26 27 rfl <| Kn) rfl ?_
    refine sg (OpT.take (.inl rfl) rfl (ok' rfl) (Root.self (by decide)) rfl rfl (by decide)) (ko 6 rfl <| ko 43 rfl <| ka 42 rfl <| ka 41 rfl <| Kc 40 (.pel _ _ _ _ _ _ _) rfl <| kc 39 rfl <| Kc 38 (.pel _ _ _ _ _ _ _) rfl <| kc4 36 35 9 34 rfl <| kc 33 rfl <| Kc 32 (.pel _ _ _ _ _ _ _) rfl <| kc 31 rfl <| kb 8 rfl <| ka 30 rfl <| kc4 29 28 0 1 rfl <| kc3 25 26 27 rfl <| Kn) rfl ?_
    refine ng ?_
    refine AW.exit ?_
    refine xT <| AX.exit_hit ?_
    refine AX.go ?_
    refine AW.region ?_
    refine st (OpT.add (H rfl) (T1 rfl) (I rfl) (nw (by omega))) rfl ?_
    refine st (mvT rfl) rfl ?_
    refine nn ?_
    exact AX.again (z + 1) (by omega) (by omega) (Kc 0 _ (Kv rfl rfl) <| Kc 1 _ (Kv rfl rfl) <| Kc 6 _ (Ko rfl (by first | (rw [← flat_next (f := btA b) hcc, btA_no (by omega)]; rfl) | (rw [← flat_next (f := btA b) hcc, btA_yes (by omega) hdd, List.take_of_length_le (l := hol (lessM d.2 c.2) 96) (by omega), ← List.append_assoc]))) <| Kc 25 _ (Kv rfl rfl) <| Kc 26 _ (Kv rfl rfl) <| Kc 27 _ (Kv rfl (by omega)) <| Kn)
   ·
    obtain ⟨hc3, hc3'⟩ := pF hc3
    obtain ⟨d, hdd, hdn, hdl⟩ := findC_get (s := c.1) (y := b) (decide_eq_false (by omega))
    refine AW.skip ?_
    refine AX.pr (kc4 36 35 9 34 rfl <| kc 33 rfl <| Kc 32 (.pel _ _ _ _ _ _ _) rfl <| kc 31 rfl <| kb 8 rfl <| ka 30 rfl <| kc4 29 28 0 1 rfl <| ko 6 rfl <| kc3 25 26 27 rfl <| Kn) ?_
    refine AX.go ?_
    refine AW.seq ?_
    refine AW.seq ?_
    refine dh fomo ?_
    refine d1 [8] (fun ve h => OpT.fieldAddrB (H rfl) (Root.self (t := 8) (by decide)) ((h _ (List.elem_iff.1 rfl)).trans rfl) (by decide) fd40_1 sz38 (by decide) sb40_1) rfl ?_
    refine d1 [8, 45] (fun ve h => OpT.loadPA (H rfl) (D1 h rfl) (.inl ⟨_, ((h _ (List.elem_iff.1 rfl)).trans rfl), rfl⟩) ag38 sz38) rfl ?_
    refine d1 [1] (fun ve h => OpT.move (A := .cel _ _) (.inl rfl) rfl (ok' rfl) (D1 h rfl) rfl) rfl ?_
    refine d1 [9] (fun ve h => OpT.move (A := .cel _ _) (.inl rfl) rfl (ok' rfl) (D1 h rfl) rfl) rfl ?_
    refine d1 [47, 48] (fun ve h => OpT.indexAddr (H rfl) (D1 h rfl) (D1 h rfl) el26 sz40 (by omega) (by assumption)) rfl ?_
    refine d1 [49] (fun ve h => OpT.fieldAddr (H rfl) (D1 h rfl) fd40_1 sz38 (by decide) sb40_1) rfl ?_
    refine d1 [50] (fun ve h => OpT.loadA (H rfl) (D1 h rfl) ag38 sz38) rfl ?_
    refine d1 [46, 51] (fun ve h => OpT.c1 (ms := [.flat, .flat]) (c_impl_LessMask _ _) (H rfl) (Af (D1 h rfl) rfl rfl <| Af (D1 h rfl) rfl rfl <| An) rfl rfl) rfl ?_
    refine d1 [52] (fun ve h => OpT.c1 (ms := [.flat]) (c_impl_Mask_holes _) (H rfl) (Af (D1 h rfl) rfl rfl <| An) rfl rfl) rfl ?_
    refine d1 [53] (fun ve h => OpT.len (H rfl) (D1 h rfl) el43) rfl ?_
    refine d1 [] (fun ve h => mvI rfl) rfl ?_
    refine dn ⟨by kernel_rfl, by kernel_rfl, ?_⟩
    refine AX.go ?_
    refine AW.block ?_
    refine AW.loop (fun y : Nat => y ≤ (hol (lessM c.2 d.2) 96).length) (fun y : Nat => keep [(0, .cel (Kd.slice kCard) a), (1, .cel (Kd.slice kCard) b), (6, .own 63 kEdit ((a.take z).flatMap (btA b) ++ ((hol (lessM c.2 d.2) 96).take y).map (hlE 4 c.1))), (8, .box 40 kCard c), (9, .cel (Kd.int .i64) (findC c.1 b)), (25, .cel (Kd.slice kCard) a), (26, .cel (Kd.int .i64) (a.length : Int)), (27, .cel (Kd.int .i64) (z : Int)), (53, .cel (Kd.slice (Kd.int .i64)) (hol (lessM c.2 d.2) 96)), (54, .cel (Kd.int .i64) ((hol (lessM c.2 d.2) 96).length : Int)), (55, .cel (Kd.int .i64) (y : Int))]) (fun y : Nat => (hol (lessM c.2 d.2) 96).length - y) (0) (Nat.zero_le _) (Kc 0 _ (Kv rfl rfl) <| Kc 1 _ (Kv rfl rfl) <| Kc 6 _ (Ko rfl (by rw [List.take_zero, List.map_nil, List.append_nil])) <| Kc 8 _ (Kb rfl rfl) <| Kc 9 _ (Kv rfl rfl) <| Kc 25 _ (Kv rfl rfl) <| Kc 26 _ (Kv rfl rfl) <| Kc 27 _ (Kv rfl rfl) <| Kc 53 _ (Kv rfl rfl) <| Kc 54 _ (Kv rfl rfl) <| Kc 55 _ (Kv rfl rfl) <| Kn) ?_
    intro y hI
    have hq1 := hol_len (lessM c.2 d.2) 96
    refine sr ?_
    refine st (OpT.lss (H rfl) (T1 rfl) (T1 rfl)) rfl ?_
    refine ng ?_
    refine AW.seq ?_
    refine cd rfl (fun hc4 => ?_) fun hc4 => ?_
    ·
     obtain ⟨hc4, hc4'⟩ := pT hc4
     obtain ⟨v, hv⟩ := getI (x := (hol (lessM c.2 d.2) 96)) (z := y) (by omega)
     have hvr := hol_mem (mem_getI hv)
     refine AW.skip ?_
     refine AX.go ?_
     refine AW.seq ?_
     refine AW.block ?_
     refine sr ?_
     refine st (OpT.indexAddr (H rfl) (T1 rfl) (T1 rfl) el43 sz2 (by omega) (by assumption)) rfl ?_
     refine st (OpT.load (H rfl) (T1 rfl) ag2 rfl) rfl ?_
     refine st (asT rfl) rfl ?_
     refine ng ?_
     refine AW.region ?_
     refine st (OpT.alias (H rfl) (by decide) (by decide)) rfl ?_
     refine st (OpT.fieldAddrB (H rfl) (Root.self (t := 8) (by decide)) rfl (by decide) fd40_0 sz9 (by decide) sb40_0) rfl ?_
     refine st (OpT.loadP (H rfl) (T1 rfl) (.inl ⟨_, rfl, rfl⟩) ag9 rfl) rfl ?_
     refine st (mvT rfl) rfl ?_
     refine st (OpT.conv (H rfl) us2 Tryz.underlying61 (T1 rfl) (nw16 (by omega))) rfl ?_
     refine st (OpT.build (H rfl) pl63 zr63 zk63 (Built.cel (I rfl) rfl rfl sb63_0 (Built.cel (T1 rfl) rfl rfl sb63_1 (Built.cel (T1 rfl) rfl rfl sb63_2 (Built.nil _))))) rfl ?_
     refine st (OpT.buildSlice (H rfl) el49 zr63 sz63 rfl (by decide) zk63 (by decide) (Built.agg (T1 rfl) rfl (by decide) (sub_arr (by decide) ((0, .empty, 0, (0, 0)) : Int × ByteArray × Int × (BitVec 64 × BitVec 64))) (Built.nil _))) rfl ?_
     refine sg (OpT.append (H rfl) (Root.ali rfl (by decide) (by decide)) rfl (Src.own (Root.self (t := 65) (by decide)) rfl) (by decide) el49 zr63 rfl sz63 by63 (by decide) (by have h70 := flatA_len b (a.take z); have h71 := hol_len (lessM c.2 d.2) 96; (try simp only [List.length_append, List.length_map, List.length_take, List.length_set, List.length_replicate] at *); omega)) (ko 66 rfl <| ko 65 rfl <| ka 64 rfl <| kc3 63 62 61 rfl <| Kc 60 (.pel _ _ _ _ _ _ _) rfl <| kc4 11 58 57 56 rfl <| kc2 0 1 rfl <| kb 8 rfl <| kc4 9 25 26 27 rfl <| kc3 53 54 55 rfl <| Kn) rfl ?_
     refine sg (OpT.take (.inl rfl) rfl (ok' rfl) (Root.self (by decide)) rfl rfl (by decide)) (ko 6 rfl <| ko 65 rfl <| ka 64 rfl <| kc3 63 62 61 rfl <| Kc 60 (.pel _ _ _ _ _ _ _) rfl <| kc4 11 58 57 56 rfl <| kc2 0 1 rfl <| kb 8 rfl <| kc4 9 25 26 27 rfl <| kc3 53 54 55 rfl <| Kn) rfl ?_
     refine nn ?_
     refine AX.normal_block ?_
     refine AX.go ?_
     refine AW.region ?_
     refine st (OpT.add (H rfl) (T1 rfl) (I rfl) (nw (by omega))) rfl ?_
     refine st (mvT rfl) rfl ?_
     refine nn ?_
     exact AX.again (y + 1) (by omega) (by omega) (Kc 0 _ (Kv rfl rfl) <| Kc 1 _ (Kv rfl rfl) <| Kc 6 _ (Ko rfl (by rw [← map_more (f := hlE 4 c.1) hv, ← List.append_assoc]; rfl)) <| Kc 8 _ (Kb rfl rfl) <| Kc 9 _ (Kv rfl rfl) <| Kc 25 _ (Kv rfl rfl) <| Kc 26 _ (Kv rfl rfl) <| Kc 27 _ (Kv rfl rfl) <| Kc 53 _ (Kv rfl rfl) <| Kc 54 _ (Kv rfl rfl) <| Kc 55 _ (Kv rfl (by omega)) <| Kn)
    ·
     obtain ⟨hc4, hc4'⟩ := pF hc4
     refine AW.exit ?_
     refine xT <| xT <| AX.exit_hit ?_
     refine AX.go ?_
     refine AW.seq ?_
     refine dh fomo ?_
     refine d1 [1] (fun ve h => OpT.move (A := .cel _ _) (.inl rfl) rfl (ok' rfl) (D1 h rfl) rfl) rfl ?_
     refine d1 [9] (fun ve h => OpT.move (A := .cel _ _) (.inl rfl) rfl (ok' rfl) (D1 h rfl) rfl) rfl ?_
     refine d1 [68, 69] (fun ve h => OpT.indexAddr (H rfl) (D1 h rfl) (D1 h rfl) el26 sz40 (by omega) (by assumption)) rfl ?_
     refine d1 [70] (fun ve h => OpT.fieldAddr (H rfl) (D1 h rfl) fd40_1 sz38 (by decide) sb40_1) rfl ?_
     refine d1 [71] (fun ve h => OpT.loadA (H rfl) (D1 h rfl) ag38 sz38) rfl ?_
     refine d1 [8] (fun ve h => OpT.fieldAddrB (H rfl) (Root.self (t := 8) (by decide)) ((h _ (List.elem_iff.1 rfl)).trans rfl) (by decide) fd40_1 sz38 (by decide) sb40_1) rfl ?_
     refine d1 [8, 73] (fun ve h => OpT.loadPA (H rfl) (D1 h rfl) (.inl ⟨_, ((h _ (List.elem_iff.1 rfl)).trans rfl), rfl⟩) ag38 sz38) rfl ?_
     refine d1 [72, 74] (fun ve h => OpT.c1 (ms := [.flat, .flat]) (c_impl_LessMask _ _) (H rfl) (Af (D1 h rfl) rfl rfl <| Af (D1 h rfl) rfl rfl <| An) rfl rfl) rfl ?_
     refine d1 [75] (fun ve h => OpT.c1 (ms := [.flat]) (c_impl_Mask_holes _) (H rfl) (Af (D1 h rfl) rfl rfl <| An) rfl rfl) rfl ?_
     refine d1 [76] (fun ve h => OpT.len (H rfl) (D1 h rfl) el43) rfl ?_
     refine d1 [] (fun ve h => mvI rfl) rfl ?_
     refine dn ⟨by kernel_rfl, by kernel_rfl, ?_⟩
     refine AX.go ?_
     refine AW.block ?_
     refine AW.loop (fun w : Nat => w ≤ (hol (lessM d.2 c.2) 96).length) (fun w : Nat => keep [(0, .cel (Kd.slice kCard) a), (1, .cel (Kd.slice kCard) b), (6, .own 63 kEdit ((a.take z).flatMap (btA b) ++ (hol (lessM c.2 d.2) 96).map (hlE 4 c.1) ++ ((hol (lessM d.2 c.2) 96).take w).map (hlE 3 c.1))), (8, .box 40 kCard c), (25, .cel (Kd.slice kCard) a), (26, .cel (Kd.int .i64) (a.length : Int)), (27, .cel (Kd.int .i64) (z : Int)), (76, .cel (Kd.slice (Kd.int .i64)) (hol (lessM d.2 c.2) 96)), (77, .cel (Kd.int .i64) ((hol (lessM d.2 c.2) 96).length : Int)), (78, .cel (Kd.int .i64) (w : Int))]) (fun w : Nat => (hol (lessM d.2 c.2) 96).length - w) (0) (Nat.zero_le _) (Kc 0 _ (Kv rfl rfl) <| Kc 1 _ (Kv rfl rfl) <| Kc 6 _ (Ko rfl (by rw [List.take_of_length_le (l := (hol (lessM c.2 d.2) 96)) (by omega), List.take_zero, List.map_nil, List.append_nil])) <| Kc 8 _ (Kb rfl rfl) <| Kc 25 _ (Kv rfl rfl) <| Kc 26 _ (Kv rfl rfl) <| Kc 27 _ (Kv rfl rfl) <| Kc 76 _ (Kv rfl rfl) <| Kc 77 _ (Kv rfl rfl) <| Kc 78 _ (Kv rfl rfl) <| Kn) ?_
     intro w hI
     have hq2 := hol_len (lessM d.2 c.2) 96
     refine sr ?_
     refine st (OpT.lss (H rfl) (T1 rfl) (T1 rfl)) rfl ?_
     refine ng ?_
     refine AW.seq ?_
     refine cd rfl (fun hc5 => ?_) fun hc5 => ?_
     ·
      obtain ⟨hc5, hc5'⟩ := pT hc5
      obtain ⟨v, hv⟩ := getI (x := (hol (lessM d.2 c.2) 96)) (z := w) (by omega)
      have hvr := hol_mem (mem_getI hv)
      refine AW.skip ?_
      refine AX.go ?_
      refine AW.seq ?_
      refine AW.block ?_
      refine sr ?_
      refine st (OpT.indexAddr (H rfl) (T1 rfl) (T1 rfl) el43 sz2 (by omega) (by assumption)) rfl ?_
      refine st (OpT.load (H rfl) (T1 rfl) ag2 rfl) rfl ?_
      refine st (asT rfl) rfl ?_
      refine ng ?_
      refine AW.region ?_
      refine st (OpT.alias (H rfl) (by decide) (by decide)) rfl ?_
      refine st (OpT.fieldAddrB (H rfl) (Root.self (t := 8) (by decide)) rfl (by decide) fd40_0 sz9 (by decide) sb40_0) rfl ?_
      refine st (OpT.loadP (H rfl) (T1 rfl) (.inl ⟨_, rfl, rfl⟩) ag9 rfl) rfl ?_
      refine st (mvT rfl) rfl ?_
      refine st (OpT.conv (H rfl) us2 Tryz.underlying61 (T1 rfl) (nw16 (by omega))) rfl ?_
      refine st (OpT.build (H rfl) pl63 zr63 zk63 (Built.cel (I rfl) rfl rfl sb63_0 (Built.cel (T1 rfl) rfl rfl sb63_1 (Built.cel (T1 rfl) rfl rfl sb63_2 (Built.nil _))))) rfl ?_
      refine st (OpT.buildSlice (H rfl) el49 zr63 sz63 rfl (by decide) zk63 (by decide) (Built.agg (T1 rfl) rfl (by decide) (sub_arr (by decide) ((0, .empty, 0, (0, 0)) : Int × ByteArray × Int × (BitVec 64 × BitVec 64))) (Built.nil _))) rfl ?_
      refine sg (OpT.append (H rfl) (Root.ali rfl (by decide) (by decide)) rfl (Src.own (Root.self (t := 88) (by decide)) rfl) (by decide) el49 zr63 rfl sz63 by63 (by decide) (by have h70 := flatA_len b (a.take z); have h71 := hol_len (lessM c.2 d.2) 96; have h72 := hol_len (lessM d.2 c.2) 96; (try simp only [List.length_append, List.length_map, List.length_take, List.length_set, List.length_replicate] at *); omega)) (ko 89 rfl <| ko 88 rfl <| ka 87 rfl <| kc3 86 85 84 rfl <| Kc 83 (.pel _ _ _ _ _ _ _) rfl <| kc4 13 81 80 79 rfl <| kc2 0 1 rfl <| kb 8 rfl <| kc4 25 26 27 76 rfl <| kc2 77 78 rfl <| Kn) rfl ?_
      refine sg (OpT.take (.inl rfl) rfl (ok' rfl) (Root.self (by decide)) rfl rfl (by decide)) (ko 6 rfl <| ko 88 rfl <| ka 87 rfl <| kc3 86 85 84 rfl <| Kc 83 (.pel _ _ _ _ _ _ _) rfl <| kc4 13 81 80 79 rfl <| kc2 0 1 rfl <| kb 8 rfl <| kc4 25 26 27 76 rfl <| kc2 77 78 rfl <| Kn) rfl ?_
      refine nn ?_
      refine AX.normal_block ?_
      refine AX.go ?_
      refine AW.region ?_
      refine st (OpT.add (H rfl) (T1 rfl) (I rfl) (nw (by omega))) rfl ?_
      refine st (mvT rfl) rfl ?_
      refine nn ?_
      exact AX.again (w + 1) (by omega) (by omega) (Kc 0 _ (Kv rfl rfl) <| Kc 1 _ (Kv rfl rfl) <| Kc 6 _ (Ko rfl (by rw [← map_more (f := hlE 3 c.1) hv, ← List.append_assoc]; rfl)) <| Kc 8 _ (Kb rfl rfl) <| Kc 25 _ (Kv rfl rfl) <| Kc 26 _ (Kv rfl rfl) <| Kc 27 _ (Kv rfl rfl) <| Kc 76 _ (Kv rfl rfl) <| Kc 77 _ (Kv rfl rfl) <| Kc 78 _ (Kv rfl (by omega)) <| Kn)
     ·
      obtain ⟨hc5, hc5'⟩ := pF hc5
      refine AW.exit ?_
      refine xT <| xT <| AX.exit_hit ?_
      refine AX.normal_block ?_
      refine AX.go ?_
      refine AW.region ?_
      refine st (OpT.add (H rfl) (T1 rfl) (I rfl) (nw (by omega))) rfl ?_
      refine st (mvT rfl) rfl ?_
      refine nn ?_
      exact AX.again (z + 1) (by omega) (by omega) (Kc 0 _ (Kv rfl rfl) <| Kc 1 _ (Kv rfl rfl) <| Kc 6 _ (Ko rfl (by first | (rw [← flat_next (f := btA b) hcc, btA_no (by omega)]; rfl) | (rw [← flat_next (f := btA b) hcc, btA_yes (by omega) hdd, List.take_of_length_le (l := hol (lessM d.2 c.2) 96) (by omega), ← List.append_assoc]))) <| Kc 25 _ (Kv rfl rfl) <| Kc 26 _ (Kv rfl rfl) <| Kc 27 _ (Kv rfl (by omega)) <| Kn)
  ·
   obtain ⟨hc2, hc2'⟩ := pF hc2
   refine AW.exit ?_
   refine xT <| xT <| AX.exit_hit ?_
   refine AX.go ?_
   refine AW.seq ?_
   refine sr ?_
   refine st (mvT rfl) rfl ?_
   refine st (OpT.len (H rfl) (T1 rfl) el26) rfl ?_
   refine st (mvI rfl) rfl ?_
   refine ng ?_
   refine AW.block ?_
   refine AW.loop (fun y : Nat => y ≤ b.length) (fun y : Nat => keep [(0, .cel (Kd.slice kCard) a), (6, .own 63 kEdit (a.flatMap (btA b) ++ ((b.take y).filter (btN a)).map btM)), (92, .cel (Kd.slice kCard) b), (93, .cel (Kd.int .i64) (b.length : Int)), (94, .cel (Kd.int .i64) (y : Int))]) (fun y : Nat => b.length - y) (0) (Nat.zero_le _) (Kc 0 _ (Kv rfl rfl) <| Kc 6 _ (Ko rfl (by rw [List.take_of_length_le (l := a) (by omega), List.take_zero, List.filter_nil, List.map_nil, List.append_nil])) <| Kc 92 _ (Kv rfl rfl) <| Kc 93 _ (Kv rfl rfl) <| Kc 94 _ (Kv rfl rfl) <| Kn) ?_
   intro y hI
   refine sr ?_
   refine st (OpT.lss (H rfl) (T1 rfl) (T1 rfl)) rfl ?_
   refine ng ?_
   refine AW.seq ?_
   refine cd rfl (fun hc6 => ?_) fun hc6 => ?_
   ·
    obtain ⟨hc6, hc6'⟩ := pT hc6
    obtain ⟨c, hcc⟩ := getI (x := b) (z := y) (by omega)
    refine AW.skip ?_
    refine AX.go ?_
    refine AW.seq ?_
    refine AW.block ?_
    refine sr ?_
    refine st (OpT.indexAddr (H rfl) (T1 rfl) (T1 rfl) el26 sz40 (by omega) (by assumption)) rfl ?_
    refine st (OpT.loadA (H rfl) (T1 rfl) ag40 sz40) rfl ?_
    refine st (OpT.alloc (H rfl) zr40 zk40) rfl ?_
    refine sk (OpT.storeBA rfl rfl (Opd.whole (Root.self (t := 15) (by decide)) rfl) rfl sz40 (by decide) (T1 rfl)) rfl ?_
    refine ng ?_
    refine sr ?_
    refine st (mvT rfl) rfl ?_
    refine st (OpT.fieldAddrB (H rfl) (Root.self (t := 15) (by decide)) rfl (by decide) fd40_0 sz9 (by decide) sb40_0) rfl ?_
    refine st (OpT.loadP (H rfl) (T1 rfl) (.inl ⟨_, rfl, rfl⟩) ag9 rfl) rfl ?_
    refine st (OpT.c1 (ms := [.flat, .flat]) (c_impl_placeOf _ _) (H rfl) (Af (T1 rfl) rfl rfl <| Af (T1 rfl) rfl rfl <| An) rfl rfl) rfl ?_
    refine st (OpT.lss (H rfl) (T1 rfl) (I rfl)) rfl ?_
    refine ng ?_
    refine cd rfl (fun hc7 => ?_) fun hc7 => ?_
    ·
     obtain ⟨hc7, hc7'⟩ := pT hc7
     refine AW.region ?_
     refine st (OpT.alias (H rfl) (by decide) (by decide)) rfl ?_
     refine st (OpT.fieldAddrB (H rfl) (Root.self (t := 15) (by decide)) rfl (by decide) fd40_0 sz9 (by decide) sb40_0) rfl ?_
     refine st (OpT.loadP (H rfl) (T1 rfl) (.inl ⟨_, rfl, rfl⟩) ag9 rfl) rfl ?_
     refine st (OpT.fieldAddrB (H rfl) (Root.self (t := 15) (by decide)) rfl (by decide) fd40_1 sz38 (by decide) sb40_1) rfl ?_
     refine st (OpT.loadPA (H rfl) (T1 rfl) (.inl ⟨_, rfl, rfl⟩) ag38 sz38) rfl ?_
     refine st (OpT.build (H rfl) pl63 zr63 zk63 (Built.cel (I rfl) rfl rfl sb63_0 (Built.cel (T1 rfl) rfl rfl sb63_1 (Built.agg (T1 rfl) rfl (by decide) sb63_3 (Built.nil _))))) rfl ?_
     refine st (OpT.buildSlice (H rfl) el49 zr63 sz63 rfl (by decide) zk63 (by decide) (Built.agg (T1 rfl) rfl (by decide) (sub_arr (by decide) ((0, .empty, 0, (0, 0)) : Int × ByteArray × Int × (BitVec 64 × BitVec 64))) (Built.nil _))) rfl ?_
     refine sg (OpT.append (H rfl) (Root.ali rfl (by decide) (by decide)) rfl (Src.own (Root.self (t := 109) (by decide)) rfl) (by decide) el49 zr63 rfl sz63 by63 (by decide) (by have h70 := flatA_len b a; have h71 := List.length_filter_le (btN a) (b.take y); rw [List.length_take] at h71; simp only [List.length_append, List.length_map, List.length_set, List.length_replicate]; omega)) (ko 110 rfl <| ko 109 rfl <| ka 108 rfl <| ka 107 rfl <| Kc 106 (.pel _ _ _ _ _ _ _) rfl <| kc 105 rfl <| Kc 104 (.pel _ _ _ _ _ _ _) rfl <| kc3 102 101 100 rfl <| Kc 99 (.pel _ _ _ _ _ _ _) rfl <| kc 98 rfl <| kb 15 rfl <| ka 97 rfl <| kc4 96 95 0 92 rfl <| kc2 93 94 rfl <| Kn) rfl ?_
     refine sg (OpT.take (.inl rfl) rfl (ok' rfl) (Root.self (by decide)) rfl rfl (by decide)) (ko 6 rfl <| ko 109 rfl <| ka 108 rfl <| ka 107 rfl <| Kc 106 (.pel _ _ _ _ _ _ _) rfl <| kc 105 rfl <| Kc 104 (.pel _ _ _ _ _ _ _) rfl <| kc3 102 101 100 rfl <| Kc 99 (.pel _ _ _ _ _ _ _) rfl <| kc 98 rfl <| kb 15 rfl <| ka 97 rfl <| kc4 96 95 0 92 rfl <| kc2 93 94 rfl <| Kn) rfl ?_
     refine nn ?_
     refine AX.normal_block ?_
     refine AX.go ?_
     refine AW.region ?_
     refine st (OpT.add (H rfl) (T1 rfl) (I rfl) (nw (by omega))) rfl ?_
     refine st (mvT rfl) rfl ?_
     refine nn ?_
     exact AX.again (y + 1) (by omega) (by omega) (Kc 0 _ (Kv rfl rfl) <| Kc 6 _ (Ko rfl (by first | (rw [← filter_yes (q := btN a) hcc (decide_eq_true (by omega)), List.map_append, ← List.append_assoc]; rfl) | (rw [← filter_no (q := btN a) hcc (decide_eq_false (by omega))]))) <| Kc 92 _ (Kv rfl rfl) <| Kc 93 _ (Kv rfl rfl) <| Kc 94 _ (Kv rfl (by omega)) <| Kn)
    ·
     obtain ⟨hc7, hc7'⟩ := pF hc7
     refine AW.skip ?_
     refine AX.normal_block ?_
     refine AX.go ?_
     refine AW.region ?_
     refine st (OpT.add (H rfl) (T1 rfl) (I rfl) (nw (by omega))) rfl ?_
     refine st (mvT rfl) rfl ?_
     refine nn ?_
     exact AX.again (y + 1) (by omega) (by omega) (Kc 0 _ (Kv rfl rfl) <| Kc 6 _ (Ko rfl (by first | (rw [← filter_yes (q := btN a) hcc (decide_eq_true (by omega)), List.map_append, ← List.append_assoc]; rfl) | (rw [← filter_no (q := btN a) hcc (decide_eq_false (by omega))]))) <| Kc 92 _ (Kv rfl rfl) <| Kc 93 _ (Kv rfl rfl) <| Kc 94 _ (Kv rfl (by omega)) <| Kn)
   ·
    obtain ⟨hc6, hc6'⟩ := pF hc6
    refine AW.exit ?_
    refine xT <| xT <| AX.exit_hit ?_
    refine AX.go ?_
    refine AW.seq ?_
    refine sr ?_
    refine st (OpT.alias (H rfl) (by decide) (by decide)) rfl ?_
    refine st (OpT.lenO (H rfl) (Root.ali rfl (by decide) (by decide)) rfl el49) rfl ?_
    refine st (OpT.gtr (H rfl) (T1 rfl) (I rfl)) rfl ?_
    refine ng ?_
    refine cd rfl (fun hc8 => ?_) fun hc8 => ?_
    ·
     obtain ⟨hc8, hc8'⟩ := pT hc8
     have hbe : (a.flatMap (btA b) ++ ((b.take y).filter (btN a)).map btM) = betw a b := by rw [betw, List.take_of_length_le (by omega)]
     rw [hbe] at hc8'
     refine sr ?_
     refine st (nilO (E := 63) kEdit rfl (.inl rfl)) rfl ?_
     refine st (asI rfl) rfl ?_
     refine ng ?_
     refine AW.ret ?_
     refine rT ?_
     exact AX.rt (rs := [.tmp 4, .tmp 5]) (ts := [some 4, some 5]) (.inl rfl) rfl (ROs.cons (RO.tmp (At.self (by decide)) (Ko rfl (by first | (rw [btw_bad hc1]; done) | (rw [btw_long hc1 (by omega)]; done) | (rw [btw_ok hc1 (by omega)]; done) | (rw [btw_ok hc1 (by omega)]; exact hbe))) rfl) <| ROs.cons (RO.tmp (At.self (by decide)) (Kv rfl (by first | (rw [btw_bad hc1]; done) | (rw [btw_long hc1 (by omega)]; done) | (rw [btw_ok hc1 (by omega)]; done) | (rw [btw_ok hc1 (by omega)]; exact hbe))) rfl) <| ROs.nil) (by decide) OutsOK.nil
    ·
     obtain ⟨hc8, hc8'⟩ := pF hc8
     have hbe : (a.flatMap (btA b) ++ ((b.take y).filter (btN a)).map btM) = betw a b := by rw [betw, List.take_of_length_le (by omega)]
     rw [hbe] at hc8'
     refine AW.skip ?_
     refine AX.go ?_
     refine sr ?_
     refine st (OpT.alias (H rfl) (by decide) (by decide)) rfl ?_
     refine sg (OpT.take (.inl rfl) rfl (ok' rfl) (Root.ali rfl (by decide) (by decide)) rfl rfl (by decide)) (ko 4 rfl <| kc4 114 113 95 0 rfl <| kc3 92 93 94 rfl <| Kn) rfl ?_
     refine st (asI rfl) rfl ?_
     refine ng ?_
     refine AW.ret ?_
     exact AX.rt (rs := [.tmp 4, .tmp 5]) (ts := [some 4, some 5]) (.inl rfl) rfl (ROs.cons (RO.tmp (At.self (by decide)) (Ko rfl (by first | (rw [btw_bad hc1]; done) | (rw [btw_long hc1 (by omega)]; done) | (rw [btw_ok hc1 (by omega)]; done) | (rw [btw_ok hc1 (by omega)]; exact hbe))) rfl) <| ROs.cons (RO.tmp (At.self (by decide)) (Kv rfl (by first | (rw [btw_bad hc1]; done) | (rw [btw_long hc1 (by omega)]; done) | (rw [btw_ok hc1 (by omega)]; done) | (rw [btw_ok hc1 (by omega)]; exact hbe))) rfl) <| ROs.nil) (by decide) OutsOK.nil
theorem c_impl_EditsBetween (a b : List DCard) : AC Tryz.prog 22 [.cel (Kd.slice kCard) a, .cel (Kd.slice kCard) b] [.cel (Kd.slice kEdit) (btwS a b).1, .cel (Kd.int .i64) (btwS a b).2] [] := (c_impl_EditsBetween_o a b).frz rfl
end Go.Proofs.YtmmjcpiikdcldaaGreatDoor.VL
