/- Proved here: what some functions of the program take and give: walks with the words of VA..VQ. Printed by program. -/
import Derived.Test.YtmdiimhighlllaaGreatDoorWT
import Derived.Test.YtmdiimhighlllaaGreatDoorBpa
import Derived.Test.YtmdiimhighlllaaGreatDoorWL
import Derived.Test.YtmdiimhighlllaaGreatDoorWB
import Derived.Test.YtmdiimhighlllaaGreatDoorWX
import Derived.Test.YtmdiimhighlllaaGreatDoorWM
set_option linter.unusedVariables false
set_option linter.unusedSimpArgs false
set_option maxRecDepth 4000
namespace Go.Proofs.YtmdiimhighlllaaGreatDoor.VL
open Go
set_option maxHeartbeats 4000000 in
/-- impl.EditsBetween -/
theorem c_impl_EditsBetween_o (a b : List DCard) : AC Tryz.prog 42 [.cel (Kd.slice kCard) a, .cel (Kd.slice kCard) b] [.own 145 kEdit (btwS a b).1, .cel (Kd.int .i64) (btwS a b).2] [] := by
 refine acI (N := 116) Tryz.func42 (Nat.le_of_ble_eq_true rfl) rfl fun w0 hd s0 ar => ?_
 refine AW.to (kc2 0 1 rfl <| Kn) ?_
 refine AW.fact (fun a w hr => (ok_slice (R_ok (t := 0) rfl hr)).2) (fun hl0 => ?_)
 refine AW.fact (fun a w hr => (ok_slice (R_ok (t := 1) rfl hr)).2) (fun hl1 => ?_)
 refine sr ?_
 refine st (nilO (E := 145) kEdit rfl (.inl rfl)) rfl ?_
 refine st (asI rfl) rfl ?_
 refine ng ?_
 refine AW.seq ?_
 refine sr ?_
 refine st (mvT rfl) rfl ?_
 refine st (OpT.c1 (ms := [.flat]) (c_impl_isDeck _) (H rfl) (Af (T1 rfl) rfl rfl <| An) rfl rfl) rfl ?_
 refine st (OpT.not (H rfl) (T1 rfl)) rfl ?_
 refine st (mvT rfl) rfl ?_
 apply AWl.or (d := 23) (t := 19) rfl
 ·
  intro hb1 Q1 k1
  have hb1' := lF hb1
  refine rs hb1 (mvT rfl) rfl ?_
  refine rs hb1 (OpT.c1 (ms := [.flat]) (c_impl_isDeck _) (H rfl) (Af (T1 rfl) rfl rfl <| An) rfl rfl) rfl ?_
  refine rs hb1 (OpT.not (H rfl) (T1 rfl)) rfl ?_
  refine st (OpT.pickF (A := .cel _ _) (H rfl) (T1 rfl) hb1 (T1 rfl) rfl) rfl ?_
  exact AWl.to (junk 3 rfl) k1
 ·
  intro hb1 Q1 k1
  refine ps hb1 rfl ?_
  refine ps hb1 rfl ?_
  refine ps hb1 rfl ?_
  refine st (OpT.pickT (A := .cel _ _) (H rfl) (T1 rfl) hb1 Opd.bool rfl) rfl ?_
  exact k1
 refine ng ?_
 refine cd rfl (fun hc1 => ?_) fun hc1 => ?_
 ·
  obtain ⟨hc1, hc1'⟩ := pT hc1
  refine sr ?_
  refine st (nilO (E := 145) kEdit rfl (.inl rfl)) rfl ?_
  refine st (asI rfl) rfl ?_
  refine ng ?_
  refine AW.ret ?_
  refine rT ?_
  exact AX.rt (rs := [.tmp 4, .tmp 5]) (ts := [some 4, some 5]) (.inl rfl) rfl (ROs.cons (RO.tmp (At.self (by decide)) (Ko rfl (by first | (rw [btw_bad hc1]; done) | (rw [btw_long hc1 (by omega)]; done) | (rw [btw_ok hc1 (by omega)]; done) | (rw [btw_ok hc1 (by omega)]; exact hbe))) rfl) <| ROs.cons (RO.tmp (At.self (by decide)) (Kv rfl (by first | (rw [btw_bad hc1]; done) | (rw [btw_long hc1 (by omega)]; done) | (rw [btw_ok hc1 (by omega)]; done) | (rw [btw_ok hc1 (by omega)]; exact hbe))) rfl) <| ROs.nil) (by decide) OutsOK.nil
 ·
  obtain ⟨hc1, hc1'⟩ := pF hc1
  have hds := decks_two hc1
  refine AW.skip ?_
  refine AX.go ?_
  refine sr ?_
  refine st (OpT.buildSlice0 (m := 0) (z := .bool false) kEdit (H rfl) el85 sz145 (by decide)) rfl ?_
  refine sg (OpT.take (.inl rfl) rfl (ok' rfl) (Root.self (by decide)) rfl rfl (by decide)) (ko 6 rfl <| kc4 23 19 18 17 rfl <| kc2 16 5 rfl <| ko 4 rfl <| kc2 0 1 rfl <| Kn) rfl ?_
  refine ng ?_
  refine AW.seq ?_
  refine sr ?_
  refine st (mvT rfl) rfl ?_
  refine st (OpT.len (H rfl) (T1 rfl) el25) rfl ?_
  refine st (mvI rfl) rfl ?_
  refine ng ?_
  refine AW.block ?_
  refine AW.loop (fun z : Nat => z ≤ a.length) (fun z : Nat => keep [(0, .cel (Kd.slice kCard) a), (1, .cel (Kd.slice kCard) b), (6, .own 145 kEdit ((a.take z).flatMap (btA b))), (25, .cel (Kd.slice kCard) a), (26, .cel (Kd.int .i64) (a.length : Int)), (27, .cel (Kd.int .i64) (z : Int))]) (fun z : Nat => a.length - z) (0) (Nat.zero_le _) (Kc 0 _ (Kv rfl rfl) <| Kc 1 _ (Kv rfl rfl) <| Kc 6 _ (Ko rfl rfl) <| Kc 25 _ (Kv rfl rfl) <| Kc 26 _ (Kv rfl rfl) <| Kc 27 _ (Kv rfl rfl) <| Kn) ?_
  intro z hI
  refine sr ?_
  refine st (OpT.lss (H rfl) (T1 rfl) (T1 rfl)) rfl ?_
  refine ng ?_
  refine AW.seq ?_
  refine cd rfl (fun hc2 => ?_) fun hc2 => ?_
  ·
   obtain ⟨hc2, hc2'⟩ := pT hc2
   obtain ⟨c, hcc⟩ := getI (x := a) (z := z) (by omega)
   refine AW.skip ?_
   refine AX.go ?_
   refine AW.seq ?_
   refine AW.block ?_
   refine sr ?_
   refine st (OpT.indexAddr (H rfl) (T1 rfl) (T1 rfl) el25 sz36 (by omega) (by assumption)) rfl ?_
   refine st (OpT.loadA (H rfl) (T1 rfl) ag36 sz36) rfl ?_
   refine st (OpT.alloc (H rfl) zr36 zk36) rfl ?_
   refine sk (OpT.storeBA rfl rfl (Opd.whole (Root.self (t := 8) (by decide)) rfl) rfl sz36 (by decide) (T1 rfl)) rfl ?_
   refine ng ?_
   refine sr ?_
   refine st (mvT rfl) rfl ?_
   refine st (OpT.fieldAddrB (H rfl) (Root.self (t := 8) (by decide)) rfl (by decide) fd36_0 sz9 (by decide) sb36_0) rfl ?_
   refine st (OpT.loadP (H rfl) (T1 rfl) (.inl ⟨_, rfl, rfl⟩) ag9 rfl) rfl ?_
   refine st (OpT.c1 (ms := [.flat, .flat]) (c_impl_placeOf _ _) (H rfl) (Af (T1 rfl) rfl rfl <| Af (T1 rfl) rfl rfl <| An) rfl rfl) rfl ?_
   refine st (asT rfl) rfl ?_
   refine ng ?_
   refine AW.seq ?_
   refine sr ?_
   refine st (mvT rfl) rfl ?_
   refine st (OpT.lss (H rfl) (T1 rfl) (I rfl)) rfl ?_
   refine ng ?_
   refine cd rfl (fun hc3 => ?_) fun hc3 => ?_
   ·
    obtain ⟨hc3, hc3'⟩ := pT hc3
    refine sr ?_
    refine st (OpT.alias (H rfl) (by decide) (by decide)) rfl ?_
    refine st (OpT.fieldAddrB (H rfl) (Root.self (t := 8) (by decide)) rfl (by decide) fd36_0 sz9 (by decide) sb36_0) rfl ?_
    refine st (OpT.loadP (H rfl) (T1 rfl) (.inl ⟨_, rfl, rfl⟩) ag9 rfl) rfl ?_
    refine st (OpT.fieldAddrB (H rfl) (Root.self (t := 8) (by decide)) rfl (by decide) fd36_1 sz34 (by decide) sb36_1) rfl ?_
    refine st (OpT.loadPA (H rfl) (T1 rfl) (.inl ⟨_, rfl, rfl⟩) ag34 sz34) rfl ?_
    refine st (OpT.build (H rfl) pl145 zr145 zk145 (Built.cel (I rfl) rfl rfl sb145_0 (Built.cel (T1 rfl) rfl rfl sb145_1 (Built.agg (T1 rfl) rfl (by decide) sb145_3 (Built.nil _))))) rfl ?_
    refine st (OpT.buildSlice (H rfl) el85 zr145 sz145 rfl (by decide) zk145 (by decide) (Built.agg (T1 rfl) rfl (by decide) (sub_arr (by decide) ((0, .empty, 0, (0, 0)) : Int × ByteArray × Int × (BitVec 64 × BitVec 64))) (Built.nil _))) rfl ?_
    refine sg (OpT.append (H rfl) (Root.ali rfl (by decide) (by decide)) rfl (Src.own (Root.self (t := 43) (by decide)) rfl) (by decide) el85 zr145 rfl sz145 by145 (by decide) (by have h70 := flatA_len b (a.take z); (try simp only [List.length_append, List.length_map, List.length_take, List.length_set, List.length_replicate] at *); omega)) (ko 44 rfl <| ko 43 rfl <| ka 42 rfl <| ka 41 rfl <| Kc 40 (.pel _ _ _ _ _ _ _) rfl <| kc 39 rfl <| Kc 38 (.pel _ _ _ _ _ _ _) rfl <| kc4 36 35 9 34 rfl <| kc 33 rfl <| Kc 32 (.pel _ _ _ _ _ _ _) rfl <| kc 31 rfl <| kb 8 rfl <| ka 30 rfl <| kc4 29 28 0 1 rfl <| kc3 25 26 27 rfl <| Kn) rfl ?_
    refine sg (OpT.take (.inl rfl) rfl (ok' rfl) (Root.self (by decide)) rfl rfl (by decide)) (ko 6 rfl <| ko 43 rfl <| ka 42 rfl <| ka 41 rfl <| Kc 40 (.pel _ _ _ _ _ _ _) rfl <| kc 39 rfl <| Kc 38 (.pel _ _ _ _ _ _ _) rfl <| kc4 36 35 9 34 rfl <| kc 33 rfl <| Kc 32 (.pel _ _ _ _ _ _ _) rfl <| kc 31 rfl <| kb 8 rfl <| ka 30 rfl <| kc4 29 28 0 1 rfl <| kc3 25 26 27 rfl <| Kn) rfl ?_
    refine ng ?_
    refine AW.exit ?_
    refine xT <| AX.exit_hit ?_
    refine AX.go ?_
    refine AW.region ?_
    refine st (OpT.add (H rfl) (T1 rfl) (I rfl) (nw (by omega))) rfl ?_
    refine st (mvT rfl) rfl ?_
    refine nn ?_
    exact AX.again (z + 1) (by omega) (by omega) (Kc 0 _ (Kv rfl rfl) <| Kc 1 _ (Kv rfl rfl) <| Kc 6 _ (Ko rfl (by first | (rw [← flat_next (f := btA b) hcc, btA_no (by omega)]; rfl) | (rw [← flat_next (f := btA b) hcc, btA_yes (by omega) hdd, List.take_of_length_le (l := hol (lessM d.2 c.2) 96) (by omega), ← List.append_assoc]))) <| Kc 25 _ (Kv rfl rfl) <| Kc 26 _ (Kv rfl rfl) <| Kc 27 _ (Kv rfl (by omega)) <| Kn)
   ·
    obtain ⟨hc3, hc3'⟩ := pF hc3
    obtain ⟨d, hdd, hdn, hdl⟩ := findC_get (s := c.1) (y := b) (decide_eq_false (by omega))
    refine AW.skip ?_
    refine AX.pr (kc4 36 35 9 34 rfl <| kc 33 rfl <| Kc 32 (.pel _ _ _ _ _ _ _) rfl <| kc 31 rfl <| kb 8 rfl <| ka 30 rfl <| kc4 29 28 0 1 rfl <| ko 6 rfl <| kc3 25 26 27 rfl <| Kn) ?_
    refine AX.go ?_
    refine AW.seq ?_
    refine AW.seq ?_
    refine dh fomo ?_
    refine d1 [8] (fun ve h => OpT.fieldAddrB (H rfl) (Root.self (t := 8) (by decide)) ((h _ (List.elem_iff.1 rfl)).trans rfl) (by decide) fd36_1 sz34 (by decide) sb36_1) rfl ?_
    refine d1 [8, 45] (fun ve h => OpT.loadPA (H rfl) (D1 h rfl) (.inl ⟨_, ((h _ (List.elem_iff.1 rfl)).trans rfl), rfl⟩) ag34 sz34) rfl ?_
    refine d1 [1] (fun ve h => OpT.move (A := .cel _ _) (.inl rfl) rfl (ok' rfl) (D1 h rfl) rfl) rfl ?_
    refine d1 [9] (fun ve h => OpT.move (A := .cel _ _) (.inl rfl) rfl (ok' rfl) (D1 h rfl) rfl) rfl ?_
    refine d1 [47, 48] (fun ve h => OpT.indexAddr (H rfl) (D1 h rfl) (D1 h rfl) el25 sz36 (by omega) (by assumption)) rfl ?_
    refine d1 [49] (fun ve h => OpT.fieldAddr (H rfl) (D1 h rfl) fd36_1 sz34 (by decide) sb36_1) rfl ?_
    refine d1 [50] (fun ve h => OpT.loadA (H rfl) (D1 h rfl) ag34 sz34) rfl ?_
    refine d1 [46, 51] (fun ve h => OpT.c1 (ms := [.flat, .flat]) (c_impl_LessMask _ _) (H rfl) (Af (D1 h rfl) rfl rfl <| Af (D1 h rfl) rfl rfl <| An) rfl rfl) rfl ?_
    refine d1 [52] (fun ve h => OpT.c1 (ms := [.flat]) (c_impl_Mask_holes _) (H rfl) (Af (D1 h rfl) rfl rfl <| An) rfl rfl) rfl ?_
    refine d1 [53] (fun ve h => OpT.len (H rfl) (D1 h rfl) el43) rfl ?_
    refine d1 [] (fun ve h => mvI rfl) rfl ?_
    refine dn ⟨by kernel_rfl, by kernel_rfl, ?_⟩
    refine AX.go ?_
    refine AW.block ?_
    refine AW.loop (fun y : Nat => y ≤ (hol (lessM c.2 d.2) 96).length) (fun y : Nat => keep [(0, .cel (Kd.slice kCard) a), (1, .cel (Kd.slice kCard) b), (6, .own 145 kEdit ((a.take z).flatMap (btA b) ++ ((hol (lessM c.2 d.2) 96).take y).map (hlE 4 c.1))), (8, .box 36 kCard c), (9, .cel (Kd.int .i64) (findC c.1 b)), (25, .cel (Kd.slice kCard) a), (26, .cel (Kd.int .i64) (a.length : Int)), (27, .cel (Kd.int .i64) (z : Int)), (53, .cel (Kd.slice (Kd.int .i64)) (hol (lessM c.2 d.2) 96)), (54, .cel (Kd.int .i64) ((hol (lessM c.2 d.2) 96).length : Int)), (55, .cel (Kd.int .i64) (y : Int))]) (fun y : Nat => (hol (lessM c.2 d.2) 96).length - y) (0) (Nat.zero_le _) (Kc 0 _ (Kv rfl rfl) <| Kc 1 _ (Kv rfl rfl) <| Kc 6 _ (Ko rfl (by rw [List.take_zero, List.map_nil, List.append_nil])) <| Kc 8 _ (Kb rfl rfl) <| Kc 9 _ (Kv rfl rfl) <| Kc 25 _ (Kv rfl rfl) <| Kc 26 _ (Kv rfl rfl) <| Kc 27 _ (Kv rfl rfl) <| Kc 53 _ (Kv rfl rfl) <| Kc 54 _ (Kv rfl rfl) <| Kc 55 _ (Kv rfl rfl) <| Kn) ?_
    intro y hI
    have hq1 := hol_len (lessM c.2 d.2) 96
    refine sr ?_
    refine st (OpT.lss (H rfl) (T1 rfl) (T1 rfl)) rfl ?_
    refine ng ?_
    refine AW.seq ?_
    refine cd rfl (fun hc4 => ?_) fun hc4 => ?_
    ·
     obtain ⟨hc4, hc4'⟩ := pT hc4
     obtain ⟨v, hv⟩ := getI (x := (hol (lessM c.2 d.2) 96)) (z := y) (by omega)
     have hvr := hol_mem (mem_getI hv)
     refine AW.skip ?_
     refine AX.go ?_
     refine AW.seq ?_
     refine AW.block ?_
     refine sr ?_
     refine st (OpT.indexAddr (H rfl) (T1 rfl) (T1 rfl) el43 sz2 (by omega) (by assumption)) rfl ?_
     refine st (OpT.load (H rfl) (T1 rfl) ag2 rfl) rfl ?_
     refine st (asT rfl) rfl ?_
     refine ng ?_
     refine AW.region ?_
     refine st (OpT.alias (H rfl) (by decide) (by decide)) rfl ?_
     refine st (OpT.fieldAddrB (H rfl) (Root.self (t := 8) (by decide)) rfl (by decide) fd36_0 sz9 (by decide) sb36_0) rfl ?_
     refine st (OpT.loadP (H rfl) (T1 rfl) (.inl ⟨_, rfl, rfl⟩) ag9 rfl) rfl ?_
     refine st (mvT rfl) rfl ?_
     refine st (OpT.conv (H rfl) us2 Tryz.underlying50 (T1 rfl) (nw16 (by omega))) rfl ?_
     refine st (OpT.build (H rfl) pl145 zr145 zk145 (Built.cel (I rfl) rfl rfl sb145_0 (Built.cel (T1 rfl) rfl rfl sb145_1 (Built.cel (T1 rfl) rfl rfl sb145_2 (Built.nil _))))) rfl ?_
     refine st (OpT.buildSlice (H rfl) el85 zr145 sz145 rfl (by decide) zk145 (by decide) (Built.agg (T1 rfl) rfl (by decide) (sub_arr (by decide) ((0, .empty, 0, (0, 0)) : Int × ByteArray × Int × (BitVec 64 × BitVec 64))) (Built.nil _))) rfl ?_
     refine sg (OpT.append (H rfl) (Root.ali rfl (by decide) (by decide)) rfl (Src.own (Root.self (t := 65) (by decide)) rfl) (by decide) el85 zr145 rfl sz145 by145 (by decide) (by have h70 := flatA_len b (a.take z); have h71 := hol_len (lessM c.2 d.2) 96; (try simp only [List.length_append, List.length_map, List.length_take, List.length_set, List.length_replicate] at *); omega)) (ko 66 rfl <| ko 65 rfl <| ka 64 rfl <| kc3 63 62 61 rfl <| Kc 60 (.pel _ _ _ _ _ _ _) rfl <| kc4 11 58 57 56 rfl <| kc2 0 1 rfl <| kb 8 rfl <| kc4 9 25 26 27 rfl <| kc3 53 54 55 rfl <| Kn) rfl ?_
     refine sg (OpT.take (.inl rfl) rfl (ok' rfl) (Root.self (by decide)) rfl rfl (by decide)) (ko 6 rfl <| ko 65 rfl <| ka 64 rfl <| kc3 63 62 61 rfl <| Kc 60 (.pel _ _ _ _ _ _ _) rfl <| kc4 11 58 57 56 rfl <| kc2 0 1 rfl <| kb 8 rfl <| kc4 9 25 26 27 rfl <| kc3 53 54 55 rfl <| Kn) rfl ?_
     refine nn ?_
     refine AX.normal_block ?_
     refine AX.go ?_
     refine AW.region ?_
     refine st (OpT.add (H rfl) (T1 rfl) (I rfl) (nw (by omega))) rfl ?_
     refine st (mvT rfl) rfl ?_
     refine nn ?_
     exact AX.again (y + 1) (by omega) (by omega) (Kc 0 _ (Kv rfl rfl) <| Kc 1 _ (Kv rfl rfl) <| Kc 6 _ (Ko rfl (by rw [← map_more (f := hlE 4 c.1) hv, ← List.append_assoc]; rfl)) <| Kc 8 _ (Kb rfl rfl) <| Kc 9 _ (Kv rfl rfl) <| Kc 25 _ (Kv rfl rfl) <| Kc 26 _ (Kv rfl rfl) <| Kc 27 _ (Kv rfl rfl) <| Kc 53 _ (Kv rfl rfl) <| Kc 54 _ (Kv rfl rfl) <| Kc 55 _ (Kv rfl (by omega)) <| Kn)
    ·
     obtain ⟨hc4, hc4'⟩ := pF hc4
     refine AW.exit ?_
     refine xT <| xT <| AX.exit_hit ?_
     refine AX.go ?_
     refine AW.seq ?_
     refine dh fomo ?_
     refine d1 [1] (fun ve h => OpT.move (A := .cel _ _) (.inl rfl) rfl (ok' rfl) (D1 h rfl) rfl) rfl ?_
     refine d1 [9] (fun ve h => OpT.move (A := .cel _ _) (.inl rfl) rfl (ok' rfl) (D1 h rfl) rfl) rfl ?_
     refine d1 [68, 69] (fun ve h => OpT.indexAddr (H rfl) (D1 h rfl) (D1 h rfl) el25 sz36 (by omega) (by assumption)) rfl ?_
     refine d1 [70] (fun ve h => OpT.fieldAddr (H rfl) (D1 h rfl) fd36_1 sz34 (by decide) sb36_1) rfl ?_
     refine d1 [71] (fun ve h => OpT.loadA (H rfl) (D1 h rfl) ag34 sz34) rfl ?_
     refine d1 [8] (fun ve h => OpT.fieldAddrB (H rfl) (Root.self (t := 8) (by decide)) ((h _ (List.elem_iff.1 rfl)).trans rfl) (by decide) fd36_1 sz34 (by decide) sb36_1) rfl ?_
     refine d1 [8, 73] (fun ve h => OpT.loadPA (H rfl) (D1 h rfl) (.inl ⟨_, ((h _ (List.elem_iff.1 rfl)).trans rfl), rfl⟩) ag34 sz34) rfl ?_
     refine d1 [72, 74] (fun ve h => OpT.c1 (ms := [.flat, .flat]) (c_impl_LessMask _ _) (H rfl) (Af (D1 h rfl) rfl rfl <| Af (D1 h rfl) rfl rfl <| An) rfl rfl) rfl ?_
     refine d1 [75] (fun ve h => OpT.c1 (ms := [.flat]) (c_impl_Mask_holes _) (H rfl) (Af (D1 h rfl) rfl rfl <| An) rfl rfl) rfl ?_
     refine d1 [76] (fun ve h => OpT.len (H rfl) (D1 h rfl) el43) rfl ?_
     refine d1 [] (fun ve h => mvI rfl) rfl ?_
     refine dn ⟨by kernel_rfl, by kernel_rfl, ?_⟩
     refine AX.go ?_
     refine AW.block ?_
     refine AW.loop (fun w : Nat => w ≤ (hol (lessM d.2 c.2) 96).length) (fun w : Nat => keep [(0, .cel (Kd.slice kCard) a), (1, .cel (Kd.slice kCard) b), (6, .own 145 kEdit ((a.take z).flatMap (btA b) ++ (hol (lessM c.2 d.2) 96).map (hlE 4 c.1) ++ ((hol (lessM d.2 c.2) 96).take w).map (hlE 3 c.1))), (8, .box 36 kCard c), (25, .cel (Kd.slice kCard) a), (26, .cel (Kd.int .i64) (a.length : Int)), (27, .cel (Kd.int .i64) (z : Int)), (76, .cel (Kd.slice (Kd.int .i64)) (hol (lessM d.2 c.2) 96)), (77, .cel (Kd.int .i64) ((hol (lessM d.2 c.2) 96).length : Int)), (78, .cel (Kd.int .i64) (w : Int))]) (fun w : Nat => (hol (lessM d.2 c.2) 96).length - w) (0) (Nat.zero_le _) (Kc 0 _ (Kv rfl rfl) <| Kc 1 _ (Kv rfl rfl) <| Kc 6 _ (Ko rfl (by rw [List.take_of_length_le (l := (hol (lessM c.2 d.2) 96)) (by omega), List.take_zero, List.map_nil, List.append_nil])) <| Kc 8 _ (Kb rfl rfl) <| Kc 25 _ (Kv rfl rfl) <| Kc 26 _ (Kv rfl rfl) <| Kc 27 _ (Kv rfl rfl) <| Kc 76 _ (Kv rfl rfl) <| Kc 77 _ (Kv rfl rfl) <| Kc 78 _ (Kv rfl rfl) <| Kn) ?_
     intro w hI
     have hq2 := hol_len (lessM d.2 c.2) 96
     refine sr ?_
     refine st (OpT.lss (H rfl) (T1 rfl) (T1 rfl)) rfl ?_
     refine ng ?_
     refine AW.seq ?_
     refine cd rfl (fun hc5 => ?_) fun hc5 => ?_
     ·
      obtain ⟨hc5, hc5'⟩ := pT hc5
      obtain ⟨v, hv⟩ := getI (x := (hol (lessM d.2 c.2) 96)) (z := w) (by omega)
      have hvr := hol_mem (mem_getI hv)
      refine AW.skip ?_
      refine AX.go ?_
      refine AW.seq ?_
      refine AW.block ?_
      refine sr ?_
      refine st (OpT.indexAddr (H rfl) (T1 rfl) (T1 rfl) el43 sz2 (by omega) (by assumption)) rfl ?_
      refine st (OpT.load (H rfl) (T1 rfl) ag2 rfl) rfl ?_
      refine st (asT rfl) rfl ?_
      refine ng ?_
      refine AW.region ?_
      refine st (OpT.alias (H rfl) (by decide) (by decide)) rfl ?_
      refine st (OpT.fieldAddrB (H rfl) (Root.self (t := 8) (by decide)) rfl (by decide) fd36_0 sz9 (by decide) sb36_0) rfl ?_
      refine st (OpT.loadP (H rfl) (T1 rfl) (.inl ⟨_, rfl, rfl⟩) ag9 rfl) rfl ?_
      refine st (mvT rfl) rfl ?_
      refine st (OpT.conv (H rfl) us2 Tryz.underlying50 (T1 rfl) (nw16 (by omega))) rfl ?_
      refine st (OpT.build (H rfl) pl145 zr145 zk145 (Built.cel (I rfl) rfl rfl sb145_0 (Built.cel (T1 rfl) rfl rfl sb145_1 (Built.cel (T1 rfl) rfl rfl sb145_2 (Built.nil _))))) rfl ?_
      refine st (OpT.buildSlice (H rfl) el85 zr145 sz145 rfl (by decide) zk145 (by decide) (Built.agg (T1 rfl) rfl (by decide) (sub_arr (by decide) ((0, .empty, 0, (0, 0)) : Int × ByteArray × Int × (BitVec 64 × BitVec 64))) (Built.nil _))) rfl ?_
      refine sg (OpT.append (H rfl) (Root.ali rfl (by decide) (by decide)) rfl (Src.own (Root.self (t := 88) (by decide)) rfl) (by decide) el85 zr145 rfl sz145 by145 (by decide) (by have h70 := flatA_len b (a.take z); have h71 := hol_len (lessM c.2 d.2) 96; have h72 := hol_len (lessM d.2 c.2) 96; (try simp only [List.length_append, List.length_map, List.length_take, List.length_set, List.length_replicate] at *); omega)) (ko 89 rfl <| ko 88 rfl <| ka 87 rfl <| kc3 86 85 84 rfl <| Kc 83 (.pel _ _ _ _ _ _ _) rfl <| kc4 13 81 80 79 rfl <| kc2 0 1 rfl <| kb 8 rfl <| kc4 25 26 27 76 rfl <| kc2 77 78 rfl <| Kn) rfl ?_
      refine sg (OpT.take (.inl rfl) rfl (ok' rfl) (Root.self (by decide)) rfl rfl (by decide)) (ko 6 rfl <| ko 88 rfl <| ka 87 rfl <| kc3 86 85 84 rfl <| Kc 83 (.pel _ _ _ _ _ _ _) rfl <| kc4 13 81 80 79 rfl <| kc2 0 1 rfl <| kb 8 rfl <| kc4 25 26 27 76 rfl <| kc2 77 78 rfl <| Kn) rfl ?_
      refine nn ?_
      refine AX.normal_block ?_
      refine AX.go ?_
      refine AW.region ?_
      refine st (OpT.add (H rfl) (T1 rfl) (I rfl) (nw (by omega))) rfl ?_
      refine st (mvT rfl) rfl ?_
      refine nn ?_
      exact AX.again (w + 1) (by omega) (by omega) (Kc 0 _ (Kv rfl rfl) <| Kc 1 _ (Kv rfl rfl) <| Kc 6 _ (Ko rfl (by rw [← map_more (f := hlE 3 c.1) hv, ← List.append_assoc]; rfl)) <| Kc 8 _ (Kb rfl rfl) <| Kc 25 _ (Kv rfl rfl) <| Kc 26 _ (Kv rfl rfl) <| Kc 27 _ (Kv rfl rfl) <| Kc 76 _ (Kv rfl rfl) <| Kc 77 _ (Kv rfl rfl) <| Kc 78 _ (Kv rfl (by omega)) <| Kn)
     ·
      obtain ⟨hc5, hc5'⟩ := pF hc5
      refine AW.exit ?_
      refine xT <| xT <| AX.exit_hit ?_
      refine AX.normal_block ?_
      refine AX.go ?_
      refine AW.region ?_
      refine st (OpT.add (H rfl) (T1 rfl) (I rfl) (nw (by omega))) rfl ?_
      refine st (mvT rfl) rfl ?_
      refine nn ?_
      exact AX.again (z + 1) (by omega) (by omega) (Kc 0 _ (Kv rfl rfl) <| Kc 1 _ (Kv rfl rfl) <| Kc 6 _ (Ko rfl (by first | (rw [← flat_next (f := btA b) hcc, btA_no (by omega)]; rfl) | (rw [← flat_next (f := btA b) hcc, btA_yes (by omega) hdd, List.take_of_length_le (l := hol (lessM d.2 c.2) 96) (by omega), ← List.append_assoc]))) <| Kc 25 _ (Kv rfl rfl) <| Kc 26 _ (Kv rfl rfl) <| Kc 27 _ (Kv rfl (by omega)) <| Kn)
  ·
   obtain ⟨hc2, hc2'⟩ := pF hc2
   refine AW.exit ?_
   refine xT <| xT <| AX.exit_hit ?_
   refine AX.go ?_
   refine AW.seq ?_
   refine sr ?_
   refine st (mvT rfl) rfl ?_
   refine st (OpT.len (H rfl) (T1 rfl) el25) rfl ?_
   refine st (mvI rfl) rfl ?_
   refine ng ?_
   refine AW.block ?_
   refine AW.loop (fun y : Nat => y ≤ b.length) (fun y : Nat => keep [(0, .cel (Kd.slice kCard) a), (6, .own 145 kEdit (a.flatMap (btA b) ++ ((b.take y).filter (btN a)).map btM)), (92, .cel (Kd.slice kCard) b), (93, .cel (Kd.int .i64) (b.length : Int)), (94, .cel (Kd.int .i64) (y : Int))]) (fun y : Nat => b.length - y) (0) (Nat.zero_le _) (Kc 0 _ (Kv rfl rfl) <| Kc 6 _ (Ko rfl (by rw [List.take_of_length_le (l := a) (by omega), List.take_zero, List.filter_nil, List.map_nil, List.append_nil])) <| Kc 92 _ (Kv rfl rfl) <| Kc 93 _ (Kv rfl rfl) <| Kc 94 _ (Kv rfl rfl) <| Kn) ?_
   intro y hI
   refine sr ?_
   refine st (OpT.lss (H rfl) (T1 rfl) (T1 rfl)) rfl ?_
   refine ng ?_
   refine AW.seq ?_
   refine cd rfl (fun hc6 => ?_) fun hc6 => ?_
   ·
    obtain ⟨hc6, hc6'⟩ := pT hc6
    obtain ⟨c, hcc⟩ := getI (x := b) (z := y) (by omega)
    refine AW.skip ?_
    refine AX.go ?_
    refine AW.seq ?_
    refine AW.block ?_
    refine sr ?_
    refine st (OpT.indexAddr (H rfl) (T1 rfl) (T1 rfl) el25 sz36 (by omega) (by assumption)) rfl ?_
    refine st (OpT.loadA (H rfl) (T1 rfl) ag36 sz36) rfl ?_
    refine st (OpT.alloc (H rfl) zr36 zk36) rfl ?_
    refine sk (OpT.storeBA rfl rfl (Opd.whole (Root.self (t := 15) (by decide)) rfl) rfl sz36 (by decide) (T1 rfl)) rfl ?_
    refine ng ?_
    refine sr ?_
    refine st (mvT rfl) rfl ?_
    refine st (OpT.fieldAddrB (H rfl) (Root.self (t := 15) (by decide)) rfl (by decide) fd36_0 sz9 (by decide) sb36_0) rfl ?_
    refine st (OpT.loadP (H rfl) (T1 rfl) (.inl ⟨_, rfl, rfl⟩) ag9 rfl) rfl ?_
    refine st (OpT.c1 (ms := [.flat, .flat]) (c_impl_placeOf _ _) (H rfl) (Af (T1 rfl) rfl rfl <| Af (T1 rfl) rfl rfl <| An) rfl rfl) rfl ?_
    refine st (OpT.lss (H rfl) (T1 rfl) (I rfl)) rfl ?_
    refine ng ?_
    refine cd rfl (fun hc7 => ?_) fun hc7 => ?_
    ·
     obtain ⟨hc7, hc7'⟩ := pT hc7
     refine AW.region ?_
     refine st (OpT.alias (H rfl) (by decide) (by decide)) rfl ?_
     refine st (OpT.fieldAddrB (H rfl) (Root.self (t := 15) (by decide)) rfl (by decide) fd36_0 sz9 (by decide) sb36_0) rfl ?_
     refine st (OpT.loadP (H rfl) (T1 rfl) (.inl ⟨_, rfl, rfl⟩) ag9 rfl) rfl ?_
     refine st (OpT.fieldAddrB (H rfl) (Root.self (t := 15) (by decide)) rfl (by decide) fd36_1 sz34 (by decide) sb36_1) rfl ?_
     refine st (OpT.loadPA (H rfl) (T1 rfl) (.inl ⟨_, rfl, rfl⟩) ag34 sz34) rfl ?_
     refine st (OpT.build (H rfl) pl145 zr145 zk145 (Built.cel (I rfl) rfl rfl sb145_0 (Built.cel (T1 rfl) rfl rfl sb145_1 (Built.agg (T1 rfl) rfl (by decide) sb145_3 (Built.nil _))))) rfl ?_
     refine st (OpT.buildSlice (H rfl) el85 zr145 sz145 rfl (by decide) zk145 (by decide) (Built.agg (T1 rfl) rfl (by decide) (sub_arr (by decide) ((0, .empty, 0, (0, 0)) : Int × ByteArray × Int × (BitVec 64 × BitVec 64))) (Built.nil _))) rfl ?_
     refine sg (OpT.append (H rfl) (Root.ali rfl (by decide) (by decide)) rfl (Src.own (Root.self (t := 109) (by decide)) rfl) (by decide) el85 zr145 rfl sz145 by145 (by decide) (by have h70 := flatA_len b a; have h71 := List.length_filter_le (btN a) (b.take y); rw [List.length_take] at h71; simp only [List.length_append, List.length_map, List.length_set, List.length_replicate]; omega)) (ko 110 rfl <| ko 109 rfl <| ka 108 rfl <| ka 107 rfl <| Kc 106 (.pel _ _ _ _ _ _ _) rfl <| kc 105 rfl <| Kc 104 (.pel _ _ _ _ _ _ _) rfl <| kc3 102 101 100 rfl <| Kc 99 (.pel _ _ _ _ _ _ _) rfl <| kc 98 rfl <| kb 15 rfl <| ka 97 rfl <| kc4 96 95 0 92 rfl <| kc2 93 94 rfl <| Kn) rfl ?_
     refine sg (OpT.take (.inl rfl) rfl (ok' rfl) (Root.self (by decide)) rfl rfl (by decide)) (ko 6 rfl <| ko 109 rfl <| ka 108 rfl <| ka 107 rfl <| Kc 106 (.pel _ _ _ _ _ _ _) rfl <| kc 105 rfl <| Kc 104 (.pel _ _ _ _ _ _ _) rfl <| kc3 102 101 100 rfl <| Kc 99 (.pel _ _ _ _ _ _ _) rfl <| kc 98 rfl <| kb 15 rfl <| ka 97 rfl <| kc4 96 95 0 92 rfl <| kc2 93 94 rfl <| Kn) rfl ?_
     refine nn ?_
     refine AX.normal_block ?_
     refine AX.go ?_
     refine AW.region ?_
     refine st (OpT.add (H rfl) (T1 rfl) (I rfl) (nw (by omega))) rfl ?_
     refine st (mvT rfl) rfl ?_
     refine nn ?_
     exact AX.again (y + 1) (by omega) (by omega) (Kc 0 _ (Kv rfl rfl) <| Kc 6 _ (Ko rfl (by first | (rw [← filter_yes (q := btN a) hcc (decide_eq_true (by omega)), List.map_append, ← List.append_assoc]; rfl) | (rw [← filter_no (q := btN a) hcc (decide_eq_false (by omega))]))) <| Kc 92 _ (Kv rfl rfl) <| Kc 93 _ (Kv rfl rfl) <| Kc 94 _ (Kv rfl (by omega)) <| Kn)
    ·
     obtain ⟨hc7, hc7'⟩ := pF hc7
     refine AW.skip ?_
     refine AX.normal_block ?_
     refine AX.go ?_
     refine AW.region ?_
     refine st (OpT.add (H rfl) (T1 rfl) (I rfl) (nw (by omega))) rfl ?_
     refine st (mvT rfl) rfl ?_
     refine nn ?_
     exact AX.again (y + 1) (by omega) (by omega) (Kc 0 _ (Kv rfl rfl) <| Kc 6 _ (Ko rfl (by first | (rw [← filter_yes (q := btN a) hcc (decide_eq_true (by omega)), List.map_append, ← List.append_assoc]; rfl) | (rw [← filter_no (q := btN a) hcc (decide_eq_false (by omega))]))) <| Kc 92 _ (Kv rfl rfl) <| Kc 93 _ (Kv rfl rfl) <| Kc 94 _ (Kv rfl (by omega)) <| Kn)
   ·
    obtain ⟨hc6, hc6'⟩ := pF hc6
    refine AW.exit ?_
    refine xT <| xT <| AX.exit_hit ?_
    refine AX.go ?_
    refine AW.seq ?_
    refine sr ?_
    refine st (OpT.alias (H rfl) (by decide) (by decide)) rfl ?_
    refine st (OpT.lenO (H rfl) (Root.ali rfl (by decide) (by decide)) rfl el85) rfl ?_
    refine st (OpT.gtr (H rfl) (T1 rfl) (I rfl)) rfl ?_
    refine ng ?_
    refine cd rfl (fun hc8 => ?_) fun hc8 => ?_
    ·
     obtain ⟨hc8, hc8'⟩ := pT hc8
     have hbe : (a.flatMap (btA b) ++ ((b.take y).filter (btN a)).map btM) = betw a b := by rw [betw, List.take_of_length_le (by omega)]
     rw [hbe] at hc8'
     refine sr ?_
     refine st (nilO (E := 145) kEdit rfl (.inl rfl)) rfl ?_
     refine st (asI rfl) rfl ?_
     refine ng ?_
     refine AW.ret ?_
     refine rT ?_
     exact AX.rt (rs := [.tmp 4, .tmp 5]) (ts := [some 4, some 5]) (.inl rfl) rfl (ROs.cons (RO.tmp (At.self (by decide)) (Ko rfl (by first | (rw [btw_bad hc1]; done) | (rw [btw_long hc1 (by omega)]; done) | (rw [btw_ok hc1 (by omega)]; done) | (rw [btw_ok hc1 (by omega)]; exact hbe))) rfl) <| ROs.cons (RO.tmp (At.self (by decide)) (Kv rfl (by first | (rw [btw_bad hc1]; done) | (rw [btw_long hc1 (by omega)]; done) | (rw [btw_ok hc1 (by omega)]; done) | (rw [btw_ok hc1 (by omega)]; exact hbe))) rfl) <| ROs.nil) (by decide) OutsOK.nil
    ·
     obtain ⟨hc8, hc8'⟩ := pF hc8
     have hbe : (a.flatMap (btA b) ++ ((b.take y).filter (btN a)).map btM) = betw a b := by rw [betw, List.take_of_length_le (by omega)]
     rw [hbe] at hc8'
     refine AW.skip ?_
     refine AX.go ?_
     refine sr ?_
     refine st (OpT.alias (H rfl) (by decide) (by decide)) rfl ?_
     refine sg (OpT.take (.inl rfl) rfl (ok' rfl) (Root.ali rfl (by decide) (by decide)) rfl rfl (by decide)) (ko 4 rfl <| kc4 114 113 95 0 rfl <| kc3 92 93 94 rfl <| Kn) rfl ?_
     refine st (asI rfl) rfl ?_
     refine ng ?_
     refine AW.ret ?_
     exact AX.rt (rs := [.tmp 4, .tmp 5]) (ts := [some 4, some 5]) (.inl rfl) rfl (ROs.cons (RO.tmp (At.self (by decide)) (Ko rfl (by first | (rw [btw_bad hc1]; done) | (rw [btw_long hc1 (by omega)]; done) | (rw [btw_ok hc1 (by omega)]; done) | (rw [btw_ok hc1 (by omega)]; exact hbe))) rfl) <| ROs.cons (RO.tmp (At.self (by decide)) (Kv rfl (by first | (rw [btw_bad hc1]; done) | (rw [btw_long hc1 (by omega)]; done) | (rw [btw_ok hc1 (by omega)]; done) | (rw [btw_ok hc1 (by omega)]; exact hbe))) rfl) <| ROs.nil) (by decide) OutsOK.nil
theorem c_impl_EditsBetween (a b : List DCard) : AC Tryz.prog 42 [.cel (Kd.slice kCard) a, .cel (Kd.slice kCard) b] [.cel (Kd.slice kEdit) (btwS a b).1, .cel (Kd.int .i64) (btwS a b).2] [] := (c_impl_EditsBetween_o a b).frz rfl
end Go.Proofs.YtmdiimhighlllaaGreatDoor.VL
