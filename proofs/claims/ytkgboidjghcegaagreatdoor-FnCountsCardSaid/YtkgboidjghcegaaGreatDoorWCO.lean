/- Proved here: what some functions of the program take and give: walks with the words of VA..VQ. Printed by program. -/
import Derived.Test.YtkgboidjghcegaaGreatDoorWT
import Derived.Test.YtkgboidjghcegaaGreatDoorPXH
import Derived.Test.YtkgboidjghcegaaGreatDoorPXF
import Derived.Test.YtkgboidjghcegaaGreatDoorVLN
import Derived.Test.YtkgboidjghcegaaGreatDoorVLQ
import Derived.Test.YtkgboidjghcegaaGreatDoorVLK
import Derived.Test.YtkgboidjghcegaaGreatDoorLSF
import Derived.Test.YtkgboidjghcegaaGreatDoorBpa
import Derived.Test.YtkgboidjghcegaaGreatDoorWCN
import Derived.Test.YtkgboidjghcegaaGreatDoorWP
import Derived.Test.YtkgboidjghcegaaGreatDoorWV
import Derived.Test.YtkgboidjghcegaaGreatDoorWTB
import Derived.Test.YtkgboidjghcegaaGreatDoorWL
import Derived.Test.YtkgboidjghcegaaGreatDoorWFO
import Derived.Test.YtkgboidjghcegaaGreatDoorWM
set_option linter.unusedVariables false
set_option linter.unusedSimpArgs false
set_option maxRecDepth 4000
namespace Go.Proofs.YtkgboidjghcegaaGreatDoor.VL
open Go
theorem c_slices_SortFunc_Cell (x : List DCell) (f g : DField) (m : List DMask) (hl : x.length < 4611686018427387904) (hp : x.Perm (crs f g m)) : AC Tryz.prog 40 [.own 52 kC3 x, .clo 41 Kd.unit ()] [] [.own 52 kC3 (crs f g m), .any] := AC.any1 <| AC.sortC Tryz.sortF rfl 52 Tryz.isAgg52 Tryz.sizeOf52 cfC cfC_ord c_impl_CrossOf_1 x (crs f g m) hl (fun zs hz h => crs_uniq hp hz h) Tryz.func40 rfl


/-- impl.CrossOf -/
theorem c_impl_CrossOf_o (s : List DField) (x : List DCard) (i j : Int) : AC Tryz.prog 10 [.cel (Kd.slice kField) s, .cel (Kd.slice kCard) x, .cel (Kd.int .i64) i, .cel (Kd.int .i64) j] [.own 52 (Kd.pair (Kd.int .i64) (Kd.pair (Kd.int .i64) (Kd.int .i64))) (crsS s x i j).1, .cel (Kd.int .i64) (crsS s x i j).2] [] := by
 refine acI (N := 72) Tryz.func10 (Nat.le_of_ble_eq_true rfl) rfl fun w0 hd s0 ar => ?_
 refine AW.to (kc4 0 1 2 3 rfl <| Kn) ?_
 refine AW.fact (fun a w hr => (ok_slice (R_ok (t := 0) rfl hr)).2) (fun hl0 => ?_)
 refine AW.fact (fun a w hr => (ok_slice (R_ok (t := 1) rfl hr)).2) (fun hl1 => ?_)
 refine sr ?_
 refine st (nilO (E := 52) (Kd.pair (Kd.int .i64) (Kd.pair (Kd.int .i64) (Kd.int .i64))) rfl (.inl rfl)) rfl ?_
 refine st (asI rfl) rfl ?_
 refine ng ?_
 refine AW.seq ?_
 refine sr ?_
 refine st (mvT rfl) rfl ?_
 refine st (mvT rfl) rfl ?_
 refine st (mvT rfl) rfl ?_
 refine st (mvT rfl) rfl ?_
 refine st (OpT.buildSlice (H rfl) el81 zr2 sz2 rfl (by decide) zk2 (by decide) (Built.cel (T1 rfl) rfl rfl (sub_arr (by decide) (0 : Int)) (Built.cel (T1 rfl) rfl rfl (sub_arr (by decide) (0 : Int)) (Built.nil _)))) rfl ?_
 refine st (cb1 (ms := [.flat, .flat, .bor 21]) (c_impl_checkTable s x [i, j]) (H rfl) (Af (T1 rfl) rfl rfl <| Af (T1 rfl) rfl rfl <| Ab (Root.self (t := 21) (by decide)) rfl <| An) rfl (indC fun _ _ _ _ h => h)) rfl ?_
 refine st (asT rfl) rfl ?_
 refine ng ?_
 refine sr ?_
 refine st (mvT rfl) rfl ?_
 refine st (OpT.neq (H rfl) (T1 rfl) (I rfl)) rfl ?_
 refine ng ?_
 refine cd rfl (fun hc1 => ?_) fun hc1 => ?_
 ·
  obtain ⟨hc1, hc1'⟩ := pT hc1
  have hcn : tabF s x [i, j] ≠ 0 := by omega
  refine sr ?_
  refine st (mvT rfl) rfl ?_
  refine st (nilO (E := 52) (Kd.pair (Kd.int .i64) (Kd.pair (Kd.int .i64) (Kd.int .i64))) rfl (.inl rfl)) rfl ?_
  refine st (asT rfl) rfl ?_
  refine AWl.to (kc 9 rfl <| ko 8 rfl <| kc4 0 1 2 3 rfl <| Kn) ?_
  refine ng ?_
  refine AW.ret ?_
  refine rT ?_
  exact AX.rt (rs := [.tmp 8, .tmp 9]) (ts := [some 8, some 9]) (.inl rfl) rfl (ROs.cons (RO.tmp (At.self (by decide)) (Ko rfl (by first | (rw [crs_no hcn]; done) | (rw [crs_yes hz]; first | done | rfl))) rfl) <| ROs.cons (RO.tmp (At.self (by decide)) (Kv rfl (by first | (rw [crs_no hcn]; done) | (rw [crs_yes hz]; first | done | rfl))) rfl) <| ROs.nil) (by decide) OutsOK.nil
 ·
  obtain ⟨hc1, hc1'⟩ := pF hc1
  have hz : tabF s x [i, j] = 0 := by omega
  obtain ⟨hti, htj, hts, htx⟩ := tab_two hz
  have hfi := fldA_get hti
  have hfj := fldA_get htj
  have hoi := tab_field hts hfi
  have hoj := tab_field hts hfj
  have hml := mpC_len (fldA s i) (fldA s j) (x.map (·.2))
  rw [List.length_map] at hml
  refine AW.skip ?_
  refine AX.go ?_
  refine sr ?_
  refine st (OpT.mkPMap (H rfl)) rfl ?_
  refine sg (OpT.take (.inl rfl) rfl (ok' rfl) (Root.self (by decide)) rfl rfl (by decide)) (Kc 11 (.deep _) rfl <| kc4 24 23 10 22 rfl <| ko 21 rfl <| kc4 20 19 18 17 rfl <| kc 9 rfl <| ko 8 rfl <| kc4 0 1 2 3 rfl <| Kn) rfl ?_
  refine ng ?_
  refine AW.seq ?_
  refine sr ?_
  refine st (mvT rfl) rfl ?_
  refine st (OpT.len (H rfl) (T1 rfl) el31) rfl ?_
  refine st (mvI rfl) rfl ?_
  refine ng ?_
  refine AW.block ?_
  refine AW.loop (fun z : Nat => z ≤ x.length) (fun z : Nat => keep [(0, .cel (Kd.slice kField) s), (2, .cel (Kd.int .i64) i), (3, .cel (Kd.int .i64) j), (11, .deep (OSh.pmap (mpC (fldA s i) (fldA s j) ((x.take z).map (·.2))))), (27, .cel (Kd.slice kCard) x), (28, .cel (Kd.int .i64) (x.length : Int)), (29, .cel (Kd.int .i64) (z : Int))]) (fun z : Nat => x.length - z) (0) (Nat.zero_le _) (Kc 0 _ (Kv rfl rfl) <| Kc 2 _ (Kv rfl rfl) <| Kc 3 _ (Kv rfl rfl) <| Kc 11 _ (Kp rfl rfl) <| Kc 27 _ (Kv rfl rfl) <| Kc 28 _ (Kv rfl rfl) <| Kc 29 _ (Kv rfl rfl) <| Kn) ?_
  intro z hI
  refine sr ?_
  refine st (OpT.lss (H rfl) (T1 rfl) (T1 rfl)) rfl ?_
  refine ng ?_
  refine AW.seq ?_
  refine cd rfl (fun hc2 => ?_) fun hc2 => ?_
  ·
   obtain ⟨hc2, hc2'⟩ := pT hc2
   obtain ⟨e, he⟩ := getI (x := x) (z := z) (by omega)
   have hcnt := mpC_cnt (x := x) (z := z) (f := fldA s i) (g := fldA s j) (valIn (fldA s i) e.2, valIn (fldA s j) e.2)
   have hmz := mpC_ln (x := x) (z := z) (f := fldA s i) (g := fldA s j)
   refine AW.skip ?_
   refine AX.go ?_
   refine AW.seq ?_
   refine AW.block ?_
   refine sr ?_
   refine st (OpT.indexAddr (H rfl) (T1 rfl) (T1 rfl) el31 sz86 (by omega) he) rfl ?_
   refine st (OpT.loadA (H rfl) (T1 rfl) ag86 sz86) rfl ?_
   refine st (OpT.alloc (H rfl) zr86 zk86) rfl ?_
   refine sk (OpT.storeBA rfl rfl (Opd.whole (Root.self (t := 13) (by decide)) rfl) rfl sz86 (by decide) (T1 rfl)) rfl ?_
   refine AWl.to (kb 13 rfl <| ka 32 rfl <| kc4 31 30 0 2 rfl <| kc 3 rfl <| Kc 11 (.deep _) rfl <| kc3 27 28 29 rfl <| Kn) ?_
   refine ng ?_
   refine dhs (O2 := OSh.pmap (entP (mpC (fldA s i) (fldA s j) ((x.take z).map (·.2))) (valIn (fldA s i) e.2, valIn (fldA s j) e.2))) 14 11 16 [0, 0, 0, 6, 14, 0, 62, 0, 0, 384, 896, 0, 4094, 8190, 16383, 32767, 16383, 81919, 262143] [(33, 11)] fomo rfl rfl (by decide) ?_
   refine d1 [] (fun ve h => OpT.alias (H rfl) (by decide) (by decide)) rfl ?_
   refine d1 [0] (fun ve h => OpT.move (A := .cel _ _) (.inl rfl) rfl (ok' rfl) (D1 h rfl) rfl) rfl ?_
   refine d1 [2] (fun ve h => OpT.move (A := .cel _ _) (.inl rfl) rfl (ok' rfl) (D1 h rfl) rfl) rfl ?_
   refine d1 [34, 35] (fun ve h => OpT.indexAddr (H rfl) (D1 h rfl) (D1 h rfl) el29 sz80 (by omega) hfi) rfl ?_
   refine d1 [36] (fun ve h => OpT.loadA (H rfl) (D1 h rfl) ag80 sz80) rfl ?_
   refine d1 [13] (fun ve h => OpT.loadB (H rfl) (Root.self (t := 13) (by decide)) ((h _ (List.elem_iff.1 rfl)).trans rfl) ag86 sz86) rfl ?_
   refine d1 [37, 38] (fun ve h => OpT.c1 (ms := [.flat, .flat]) (c_impl_valueIn _ _ hoi) (H rfl) (Af (D1 h rfl) rfl rfl <| Af (D1 h rfl) rfl rfl <| An) rfl rfl) rfl ?_
   refine d1 [0] (fun ve h => OpT.move (A := .cel _ _) (.inl rfl) rfl (ok' rfl) (D1 h rfl) rfl) rfl ?_
   refine d1 [3] (fun ve h => OpT.move (A := .cel _ _) (.inl rfl) rfl (ok' rfl) (D1 h rfl) rfl) rfl ?_
   refine d1 [40, 41] (fun ve h => OpT.indexAddr (H rfl) (D1 h rfl) (D1 h rfl) el29 sz80 (by omega) hfj) rfl ?_
   refine d1 [42] (fun ve h => OpT.loadA (H rfl) (D1 h rfl) ag80 sz80) rfl ?_
   refine d1 [13] (fun ve h => OpT.loadB (H rfl) (Root.self (t := 13) (by decide)) ((h _ (List.elem_iff.1 rfl)).trans rfl) ag86 sz86) rfl ?_
   refine d1 [43, 44] (fun ve h => OpT.c1 (ms := [.flat, .flat]) (c_impl_valueIn _ _ hoj) (H rfl) (Af (D1 h rfl) rfl rfl <| Af (D1 h rfl) rfl rfl <| An) rfl rfl) rfl ?_
   refine d1 [39, 45] (fun ve h => OpT.buildA (H rfl) ar91 sz2 zr91 zk91 (Built.cel (D1 h rfl) rfl rfl sx91_0 (Built.cel (D1 h rfl) rfl rfl sx91_1 (Built.nil _)))) rfl ?_
   refine dn ⟨47, _, [33, 46], rfl, fun ve h ht => OpT.pGet2 (H rfl) (Root.ali ((h _ (List.elem_iff.1 rfl)).trans rfl) (by decide) (by decide)) (D1 h rfl) (⟨Tryz.underlying89, Tryz.underlying91, Tryz.underlying2, sz91, sz2, cz2, Tryz.zeroValue2⟩ : PKey _ 89 91 2 2) ht, ?_⟩
   refine d1 [47] (fun ve h => OpT.add (H rfl) (D1 h rfl) (I rfl) (nw (cnt_nw hcnt hI (by omega)))) rfl ?_
   refine dz (t := 11) [11, 33, 46] (fun ve h => OpT.pEnt (H rfl) (Root.ali ((h _ (List.elem_iff.1 rfl)).trans rfl) (by decide) (by decide)) ((h _ (List.elem_iff.1 rfl)).trans rfl) (D1 h rfl) (by decide) (⟨Tryz.underlying89, Tryz.underlying91, Tryz.underlying2, sz91, sz2, cz2, Tryz.zeroValue2⟩ : PKey _ 89 91 2 2) (by omega)) rfl ?_
   refine d1 [20049] (fun ve h => OpT.extract (m := 20049) (H rfl) (by decide) rfl ((h _ (List.elem_iff.1 rfl)).trans rfl) rfl rfl) rfl ?_
   refine dm (t := 11) [11, 33, 48, 50] (fun ve h => OpT.pSet rfl rfl (Root.ali ((h _ (List.elem_iff.1 rfl)).trans rfl) (by decide) (by decide)) ((h _ (List.elem_iff.1 rfl)).trans rfl) (D1 h rfl) (D1 h rfl)) rfl ?_
   refine dn ⟨⟨by kernel_rfl, by kernel_rfl, by kernel_rfl⟩, ⟨_, rfl, fun B => rfl⟩, ?_⟩
   refine AX.normal_block ?_
   refine AX.go ?_
   refine AW.region ?_
   refine st (OpT.add (H rfl) (T1 rfl) (I rfl) (nw (by omega))) rfl ?_
   refine st (mvT rfl) rfl ?_
   refine nn ?_
   exact AX.again (z + 1) (by omega) (by omega) (Kc 0 _ (Kv rfl rfl) <| Kc 2 _ (Kv rfl rfl) <| Kc 3 _ (Kv rfl rfl) <| Kc 11 _ (Kp rfl (mpC_next he)) <| Kc 27 _ (Kv rfl rfl) <| Kc 28 _ (Kv rfl rfl) <| Kc 29 _ (Kv rfl (by omega)) <| Kn)
  ·
   obtain ⟨hc2, hc2'⟩ := pF hc2
   refine AW.exit ?_
   refine xT <| xT <| AX.exit_hit ?_
   refine AX.go ?_
   refine sr ?_
   refine st (OpT.buildSlice0 (m := 0) (z := .bool false) (Kd.pair (Kd.int .i64) (Kd.pair (Kd.int .i64) (Kd.int .i64))) (H rfl) el26 sz52 (by decide)) rfl ?_
   refine sg (OpT.take (.inl rfl) rfl (ok' rfl) (Root.self (by decide)) rfl rfl (by decide)) (ko 14 rfl <| kc4 30 0 2 3 rfl <| Kc 11 (.deep _) rfl <| kc3 27 28 29 rfl <| Kn) rfl ?_
   refine ng ?_
   refine AW.seq ?_
   refine sr ?_
   refine st (OpT.alias (H rfl) (by decide) (by decide)) rfl ?_
   refine sg (OpT.pRange (H rfl) (Root.ali rfl (by decide) (by decide)) rfl Tryz.underlying89) (Kc 54 (.deep _) rfl <| ko 14 rfl <| kc4 30 0 2 3 rfl <| kc3 27 28 29 rfl <| Kn) rfl ?_
   refine ng ?_
   refine AW.block ?_
   obtain rfl : z = x.length := by omega
   refine AW.loop (fun z : List Nat => z.Nodup ∧ ∀ k_ ∈ z, k_ < (mpC (fldA s i) (fldA s j) (x.map (·.2))).length) (fun z : List Nat => keep [(54, .deep (OSh.piter (mpC (fldA s i) (fldA s j) (x.map (·.2))) z)), (14, .own 52 (Kd.pair (Kd.int .i64) (Kd.pair (Kd.int .i64) (Kd.int .i64))) (z.map (celA (mpC (fldA s i) (fldA s j) (x.map (·.2))))))]) (fun z : List Nat => (mpC (fldA s i) (fldA s j) (x.map (·.2))).length - z.length) ([]) ⟨List.nodup_nil, fun k_ hk => by cases hk⟩ (Kc 54 _ ((by rw [List.take_length]; rfl)) <| Kc 14 _ (Ko rfl rfl) <| Kn) ?_
   intro z hI
   refine sr ?_
   refine AWl.pnext rfl (H rfl) (by decide) (by decide) (by decide) rfl hI.1 hI.2 (fun nb ni nx np hny hnn => ?_)
   refine AWl.to (kc 10055 rfl <| Kc 54 (.deep _) rfl <| ko 14 rfl <| Kn) ?_
   refine st (OpT.extract (m := 10055) (H rfl) (by decide) rfl rfl rfl rfl) rfl ?_
   refine ng ?_
   refine AW.seq ?_
   refine cd rfl (fun hc3 => ?_) fun hc3 => ?_
   ·
    obtain ⟨hc3, hc3'⟩ := pT hc3
    obtain ⟨hnx, hni, hnp⟩ := hny hc3
    subst hnp
    have hnl := (List.getElem?_eq_some_iff.1 hnx).1
    have hzl := out_lt hI.1 hI.2 hnl hni
    refine AW.skip ?_
    refine AX.go ?_
    refine AW.block ?_
    refine sr ?_
    refine s2 (OpT.pEntry (H rfl) (by decide) rfl hnx) rfl ?_
    refine st (OpT.extract (m := 10057) (H rfl) (by decide) rfl rfl rfl rfl) rfl ?_
    refine st (OpT.extract (m := 20057) (H rfl) (by decide) rfl rfl rfl rfl) rfl ?_
    refine st (OpT.alloc (H rfl) zr91 zk91) rfl ?_
    refine sk (OpT.storeBA rfl rfl (Opd.whole (Root.self (t := 15) (by decide)) rfl) rfl sz91 (by decide) (T1 rfl)) rfl ?_
    refine st (asT rfl) rfl ?_
    refine ng ?_
    refine AW.region ?_
    refine st (OpT.alias (H rfl) (by decide) (by decide)) rfl ?_
    refine st (OpT.indexAddrB (H rfl) (Root.self (t := 15) (by decide)) rfl (by decide) (I rfl) ar91 sz2 (by decide) sx91_0) rfl ?_
    refine st (OpT.loadP (H rfl) (T1 rfl) (.inl ⟨_, rfl, rfl⟩) ag2 rfl) rfl ?_
    refine st (OpT.indexAddrB (H rfl) (Root.self (t := 15) (by decide)) rfl (by decide) (I rfl) ar91 sz2 (by decide) sx91_1) rfl ?_
    refine st (OpT.loadP (H rfl) (T1 rfl) (.inl ⟨_, rfl, rfl⟩) ag2 rfl) rfl ?_
    refine st (mvT rfl) rfl ?_
    refine st (OpT.build (H rfl) pl52 zr52 zk52 (Built.cel (T1 rfl) rfl rfl sb52_0 (Built.cel (T1 rfl) rfl rfl sb52_1 (Built.cel (T1 rfl) rfl rfl sb52_2 (Built.nil _))))) rfl ?_
    refine st (OpT.buildSlice (H rfl) el26 zr52 sz52 rfl (by decide) zk52 (by decide) (Built.agg (T1 rfl) rfl (by decide) (sub_arr (by decide) ((0, 0, 0) : Int × Int × Int)) (Built.nil _))) rfl ?_
    refine sg (OpT.append (H rfl) (Root.ali rfl (by decide) (by decide)) rfl (Src.own (Root.self (t := 67) (by decide)) rfl) (by decide) el26 zr52 rfl sz52 by52 (by decide) (by rw [List.length_map]; have h70 := nodup_le hI.1 hI.2; (try simp only [List.length_cons, List.length_nil, List.length_set, List.length_replicate]); omega)) (ko 68 rfl <| ko 67 rfl <| ka 66 rfl <| kc2 65 64 rfl <| Kc 63 (.pel _ _ _ _ _ _ _) rfl <| kc 62 rfl <| Kc 61 (.pel _ _ _ _ _ _ _) rfl <| kc 16 rfl <| kb 15 rfl <| kc 59 rfl <| ka 58 rfl <| ka 10057 rfl <| kc3 20057 56 10055 rfl <| Kc 54 (.deep _) rfl <| Kn) rfl ?_
    refine sg (OpT.take (.inl rfl) rfl (ok' rfl) (Root.self (by decide)) rfl rfl (by decide)) (ko 14 rfl <| ko 67 rfl <| ka 66 rfl <| kc2 65 64 rfl <| Kc 63 (.pel _ _ _ _ _ _ _) rfl <| kc 62 rfl <| Kc 61 (.pel _ _ _ _ _ _ _) rfl <| kc 16 rfl <| kb 15 rfl <| kc 59 rfl <| ka 58 rfl <| ka 10057 rfl <| kc3 20057 56 10055 rfl <| Kc 54 (.deep _) rfl <| Kn) rfl ?_
    refine nn ?_
    refine AX.normal_block ?_
    exact AX.again (z ++ [ni]) (out_inv hI.1 hI.2 hnl hni) (by rw [List.length_append]; simp only [List.length_cons, List.length_nil]; omega) (Kc 54 _ (rfl) <| Kc 14 _ (Ko rfl (celA_next hnx)) <| Kn)
   ·
    obtain ⟨hc3, hc3'⟩ := pF hc3
    obtain ⟨hnp, hall⟩ := hnn hc3
    subst hnp
    refine AW.exit ?_
    refine xT <| xT <| AX.exit_hit ?_
    refine AX.go ?_
    refine sr ?_
    refine st (OpT.alias (H rfl) (by decide) (by decide)) rfl ?_
    refine sg (OpT.cr (ms := [.root 14, .flat]) (c_slices_SortFunc_Cell _ _ _ _ (by rw [List.length_map]; have h70 := nodup_le hI.1 hI.2; omega) (out_all hI.1 hI.2 hall)) (H rfl) (Ar (Root.ali rfl (by decide) (by decide)) rfl rfl rfl <| Af Opd.func rfl rfl <| An) rfl (.inl rfl) rfl) (Kc 69 (.ali _) rfl <| kc2 56 10055 rfl <| Kc 54 (.deep _) rfl <| ko 14 rfl <| Kn) rfl ?_
    refine ng ?_
    refine sr ?_
    refine st (OpT.alias (H rfl) (by decide) (by decide)) rfl ?_
    refine sg (OpT.take (.inl rfl) rfl (ok' rfl) (Root.ali rfl (by decide) (by decide)) rfl rfl (by decide)) (ko 8 rfl <| kc2 56 10055 rfl <| Kc 54 (.deep _) rfl <| Kn) rfl ?_
    refine st (asI rfl) rfl ?_
    refine ng ?_
    refine AW.ret ?_
    exact AX.rt (rs := [.tmp 8, .tmp 9]) (ts := [some 8, some 9]) (.inl rfl) rfl (ROs.cons (RO.tmp (At.self (by decide)) (Ko rfl (by first | (rw [crs_no hcn]; done) | (rw [crs_yes hz]; first | done | rfl))) rfl) <| ROs.cons (RO.tmp (At.self (by decide)) (Kv rfl (by first | (rw [crs_no hcn]; done) | (rw [crs_yes hz]; first | done | rfl))) rfl) <| ROs.nil) (by decide) OutsOK.nil
theorem c_impl_CrossOf (s : List DField) (x : List DCard) (i j : Int) : AC Tryz.prog 10 [.cel (Kd.slice kField) s, .cel (Kd.slice kCard) x, .cel (Kd.int .i64) i, .cel (Kd.int .i64) j] [.cel (Kd.slice (Kd.pair (Kd.int .i64) (Kd.pair (Kd.int .i64) (Kd.int .i64)))) (crsS s x i j).1, .cel (Kd.int .i64) (crsS s x i j).2] [] := (c_impl_CrossOf_o s x i j).frz rfl

end Go.Proofs.YtkgboidjghcegaaGreatDoor.VL
