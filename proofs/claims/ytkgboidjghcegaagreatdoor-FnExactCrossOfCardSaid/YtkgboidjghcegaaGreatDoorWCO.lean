/- Proved here: what some functions of the program take and give: walks with the words of VA..VQ. Printed by program. -/
import Derived.Test.YtkgboidjghcegaaGreatDoorWT
import Derived.Test.YtkgboidjghcegaaGreatDoorPXH
import Derived.Test.YtkgboidjghcegaaGreatDoorPXF
import Derived.Test.YtkgboidjghcegaaGreatDoorVLN
import Derived.Test.YtkgboidjghcegaaGreatDoorVLQ
import Derived.Test.YtkgboidjghcegaaGreatDoorVLK
import Derived.Test.YtkgboidjghcegaaGreatDoorLSF
import Derived.Test.YtkgboidjghcegaaGreatDoorBpa
import Derived.Test.YtkgboidjghcegaaGreatDoorWCN
import Derived.Test.YtkgboidjghcegaaGreatDoorWP
import Derived.Test.YtkgboidjghcegaaGreatDoorWV
import Derived.Test.YtkgboidjghcegaaGreatDoorWTB
import Derived.Test.YtkgboidjghcegaaGreatDoorWL
import Derived.Test.YtkgboidjghcegaaGreatDoorWFO
import Derived.Test.YtkgboidjghcegaaGreatDoorWM
set_option linter.unusedVariables false
set_option linter.unusedSimpArgs false
set_option maxRecDepth 4000
namespace Go.Proofs.YtkgboidjghcegaaGreatDoor.VL
open Go
theorem c_slices_SortFunc_Cell (x : List DCell) (f g : DField) (m : List DMask) (hl : x.length < 4611686018427387904) (hp : x.Perm (crs f g m)) : AC Tryz.prog 40 [.own 52 kC3 x, .clo 41 Kd.unit ()] [] [.own 52 kC3 (crs f g m), .any] := AC.any1 <| AC.sortC Tryz.sortF rfl 52 Tryz.isAgg52 Tryz.sizeOf52 cfC cfC_ord c_impl_CrossOf_1 x (crs f g m) hl (fun zs hz h => crs_uniq hp hz h) Tryz.func40 rfl


/-- impl.CrossOf -/
theorem c_impl_CrossOf_o (s : List DField) (x : List DCard) (i j : Int) : AC Tryz.prog 10 [.cel (Kd.slice kField) s, .cel (Kd.slice kCard) x, .cel (Kd.int .i64) i, .cel (Kd.int .i64) j] [.own 52 (Kd.pair (Kd.int .i64) (Kd.pair (Kd.int .i64) (Kd.int .i64))) (crsS s x i j).1, .cel (Kd.int .i64) (crsS s x i j).2] [] := by
 refine acI (N := 72) Tryz.func10 (Nat.le_of_ble_eq_true rfl) rfl fun w0 hd s0 ar => ?_
 refine AW.to (kc4 0 1 2 3 rfl <| Kn) ?_
 refine AW.fact (fun a w hr => (ok_slice (R_ok (t := 0) rfl hr)).2) (fun hl0 => ?_)
 refine AW.fact (fun a w hr => (ok_slice (R_ok (t := 1) rfl hr)).2) (fun hl1 => ?_)
 refine sr ?_
 refine st (nilO (E := 52) (Kd.pair (Kd.int .i64) (Kd.pair (Kd.int .i64) (Kd.int .i64))) rfl (.inl rfl)) rfl ?_
 refine st (asI rfl) rfl ?_
 refine ng ?_
 refine AW.seq ?_
 refine sr ?_
 refine st (mvT rfl) rfl ?_
 refine st (mvT rfl) rfl ?_
 refine st (mvT rfl) rfl ?_
 refine st (mvT rfl) rfl ?_
 refine st (OpT.buildSlice (H rfl) el81 zr2 sz2 rfl (by decide) zk2 (by decide) (Built.cel (T1 rfl) rfl rfl (sub_arr (by decide) (0 : Int)) (Built.cel (T1 rfl) rfl rfl (sub_arr (by decide) (0 : Int)) (Built.nil _)))) rfl ?_
 refine st (cb1 (ms := [.flat, .flat, .bor 21]) (c_impl_checkTable s x [i, j]) (H rfl) (Af (T1 rfl) rfl rfl <| Af (T1 rfl) rfl rfl <| Ab (Root.self (t := 21) (by decide)) rfl <| An) rfl (indC fun _ _ _ _ h => h)) rfl ?_
 refine st (asT rfl) rfl ?_
 refine ng ?_
 refine sr ?_
 refine st (mvT rfl) rfl ?_
 refine st (OpT.neq (H rfl) (T1 rfl) (I rfl)) rfl ?_
 refine ng ?_
 refine cd rfl (fun hc1 => ?_) fun hc1 => ?_
 ·
  obtain ⟨hc1, hc1'⟩ := pT hc1
  have hcn : tabF s x [i, j] ≠ 0 := by omega
  refine sr ?_
  refine st (mvT rfl) rfl ?_
  refine st (nilO (E := 52) (Kd.pair (Kd.int .i64) (Kd.pair (Kd.int .i64) (Kd.int .i64))) rfl (.inl rfl)) rfl ?_
  refine st (asT rfl) rfl ?_
  refine AWl.to (kc 9 rfl <| ko 8 rfl <| kc4 0 1 2 3 rfl <| Kn) ?_
  refine ng ?_
  refine AW.ret ?_
  refine rT ?_
  exact AX.rt (rs := [.tmp 8, .tmp 9]) (ts := [some 8, some 9]) (.inl rfl) rfl (ROs.cons (RO.tmp (At.self (by decide)) (Ko rfl (by first | (rw [crs_no hcn]; done) | (rw [crs_yes hz]; first | done | rfl))) rfl) <| ROs.cons (RO.tmp (At.self (by decide)) (Kv rfl (by first | (rw [crs_no hcn]; done) | (rw [crs_yes hz]; first | done | rfl))) rfl) <| ROs.nil) (by decide) OutsOK.nil
 ·
  obtain ⟨hc1, hc1'⟩ := pF hc1
  have hz : tabF s x [i, j] = 0 := by omega
  obtain ⟨hti, htj, hts, htx⟩ := tab_two hz
  have hfi := fldA_get hti
  have hfj := fldA_get htj
  have hoi := tab_field hts hfi
  have hoj := tab_field hts hfj
  have hml := mpC_len (fldA s i) (fldA s j) (x.map (·.2))
  rw [List.length_map] at hml
  refine AW.skip ?_
  refine AX.go ?_
  refine sr ?_
  refine st (OpT.mkPMap (H rfl)) rfl ?_
  refine sg (OpT.take (.inl rfl) rfl (ok' rfl) (Root.self (by decide)) rfl rfl (by decide)) (Kc 11 (.deep _) rfl <| kc4 24 23 10 22 rfl <| ko 21 rfl <| kc4 20 19 18 17 rfl <| kc 9 rfl <| ko 8 rfl <| kc4 0 1 2 3 rfl <| Kn) rfl ?_
  refine ng ?_
  refine AW.seq ?_
  refine sr ?_
  refine st (mvT rfl) rfl ?_
  refine st (OpT.len (H rfl) (T1 rfl) el31) rfl ?_
  refine st (mvI rfl) rfl ?_
  refine ng ?_
  refine AW.block ?_
  refine AW.loop (fun z : Nat => z ≤ x.length) (fun z : Nat => keep [(0, .cel (Kd.slice kField) s), (2, .cel (Kd.int .i64) i), (3, .cel (Kd.int .i64) j), (11, .deep (OSh.pmap (mpC (fldA s i) (fldA s j) ((x.take z).map (·.2))))), (27, .cel (Kd.slice kCard) x), (28, .cel (Kd.int .i64) (x.length : Int)), (29, .cel (Kd.int .i64) (z : Int))]) (fun z : Nat => x.length - z) (0) (Nat.zero_le _) (Kc 0 _ (Kv rfl rfl) <| Kc 2 _ (Kv rfl rfl) <| Kc 3 _ (Kv rfl rfl) <| Kc 11 _ (Kp rfl rfl) <| Kc 27 _ (Kv rfl rfl) <| Kc 28 _ (Kv rfl rfl) <| Kc 29 _ (Kv rfl rfl) <| Kn) ?_
  intro z hI
  refine sr ?_
  refine st (OpT.lss (H rfl) (T1 rfl) (T1 rfl)) rfl ?_
  refine ng ?_
  refine AW.seq ?_
  refine cd rfl (fun hc2 => ?_) fun hc2 => ?_
  ·
   obtain ⟨hc2, hc2'⟩ := pT hc2
   obtain ⟨e, he⟩ := getI (x := x) (z := z) (by omega)
   have hcnt := mpC_cnt (x := x) (z := z) (f := fldA s i) (g := fldA s j) (valIn (fldA s i) e.2, valIn (fldA s j) e.2)
   have hmz := mpC_ln (x := x) (z := z) (f := fldA s i) (g := fldA s j)
   refine AW.skip ?_
   refine AX.go ?_
   refine AW.seq ?_
   refine AW.block ?_
   refine sr ?_
   refine st (OpT.indexAddr (H rfl) (T1 rfl) (T1 rfl) el31 sz86 (by omega) he) rfl ?_
   refine st (OpT.loadA (H rfl) (T1 rfl) ag86 sz86) rfl ?_
   refine st (OpT.alloc (H rfl) zr86 zk86) rfl ?_
   refine sk (OpT.storeBA rfl rfl (Opd.whole (Root.self (t := 13) (by decide)) rfl) rfl sz86 (by decide) (T1 rfl)) rfl ?_
   refine AWl.to (kb 13 rfl <| ka 32 rfl <| kc4 31 30 0 2 rfl <| kc 3 rfl <| Kc 11 (.deep _) rfl <| kc3 27 28 29 rfl <| Kn) ?_
   refine ng ?_
   refine dhs (O2 := OSh.pmap (entP (mpC (fldA s i) (fldA s j) ((x.take z).map (·.2))) (valIn (fldA s i) e.2, valIn (fldA s j) e.2))) 14 11 16 [0, 0, 0, 6, 14, 0, 62, 0, 0, 384, 896, 0, 4094, 8190, 16383, 32767, 16383, 81919, 262143] [(33, 11)] fomo rfl rfl (by decide) ?_
   refine d1 [] (fun ve h => OpT.alias (H rfl) (by decide) (by decide)) rfl ?_
   refine d1 [0] (fun ve h => OpT.move (A := .cel _ _) (.inl rfl) rfl (ok' rfl) (D1 h rfl) rfl) rfl ?_
   refine d1 [2] (fun ve h => OpT.move (A := .cel _ _) (.inl rfl) rfl (ok' rfl) (D1 h rfl) rfl) rfl ?_
   refine d1 [34, 35] (fun ve h => OpT.indexAddr (H rfl) (D1 h rfl) (D1 h rfl) el29 sz80 (by omega) hfi) rfl ?_
   refine d1 [36] (fun ve h => OpT.loadA (H rfl) (D1 h rfl) ag80 sz80) rfl ?_
   refine d1 [13] (fun ve h => OpT.loadB (H rfl) (Root.self (t := 13) (by decide)) ((h _ (List.elem_iff.1 rfl)).trans rfl) ag86 sz86) rfl ?_
   refine d1 [37, 38] (fun ve h => OpT.c1 (ms := [.flat, .flat]) (c_impl_valueIn _ _ hoi) (H rfl) (Af (D1 h rfl) rfl rfl <| Af (D1 h rfl) rfl rfl <| An) rfl rfl) rfl ?_
   refine d1 [0] (fun ve h => OpT.move (A := .cel _ _) (.inl rfl) rfl (ok' rfl) (D1 h rfl) rfl) rfl ?_
   refine d1 [3] (fun ve h => OpT.move (A := .cel _ _) (.inl rfl) rfl (ok' rfl) (D1 h rfl) rfl) rfl ?_
   refine d1 [40, 41] (fun ve h => OpT.indexAddr (H rfl) (D1 h rfl) (D1 h rfl) el29 sz80 (by omega) hfj) rfl ?_
   refine d1 [42] (fun ve h => OpT.loadA (H rfl) (D1 h rfl) ag80 sz80) rfl ?_
   refine d1 [13] (fun ve h => OpT.loadB (H rfl) (Root.self (t := 13) (by decide)) ((h _ (List.elem_iff.1 rfl)).trans rfl) ag86 sz86) rfl ?_
   refine d1 [43, 44] (fun ve h => OpT.c1 (ms := [.flat, .flat]) (c_impl_valueIn _ _ hoj) (H rfl) (Af (D1 h rfl) rfl rfl <| Af (D1 h rfl) rfl rfl <| An) rfl rfl) rfl ?_
   refine d1 [39, 45] (fun ve h => OpT.buildA (H rfl) ar91 sz2 zr91 zk91 (Built.cel (D1 h rfl) rfl rfl sx91_0 (Built.cel (D1 h rfl) rfl rfl sx91_1 (Built.nil _)))) rfl ?_
   refine dn ⟨47, _, [33, 46], rfl, fun ve h ht => OpT.pGet2 (H rfl) (Root.ali ((h _ (List.elem_iff.1 rfl)).trans rfl) (by decide) (by decide)) (D1 h rfl) (⟨Tryz.underlying89, Tryz.underlying91, Tryz.underlying2, sz91, sz2, cz2, Tryz.zeroValue2⟩ : PKey _ 89 91 2 2) ht, ?_⟩
   refine d1 [47] (fun ve h => OpT.add (H rfl) (D1 h rfl) (I rfl) (nw (cnt_nw hcnt hI (by omega)))) rfl ?_
   refine dz (t := 11) [11, 33, 46] (fun ve h => OpT.pEnt (H rfl) (Root.ali ((h _ (List.elem_iff.1 rfl)).trans rfl) (by decide) (by decide)) ((h _ (List.elem_iff.1 rfl)).trans rfl) (D1 h rfl) (by decide) (⟨Tryz.underlying89, Tryz.underlying91, Tryz.underlying2, sz91, sz2, cz2, Tryz.zeroValue2⟩ : PKey _ 89 91 2 2) (by omega)) rfl ?_
   refine d1 [20049] (fun ve h => OpT.extract (m := 20049) (H rfl) (by decide) rfl ((h _ (List.elem_iff.1 rfl)).trans rfl) rfl rfl) rfl ?_
   refine dm (t := 11) [11, 33, 48, 50] (fun ve h => OpT.pSet rfl rfl (Root.ali ((h _ (List.elem_iff.1 rfl)).trans rfl) (by decide) (by decide)) ((h _ (List.elem_iff.1 rfl)).trans rfl) (D1 h rfl) (D1 h rfl)) rfl ?_
   refine dn ⟨⟨by kernel_rfl, by kernel_rfl, by kernel_rfl⟩, ⟨_, rfl, fun B => rfl⟩, ?_⟩
   refine AX.normal_block ?_
   refine AX.go ?_
   refine AW.region ?_
   refine st (OpT.add (H rfl) (T1 rfl) (I rfl) (nw (by omega))) rfl ?_
   refine st (mvT rfl) rfl ?_
   refine nn ?_
   exact AX.again (z + 1) (by omega) (by omega) (Kc 0 _ (Kv rfl rfl) <| Kc 2 _ (Kv rfl rfl) <| Kc 3 _ (Kv rfl rfl) <| Kc 11 _ (Kp rfl (mpC_next he)) <| Kc 27 _ (Kv rfl rfl) <| Kc 28 _ (Kv rfl rfl) <| Kc 29 _ (Kv rfl (by omega)) <| Kn)
  ·
   obtain ⟨hc2, hc2'⟩ := pF hc2
   refine AW.exit ?_
   refine xT <| xT <| AX.exit_hit ?_
   refine AX.go ?_
   refine sr ?_
   refine st (OpT.buildSlice0 (m := 0) (z := .bool false) (Kd.pair (Kd.int .i64) (Kd.pair (Kd.int .i64) (Kd.int .i64))) (H rfl) el26 sz52 (by decide)) rfl ?_
   refine sg (OpT.take (.inl rfl) rfl (ok' rfl) (Root.self (by decide)) rfl rfl (by decide)) (ko 14 rfl <| kc4 30 0 2 3 rfl <| Kc 11 (.deep _) rfl <| kc3 27 28 29 rfl <| Kn) rfl ?_
   refine ng ?_
   refine AW.seq ?_
   refine sr ?_
   refine st (OpT.alias (H rfl) (by decide) (by decide)) rfl ?_
   refine sg (OpT.pRange (H rfl) (Root.ali rfl (by decide) (by decide)) rfl Tryz.underlying89) (Kc 54 (.deep _) rfl <| ko 14 rfl <| kc4 30 0 2 3 rfl <| kc3 27 28 29 rfl <| Kn) rfl ?_
   refine ng ?_
   refine AW.block ?_
   obtain rfl : z = x.length := by omega
   refine AW.loop (fun z : List Nat => z.Nodup ∧ ∀ k_ ∈ z, k_ < (mpC (fldA s i) (fldA s j) (x.map (·.2))).length) (fun z : List Nat => keep [(54, .deep (OSh.piter (mpC (fldA s i) (fldA s j) (x.map (·.2))) z)), (14, .own 52 (Kd.pair (Kd.int .i64) (Kd.pair (Kd.int .i64) (Kd.int .i64))) (z.map (celA (mpC (fldA s i) (fldA s j) (x.map (·.2))))))]) (fun z : List Nat => (mpC (fldA s i) (fldA s j) (x.map (·.2))).length - z.length) ([]) ⟨List.nodup_nil, fun k_ hk => by cases hk⟩ (Kc 54 _ ((by rw [List.take_length]; rfl)) <| Kc 14 _ (Ko rfl rfl) <| Kn) ?_
   intro z hI
   refine sr ?_
   refine AWl.pnext rfl (H rfl) (by decide) (by decide) (by decide) rfl hI.1 hI.2 (fun nb ni nx np hny hnn => ?_)
   refine AWl.to (kc 10055 rfl <| Kc 54 (.deep _) rfl <| ko 14 rfl <| Kn) ?_
   refine st (OpT.extract (m := 10055) (H rfl) (by decide) rfl rfl rfl rfl) rfl ?_
   refine ng ?_
   refine AW.seq ?_
   refine cd rfl (fun hc3 => ?_) fun hc3 => ?_
   ·
    obtain ⟨hc3, hc3'⟩ := pT hc3
    obtain ⟨hnx, hni, hnp⟩ := hny hc3
    subst hnp
    have hnl := (List.getElem?_eq_some_iff.1 hnx).1
    have hzl := out_lt hI.1 hI.2 hnl hni
    refine AW.skip ?_
    refine AX.go ?_
    refine AW.block ?_
    refine sr ?_
    refine s2 (OpT.pEntry (H rfl) (by decide) rfl hnx) rfl ?_
    refine st (OpT.extract (m := 10057) (H rfl) (by decide) rfl rfl rfl rfl) rfl ?_
    refine st (OpT.extract (m := 20057) (H rfl) (by decide) rfl rfl rfl rfl) rfl ?_
    refine st (OpT.alloc (H rfl) zr91 zk91) rfl ?_
    refine sk (OpT.storeBA rfl rfl (Opd.whole (Root.self (t := 15) (by decide)) rfl) rfl sz91 (by decide) (T1 rfl)) rfl ?_
    refine st (asT rfl) rfl ?_
    refine ng ?_
    refine AW.region ?_
    refine st (OpT.alias (H rfl) (by decide) (by decide)) rfl ?_
    refine st (OpT.indexAddrB (H rfl) (Root.self (t := 15) (by decide)) rfl (by decide) (I rfl) ar91 sz2 (by decide) sx91_0) rfl ?_
    refine st (OpT.loadP (H rfl) (T1 rfl) (.inl ⟨_, rfl, rfl⟩) ag2 rfl) rfl ?_
    refine st (OpT.indexAddrB (H rfl) (Root.self (t := 15) (by decide)) rfl (by decide) (I rfl) ar91 sz2 (by decide) sx91_1) rfl ?_
    refine st (OpT.loadP (H rfl) (T1 rfl) (.inl ⟨_, rfl, rfl⟩) ag2 rfl) rfl ?_
    refine st (mvT rfl) rfl ?_
    refine st (OpT.build (H rfl) pl52 zr52 zk52 (Built.cel (T1 rfl) rfl rfl sb52_0 (Built.cel (T1 rfl) rfl rfl sb52_1 (Built.cel (T1 rfl) rfl rfl sb52_2 (Built.nil _))))) rfl ?_
    refine st (OpT.buildSlice (H rfl) el26 zr52 sz52 rfl (by decide) zk52 (by decide) (Built.agg (T1 rfl) rfl (by decide) (sub_arr (by decide) ((0, 0, 0) : Int × Int × Int)) (Built.nil _))) rfl ?_
    refine sg (OpT.append (H rfl) (Root.ali rfl (by decide) (by decide)) rfl (Src.own (Root.self (t := 67) (by decide)) rfl) (by decide) el26 zr52 rfl sz52 by52 (by decide) (by rw [List.length_map]; have h70 := nodup_le hI.1 hI.2; (try simp only [List.length_cons, List.length_nil, List.length_set, List.length_replicate]); omega)) (ko 68 rfl <| ko 67 rfl <| ka 66 rfl <| kc2 65 64 rfl <| Kc 63 (.pel _ _ _ _ _ _ _) rfl <| kc 62 rfl <| Kc 61 (.pel _ _ _ _ _ _ _) rfl <| kc 16 rfl <| kb 15 rfl <| kc 59 rfl <| ka 58 rfl <| ka 10057 rfl <| kc3 20057 56 10055 rfl <| Kc 54 (.deep _) rfl <| Kn) rfl ?_
    refine sg (OpT.take (.inl rfl) rfl (ok' rfl) (Root.self (by decide)) rfl rfl (by decide)) (ko 14 rfl <| ko 67 rfl <| ka 66 rfl <| kc2 65 64 rfl <| Kc 63 (.pel _ _ _ _ _ _ _) rfl <| kc 62 rfl <| Kc 61 (.pel _ _ _ _ _ _ _) rfl <| kc 16 rfl <| kb 15 rfl <| kc 59 rfl <| ka 58 rfl <| ka 10057 rfl <| kc3 20057 56 10055 rfl <| Kc 54 (.deep _) rfl <| Kn) rfl ?_
    refine nn ?_
    refine AX.normal_block ?_
    exact AX.again (z ++ [ni]) (out_inv hI.1 hI.2 hnl hni) (by rw [List.length_append]; simp only [List.length_cons, List.length_nil]; omega) (Kc 54 _ (rfl) <| Kc 14 _ (Ko rfl (celA_next hnx)) <| Kn)
   ·
    obtain ⟨hc3, hc3'⟩ := pF hc3
    obtain ⟨hnp, hall⟩ := hnn hc3
    subst hnp
    refine AW.exit ?_
    refine xT <| xT <| AX.exit_hit ?_
    refine AX.go ?_
    refine sr ?_
    refine st (OpT.alias (H rfl) (by decide) (by decide)) rfl ?_
    refine sg (OpT.cr (ms := [.root 14, .flat]) (c_slices_SortFunc_Cell _ _ _ _ (by rw [List.length_map]; have h70 := nodup_le hI.1 hI.2; omega) (out_all hI.1 hI.2 hall)) (H rfl) (Ar (Root.ali rfl (by decide) (by decide)) rfl rfl rfl <| Af Opd.func rfl rfl <| An) rfl (.inl rfl) rfl) (Kc 69 (.ali _) rfl <| kc2 56 10055 rfl <| Kc 54 (.deep _) rfl <| ko 14 rfl <| Kn) rfl ?_
    refine ng ?_
    refine sr ?_
    refine st (OpT.alias (H rfl) (by decide) (by decide)) rfl ?_
    refine sg (OpT.take (.inl rfl) rfl (ok' rfl) (Root.ali rfl (by decide) (by decide)) rfl rfl (by decide)) (ko 8 rfl <| kc2 56 10055 rfl <| Kc 54 (.deep _) rfl <| Kn) rfl ?_
    refine st (asI rfl) rfl ?_
    refine ng ?_
    refine AW.ret ?_
    exact AX.rt (rs := [.tmp 8, .tmp 9]) (ts := [some 8, some 9]) (.inl rfl) rfl (ROs.cons (RO.tmp (At.self (by decide)) (Ko rfl (by first | (rw [crs_no hcn]; done) | (rw [crs_yes hz]; first | done | rfl))) rfl) <| ROs.cons (RO.tmp (At.self (by decide)) (Kv rfl (by first | (rw [crs_no hcn]; done) | (rw [crs_yes hz]; first | done | rfl))) rfl) <| ROs.nil) (by decide) OutsOK.nil
/-- laws.eqCell -/
theorem c_laws_eqCell (x y : Int × Int × Int) : AC Tryz.prog 44 [.agg (Kd.pair (Kd.int .i64) (Kd.pair (Kd.int .i64) (Kd.int .i64))) x, .agg (Kd.pair (Kd.int .i64) (Kd.pair (Kd.int .i64) (Kd.int .i64))) y] [.cel Kd.bool (eqv x y)] [] := by
 refine acI (N := 20) Tryz.func44 (Nat.le_of_ble_eq_true rfl) rfl fun w0 hd s0 ar => ?_
 refine AW.to (ka 0 rfl <| ka 1 rfl <| Kn) ?_
 refine sr ?_
 refine st (OpT.frz (OpT.boxA (E := 52) (H rfl) (T1 rfl))) rfl ?_
 refine st (OpT.frz (OpT.boxA (E := 52) (H rfl) (T1 rfl))) rfl ?_
 refine st (asB rfl) rfl ?_
 refine ng ?_
 refine AW.seq ?_
 refine sr ?_
 refine st (OpT.fieldAddr (H rfl) (T1 rfl) fd52_0 sz2 (by decide) sb52_0) rfl ?_
 refine st (OpT.load (H rfl) (T1 rfl) ag2 rfl) rfl ?_
 refine st (OpT.fieldAddr (H rfl) (T1 rfl) fd52_0 sz2 (by decide) sb52_0) rfl ?_
 refine st (OpT.load (H rfl) (T1 rfl) ag2 rfl) rfl ?_
 refine st (OpT.neq (H rfl) (T1 rfl) (T1 rfl)) rfl ?_
 refine ng ?_
 refine cd rfl (fun hc1 => ?_) fun hc1 => ?_
 ·
  replace hc1 := oT hc1
  refine sr ?_
  refine st (asB rfl) rfl ?_
  refine ng ?_
  refine AW.ret ?_
  refine rT ?_
  exact rt1 rfl (.inl rfl) (by rw [eqv_pair (x := x), eqv_pair (x := x.2)]; simp_all [eqv_beq, eqv_bne, Bool.and_assoc])
 ·
  replace hc1 := oF hc1
  refine AW.skip ?_
  refine AX.go ?_
  refine AW.seq ?_
  refine sr ?_
  refine st (OpT.fieldAddr (H rfl) (T1 rfl) fd52_1 sz2 (by decide) sb52_1) rfl ?_
  refine st (OpT.load (H rfl) (T1 rfl) ag2 rfl) rfl ?_
  refine st (OpT.fieldAddr (H rfl) (T1 rfl) fd52_1 sz2 (by decide) sb52_1) rfl ?_
  refine st (OpT.load (H rfl) (T1 rfl) ag2 rfl) rfl ?_
  refine st (OpT.neq (H rfl) (T1 rfl) (T1 rfl)) rfl ?_
  refine AWl.to (kc4 14 4 3 2 rfl <| Kn) ?_
  refine ng ?_
  refine cd rfl (fun hc2 => ?_) fun hc2 => ?_
  ·
   replace hc2 := oT hc2
   refine sr ?_
   refine st (asB rfl) rfl ?_
   refine ng ?_
   refine AW.ret ?_
   refine rT ?_
   exact rt1 rfl (.inl rfl) (by rw [eqv_pair (x := x), eqv_pair (x := x.2)]; simp_all [eqv_beq, eqv_bne, Bool.and_assoc])
  ·
   replace hc2 := oF hc2
   refine AW.skip ?_
   refine AX.go ?_
   refine AW.seq ?_
   refine sr ?_
   refine st (OpT.fieldAddr (H rfl) (T1 rfl) fd52_2 sz2 (by decide) sb52_2) rfl ?_
   refine st (OpT.load (H rfl) (T1 rfl) ag2 rfl) rfl ?_
   refine st (OpT.fieldAddr (H rfl) (T1 rfl) fd52_2 sz2 (by decide) sb52_2) rfl ?_
   refine st (OpT.load (H rfl) (T1 rfl) ag2 rfl) rfl ?_
   refine st (OpT.neq (H rfl) (T1 rfl) (T1 rfl)) rfl ?_
   refine ng ?_
   refine cd rfl (fun hc3 => ?_) fun hc3 => ?_
   ·
    replace hc3 := oT hc3
    refine sr ?_
    refine st (asB rfl) rfl ?_
    refine ng ?_
    refine AW.ret ?_
    refine rT ?_
    exact rt1 rfl (.inl rfl) (by rw [eqv_pair (x := x), eqv_pair (x := x.2)]; simp_all [eqv_beq, eqv_bne, Bool.and_assoc])
   ·
    replace hc3 := oF hc3
    refine AW.skip ?_
    refine AX.go ?_
    refine sr ?_
    refine st (asB rfl) rfl ?_
    refine ng ?_
    refine AW.ret ?_
    exact rt1 rfl (.inl rfl) (by rw [eqv_pair (x := x), eqv_pair (x := x.2)]; simp_all [eqv_beq, eqv_bne, Bool.and_assoc])

/-- laws.eqCellS -/
theorem c_laws_eqCellS (x y : List (Int × Int × Int)) : AC Tryz.prog 11 [.cel (Kd.slice (Kd.pair (Kd.int .i64) (Kd.pair (Kd.int .i64) (Kd.int .i64)))) x, .cel (Kd.slice (Kd.pair (Kd.int .i64) (Kd.pair (Kd.int .i64) (Kd.int .i64)))) y] [.cel Kd.bool (eqv x y)] [] := by
 refine acI (N := 27) Tryz.func11 (Nat.le_of_ble_eq_true rfl) rfl fun w0 hd s0 ar => ?_
 refine AW.to (kc2 0 1 rfl <| Kn) ?_
 refine AW.fact (fun a w hr => (ok_slice (R_ok (t := 0) rfl hr)).2) (fun hl0 => ?_)
 refine AW.fact (fun a w hr => (ok_slice (R_ok (t := 1) rfl hr)).2) (fun hl1 => ?_)
 refine sr ?_
 refine st (asB rfl) rfl ?_
 refine ng ?_
 refine AW.seq ?_
 refine sr ?_
 refine st (mvT rfl) rfl ?_
 refine st (OpT.len (H rfl) (T1 rfl) el26) rfl ?_
 refine st (mvT rfl) rfl ?_
 refine st (OpT.len (H rfl) (T1 rfl) el26) rfl ?_
 refine st (OpT.neq (H rfl) (T1 rfl) (T1 rfl)) rfl ?_
 refine ng ?_
 refine cd rfl (fun hc1 => ?_) fun hc1 => ?_
 ·
  replace hc1 := oT hc1
  try simp only [bne_iff_ne, ne_eq, bne_eq_false_iff_eq] at hc1
  refine sr ?_
  refine st (asB rfl) rfl ?_
  refine ng ?_
  refine AW.ret ?_
  refine rT ?_
  exact rt1 rfl (.inl rfl) (by first | exact eqs_len (by omega) | exact eqs_ne ha hb (by simpa [eqv_iff, eqv_false_iff] using hc3) | exact eqs_all hI.2 (by omega) (by omega))
 ·
  replace hc1 := oF hc1
  try simp only [bne_iff_ne, ne_eq, bne_eq_false_iff_eq] at hc1
  refine AW.skip ?_
  refine AX.go ?_
  refine AW.seq ?_
  refine sr ?_
  refine st (asI rfl) rfl ?_
  refine ng ?_
  refine AW.block ?_
  refine AW.loop (fun z : Nat => z ≤ x.length ∧ x.take z = y.take z) (fun z : Nat => keep [(0, .cel (Kd.slice (Kd.pair (Kd.int .i64) (Kd.pair (Kd.int .i64) (Kd.int .i64)))) x), (1, .cel (Kd.slice (Kd.pair (Kd.int .i64) (Kd.pair (Kd.int .i64) (Kd.int .i64)))) y), (5, .cel (Kd.int .i64) (z : Int))]) (fun z : Nat => x.length - z) (0) ⟨Nat.zero_le _, rfl⟩ (Kc 0 _ (Kv rfl rfl) <| Kc 1 _ (Kv rfl rfl) <| Kc 5 _ (Kv rfl rfl) <| Kn) ?_
  intro z hI
  refine AW.seq ?_
  refine sr ?_
  refine st (mvT rfl) rfl ?_
  refine st (mvT rfl) rfl ?_
  refine st (OpT.len (H rfl) (T1 rfl) el26) rfl ?_
  refine st (OpT.lss (H rfl) (T1 rfl) (T1 rfl)) rfl ?_
  refine ng ?_
  refine cd rfl (fun hc2 => ?_) fun hc2 => ?_
  ·
   replace hc2 := oT hc2
   obtain ⟨a, ha⟩ := getI (x := x) (z := z) (by omega); obtain ⟨b, hb⟩ := getI (x := y) (z := z) (by omega)
   refine AW.skip ?_
   refine AX.go ?_
   refine AW.seq ?_
   refine AW.block ?_
   refine AW.seq ?_
   refine dh fomo ?_
   refine d1 [0] (fun ve h => OpT.move (A := .cel _ _) (.inl rfl) rfl (ok' rfl) (D1 h rfl) rfl) rfl ?_
   refine d1 [5] (fun ve h => OpT.move (A := .cel _ _) (.inl rfl) rfl (ok' rfl) (D1 h rfl) rfl) rfl ?_
   refine d1 [17, 18] (fun ve h => OpT.indexAddr (H rfl) (D1 h rfl) (D1 h rfl) el26 sz52 (by omega) (by assumption)) rfl ?_
   refine d1 [19] (fun ve h => OpT.loadA (H rfl) (D1 h rfl) ag52 sz52) rfl ?_
   refine d1 [1] (fun ve h => OpT.move (A := .cel _ _) (.inl rfl) rfl (ok' rfl) (D1 h rfl) rfl) rfl ?_
   refine d1 [5] (fun ve h => OpT.move (A := .cel _ _) (.inl rfl) rfl (ok' rfl) (D1 h rfl) rfl) rfl ?_
   refine d1 [21, 22] (fun ve h => OpT.indexAddr (H rfl) (D1 h rfl) (D1 h rfl) el26 sz52 (by omega) (by assumption)) rfl ?_
   refine d1 [23] (fun ve h => OpT.loadA (H rfl) (D1 h rfl) ag52 sz52) rfl ?_
   refine d1 [20, 24] (fun ve h => OpT.c1 (ms := [.flat, .flat]) (c_laws_eqCell _ _) (H rfl) (Af (D1 h rfl) rfl rfl <| Af (D1 h rfl) rfl rfl <| An) rfl rfl) rfl ?_
   refine d1 [25] (fun ve h => OpT.not (H rfl) (D1 h rfl)) rfl ?_
   refine dn ⟨by kernel_rfl, by kernel_rfl, ?_⟩
   refine AX.go ?_
   refine cd rfl (fun hc3 => ?_) fun hc3 => ?_
   ·
    replace hc3 := oT hc3
    refine sr ?_
    refine st (asB rfl) rfl ?_
    refine ng ?_
    refine AW.ret ?_
    refine rK <| rT <| rT <| rK <| rT ?_
    exact rt1 rfl (.inl rfl) (by first | exact eqs_len (by omega) | exact eqs_ne ha hb (by simpa [eqv_iff, eqv_false_iff] using hc3) | exact eqs_all hI.2 (by omega) (by omega))
   ·
    replace hc3 := oF hc3
    refine AW.skip ?_
    refine AX.normal_block ?_
    refine AX.go ?_
    refine AW.region ?_
    refine st (mvT rfl) rfl ?_
    refine st (OpT.add (H rfl) (T1 rfl) (I rfl) (nw (by omega))) rfl ?_
    refine st (asT rfl) rfl ?_
    refine nn ?_
    exact AX.again (z + 1) ⟨by omega, eqs_step hI.2 ha hb (by simpa [eqv_iff, eqv_false_iff] using hc3)⟩ (by omega) (Kc 0 _ (Kv rfl rfl) <| Kc 1 _ (Kv rfl rfl) <| Kc 5 _ (Kv rfl (by omega)) <| Kn)
  ·
   replace hc2 := oF hc2
   refine AW.exit ?_
   refine xT <| xT <| AX.exit_hit ?_
   refine AX.go ?_
   refine sr ?_
   refine st (asB rfl) rfl ?_
   refine ng ?_
   refine AW.ret ?_
   exact rt1 rfl (.inl rfl) (by first | exact eqs_len (by omega) | exact eqs_ne ha hb (by simpa [eqv_iff, eqv_false_iff] using hc3) | exact eqs_all hI.2 (by omega) (by omega))

/-- laws.markCellS -/
theorem c_laws_markCellS (x : List (Int × Int × Int)) (k : Int) (h : 0 ≤ k ∧ k ≤ 1152921504606846976 ∧ x.length ≤ 115292150460684697) : AC Tryz.prog 16 [.own 52 (Kd.pair (Kd.int .i64) (Kd.pair (Kd.int .i64) (Kd.int .i64))) x, .cel (Kd.int .i64) k] [.cel (Kd.int .i64) (k + 3 * (x.length : Int))] [.own 52 (Kd.pair (Kd.int .i64) (Kd.pair (Kd.int .i64) (Kd.int .i64))) (mkL fCe 3 x.length k), .any] := by
 refine acI (N := 34) Tryz.func16 (Nat.le_of_ble_eq_true rfl) rfl fun w0 hd s0 ar => ?_
 refine AW.to (ko 0 rfl <| kc 1 rfl <| Kn) ?_
 refine sr ?_
 refine st (asI rfl) rfl ?_
 refine ng ?_
 refine AW.seq ?_
 refine sr ?_
 refine st (asI rfl) rfl ?_
 refine ng ?_
 refine AW.block ?_
 refine AW.loop (fun z : Nat => z ≤ x.length) (fun z : Nat => keep [(0, .own 52 (Kd.pair (Kd.int .i64) (Kd.pair (Kd.int .i64) (Kd.int .i64))) (mkR fCe 3 x z k)), (1, .cel (Kd.int .i64) (k + 3 * (z : Int))), (5, .cel (Kd.int .i64) (z : Int))]) (fun z : Nat => x.length - z) (0) (Nat.zero_le _) (Kc 0 _ (Ko rfl mkR_zero) <| Kc 1 _ (Kv rfl (by omega)) <| Kc 5 _ (Kv rfl rfl) <| Kn) ?_
 intro z hI
 refine AW.seq ?_
 refine sr ?_
 refine st (mvT rfl) rfl ?_
 refine st (OpT.alias (H rfl) (by decide) (by decide)) rfl ?_
 refine st (OpT.lenO (H rfl) (Root.ali rfl (by decide) (by decide)) rfl el26) rfl ?_
 refine st (OpT.lss (H rfl) (T1 rfl) (T1 rfl)) rfl ?_
 refine ng ?_
 refine cd rfl (fun hc1 => ?_) fun hc1 => ?_
 ·
  obtain ⟨hc1, hc1'⟩ := pT hc1
  rw [mkR_len hI] at hc1'
  obtain ⟨a, ha⟩ := getI (x := (mkR fCe 3 x z k)) (z := z) (by rw [mkR_len (by omega)]; omega)
  have hln := mkR_len (f := fCe) (w := 3) (x := x) (z := z) (k := k) (by omega)
  have hs0 := set_get (l := (mkR fCe 3 x z k)) (z := z) (by simp only [set_len, hln]; omega) (((k + 3 * (z : Int)), a.2) : Int × Int × Int)
  have hs1 := set_get (l := (List.set (mkR fCe 3 x z k) (Int.toNat (z : Int)) (((k + 3 * (z : Int)), a.2) : Int × Int × Int))) (z := z) (by simp only [set_len, hln]; omega) (((k + 3 * (z : Int)), ((k + 3 * (z : Int)) + 1), a.2.2) : Int × Int × Int)
  have hs2 := set_get (l := (List.set (List.set (mkR fCe 3 x z k) (Int.toNat (z : Int)) (((k + 3 * (z : Int)), a.2) : Int × Int × Int)) (Int.toNat (z : Int)) (((k + 3 * (z : Int)), ((k + 3 * (z : Int)) + 1), a.2.2) : Int × Int × Int))) (z := z) (by simp only [set_len, hln]; omega) (((k + 3 * (z : Int)), ((k + 3 * (z : Int)) + 1), ((k + 3 * (z : Int)) + 1 + 1)) : Int × Int × Int)
  refine AW.skip ?_
  refine AX.go ?_
  refine AW.seq ?_
  refine AW.block ?_
  refine sr ?_
  refine st (OpT.alias (H rfl) (by decide) (by decide)) rfl ?_
  refine st (mvT rfl) rfl ?_
  refine st (mvT rfl) rfl ?_
  refine st (OpT.indexAddrO (H rfl) (Root.ali rfl (by decide) (by decide)) rfl (by decide) (T1 rfl) el26 sz52 (by omega) (by assumption)) rfl ?_
  refine st (OpT.fieldAddrE (H rfl) (T1 rfl) (.inr ⟨_, _, rfl, (by assumption)⟩) (by decide) fd52_0 sz2 (by decide) sb52_0 (by decide)) rfl ?_
  refine sk (OpT.storeO rfl rfl (T1 rfl) rfl (by assumption) sz2 rfl (T1 rfl)) rfl ?_
  refine ng ?_
  refine sr ?_
  refine st (mvT rfl) rfl ?_
  refine st (OpT.add (H rfl) (T1 rfl) (I rfl) (nw (by omega))) rfl ?_
  refine st (asT rfl) rfl ?_
  refine ng ?_
  refine sr ?_
  refine st (OpT.alias (H rfl) (by decide) (by decide)) rfl ?_
  refine st (mvT rfl) rfl ?_
  refine st (mvT rfl) rfl ?_
  refine st (OpT.indexAddrO (H rfl) (Root.ali rfl (by decide) (by decide)) rfl (by decide) (T1 rfl) el26 sz52 (by omega) (by assumption)) rfl ?_
  refine st (OpT.fieldAddrE (H rfl) (T1 rfl) (.inr ⟨_, _, rfl, (by assumption)⟩) (by decide) fd52_1 sz2 (by decide) sb52_1 (by decide)) rfl ?_
  refine sk (OpT.storeO rfl rfl (T1 rfl) rfl (by assumption) sz2 rfl (T1 rfl)) rfl ?_
  refine ng ?_
  refine sr ?_
  refine st (mvT rfl) rfl ?_
  refine st (OpT.add (H rfl) (T1 rfl) (I rfl) (nw (by omega))) rfl ?_
  refine st (asT rfl) rfl ?_
  refine ng ?_
  refine sr ?_
  refine st (OpT.alias (H rfl) (by decide) (by decide)) rfl ?_
  refine st (mvT rfl) rfl ?_
  refine st (mvT rfl) rfl ?_
  refine st (OpT.indexAddrO (H rfl) (Root.ali rfl (by decide) (by decide)) rfl (by decide) (T1 rfl) el26 sz52 (by omega) (by assumption)) rfl ?_
  refine st (OpT.fieldAddrE (H rfl) (T1 rfl) (.inr ⟨_, _, rfl, (by assumption)⟩) (by decide) fd52_2 sz2 (by decide) sb52_2 (by decide)) rfl ?_
  refine sk (OpT.storeO rfl rfl (T1 rfl) rfl (by assumption) sz2 rfl (T1 rfl)) rfl ?_
  refine ng ?_
  refine AW.region ?_
  refine st (mvT rfl) rfl ?_
  refine st (OpT.add (H rfl) (T1 rfl) (I rfl) (nw (by omega))) rfl ?_
  refine st (asT rfl) rfl ?_
  refine nn ?_
  refine AX.normal_block ?_
  refine AX.go ?_
  refine AW.region ?_
  refine st (mvT rfl) rfl ?_
  refine st (OpT.add (H rfl) (T1 rfl) (I rfl) (nw (by omega))) rfl ?_
  refine st (asT rfl) rfl ?_
  refine nn ?_
  exact AX.again (z + 1) (by omega) (by omega) (Kc 0 _ (Ko rfl (by (try simp only [List.set_set]); exact mkR_step (by omega))) <| Kc 1 _ (Kv rfl (by omega)) <| Kc 5 _ (Kv rfl (by omega)) <| Kn)
 ·
  obtain ⟨hc1, hc1'⟩ := pF hc1
  rw [mkR_len hI] at hc1'
  refine AW.exit ?_
  refine xT <| xT <| AX.exit_hit ?_
  refine AX.go ?_
  refine sr ?_
  refine st (mvT rfl) rfl ?_
  refine st (asT rfl) rfl ?_
  refine ng ?_
  refine AW.ret ?_
  exact AX.rt (rs := [.tmp 4]) (ts := [some 4]) (.inl rfl) rfl (ROs.cons (RO.tmp (At.self (by decide)) (Kv rfl (by omega)) rfl) <| ROs.nil) (by decide) (fun i => match i with | 0 => .inr ⟨rfl, Ko rfl (mkR_end (by omega) hI), rfl, by decide⟩ | 1 => .inl rfl | _ + 2 => .inl rfl)

/-- laws.heldCellS -/
theorem c_laws_heldCellS (n : Nat) (k : Int) (h : 0 ≤ k ∧ k ≤ 1152921504606846976 ∧ n ≤ 115292150460684697) : AC Tryz.prog 17 [.cel (Kd.slice (Kd.pair (Kd.int .i64) (Kd.pair (Kd.int .i64) (Kd.int .i64)))) (mkL fCe 3 n k), .cel (Kd.int .i64) k] [.cel (Kd.int .i64) (k + 3 * (n : Int))] [] := by
 refine acI (N := 40) Tryz.func17 (Nat.le_of_ble_eq_true rfl) rfl fun w0 hd s0 ar => ?_
 refine AW.to (kc2 0 1 rfl <| Kn) ?_
 refine sr ?_
 refine st (asI rfl) rfl ?_
 refine ng ?_
 refine AW.seq ?_
 refine sr ?_
 refine st (asI rfl) rfl ?_
 refine ng ?_
 refine AW.block ?_
 refine AW.loop (fun z : Nat => z ≤ n) (fun z : Nat => keep [(0, .cel (Kd.slice (Kd.pair (Kd.int .i64) (Kd.pair (Kd.int .i64) (Kd.int .i64)))) (mkL fCe 3 n k)), (1, .cel (Kd.int .i64) (k + 3 * (z : Int))), (5, .cel (Kd.int .i64) (z : Int))]) (fun z : Nat => n - z) (0) (Nat.zero_le _) (Kc 0 _ (Kv rfl rfl) <| Kc 1 _ (Kv rfl (by omega)) <| Kc 5 _ (Kv rfl rfl) <| Kn) ?_
 intro z hI
 refine AW.seq ?_
 refine sr ?_
 refine st (mvT rfl) rfl ?_
 refine st (mvT rfl) rfl ?_
 refine st (OpT.len (H rfl) (T1 rfl) el26) rfl ?_
 refine st (OpT.lss (H rfl) (T1 rfl) (T1 rfl)) rfl ?_
 refine ng ?_
 refine cd rfl (fun hc1 => ?_) fun hc1 => ?_
 ·
  obtain ⟨hc1, hc1'⟩ := pT hc1
  rw [mkL_len] at hc1'
  have hv := mkL_get (f := fCe) (w := 3) (k := k) (n := n) (z := z) (by omega)
  refine AW.skip ?_
  refine AX.go ?_
  refine AW.seq ?_
  refine AW.block ?_
  refine AW.seq ?_
  refine sr ?_
  refine st (mvT rfl) rfl ?_
  refine st (mvT rfl) rfl ?_
  refine st (OpT.indexAddr (H rfl) (T1 rfl) (T1 rfl) el26 sz52 (by omega) (by assumption)) rfl ?_
  refine st (OpT.fieldAddr (H rfl) (T1 rfl) fd52_0 sz2 (by decide) sb52_0) rfl ?_
  refine st (OpT.load (H rfl) (T1 rfl) ag2 rfl) rfl ?_
  refine st (mvT rfl) rfl ?_
  refine st (OpT.neq (H rfl) (T1 rfl) (T1 rfl)) rfl ?_
  refine ng ?_
  refine cd rfl (fun hc2 => ?_) fun hc2 => ?_
  ·
   obtain ⟨hc2, hc2'⟩ := pT hc2
   exact (show False from (hc2' rfl)).elim
  ·
   obtain ⟨hc2, hc2'⟩ := pF hc2
   refine AW.skip ?_
   refine AX.go ?_
   refine sr ?_
   refine st (mvT rfl) rfl ?_
   refine st (OpT.add (H rfl) (T1 rfl) (I rfl) (nw (by omega))) rfl ?_
   refine st (asT rfl) rfl ?_
   refine ng ?_
   refine AW.seq ?_
   refine sr ?_
   refine st (mvT rfl) rfl ?_
   refine st (mvT rfl) rfl ?_
   refine st (OpT.indexAddr (H rfl) (T1 rfl) (T1 rfl) el26 sz52 (by omega) (by assumption)) rfl ?_
   refine st (OpT.fieldAddr (H rfl) (T1 rfl) fd52_1 sz2 (by decide) sb52_1) rfl ?_
   refine st (OpT.load (H rfl) (T1 rfl) ag2 rfl) rfl ?_
   refine st (mvT rfl) rfl ?_
   refine st (OpT.neq (H rfl) (T1 rfl) (T1 rfl)) rfl ?_
   refine ng ?_
   refine cd rfl (fun hc3 => ?_) fun hc3 => ?_
   ·
    obtain ⟨hc3, hc3'⟩ := pT hc3
    exact (show False from (hc3' rfl)).elim
   ·
    obtain ⟨hc3, hc3'⟩ := pF hc3
    refine AW.skip ?_
    refine AX.go ?_
    refine sr ?_
    refine st (mvT rfl) rfl ?_
    refine st (OpT.add (H rfl) (T1 rfl) (I rfl) (nw (by omega))) rfl ?_
    refine st (asT rfl) rfl ?_
    refine ng ?_
    refine AW.seq ?_
    refine sr ?_
    refine st (mvT rfl) rfl ?_
    refine st (mvT rfl) rfl ?_
    refine st (OpT.indexAddr (H rfl) (T1 rfl) (T1 rfl) el26 sz52 (by omega) (by assumption)) rfl ?_
    refine st (OpT.fieldAddr (H rfl) (T1 rfl) fd52_2 sz2 (by decide) sb52_2) rfl ?_
    refine st (OpT.load (H rfl) (T1 rfl) ag2 rfl) rfl ?_
    refine st (mvT rfl) rfl ?_
    refine st (OpT.neq (H rfl) (T1 rfl) (T1 rfl)) rfl ?_
    refine ng ?_
    refine cd rfl (fun hc4 => ?_) fun hc4 => ?_
    ·
     obtain ⟨hc4, hc4'⟩ := pT hc4
     exact (show False from (hc4' rfl)).elim
    ·
     obtain ⟨hc4, hc4'⟩ := pF hc4
     refine AW.skip ?_
     refine AX.go ?_
     refine AW.region ?_
     refine st (mvT rfl) rfl ?_
     refine st (OpT.add (H rfl) (T1 rfl) (I rfl) (nw (by omega))) rfl ?_
     refine st (asT rfl) rfl ?_
     refine nn ?_
     refine AX.normal_block ?_
     refine AX.go ?_
     refine AW.region ?_
     refine st (mvT rfl) rfl ?_
     refine st (OpT.add (H rfl) (T1 rfl) (I rfl) (nw (by omega))) rfl ?_
     refine st (asT rfl) rfl ?_
     refine nn ?_
     exact AX.again (z + 1) (by omega) (by omega) (Kc 0 _ (Kv rfl rfl) <| Kc 1 _ (Kv rfl (by omega)) <| Kc 5 _ (Kv rfl (by omega)) <| Kn)
 ·
  obtain ⟨hc1, hc1'⟩ := pF hc1
  rw [mkL_len] at hc1'
  refine AW.exit ?_
  refine xT <| xT <| AX.exit_hit ?_
  refine AX.go ?_
  refine sr ?_
  refine st (mvT rfl) rfl ?_
  refine st (asT rfl) rfl ?_
  refine ng ?_
  refine AW.ret ?_
  exact rt1 rfl (.inl rfl) (by omega)

set_option maxHeartbeats 4000000 in
/-- laws.FnExactCrossOf -/
theorem c_laws_FnExactCrossOf (s : List DField) (x : List DCard) (i j : Int) : AC Tryz.prog 3 [.cel (Kd.slice kField) s, .cel (Kd.slice kCard) x, .cel (Kd.int .i64) i, .cel (Kd.int .i64) j] [.cel Kd.bool true] [] := by
 refine acI (N := 129) Tryz.func3 (Nat.le_of_ble_eq_true rfl) rfl fun w0 hd s0 ar => ?_
 refine AW.to (kc4 0 1 2 3 rfl <| Kn) ?_
 have htl := crsS_len s x i j
 refine sr ?_
 refine st (asB rfl) rfl ?_
 refine ng ?_
 refine sr ?_
 refine st (asI rfl) rfl ?_
 refine ng ?_
 refine sr ?_
 refine st (mvT rfl) rfl ?_
 refine st (mvT rfl) rfl ?_
 refine st (OpT.c1 (ms := [.flat, .flat]) (c_laws_szFieldS _ _ (by omega)) (H rfl) (Af (T1 rfl) rfl rfl <| Af (T1 rfl) rfl rfl <| An) rfl rfl) rfl ?_
 refine st (asT rfl) rfl ?_
 refine ng ?_
 refine AW.seq ?_
 refine sr ?_
 refine st (mvT rfl) rfl ?_
 refine st (OpT.lss (H rfl) (T1 rfl) (I rfl)) rfl ?_
 refine ng ?_
 refine cd rfl (fun hc1 => ?_) fun hc1 => ?_
 ·
  replace hc1 := oT hc1
  refine sr ?_
  refine st (asB rfl) rfl ?_
  refine ng ?_
  refine AW.ret ?_
  refine rT ?_
  exact rt1 rfl (.inl rfl) rfl
 ·
  replace hc1 := oF hc1
  have f0 := okSz_list okSzF s 1048576 (by omega)
  have f1 := f0.2.2 (by omega)
  refine AW.skip ?_
  refine AX.go ?_
  refine sr ?_
  refine st (mvT rfl) rfl ?_
  refine st (mvT rfl) rfl ?_
  refine st (OpT.c1 (ms := [.flat, .flat]) (c_laws_szCardS _ _ (by omega)) (H rfl) (Af (T1 rfl) rfl rfl <| Af (T1 rfl) rfl rfl <| An) rfl rfl) rfl ?_
  refine st (asT rfl) rfl ?_
  refine ng ?_
  refine AW.seq ?_
  refine sr ?_
  refine st (mvT rfl) rfl ?_
  refine st (OpT.lss (H rfl) (T1 rfl) (I rfl)) rfl ?_
  refine AWl.to (kc4 30 8 0 1 rfl <| kc2 2 3 rfl <| Kn) ?_
  refine ng ?_
  refine cd rfl (fun hc2 => ?_) fun hc2 => ?_
  ·
   replace hc2 := oT hc2
   refine sr ?_
   refine st (asB rfl) rfl ?_
   refine ng ?_
   refine AW.ret ?_
   refine rT ?_
   exact rt1 rfl (.inl rfl) rfl
  ·
   replace hc2 := oF hc2
   have k0 := okSz_list okSzC x (szSS szF s 1048576) (by omega)
   have k1 := k0.2.2 (by omega)
   refine AW.skip ?_
   refine AX.go ?_
   refine sr ?_
   refine st (mvT rfl) rfl ?_
   refine st (OpT.c1 (ms := [.flat]) (c_laws_toFieldS s (by omega)) (H rfl) (Af (T1 rfl) rfl rfl <| An) rfl rfl) rfl ?_
   refine st (mvT rfl) rfl ?_
   refine st (OpT.c1 (ms := [.flat]) (c_laws_toCardS x (by omega)) (H rfl) (Af (T1 rfl) rfl rfl <| An) rfl rfl) rfl ?_
   refine st (mvT rfl) rfl ?_
   refine st (mvT rfl) rfl ?_
   refine s2 (OpT.c2 (ms := [.flat, .flat, .flat, .flat]) (c_spec_CrossOf _ _ _ _) (H rfl) (Af (T1 rfl) rfl rfl <| Af (T1 rfl) rfl rfl <| Af (T1 rfl) rfl rfl <| Af (T1 rfl) rfl rfl <| An) rfl rfl rfl) rfl ?_
   refine st (OpT.alias (H rfl) (by decide) (by decide)) rfl ?_
   refine st (OpT.extractV (m := 10038) (H rfl) rfl rfl rfl rfl rfl rfl rfl) rfl ?_
   refine st (OpT.extractV (m := 20038) (H rfl) rfl rfl rfl rfl rfl rfl rfl) rfl ?_
   refine st (asT rfl) rfl ?_
   refine st (asT rfl) rfl ?_
   refine AWl.to (kc4 11 10 8 0 rfl <| kc3 1 2 3 rfl <| Kn) ?_
   refine ng ?_
   refine sr ?_
   refine st (mvT rfl) rfl ?_
   refine st (OpT.c1 (ms := [.flat]) (c_laws_toFieldS_o s (by omega)) (H rfl) (Af (T1 rfl) rfl rfl <| An) rfl rfl) rfl ?_
   refine sg (OpT.take (.inl rfl) rfl (ok' rfl) (Root.self (by decide)) rfl rfl (by decide)) (ko 12 rfl <| kc4 41 11 10 8 rfl <| kc4 0 1 2 3 rfl <| Kn) rfl ?_
   refine ng ?_
   refine sr ?_
   refine st (mvT rfl) rfl ?_
   refine st (OpT.c1 (ms := [.flat]) (c_laws_toCardS_o x (by omega)) (H rfl) (Af (T1 rfl) rfl rfl <| An) rfl rfl) rfl ?_
   refine sg (OpT.take (.inl rfl) rfl (ok' rfl) (Root.self (by decide)) rfl rfl (by decide)) (ko 13 rfl <| kc 43 rfl <| ko 12 rfl <| kc4 41 11 10 8 rfl <| kc4 0 1 2 3 rfl <| Kn) rfl ?_
   refine ng ?_
   refine sr ?_
   refine st (OpT.alias (H rfl) (by decide) (by decide)) rfl ?_
   refine st (OpT.alias (H rfl) (by decide) (by decide)) rfl ?_
   refine st (mvT rfl) rfl ?_
   refine st (mvT rfl) rfl ?_
   refine s2 (cb2 (ms := [.bor 12, .bor 13, .flat, .flat]) (c_impl_CrossOf_o _ _ _ _) (H rfl) (Ab (Root.ali rfl (by decide) (by decide)) rfl <| Ab (Root.ali rfl (by decide) (by decide)) rfl <| Af (T1 rfl) rfl rfl <| Af (T1 rfl) rfl rfl <| An) rfl (indO fun _ _ _ _ h => h) (indC fun _ _ _ _ h => h)) rfl ?_
   refine st (OpT.alias (H rfl) (by decide) (by decide)) rfl ?_
   refine sg (OpT.extractVO (m := 10050) (H rfl) rfl rfl rfl rfl rfl rfl) (ko 51 rfl <| Kc 45 (.ali _) rfl <| kc3 20050 49 48 rfl <| Kc 47 (.ali _) rfl <| Kc 46 (.ali _) rfl <| ko 13 rfl <| kc 43 rfl <| ko 12 rfl <| kc4 41 11 10 8 rfl <| kc4 0 1 2 3 rfl <| Kn) rfl ?_
   refine st (OpT.extractV (m := 20050) (H rfl) rfl rfl rfl rfl rfl rfl rfl) rfl ?_
   refine sg (OpT.take (.inl rfl) rfl (ok' rfl) (Root.self (by decide)) rfl rfl (by decide)) (ko 14 rfl <| kc 52 rfl <| Kc 45 (.ali _) rfl <| kc3 20050 49 48 rfl <| Kc 47 (.ali _) rfl <| Kc 46 (.ali _) rfl <| ko 13 rfl <| kc 43 rfl <| ko 12 rfl <| kc4 41 11 10 8 rfl <| kc4 0 1 2 3 rfl <| Kn) rfl ?_
   refine st (asT rfl) rfl ?_
   refine ng ?_
   refine AW.seq ?_
   refine sr ?_
   refine st (OpT.alias (H rfl) (by decide) (by decide)) rfl ?_
   refine st (mvT rfl) rfl ?_
   refine st (cb1 (ms := [.bor 14, .flat]) (c_laws_eqCellS _ _) (H rfl) (Ab (Root.ali rfl (by decide) (by decide)) rfl <| Af (T1 rfl) rfl rfl <| An) rfl (indC fun _ _ _ _ h => h)) rfl ?_
   refine st (OpT.not (H rfl) (T1 rfl)) rfl ?_
   refine st (mvT rfl) rfl ?_
   apply AWl.or (d := 61) (t := 57) rfl
   ·
    intro hb1 Q1 k1
    refine rs hb1 (mvT rfl) rfl ?_
    refine rs hb1 (mvT rfl) rfl ?_
    refine rs hb1 (OpT.neq (H rfl) (T1 rfl) (T1 rfl)) rfl ?_
    refine st (OpT.pickF (A := .cel _ _) (H rfl) (T1 rfl) hb1 (T1 rfl) rfl) rfl ?_
    exact AWl.to (junk 3 rfl) k1
   ·
    intro hb1 Q1 k1
    refine ps hb1 rfl ?_
    refine ps hb1 rfl ?_
    refine ps hb1 rfl ?_
    refine st (OpT.pickT (A := .cel _ _) (H rfl) (T1 rfl) hb1 Opd.bool rfl) rfl ?_
    exact k1
   refine AWl.to (kc2 61 15 rfl <| ko 14 rfl <| ko 13 rfl <| ko 12 rfl <| kc4 11 10 8 0 rfl <| kc3 1 2 3 rfl <| Kn) ?_
   refine ng ?_
   refine cd rfl (fun hc3 => ?_) fun hc3 => ?_
   ·
    replace hc3 := oT hc3
    exact (show False from (by first | omega | (simp [eqv_self] at hc3 <;> omega))).elim
   ·
    replace hc3 := oF hc3
    refine AW.skip ?_
    refine AX.go ?_
    refine AW.seq ?_
    refine sr ?_
    refine st (OpT.alias (H rfl) (by decide) (by decide)) rfl ?_
    refine st (mvT rfl) rfl ?_
    refine st (OpT.c1 (ms := [.flat]) (c_laws_toFieldS s (by omega)) (H rfl) (Af (T1 rfl) rfl rfl <| An) rfl rfl) rfl ?_
    refine st (cb1 (ms := [.bor 12, .flat]) (c_laws_eqFieldS _ _) (H rfl) (Ab (Root.ali rfl (by decide) (by decide)) rfl <| Af (T1 rfl) rfl rfl <| An) rfl (indC fun _ _ _ _ h => h)) rfl ?_
    refine st (OpT.not (H rfl) (T1 rfl)) rfl ?_
    refine ng ?_
    refine cd rfl (fun hc4 => ?_) fun hc4 => ?_
    ·
     replace hc4 := oT hc4
     exact (show False from (by first | omega | (simp [eqv_self] at hc4 <;> omega))).elim
    ·
     replace hc4 := oF hc4
     refine AW.skip ?_
     refine AX.go ?_
     refine AW.seq ?_
     refine sr ?_
     refine st (OpT.alias (H rfl) (by decide) (by decide)) rfl ?_
     refine st (mvT rfl) rfl ?_
     refine st (OpT.c1 (ms := [.flat]) (c_laws_toCardS x (by omega)) (H rfl) (Af (T1 rfl) rfl rfl <| An) rfl rfl) rfl ?_
     refine st (cb1 (ms := [.bor 13, .flat]) (c_laws_eqCardS _ _) (H rfl) (Ab (Root.ali rfl (by decide) (by decide)) rfl <| Af (T1 rfl) rfl rfl <| An) rfl (indC fun _ _ _ _ h => h)) rfl ?_
     refine st (OpT.not (H rfl) (T1 rfl)) rfl ?_
     refine ng ?_
     refine cd rfl (fun hc5 => ?_) fun hc5 => ?_
     ·
      replace hc5 := oT hc5
      exact (show False from (by first | omega | (simp [eqv_self] at hc5 <;> omega))).elim
     ·
      replace hc5 := oF hc5
      refine AW.skip ?_
      refine AX.pr (kc 15 rfl <| ko 14 rfl <| ko 13 rfl <| ko 12 rfl <| kc4 11 10 8 0 rfl <| kc3 1 2 3 rfl <| Kn) ?_
      refine AX.go ?_
      refine sr ?_
      refine st (asI rfl) rfl ?_
      refine ng ?_
      refine sr ?_
      refine st (OpT.alias (H rfl) (by decide) (by decide)) rfl ?_
      refine st (mvT rfl) rfl ?_
      refine sg (OpT.cr (ms := [.root 12, .flat]) (c_laws_markFieldS _ _ (by omega)) (H rfl) (Ar (Root.ali rfl (by decide) (by decide)) rfl rfl rfl <| Af (T1 rfl) rfl rfl <| An) rfl (.inl rfl) rfl) (kc2 74 73 rfl <| Kc 72 (.ali _) rfl <| kc2 16 15 rfl <| ko 14 rfl <| ko 13 rfl <| ko 12 rfl <| kc4 11 10 8 0 rfl <| kc3 1 2 3 rfl <| Kn) rfl ?_
      refine st (asT rfl) rfl ?_
      refine ng ?_
      refine sr ?_
      refine st (OpT.alias (H rfl) (by decide) (by decide)) rfl ?_
      refine st (mvT rfl) rfl ?_
      refine sg (OpT.cr (ms := [.root 13, .flat]) (c_laws_markCardS _ _ (by omega)) (H rfl) (Ar (Root.ali rfl (by decide) (by decide)) rfl rfl rfl <| Af (T1 rfl) rfl rfl <| An) rfl (.inl rfl) rfl) (kc2 77 76 rfl <| Kc 75 (.ali _) rfl <| kc3 16 74 73 rfl <| Kc 72 (.ali _) rfl <| kc 15 rfl <| ko 14 rfl <| ko 13 rfl <| ko 12 rfl <| kc4 11 10 8 0 rfl <| kc3 1 2 3 rfl <| Kn) rfl ?_
      refine st (asT rfl) rfl ?_
      refine ng ?_
      refine AW.seq ?_
      refine sr ?_
      refine st (mvT rfl) rfl ?_
      refine st (OpT.lss (H rfl) (T1 rfl) (I rfl)) rfl ?_
      refine st (mvT rfl) rfl ?_
      apply AWl.or (d := 85) (t := 80) rfl
      ·
       intro hb2 Q1 k1
       refine rs hb2 (OpT.alias (H rfl) (by decide) (by decide)) rfl ?_
       refine rs hb2 (mvT rfl) rfl ?_
       refine rs hb2 (cb1 (ms := [.bor 14, .flat]) (c_laws_eqCellS _ _) (H rfl) (Ab (Root.ali rfl (by decide) (by decide)) rfl <| Af (T1 rfl) rfl rfl <| An) rfl (indC fun _ _ _ _ h => h)) rfl ?_
       refine rs hb2 (OpT.not (H rfl) (T1 rfl)) rfl ?_
       refine st (OpT.pickF (A := .cel _ _) (H rfl) (T1 rfl) hb2 (T1 rfl) rfl) rfl ?_
       exact AWl.to (junk 4 rfl) k1
      ·
       intro hb2 Q1 k1
       refine ps hb2 rfl ?_
       refine ps hb2 rfl ?_
       refine ps hb2 rfl ?_
       refine ps hb2 rfl ?_
       refine st (OpT.pickT (A := .cel _ _) (H rfl) (T1 rfl) hb2 Opd.bool rfl) rfl ?_
       exact k1
      refine st (mvT rfl) rfl ?_
      apply AWl.or (d := 90) (t := 86) rfl
      ·
       intro hb3 Q1 k1
       refine rs hb3 (mvT rfl) rfl ?_
       refine rs hb3 (mvT rfl) rfl ?_
       refine rs hb3 (OpT.neq (H rfl) (T1 rfl) (T1 rfl)) rfl ?_
       refine st (OpT.pickF (A := .cel _ _) (H rfl) (T1 rfl) hb3 (T1 rfl) rfl) rfl ?_
       exact AWl.to (junk 3 rfl) k1
      ·
       intro hb3 Q1 k1
       refine ps hb3 rfl ?_
       refine ps hb3 rfl ?_
       refine ps hb3 rfl ?_
       refine st (OpT.pickT (A := .cel _ _) (H rfl) (T1 rfl) hb3 Opd.bool rfl) rfl ?_
       exact k1
      refine AWl.to (kc 90 rfl <| ko 14 rfl <| kc4 11 10 8 0 rfl <| kc3 1 2 3 rfl <| Kn) ?_
      refine ng ?_
      refine cd rfl (fun hc6 => ?_) fun hc6 => ?_
      ·
       replace hc6 := oT hc6
       exact (show False from (by first | omega | (simp [eqv_self] at hc6 <;> omega))).elim
      ·
       replace hc6 := oF hc6
       refine AW.skip ?_
       refine AX.go ?_
       refine sr ?_
       refine st (asI rfl) rfl ?_
       refine ng ?_
       refine sr ?_
       refine st (OpT.alias (H rfl) (by decide) (by decide)) rfl ?_
       refine st (mvT rfl) rfl ?_
       refine sg (OpT.cr (ms := [.root 14, .flat]) (c_laws_markCellS _ _ (by omega)) (H rfl) (Ar (Root.ali rfl (by decide) (by decide)) rfl rfl rfl <| Af (T1 rfl) rfl rfl <| An) rfl (.inl rfl) rfl) (kc2 93 92 rfl <| Kc 91 (.ali _) rfl <| kc2 17 90 rfl <| ko 14 rfl <| kc4 11 10 8 0 rfl <| kc3 1 2 3 rfl <| Kn) rfl ?_
       refine st (asT rfl) rfl ?_
       refine ng ?_
       refine sr ?_
       refine st (asI rfl) rfl ?_
       refine ng ?_
       refine sr ?_
       refine st (OpT.alias (H rfl) (by decide) (by decide)) rfl ?_
       refine st (mvT rfl) rfl ?_
       refine st (cb1 (ms := [.bor 14, .flat]) (c_laws_heldCellS (crsS s x i j).1.length _ (by omega)) (H rfl) (Ab (Root.ali rfl (by decide) (by decide)) rfl <| Af (T1 rfl) rfl rfl <| An) rfl (indC fun _ _ _ _ h => h)) rfl ?_
       refine st (asT rfl) rfl ?_
       refine ng ?_
       refine AW.seq ?_
       refine sr ?_
       refine st (mvT rfl) rfl ?_
       refine st (OpT.lss (H rfl) (T1 rfl) (I rfl)) rfl ?_
       refine ng ?_
       refine cd rfl (fun hc7 => ?_) fun hc7 => ?_
       ·
        replace hc7 := oT hc7
        exact (show False from (by first | omega | (simp [eqv_self] at hc7 <;> omega))).elim
       ·
        replace hc7 := oF hc7
        refine AW.skip ?_
        refine AX.pr (kc2 18 17 rfl <| ko 14 rfl <| kc4 11 10 8 0 rfl <| kc3 1 2 3 rfl <| Kn) ?_
        refine AX.go ?_
        refine AW.seq ?_
        refine sr ?_
        refine st (mvT rfl) rfl ?_
        refine st (mvT rfl) rfl ?_
        refine st (OpT.neq (H rfl) (T1 rfl) (T1 rfl)) rfl ?_
        refine ng ?_
        refine cd rfl (fun hc8 => ?_) fun hc8 => ?_
        ·
         replace hc8 := oT hc8
         exact (show False from (by first | omega | (simp [eqv_self] at hc8 <;> omega))).elim
        ·
         replace hc8 := oF hc8
         refine AW.skip ?_
         refine AX.go ?_
         refine sr ?_
         refine st (mvT rfl) rfl ?_
         refine st (OpT.c1 (ms := [.flat]) (c_laws_toFieldS s (by omega)) (H rfl) (Af (T1 rfl) rfl rfl <| An) rfl rfl) rfl ?_
         refine st (mvT rfl) rfl ?_
         refine st (OpT.c1 (ms := [.flat]) (c_laws_toCardS x (by omega)) (H rfl) (Af (T1 rfl) rfl rfl <| An) rfl rfl) rfl ?_
         refine st (mvT rfl) rfl ?_
         refine st (mvT rfl) rfl ?_
         refine s2 (OpT.c2 (ms := [.flat, .flat, .flat, .flat]) (c_impl_CrossOf_o _ _ _ _) (H rfl) (Af (T1 rfl) rfl rfl <| Af (T1 rfl) rfl rfl <| Af (T1 rfl) rfl rfl <| Af (T1 rfl) rfl rfl <| An) rfl rfl rfl) rfl ?_
         refine st (OpT.alias (H rfl) (by decide) (by decide)) rfl ?_
         refine sg (OpT.extractVO (m := 10109) (H rfl) rfl rfl rfl rfl rfl rfl) (ko 110 rfl <| Kc 102 (.ali _) rfl <| kc4 20109 108 107 106 rfl <| kc4 105 104 103 101 rfl <| kc4 100 99 18 17 rfl <| ko 14 rfl <| kc4 11 10 8 0 rfl <| kc3 1 2 3 rfl <| Kn) rfl ?_
         refine st (OpT.extractV (m := 20109) (H rfl) rfl rfl rfl rfl rfl rfl rfl) rfl ?_
         refine sg (OpT.take (.inl rfl) rfl (ok' rfl) (Root.self (by decide)) rfl rfl (by decide)) (ko 19 rfl <| kc 111 rfl <| Kc 102 (.ali _) rfl <| kc4 20109 108 107 106 rfl <| kc4 105 104 103 101 rfl <| kc4 100 99 18 17 rfl <| ko 14 rfl <| kc4 11 10 8 0 rfl <| kc3 1 2 3 rfl <| Kn) rfl ?_
         refine st (asT rfl) rfl ?_
         refine AWl.to (kc 20 rfl <| ko 19 rfl <| kc2 18 17 rfl <| ko 14 rfl <| kc3 11 10 8 rfl <| Kn) ?_
         refine ng ?_
         refine AW.seq ?_
         refine sr ?_
         refine st (OpT.alias (H rfl) (by decide) (by decide)) rfl ?_
         refine st (mvT rfl) rfl ?_
         refine st (cb1 (ms := [.bor 19, .flat]) (c_laws_eqCellS _ _) (H rfl) (Ab (Root.ali rfl (by decide) (by decide)) rfl <| Af (T1 rfl) rfl rfl <| An) rfl (indC fun _ _ _ _ h => h)) rfl ?_
         refine st (OpT.not (H rfl) (T1 rfl)) rfl ?_
         refine st (mvT rfl) rfl ?_
         apply AWl.or (d := 120) (t := 116) rfl
         ·
          intro hb4 Q1 k1
          refine rs hb4 (mvT rfl) rfl ?_
          refine rs hb4 (mvT rfl) rfl ?_
          refine rs hb4 (OpT.neq (H rfl) (T1 rfl) (T1 rfl)) rfl ?_
          refine st (OpT.pickF (A := .cel _ _) (H rfl) (T1 rfl) hb4 (T1 rfl) rfl) rfl ?_
          exact AWl.to (junk 3 rfl) k1
         ·
          intro hb4 Q1 k1
          refine ps hb4 rfl ?_
          refine ps hb4 rfl ?_
          refine ps hb4 rfl ?_
          refine st (OpT.pickT (A := .cel _ _) (H rfl) (T1 rfl) hb4 Opd.bool rfl) rfl ?_
          exact k1
         refine ng ?_
         refine cd rfl (fun hc9 => ?_) fun hc9 => ?_
         ·
          replace hc9 := oT hc9
          exact (show False from (by first | omega | (simp [eqv_self] at hc9 <;> omega))).elim
         ·
          replace hc9 := oF hc9
          refine AW.skip ?_
          refine AX.go ?_
          refine sr ?_
          refine st (asI rfl) rfl ?_
          refine AWl.to (kc2 18 17 rfl <| ko 14 rfl <| kc 8 rfl <| Kn) ?_
          refine ng ?_
          refine sr ?_
          refine st (OpT.alias (H rfl) (by decide) (by decide)) rfl ?_
          refine st (mvT rfl) rfl ?_
          refine st (cb1 (ms := [.bor 14, .flat]) (c_laws_heldCellS (crsS s x i j).1.length _ (by omega)) (H rfl) (Ab (Root.ali rfl (by decide) (by decide)) rfl <| Af (T1 rfl) rfl rfl <| An) rfl (indC fun _ _ _ _ h => h)) rfl ?_
          refine st (asT rfl) rfl ?_
          refine ng ?_
          refine AW.seq ?_
          refine sr ?_
          refine st (mvT rfl) rfl ?_
          refine st (OpT.lss (H rfl) (T1 rfl) (I rfl)) rfl ?_
          refine ng ?_
          refine cd rfl (fun hc10 => ?_) fun hc10 => ?_
          ·
           replace hc10 := oT hc10
           exact (show False from (by first | omega | (simp [eqv_self] at hc10 <;> omega))).elim
          ·
           replace hc10 := oF hc10
           refine AW.skip ?_
           refine AX.go ?_
           refine AW.seq ?_
           refine sr ?_
           refine st (mvT rfl) rfl ?_
           refine st (mvT rfl) rfl ?_
           refine st (OpT.neq (H rfl) (T1 rfl) (T1 rfl)) rfl ?_
           refine AWl.to (kc2 128 8 rfl <| Kn) ?_
           refine ng ?_
           refine cd rfl (fun hc11 => ?_) fun hc11 => ?_
           ·
            replace hc11 := oT hc11
            exact (show False from (by first | omega | (simp [eqv_self] at hc11 <;> omega))).elim
           ·
            replace hc11 := oF hc11
            refine AW.skip ?_
            refine AX.go ?_
            refine sr ?_
            refine st (asB rfl) rfl ?_
            refine ng ?_
            refine AW.ret ?_
            exact rt1 rfl (.inl rfl) rfl
end Go.Proofs.YtkgboidjghcegaaGreatDoor.VL
