/- Proved here: what some functions of the program take and give: walks with the words of VA..VQ. Printed by program. -/
import Derived.Test.YtkgboidjghcegaaGreatDoorWT
import Derived.Test.YtkgboidjghcegaaGreatDoorPZF
import Derived.Test.YtkgboidjghcegaaGreatDoorBpa
import Derived.Test.YtkgboidjghcegaaGreatDoorWTA
import Derived.Test.YtkgboidjghcegaaGreatDoorWP
import Derived.Test.YtkgboidjghcegaaGreatDoorWV
set_option linter.unusedVariables false
set_option linter.unusedSimpArgs false
set_option maxRecDepth 4000
namespace Go.Proofs.YtkgboidjghcegaaGreatDoor.VL
open Go
/-- spec.CrossOf -/
theorem c_spec_CrossOf (s : List DField) (x : List DCard) (i j : Int) : AC Tryz.prog 7 [.cel (Kd.slice kField) s, .cel (Kd.slice kCard) x, .cel (Kd.int .i64) i, .cel (Kd.int .i64) j] [.cel (Kd.slice (Kd.pair (Kd.int .i64) (Kd.pair (Kd.int .i64) (Kd.int .i64)))) (crsS s x i j).1, .cel (Kd.int .i64) (crsS s x i j).2] [] := by
 refine acI (N := 30) Tryz.func7 (Nat.le_of_ble_eq_true rfl) rfl fun w0 hd s0 ar => ?_
 refine AW.to (kc4 0 1 2 3 rfl <| Kn) ?_
 refine AW.fact (fun a w hr => (ok_slice (R_ok (t := 0) rfl hr)).2) (fun hl0 => ?_)
 refine AW.fact (fun a w hr => (ok_slice (R_ok (t := 1) rfl hr)).2) (fun hl1 => ?_)
 refine sr ?_
 refine st (OpT.move (A := .cel _ _) (.inr rfl) rfl (ok' rfl) (Opd.nilslice (Kd.pair (Kd.int .i64) (Kd.pair (Kd.int .i64) (Kd.int .i64)))) rfl) rfl ?_
 refine st (asI rfl) rfl ?_
 refine ng ?_
 refine AW.seq ?_
 refine sr ?_
 refine st (mvT rfl) rfl ?_
 refine st (mvT rfl) rfl ?_
 refine st (mvT rfl) rfl ?_
 refine st (mvT rfl) rfl ?_
 refine st (OpT.c1 (ms := [.flat, .flat, .flat, .flat]) (c_spec_l06Asked _ _ _ _) (H rfl) (Af (T1 rfl) rfl rfl <| Af (T1 rfl) rfl rfl <| Af (T1 rfl) rfl rfl <| Af (T1 rfl) rfl rfl <| An) rfl rfl) rfl ?_
 refine st (asT rfl) rfl ?_
 refine ng ?_
 refine sr ?_
 refine st (mvT rfl) rfl ?_
 refine st (OpT.neq (H rfl) (T1 rfl) (I rfl)) rfl ?_
 refine ng ?_
 refine cd rfl (fun hc1 => ?_) fun hc1 => ?_
 ·
  obtain ⟨hc1, hc1'⟩ := pT hc1
  have hcn : tabF s x [i, j] ≠ 0 := by omega
  refine sr ?_
  refine st (OpT.buildSlice0 (m := 0) (z := .bool false) (Kd.pair (Kd.int .i64) (Kd.pair (Kd.int .i64) (Kd.int .i64))) (H rfl) el26 sz52 (by decide)) rfl ?_
  refine st (mvT rfl) rfl ?_
  refine sg (OpT.take (.inl rfl) rfl (ok' rfl) (Root.self (by decide)) rfl rfl (by decide)) (ko 8 rfl <| kc4 19 17 16 10 rfl <| kc4 15 14 13 12 rfl <| kc4 11 9 0 1 rfl <| kc2 2 3 rfl <| Kn) rfl ?_
  refine st (asT rfl) rfl ?_
  refine ng ?_
  refine AW.ret ?_
  refine rT ?_
  refine AX.freeze (t := 8) rfl ?_
  refine AX.pr (kc4 9 8 19 17 rfl <| kc4 16 10 15 14 rfl <| kc4 13 12 11 9 rfl <| kc4 0 1 2 3 rfl <| Kn) ?_
  exact rt2 rfl (.inl rfl) (by first | (rw [crs_no hcn]; done) | (rw [crs_yes hz]; first | done | rfl | (rw [maskL_all]))) (by first | (rw [crs_no hcn]; done) | (rw [crs_yes hz]; first | done | rfl | (rw [maskL_all])))
 ·
  obtain ⟨hc1, hc1'⟩ := pF hc1
  have hz : tabF s x [i, j] = 0 := by omega
  obtain ⟨hti, htj, hts, htx⟩ := tab_two hz
  have hfi := fldA_get hti
  have hfj := fldA_get htj
  have hoi := tab_field hts hfi
  have hoj := tab_field hts hfj
  refine AW.skip ?_
  refine AX.pr (kc4 9 8 0 1 rfl <| kc2 2 3 rfl <| Kn) ?_
  refine AX.go ?_
  refine AW.seq ?_
  refine dhm [0, 0, 3, 0, 0, 24, 0, 0, 128, 511, 1023, 2047] [] fomo ?_
  refine d1 [0] (fun ve h => OpT.move (A := .cel _ _) (.inl rfl) rfl (ok' rfl) (D1 h rfl) rfl) rfl ?_
  refine d1 [2] (fun ve h => OpT.move (A := .cel _ _) (.inl rfl) rfl (ok' rfl) (D1 h rfl) rfl) rfl ?_
  refine d1 [20, 21] (fun ve h => OpT.indexAddr (H rfl) (D1 h rfl) (D1 h rfl) el29 sz80 (by omega) hfi) rfl ?_
  refine d1 [0] (fun ve h => OpT.move (A := .cel _ _) (.inl rfl) rfl (ok' rfl) (D1 h rfl) rfl) rfl ?_
  refine d1 [3] (fun ve h => OpT.move (A := .cel _ _) (.inl rfl) rfl (ok' rfl) (D1 h rfl) rfl) rfl ?_
  refine d1 [23, 24] (fun ve h => OpT.indexAddr (H rfl) (D1 h rfl) (D1 h rfl) el29 sz80 (by omega) hfj) rfl ?_
  refine d1 [1] (fun ve h => OpT.move (A := .cel _ _) (.inl rfl) rfl (ok' rfl) (D1 h rfl) rfl) rfl ?_
  refine d1 [1] (fun ve h => OpT.move (A := .cel _ _) (.inl rfl) rfl (ok' rfl) (D1 h rfl) rfl) rfl ?_
  refine d1 [27] (fun ve h => OpT.c1 (ms := [.flat]) (c_spec_l06All _ (by omega)) (H rfl) (Af (D1 h rfl) rfl rfl <| An) rfl rfl) rfl ?_
  refine d1 [22, 25, 26, 28] (fun ve h => OpT.c1 (ms := [.flat, .flat, .flat, .flat]) (c_spec_l06Cross _ _ _ _ hoi hoj (by rw [idxL_len]; omega) (fun k hk => idxL_in hk)) (H rfl) (Af (D1 h rfl) rfl rfl <| Af (D1 h rfl) rfl rfl <| Af (D1 h rfl) rfl rfl <| Af (D1 h rfl) rfl rfl <| An) rfl rfl) rfl ?_
  refine d1 [29] (fun ve h => OpT.move (A := .cel _ _) (.inr rfl) rfl (ok' rfl) (D1 h rfl) rfl) rfl ?_
  refine d1 [] (fun ve h => asI rfl) rfl ?_
  refine dn ⟨by kernel_rfl, by kernel_rfl, ?_⟩
  refine AX.pr (kc2 9 8 rfl <| Kn) ?_
  refine AX.go ?_
  refine AW.ret ?_
  exact rt2 rfl (.inl rfl) (by first | (rw [crs_no hcn]; done) | (rw [crs_yes hz]; first | done | rfl | (rw [maskL_all]))) (by first | (rw [crs_no hcn]; done) | (rw [crs_yes hz]; first | done | rfl | (rw [maskL_all])))

/-- impl.FollowsFrom -/
theorem c_impl_FollowsFrom (s : List DField) (x : List DCard) (i j : Int) : AC Tryz.prog 23 [.cel (Kd.slice kField) s, .cel (Kd.slice kCard) x, .cel (Kd.int .i64) i, .cel (Kd.int .i64) j] [.cel Kd.bool (flwS s x i j).1, .cel (Kd.int .i64) (flwS s x i j).2] [] := by
 refine acI (N := 62) Tryz.func23 (Nat.le_of_ble_eq_true rfl) rfl fun w0 hd s0 ar => ?_
 refine AW.to (kc4 0 1 2 3 rfl <| Kn) ?_
 refine AW.fact (fun a w hr => (ok_slice (R_ok (t := 0) rfl hr)).2) (fun hl0 => ?_)
 refine AW.fact (fun a w hr => (ok_slice (R_ok (t := 1) rfl hr)).2) (fun hl1 => ?_)
 refine sr ?_
 refine st (asB rfl) rfl ?_
 refine st (asI rfl) rfl ?_
 refine ng ?_
 refine AW.seq ?_
 refine sr ?_
 refine st (mvT rfl) rfl ?_
 refine st (mvT rfl) rfl ?_
 refine st (mvT rfl) rfl ?_
 refine st (mvT rfl) rfl ?_
 refine st (OpT.buildSlice (H rfl) el81 zr2 sz2 rfl (by decide) zk2 (by decide) (Built.cel (T1 rfl) rfl rfl (sub_arr (by decide) (0 : Int)) (Built.cel (T1 rfl) rfl rfl (sub_arr (by decide) (0 : Int)) (Built.nil _)))) rfl ?_
 refine st (cb1 (ms := [.flat, .flat, .bor 22]) (c_impl_checkTable s x [i, j]) (H rfl) (Af (T1 rfl) rfl rfl <| Af (T1 rfl) rfl rfl <| Ab (Root.self (t := 22) (by decide)) rfl <| An) rfl (indC fun _ _ _ _ h => h)) rfl ?_
 refine st (asT rfl) rfl ?_
 refine ng ?_
 refine sr ?_
 refine st (mvT rfl) rfl ?_
 refine st (OpT.neq (H rfl) (T1 rfl) (I rfl)) rfl ?_
 refine ng ?_
 refine cd rfl (fun hc1 => ?_) fun hc1 => ?_
 ·
  obtain ⟨hc1, hc1'⟩ := pT hc1
  have hcn : tabF s x [i, j] ≠ 0 := by omega
  refine sr ?_
  refine st (mvT rfl) rfl ?_
  refine st (asB rfl) rfl ?_
  refine st (asT rfl) rfl ?_
  refine AWl.to (kc4 9 8 0 1 rfl <| kc2 2 3 rfl <| Kn) ?_
  refine ng ?_
  refine AW.ret ?_
  refine rT ?_
  exact rt2 rfl (.inl rfl) (by first | (rw [flw_no hcn]; done) | (rw [flw_yes hz]; first | done | exact tt_no hnf | exact tt_yes (by have h9 := hI.2; rw [List.take_of_length_le (by omega)] at h9; exact h9))) (by first | (rw [flw_no hcn]; done) | (rw [flw_yes hz]; first | done | exact tt_no hnf | exact tt_yes (by have h9 := hI.2; rw [List.take_of_length_le (by omega)] at h9; exact h9)))
 ·
  obtain ⟨hc1, hc1'⟩ := pF hc1
  have hz : tabF s x [i, j] = 0 := by omega
  obtain ⟨hti, htj, hts, htx⟩ := tab_two hz
  have hfi := fldA_get hti
  have hfj := fldA_get htj
  have hoi := tab_field hts hfi
  have hoj := tab_field hts hfj
  refine AW.skip ?_
  refine AX.go ?_
  refine sr ?_
  refine st (OpT.mkMap (H rfl)) rfl ?_
  refine sg (OpT.take (.inl rfl) rfl (ok' rfl) (Root.self (by decide)) rfl rfl (by decide)) (Kc 11 (.deep _) rfl <| kc4 25 24 10 23 rfl <| ko 22 rfl <| kc4 21 20 19 18 rfl <| kc4 9 8 0 1 rfl <| kc2 2 3 rfl <| Kn) rfl ?_
  refine ng ?_
  refine AW.seq ?_
  refine sr ?_
  refine st (mvT rfl) rfl ?_
  refine st (OpT.len (H rfl) (T1 rfl) el31) rfl ?_
  refine st (mvI rfl) rfl ?_
  refine ng ?_
  refine AW.block ?_
  refine AW.loop (fun z : Nat => z ≤ x.length ∧ fnC (fldA s i) (fldA s j) ((x.take z).map (·.2))) (fun z : Nat => keep [(0, .cel (Kd.slice kField) s), (2, .cel (Kd.int .i64) i), (3, .cel (Kd.int .i64) j), (11, .deep (OSh.imap (mpL (fldA s i) (fldA s j) ((x.take z).map (·.2))))), (28, .cel (Kd.slice kCard) x), (29, .cel (Kd.int .i64) (x.length : Int)), (30, .cel (Kd.int .i64) (z : Int))]) (fun z : Nat => x.length - z) (0) ⟨Nat.zero_le _, fun a ha => by simp at ha⟩ (Kc 0 _ (Kv rfl rfl) <| Kc 2 _ (Kv rfl rfl) <| Kc 3 _ (Kv rfl rfl) <| Kc 11 _ (Km rfl rfl) <| Kc 28 _ (Kv rfl rfl) <| Kc 29 _ (Kv rfl rfl) <| Kc 30 _ (Kv rfl rfl) <| Kn) ?_
  intro z hI
  refine sr ?_
  refine st (OpT.lss (H rfl) (T1 rfl) (T1 rfl)) rfl ?_
  refine ng ?_
  refine AW.seq ?_
  refine cd rfl (fun hc2 => ?_) fun hc2 => ?_
  ·
   obtain ⟨hc2, hc2'⟩ := pT hc2
   obtain ⟨e, he⟩ := getI (x := x) (z := z) (by omega)
   refine AW.skip ?_
   refine AX.go ?_
   refine AW.seq ?_
   refine AW.block ?_
   refine sr ?_
   refine st (OpT.indexAddr (H rfl) (T1 rfl) (T1 rfl) el31 sz86 (by omega) he) rfl ?_
   refine st (OpT.loadA (H rfl) (T1 rfl) ag86 sz86) rfl ?_
   refine st (OpT.alloc (H rfl) zr86 zk86) rfl ?_
   refine sk (OpT.storeBA rfl rfl (Opd.whole (Root.self (t := 13) (by decide)) rfl) rfl sz86 (by decide) (T1 rfl)) rfl ?_
   refine AWl.to (kb 13 rfl <| ka 33 rfl <| kc4 32 31 0 2 rfl <| kc 3 rfl <| Kc 11 (.deep _) rfl <| kc3 28 29 30 rfl <| Kn) ?_
   refine ng ?_
   refine AW.seq ?_
   refine dhm [0, 0, 3, 7, 0, 31, 0, 0, 192, 448, 0, 2047, 4095, 8191] [] fomo ?_
   refine d1 [0] (fun ve h => OpT.move (A := .cel _ _) (.inl rfl) rfl (ok' rfl) (D1 h rfl) rfl) rfl ?_
   refine d1 [2] (fun ve h => OpT.move (A := .cel _ _) (.inl rfl) rfl (ok' rfl) (D1 h rfl) rfl) rfl ?_
   refine d1 [34, 35] (fun ve h => OpT.indexAddr (H rfl) (D1 h rfl) (D1 h rfl) el29 sz80 (by omega) hfi) rfl ?_
   refine d1 [36] (fun ve h => OpT.loadA (H rfl) (D1 h rfl) ag80 sz80) rfl ?_
   refine d1 [13] (fun ve h => OpT.loadB (H rfl) (Root.self (t := 13) (by decide)) ((h _ (List.elem_iff.1 rfl)).trans rfl) ag86 sz86) rfl ?_
   refine d1 [37, 38] (fun ve h => OpT.c1 (ms := [.flat, .flat]) (c_impl_valueIn _ _ hoi) (H rfl) (Af (D1 h rfl) rfl rfl <| Af (D1 h rfl) rfl rfl <| An) rfl rfl) rfl ?_
   refine d1 [0] (fun ve h => OpT.move (A := .cel _ _) (.inl rfl) rfl (ok' rfl) (D1 h rfl) rfl) rfl ?_
   refine d1 [3] (fun ve h => OpT.move (A := .cel _ _) (.inl rfl) rfl (ok' rfl) (D1 h rfl) rfl) rfl ?_
   refine d1 [40, 41] (fun ve h => OpT.indexAddr (H rfl) (D1 h rfl) (D1 h rfl) el29 sz80 (by omega) hfj) rfl ?_
   refine d1 [42] (fun ve h => OpT.loadA (H rfl) (D1 h rfl) ag80 sz80) rfl ?_
   refine d1 [13] (fun ve h => OpT.loadB (H rfl) (Root.self (t := 13) (by decide)) ((h _ (List.elem_iff.1 rfl)).trans rfl) ag86 sz86) rfl ?_
   refine d1 [43, 44] (fun ve h => OpT.c1 (ms := [.flat, .flat]) (c_impl_valueIn _ _ hoj) (H rfl) (Af (D1 h rfl) rfl rfl <| Af (D1 h rfl) rfl rfl <| An) rfl rfl) rfl ?_
   refine d1 [39] (fun ve h => OpT.move (A := .cel _ _) (.inr rfl) rfl (ok' rfl) (D1 h rfl) rfl) rfl ?_
   refine d1 [45] (fun ve h => OpT.move (A := .cel _ _) (.inr rfl) rfl (ok' rfl) (D1 h rfl) rfl) rfl ?_
   refine dn ⟨by kernel_rfl, by kernel_rfl, ?_⟩
   refine AX.go ?_
   refine AW.seq ?_
   refine sr ?_
   refine st (OpT.alias (H rfl) (by decide) (by decide)) rfl ?_
   refine st (mvT rfl) rfl ?_
   refine s2 (OpT.mapGet (H rfl) (Root.ali rfl (by decide) (by decide)) rfl (T1 rfl) Tryz.underlying106 Tryz.underlying2 Tryz.zeroValue2) rfl ?_
   refine st (OpT.alias (H rfl) (by decide) (by decide)) rfl ?_
   refine st (OpT.extractV (m := 10049) (H rfl) rfl rfl rfl rfl rfl rfl rfl) rfl ?_
   refine st (OpT.extractV (m := 20049) (H rfl) rfl rfl rfl rfl rfl rfl rfl) rfl ?_
   refine st (asT rfl) rfl ?_
   refine st (asT rfl) rfl ?_
   refine ng ?_
   refine sr ?_
   refine st (mvT rfl) rfl ?_
   refine st (mvT rfl) rfl ?_
   apply AWl.and (d := 57) (t := 53) rfl
   ·
    intro hb1 Q1 k1
    have hb1' := lT hb1
    refine rs hb1 (mvT rfl) rfl ?_
    refine rs hb1 (mvT rfl) rfl ?_
    refine rs hb1 (OpT.neq (H rfl) (T1 rfl) (T1 rfl)) rfl ?_
    refine st (OpT.pickT (A := .cel _ _) (H rfl) (T1 rfl) hb1 (T1 rfl) rfl) rfl ?_
    exact AWl.to (junk 3 rfl) k1
   ·
    intro hb1 Q1 k1
    refine ps hb1 rfl ?_
    refine ps hb1 rfl ?_
    refine ps hb1 rfl ?_
    refine st (OpT.pickF (A := .cel _ _) (H rfl) (T1 rfl) hb1 Opd.bool rfl) rfl ?_
    exact k1
   refine ng ?_
   refine cd rfl (fun hc3 => ?_) fun hc3 => ?_
   ·
    obtain ⟨hc3, hc3'⟩ := pT hc3
    have hnf := fn_no hI.2 he (by exact hc3)
    refine sr ?_
    refine st (asB rfl) rfl ?_
    refine st (asI rfl) rfl ?_
    refine ng ?_
    refine AW.ret ?_
    refine rT <| rK <| rT <| rT <| rK <| rT ?_
    exact rt2 rfl (.inl rfl) (by first | (rw [flw_no hcn]; done) | (rw [flw_yes hz]; first | done | exact tt_no hnf | exact tt_yes (by have h9 := hI.2; rw [List.take_of_length_le (by omega)] at h9; exact h9))) (by first | (rw [flw_no hcn]; done) | (rw [flw_yes hz]; first | done | exact tt_no hnf | exact tt_yes (by have h9 := hI.2; rw [List.take_of_length_le (by omega)] at h9; exact h9)))
   ·
    obtain ⟨hc3, hc3'⟩ := pF hc3
    have hyf := fn_step hI.2 he (by exact hc3)
    refine AW.skip ?_
    refine AX.go ?_
    refine AW.region ?_
    refine st (OpT.alias (H rfl) (by decide) (by decide)) rfl ?_
    refine st (mvT rfl) rfl ?_
    refine st (mvT rfl) rfl ?_
    refine sk (OpT.mapSet rfl rfl (Root.ali rfl (by decide) (by decide)) rfl (T1 rfl) (T1 rfl) Tryz.underlying106 Tryz.underlying2) rfl ?_
    refine nn ?_
    refine AX.normal_block ?_
    refine AX.go ?_
    refine AW.region ?_
    refine st (OpT.add (H rfl) (T1 rfl) (I rfl) (nw (by omega))) rfl ?_
    refine st (mvT rfl) rfl ?_
    refine nn ?_
    exact AX.again (z + 1) ⟨by omega, hyf⟩ (by omega) (Kc 0 _ (Kv rfl rfl) <| Kc 2 _ (Kv rfl rfl) <| Kc 3 _ (Kv rfl rfl) <| Kc 11 _ (Km rfl (mp_next he)) <| Kc 28 _ (Kv rfl rfl) <| Kc 29 _ (Kv rfl rfl) <| Kc 30 _ (Kv rfl (by omega)) <| Kn)
  ·
   obtain ⟨hc2, hc2'⟩ := pF hc2
   refine AW.exit ?_
   refine xT <| xT <| AX.exit_hit ?_
   refine AX.go ?_
   refine sr ?_
   refine st (asB rfl) rfl ?_
   refine st (asI rfl) rfl ?_
   refine ng ?_
   refine AW.ret ?_
   exact rt2 rfl (.inl rfl) (by first | (rw [flw_no hcn]; done) | (rw [flw_yes hz]; first | done | exact tt_no hnf | exact tt_yes (by have h9 := hI.2; rw [List.take_of_length_le (by omega)] at h9; exact h9))) (by first | (rw [flw_no hcn]; done) | (rw [flw_yes hz]; first | done | exact tt_no hnf | exact tt_yes (by have h9 := hI.2; rw [List.take_of_length_le (by omega)] at h9; exact h9)))
end Go.Proofs.YtkgboidjghcegaaGreatDoor.VL
