/- Proved here: what some functions of the program take and give: walks with the words of VA..VQ. Printed by program. -/
import Derived.Test.YtkgboidjghcegaaGreatDoorWT
import Derived.Test.YtkgboidjghcegaaGreatDoorPZF
import Derived.Test.YtkgboidjghcegaaGreatDoorBpa
import Derived.Test.YtkgboidjghcegaaGreatDoorWTA
import Derived.Test.YtkgboidjghcegaaGreatDoorWP
import Derived.Test.YtkgboidjghcegaaGreatDoorWV
set_option linter.unusedVariables false
set_option linter.unusedSimpArgs false
set_option maxRecDepth 4000
namespace Go.Proofs.YtkgboidjghcegaaGreatDoor.VL
open Go
/-- spec.CrossOf -/
theorem c_spec_CrossOf (s : List DField) (x : List DCard) (i j : Int) : AC Tryz.prog 7 [.cel (Kd.slice kField) s, .cel (Kd.slice kCard) x, .cel (Kd.int .i64) i, .cel (Kd.int .i64) j] [.cel (Kd.slice (Kd.pair (Kd.int .i64) (Kd.pair (Kd.int .i64) (Kd.int .i64)))) (crsS s x i j).1, .cel (Kd.int .i64) (crsS s x i j).2] [] := by
 refine acI (N := 30) Tryz.func7 (Nat.le_of_ble_eq_true rfl) rfl fun w0 hd s0 ar => ?_
 refine AW.to (kc4 0 1 2 3 rfl <| Kn) ?_
 refine AW.fact (fun a w hr => (ok_slice (R_ok (t := 0) rfl hr)).2) (fun hl0 => ?_)
 refine AW.fact (fun a w hr => (ok_slice (R_ok (t := 1) rfl hr)).2) (fun hl1 => ?_)
 refine sr ?_
 refine st (OpT.move (A := .cel _ _) (.inr rfl) rfl (ok' rfl) (Opd.nilslice (Kd.pair (Kd.int .i64) (Kd.pair (Kd.int .i64) (Kd.int .i64)))) rfl) rfl ?_
 refine st (asI rfl) rfl ?_
 refine ng ?_
 refine AW.seq ?_
 refine sr ?_
 refine st (mvT rfl) rfl ?_
 refine st (mvT rfl) rfl ?_
 refine st (mvT rfl) rfl ?_
 refine st (mvT rfl) rfl ?_
 refine st (OpT.c1 (ms := [.flat, .flat, .flat, .flat]) (c_spec_l06Asked _ _ _ _) (H rfl) (Af (T1 rfl) rfl rfl <| Af (T1 rfl) rfl rfl <| Af (T1 rfl) rfl rfl <| Af (T1 rfl) rfl rfl <| An) rfl rfl) rfl ?_
 refine st (asT rfl) rfl ?_
 refine ng ?_
 refine sr ?_
 refine st (mvT rfl) rfl ?_
 refine st (OpT.neq (H rfl) (T1 rfl) (I rfl)) rfl ?_
 refine ng ?_
 refine cd rfl (fun hc1 => ?_) fun hc1 => ?_
 ·
  obtain ⟨hc1, hc1'⟩ := pT hc1
  have hcn : tabF s x [i, j] ≠ 0 := by omega
  refine sr ?_
  refine st (OpT.buildSlice0 (m := 0) (z := .bool false) (Kd.pair (Kd.int .i64) (Kd.pair (Kd.int .i64) (Kd.int .i64))) (H rfl) el26 sz52 (by decide)) rfl ?_
  refine st (mvT rfl) rfl ?_
  refine sg (OpT.take (.inl rfl) rfl (ok' rfl) (Root.self (by decide)) rfl rfl (by decide)) (ko 8 rfl <| kc4 19 17 16 10 rfl <| kc4 15 14 13 12 rfl <| kc4 11 9 0 1 rfl <| kc2 2 3 rfl <| Kn) rfl ?_
  refine st (asT rfl) rfl ?_
  refine ng ?_
  refine AW.ret ?_
  refine rT ?_
  refine AX.freeze (t := 8) rfl ?_
  refine AX.pr (kc4 9 8 19 17 rfl <| kc4 16 10 15 14 rfl <| kc4 13 12 11 9 rfl <| kc4 0 1 2 3 rfl <| Kn) ?_
  exact rt2 rfl (.inl rfl) (by first | (rw [crs_no hcn]; done) | (rw [crs_yes hz]; first | done | rfl | (rw [maskL_all]))) (by first | (rw [crs_no hcn]; done) | (rw [crs_yes hz]; first | done | rfl | (rw [maskL_all])))
 ·
  obtain ⟨hc1, hc1'⟩ := pF hc1
  have hz : tabF s x [i, j] = 0 := by omega
  obtain ⟨hti, htj, hts, htx⟩ := tab_two hz
  have hfi := fldA_get hti
  have hfj := fldA_get htj
  have hoi := tab_field hts hfi
  have hoj := tab_field hts hfj
  refine AW.skip ?_
  refine AX.pr (kc4 9 8 0 1 rfl <| kc2 2 3 rfl <| Kn) ?_
  refine AX.go ?_
  refine AW.seq ?_
  refine dhm [0, 0, 3, 0, 0, 24, 0, 0, 128, 511, 1023, 2047] [] fomo ?_
  refine d1 [0] (fun ve h => OpT.move (A := .cel _ _) (.inl rfl) rfl (ok' rfl) (D1 h rfl) rfl) rfl ?_
  refine d1 [2] (fun ve h => OpT.move (A := .cel _ _) (.inl rfl) rfl (ok' rfl) (D1 h rfl) rfl) rfl ?_
  refine d1 [20, 21] (fun ve h => OpT.indexAddr (H rfl) (D1 h rfl) (D1 h rfl) el29 sz80 (by omega) hfi) rfl ?_
  refine d1 [0] (fun ve h => OpT.move (A := .cel _ _) (.inl rfl) rfl (ok' rfl) (D1 h rfl) rfl) rfl ?_
  refine d1 [3] (fun ve h => OpT.move (A := .cel _ _) (.inl rfl) rfl (ok' rfl) (D1 h rfl) rfl) rfl ?_
  refine d1 [23, 24] (fun ve h => OpT.indexAddr (H rfl) (D1 h rfl) (D1 h rfl) el29 sz80 (by omega) hfj) rfl ?_
  refine d1 [1] (fun ve h => OpT.move (A := .cel _ _) (.inl rfl) rfl (ok' rfl) (D1 h rfl) rfl) rfl ?_
  refine d1 [1] (fun ve h => OpT.move (A := .cel _ _) (.inl rfl) rfl (ok' rfl) (D1 h rfl) rfl) rfl ?_
  refine d1 [27] (fun ve h => OpT.c1 (ms := [.flat]) (c_spec_l06All _ (by omega)) (H rfl) (Af (D1 h rfl) rfl rfl <| An) rfl rfl) rfl ?_
  refine d1 [22, 25, 26, 28] (fun ve h => OpT.c1 (ms := [.flat, .flat, .flat, .flat]) (c_spec_l06Cross _ _ _ _ hoi hoj (by rw [idxL_len]; omega) (fun k hk => idxL_in hk)) (H rfl) (Af (D1 h rfl) rfl rfl <| Af (D1 h rfl) rfl rfl <| Af (D1 h rfl) rfl rfl <| Af (D1 h rfl) rfl rfl <| An) rfl rfl) rfl ?_
  refine d1 [29] (fun ve h => OpT.move (A := .cel _ _) (.inr rfl) rfl (ok' rfl) (D1 h rfl) rfl) rfl ?_
  refine d1 [] (fun ve h => asI rfl) rfl ?_
  refine dn ⟨by kernel_rfl, by kernel_rfl, ?_⟩
  refine AX.pr (kc2 9 8 rfl <| Kn) ?_
  refine AX.go ?_
  refine AW.ret ?_
  exact rt2 rfl (.inl rfl) (by first | (rw [crs_no hcn]; done) | (rw [crs_yes hz]; first | done | rfl | (rw [maskL_all]))) (by first | (rw [crs_no hcn]; done) | (rw [crs_yes hz]; first | done | rfl | (rw [maskL_all])))

end Go.Proofs.YtkgboidjghcegaaGreatDoor.VL
