/- Proved here: what some functions of the program take and give: walks with the words of VA..VQ. Printed by program. -/
import Derived.Test.YtfnkphllkbkfaaaDoorWT
import Derived.Test.YtfnkphllkbkfaaaDoorBpa
import Derived.Test.YtfnkphllkbkfaaaDoorWA
import Derived.Test.YtfnkphllkbkfaaaDoorWB
set_option linter.unusedVariables false
set_option linter.unusedSimpArgs false
set_option maxRecDepth 4000
namespace Go.Proofs.YtfnkphllkbkfaaaDoor.VL
open Go
/-- spec.l01Has -/
theorem c_spec_l01Has (m : BitVec 64 × BitVec 64) (i : Int) (h : 0 ≤ i ∧ i < 128) : AC Tryd.prog 164 [.agg kMask m, .cel (Kd.int .i64) i] [.cel Kd.bool (hasM m i)] [] := by
 refine acI (N := 15) Tryd.func164 (Nat.le_of_ble_eq_true rfl) rfl fun w0 hd s0 ar => ?_
 refine AW.to (ka 0 rfl <| kc 1 rfl <| Kn) ?_
 have hd64 := div64 h
 have hm64 := mod64 h.1
 refine sr ?_
 refine st (OpT.frz (OpT.boxA (E := 55) (H rfl) (T1 rfl))) rfl ?_
 refine st (asB rfl) rfl ?_
 refine ng ?_
 refine sr ?_
 refine st (mvT rfl) rfl ?_
 refine st (OpT.quo (H rfl) (T1 rfl) (I rfl) (by omega) (nw (by omega))) rfl ?_
 refine st (OpT.indexAddrP (H rfl) (T1 rfl) (T1 rfl) ar55 sz49 (by omega) (Sub.two (by omega) rfl)) rfl ?_
 refine st (OpT.load (H rfl) (T1 rfl) ag49 rfl) rfl ?_
 refine st (mvT rfl) rfl ?_
 refine st (OpT.rem (H rfl) (T1 rfl) (I rfl) (by omega)) rfl ?_
 refine st (OpT.convu (H rfl) us2 Tryd.underlying49 (T1 rfl)) rfl ?_
 refine st (OpT.shr (H rfl) (T1 rfl) (Opd.asInt (T1 rfl)) (Int.natCast_nonneg _)) rfl ?_
 refine st (OpT.urem (H rfl) (T1 rfl) (U2 2 rfl rfl) (by decide)) rfl ?_
 refine st (OpT.ueql (H rfl) (T1 rfl) (U2 1 rfl rfl)) rfl ?_
 refine st (asT rfl) rfl ?_
 refine AWl.to (kc 4 rfl <| Kn) ?_
 refine ng ?_
 refine AW.ret ?_
 exact rt1 rfl (.inl rfl) (by unfold hasM limb; rw [rem64 h.1]; rfl)

/-- impl.Mask).has -/
theorem c_impl_Mask_has (m : BitVec 64 × BitVec 64) (i : Int) (h : 0 ≤ i ∧ i < 128) : AC Tryd.prog 116 [.agg kMask m, .cel (Kd.int .i64) i] [.cel Kd.bool (hasM m i)] [] := by
 refine acI (N := 14) Tryd.func116 (Nat.le_of_ble_eq_true rfl) rfl fun w0 hd s0 ar => ?_
 refine AW.to (ka 0 rfl <| kc 1 rfl <| Kn) ?_
 have hd64 := div64 h
 have hm64 := mod64 h.1
 refine sr ?_
 refine st (OpT.frz (OpT.boxA (E := 55) (H rfl) (T1 rfl))) rfl ?_
 refine st (asB rfl) rfl ?_
 refine ng ?_
 refine sr ?_
 refine st (mvT rfl) rfl ?_
 refine st (OpT.quo (H rfl) (T1 rfl) (I rfl) (by omega) (nw (by omega))) rfl ?_
 refine st (OpT.indexAddrP (H rfl) (T1 rfl) (T1 rfl) ar55 sz49 (by omega) (Sub.two (by omega) rfl)) rfl ?_
 refine st (OpT.load (H rfl) (T1 rfl) ag49 rfl) rfl ?_
 refine st (mvT rfl) rfl ?_
 refine st (OpT.rem (H rfl) (T1 rfl) (I rfl) (by omega)) rfl ?_
 refine st (OpT.shr (H rfl) (T1 rfl) (T1 rfl) (by omega)) rfl ?_
 refine st (OpT.band (H rfl) (T1 rfl) (U2 1 rfl rfl)) rfl ?_
 refine st (OpT.ueql (H rfl) (T1 rfl) (U2 1 rfl rfl)) rfl ?_
 refine st (asT rfl) rfl ?_
 refine AWl.to (kc 4 rfl <| Kn) ?_
 refine ng ?_
 refine AW.ret ?_
 exact rt1 rfl (.inl rfl) (by unfold hasM limb; rw [and_one])

/-- spec.l01Meet -/
theorem c_spec_l01Meet (x y : BitVec 64 × BitVec 64) : AC Tryd.prog 148 [.agg kMask x, .agg kMask y] [.agg kMask (meetM x y)] [] := by
 refine acI (N := 16) Tryd.func148 (Nat.le_of_ble_eq_true rfl) rfl fun w0 hd s0 ar => ?_
 refine AW.to (ka 0 rfl <| ka 1 rfl <| Kn) ?_
 refine sr ?_
 refine st (OpT.frz (OpT.boxA (E := 55) (H rfl) (T1 rfl))) rfl ?_
 refine st (OpT.frz (OpT.boxA (E := 55) (H rfl) (T1 rfl))) rfl ?_
 refine st (OpT.alloc (H rfl) zr55 zk55) rfl ?_
 refine ng ?_
 refine sr ?_
 refine st (OpT.indexAddrP (H rfl) (T1 rfl) (I rfl) ar55 sz49 (by decide) sx55_0) rfl ?_
 refine st (OpT.load (H rfl) (T1 rfl) ag49 rfl) rfl ?_
 refine st (OpT.indexAddrP (H rfl) (T1 rfl) (I rfl) ar55 sz49 (by decide) sx55_0) rfl ?_
 refine st (OpT.load (H rfl) (T1 rfl) ag49 rfl) rfl ?_
 refine st (OpT.band (H rfl) (T1 rfl) (T1 rfl)) rfl ?_
 refine st (OpT.indexAddrP (H rfl) (T1 rfl) (I rfl) ar55 sz49 (by decide) sx55_1) rfl ?_
 refine st (OpT.load (H rfl) (T1 rfl) ag49 rfl) rfl ?_
 refine st (OpT.indexAddrP (H rfl) (T1 rfl) (I rfl) ar55 sz49 (by decide) sx55_1) rfl ?_
 refine st (OpT.load (H rfl) (T1 rfl) ag49 rfl) rfl ?_
 refine st (OpT.band (H rfl) (T1 rfl) (T1 rfl)) rfl ?_
 refine st (OpT.buildA (H rfl) ar55 sz49 zr55 zk55 (Built.cel (T1 rfl) rfl rfl sx55_0 (Built.cel (T1 rfl) rfl rfl sx55_1 (Built.nil _)))) rfl ?_
 refine sk (OpT.storeBA rfl rfl (Opd.whole (Root.self (t := 4) (by decide)) rfl) rfl sz55 (by decide) (T1 rfl)) rfl ?_
 refine AWl.to (kb 4 rfl <| Kn) ?_
 refine ng ?_
 refine AW.ret ?_
 exact AX.rt (rs := [.cell 4 55]) (ts := [none]) (.inl rfl) rfl (ROs.cons (RO.cellA (by decide) (Kb rfl rfl) ag55 sz55) <| ROs.nil) (by decide) OutsOK.nil

/-- impl.MeetMasks -/
theorem c_impl_MeetMasks (x y : BitVec 64 × BitVec 64) : AC Tryd.prog 151 [.agg kMask x, .agg kMask y] [.agg kMask (meetM x y)] [] := by
 refine acI (N := 16) Tryd.func151 (Nat.le_of_ble_eq_true rfl) rfl fun w0 hd s0 ar => ?_
 refine AW.to (ka 0 rfl <| ka 1 rfl <| Kn) ?_
 refine sr ?_
 refine st (OpT.frz (OpT.boxA (E := 55) (H rfl) (T1 rfl))) rfl ?_
 refine st (OpT.frz (OpT.boxA (E := 55) (H rfl) (T1 rfl))) rfl ?_
 refine st (OpT.alloc (H rfl) zr55 zk55) rfl ?_
 refine ng ?_
 refine sr ?_
 refine st (OpT.indexAddrP (H rfl) (T1 rfl) (I rfl) ar55 sz49 (by decide) sx55_0) rfl ?_
 refine st (OpT.load (H rfl) (T1 rfl) ag49 rfl) rfl ?_
 refine st (OpT.indexAddrP (H rfl) (T1 rfl) (I rfl) ar55 sz49 (by decide) sx55_0) rfl ?_
 refine st (OpT.load (H rfl) (T1 rfl) ag49 rfl) rfl ?_
 refine st (OpT.band (H rfl) (T1 rfl) (T1 rfl)) rfl ?_
 refine st (OpT.indexAddrP (H rfl) (T1 rfl) (I rfl) ar55 sz49 (by decide) sx55_1) rfl ?_
 refine st (OpT.load (H rfl) (T1 rfl) ag49 rfl) rfl ?_
 refine st (OpT.indexAddrP (H rfl) (T1 rfl) (I rfl) ar55 sz49 (by decide) sx55_1) rfl ?_
 refine st (OpT.load (H rfl) (T1 rfl) ag49 rfl) rfl ?_
 refine st (OpT.band (H rfl) (T1 rfl) (T1 rfl)) rfl ?_
 refine st (OpT.buildA (H rfl) ar55 sz49 zr55 zk55 (Built.cel (T1 rfl) rfl rfl sx55_0 (Built.cel (T1 rfl) rfl rfl sx55_1 (Built.nil _)))) rfl ?_
 refine sk (OpT.storeBA rfl rfl (Opd.whole (Root.self (t := 4) (by decide)) rfl) rfl sz55 (by decide) (T1 rfl)) rfl ?_
 refine AWl.to (kb 4 rfl <| Kn) ?_
 refine ng ?_
 refine AW.ret ?_
 exact AX.rt (rs := [.cell 4 55]) (ts := [none]) (.inl rfl) rfl (ROs.cons (RO.cellA (by decide) (Kb rfl rfl) ag55 sz55) <| ROs.nil) (by decide) OutsOK.nil

/-- spec.IsWithin -/
theorem c_spec_IsWithin (x y : BitVec 64 × BitVec 64) : AC Tryd.prog 121 [.agg kMask x, .agg kMask y] [.cel Kd.bool (withinM x y)] [] := by
 refine acI (N := 10) Tryd.func121 (Nat.le_of_ble_eq_true rfl) rfl fun w0 hd s0 ar => ?_
 refine AW.to (ka 0 rfl <| ka 1 rfl <| Kn) ?_
 refine sr ?_
 refine st (OpT.frz (OpT.boxA (E := 55) (H rfl) (T1 rfl))) rfl ?_
 refine st (OpT.frz (OpT.boxA (E := 55) (H rfl) (T1 rfl))) rfl ?_
 refine st (asB rfl) rfl ?_
 refine ng ?_
 refine sr ?_
 refine st (OpT.loadA (H rfl) (T1 rfl) ag55 sz55) rfl ?_
 refine st (OpT.loadA (H rfl) (T1 rfl) ag55 sz55) rfl ?_
 refine st (OpT.c1 (ms := [.flat, .flat]) (c_spec_l01Less _ _) (H rfl) (Af (T1 rfl) rfl rfl <| Af (T1 rfl) rfl rfl <| An) rfl rfl) rfl ?_
 refine st (OpT.buildA (H rfl) ar55 sz49 zr55 zk55 (Built.nil _)) rfl ?_
 refine st (OpT.eqA (H rfl) (T1 rfl) (T1 rfl) eq55 ag55 rfl eg55) rfl ?_
 refine st (asT rfl) rfl ?_
 refine ng ?_
 refine AW.ret ?_
 exact rt1 rfl (.inl rfl) rfl

/-- impl.IsWithin -/
theorem c_impl_IsWithin (x y : BitVec 64 × BitVec 64) : AC Tryd.prog 152 [.agg kMask x, .agg kMask y] [.cel Kd.bool (withinM x y)] [] := by
 refine acI (N := 10) Tryd.func152 (Nat.le_of_ble_eq_true rfl) rfl fun w0 hd s0 ar => ?_
 refine AW.to (ka 0 rfl <| ka 1 rfl <| Kn) ?_
 refine sr ?_
 refine st (OpT.frz (OpT.boxA (E := 55) (H rfl) (T1 rfl))) rfl ?_
 refine st (OpT.frz (OpT.boxA (E := 55) (H rfl) (T1 rfl))) rfl ?_
 refine st (asB rfl) rfl ?_
 refine ng ?_
 refine sr ?_
 refine st (OpT.loadA (H rfl) (T1 rfl) ag55 sz55) rfl ?_
 refine st (OpT.loadA (H rfl) (T1 rfl) ag55 sz55) rfl ?_
 refine st (OpT.c1 (ms := [.flat, .flat]) (c_impl_LessMask _ _) (H rfl) (Af (T1 rfl) rfl rfl <| Af (T1 rfl) rfl rfl <| An) rfl rfl) rfl ?_
 refine st (OpT.buildA (H rfl) ar55 sz49 zr55 zk55 (Built.nil _)) rfl ?_
 refine st (OpT.eqA (H rfl) (T1 rfl) (T1 rfl) eq55 ag55 rfl eg55) rfl ?_
 refine st (asT rfl) rfl ?_
 refine ng ?_
 refine AW.ret ?_
 exact rt1 rfl (.inl rfl) rfl

/-- spec.l02Drops -/
theorem c_spec_l02Drops (q : DQuery) (m : BitVec 64 × BitVec 64) : AC Tryd.prog 149 [.cel (Kd.ptr kQuery) q, .agg kMask m] [.cel Kd.bool (dropsQ q m)] [] := by
 refine acI (N := 21) Tryd.func149 (Nat.le_of_ble_eq_true rfl) rfl fun w0 hd s0 ar => ?_
 refine AW.to (kc 0 rfl <| ka 1 rfl <| Kn) ?_
 refine sr ?_
 refine st (OpT.frz (OpT.boxA (E := 55) (H rfl) (T1 rfl))) rfl ?_
 refine st (asB rfl) rfl ?_
 refine AWl.to (kc3 4 3 0 rfl <| Kn) ?_
 refine ng ?_
 refine AW.seq ?_
 rcases Bool.eq_false_or_eq_true (withinM q.1 m) with hd1 | hd1
 ·
  refine dh fomo ?_
  refine d1 [0] (fun ve h => OpT.move (A := .cel _ _) (.inl rfl) rfl (ok' rfl) (D1 h rfl) rfl) rfl ?_
  refine d1 [5] (fun ve h => OpT.nilCheck (H rfl) (D1 h rfl)) rfl ?_
  refine d1 [6] (fun ve h => OpT.fieldAddr (H rfl) (D1 h rfl) fd74_0 sz55 (by decide) sb74_0) rfl ?_
  refine d1 [7] (fun ve h => OpT.loadA (H rfl) (D1 h rfl) ag55 sz55) rfl ?_
  refine d1 [3] (fun ve h => OpT.loadA (H rfl) (D1 h rfl) ag55 sz55) rfl ?_
  refine d1 [8, 9] (fun ve h => OpT.c1 (ms := [.flat, .flat]) (c_spec_IsWithin _ _) (H rfl) (Af (D1 h rfl) rfl rfl <| Af (D1 h rfl) rfl rfl <| An) rfl rfl) rfl ?_
  refine d1 [10] (fun ve h => OpT.move (A := .cel _ _) (.inl rfl) rfl (ok' rfl) (D1 h rfl) rfl) rfl ?_
  refine dr [0, 11] hd1 (fun ve h => OpT.move (A := .cel _ _) (.inl rfl) rfl (ok' rfl) (D1 h rfl) rfl) rfl ?_
  refine dr [11, 12] hd1 (fun ve h => OpT.nilCheck (H rfl) (D1 h rfl)) rfl ?_
  refine dr [11, 13] hd1 (fun ve h => OpT.fieldAddr (H rfl) (D1 h rfl) fd74_1 sz55 (by decide) sb74_1) rfl ?_
  refine dr [11, 14] hd1 (fun ve h => OpT.loadA (H rfl) (D1 h rfl) ag55 sz55) rfl ?_
  refine dr [3, 11] hd1 (fun ve h => OpT.loadA (H rfl) (D1 h rfl) ag55 sz55) rfl ?_
  refine dr [11, 15, 16] hd1 (fun ve h => OpT.c1 (ms := [.flat, .flat]) (c_spec_l01Meet _ _) (H rfl) (Af (D1 h rfl) rfl rfl <| Af (D1 h rfl) rfl rfl <| An) rfl rfl) rfl ?_
  refine dr [11] hd1 (fun ve h => OpT.buildA (H rfl) ar55 sz49 zr55 zk55 (Built.nil _)) rfl ?_
  refine dr [11, 17, 18] hd1 (fun ve h => OpT.eqA (H rfl) (D1 h rfl) (D1 h rfl) eq55 ag55 rfl eg55) rfl ?_
  refine d1 [11, 19] (fun ve h => OpT.pickT (A := .cel _ _) (H rfl) (D1 h rfl) hd1 (D1 h rfl) rfl) rfl ?_
  refine d1 [20] (fun ve h => OpT.move (A := .cel _ _) (.inr rfl) rfl (ok' rfl) (D1 h rfl) rfl) rfl ?_
  refine dn ⟨by kernel_rfl, by kernel_rfl, ?_⟩
  refine AX.pr (kc 4 rfl <| Kn) ?_
  refine AX.go ?_
  refine AW.ret ?_
  exact rt1 rfl (.inl rfl) (by first | rfl | (unfold dropsQ; rw [hd1]; rfl))
 ·
  refine dh fomo ?_
  refine d1 [0] (fun ve h => OpT.move (A := .cel _ _) (.inl rfl) rfl (ok' rfl) (D1 h rfl) rfl) rfl ?_
  refine d1 [5] (fun ve h => OpT.nilCheck (H rfl) (D1 h rfl)) rfl ?_
  refine d1 [6] (fun ve h => OpT.fieldAddr (H rfl) (D1 h rfl) fd74_0 sz55 (by decide) sb74_0) rfl ?_
  refine d1 [7] (fun ve h => OpT.loadA (H rfl) (D1 h rfl) ag55 sz55) rfl ?_
  refine d1 [3] (fun ve h => OpT.loadA (H rfl) (D1 h rfl) ag55 sz55) rfl ?_
  refine d1 [8, 9] (fun ve h => OpT.c1 (ms := [.flat, .flat]) (c_spec_IsWithin _ _) (H rfl) (Af (D1 h rfl) rfl rfl <| Af (D1 h rfl) rfl rfl <| An) rfl rfl) rfl ?_
  refine d1 [10] (fun ve h => OpT.move (A := .cel _ _) (.inl rfl) rfl (ok' rfl) (D1 h rfl) rfl) rfl ?_
  refine dp hd1 rfl ?_
  refine dp hd1 rfl ?_
  refine dp hd1 rfl ?_
  refine dp hd1 rfl ?_
  refine dp hd1 rfl ?_
  refine dp hd1 rfl ?_
  refine dp hd1 rfl ?_
  refine dp hd1 rfl ?_
  refine d1 [11] (fun ve h => OpT.pickF (A := .cel _ _) (H rfl) (D1 h rfl) hd1 Opd.bool rfl) rfl ?_
  refine d1 [20] (fun ve h => OpT.move (A := .cel _ _) (.inr rfl) rfl (ok' rfl) (D1 h rfl) rfl) rfl ?_
  refine dn ⟨by kernel_rfl, by kernel_rfl, ?_⟩
  refine AX.pr (kc 4 rfl <| Kn) ?_
  refine AX.go ?_
  refine AW.ret ?_
  exact rt1 rfl (.inl rfl) (by first | rfl | (unfold dropsQ; rw [hd1]; rfl))

/-- impl.Query).drops -/
theorem c_impl_Query_drops (q : DQuery) (m : BitVec 64 × BitVec 64) : AC Tryd.prog 94 [.agg kQuery q, .agg kMask m] [.cel Kd.bool (dropsQ q m)] [] := by
 refine acI (N := 17) Tryd.func94 (Nat.le_of_ble_eq_true rfl) rfl fun w0 hd s0 ar => ?_
 refine AW.to (ka 0 rfl <| ka 1 rfl <| Kn) ?_
 refine sr ?_
 refine st (OpT.frz (OpT.boxA (E := 74) (H rfl) (T1 rfl))) rfl ?_
 refine st (OpT.frz (OpT.boxA (E := 55) (H rfl) (T1 rfl))) rfl ?_
 refine st (asB rfl) rfl ?_
 refine ng ?_
 refine sr ?_
 refine st (OpT.fieldAddr (H rfl) (T1 rfl) fd74_0 sz55 (by decide) sb74_0) rfl ?_
 refine st (OpT.loadA (H rfl) (T1 rfl) ag55 sz55) rfl ?_
 refine st (OpT.loadA (H rfl) (T1 rfl) ag55 sz55) rfl ?_
 refine st (OpT.c1 (ms := [.flat, .flat]) (c_impl_IsWithin _ _) (H rfl) (Af (T1 rfl) rfl rfl <| Af (T1 rfl) rfl rfl <| An) rfl rfl) rfl ?_
 refine st (mvT rfl) rfl ?_
 apply AWl.and (d := 16) (t := 9) rfl
 ·
  intro hb1 Q1 k1
  refine rs hb1 (OpT.fieldAddr (H rfl) (T1 rfl) fd74_1 sz55 (by decide) sb74_1) rfl ?_
  refine rs hb1 (OpT.loadA (H rfl) (T1 rfl) ag55 sz55) rfl ?_
  refine rs hb1 (OpT.loadA (H rfl) (T1 rfl) ag55 sz55) rfl ?_
  refine rs hb1 (OpT.c1 (ms := [.flat, .flat]) (c_impl_MeetMasks _ _) (H rfl) (Af (T1 rfl) rfl rfl <| Af (T1 rfl) rfl rfl <| An) rfl rfl) rfl ?_
  refine rs hb1 (OpT.buildA (H rfl) ar55 sz49 zr55 zk55 (Built.nil _)) rfl ?_
  refine rs hb1 (OpT.eqA (H rfl) (T1 rfl) (T1 rfl) eq55 ag55 rfl eg55) rfl ?_
  refine st (OpT.pickT (A := .cel _ _) (H rfl) (T1 rfl) hb1 (T1 rfl) rfl) rfl ?_
  exact AWl.to (junk 6 rfl) k1
 ·
  intro hb1 Q1 k1
  refine ps hb1 rfl ?_
  refine ps hb1 rfl ?_
  refine ps hb1 rfl ?_
  refine ps hb1 rfl ?_
  refine ps hb1 rfl ?_
  refine ps hb1 rfl ?_
  refine st (OpT.pickF (A := .cel _ _) (H rfl) (T1 rfl) hb1 Opd.bool rfl) rfl ?_
  exact k1
 refine st (asT rfl) rfl ?_
 refine AWl.to (kc 4 rfl <| Kn) ?_
 refine ng ?_
 refine AW.ret ?_
 exact rt1 rfl (.inl rfl) rfl

/-- spec.l02Query -/
theorem c_spec_l02Query (q : DQuery) : AC Tryd.prog 91 [.cel (Kd.ptr kQuery) q] [.cel Kd.bool (queryOK q)] [] := by
 refine acI (N := 28) Tryd.func91 (Nat.le_of_ble_eq_true rfl) rfl fun w0 hd s0 ar => ?_
 refine AW.to (kc 0 rfl <| Kn) ?_
 refine sr ?_
 refine st (asB rfl) rfl ?_
 refine ng ?_
 refine AW.seq ?_
 rcases Bool.eq_false_or_eq_true (okM q.1) with hd1 | hd1
 ·
  rcases Bool.eq_false_or_eq_true (okM q.2) with hd2 | hd2
  ·
   refine dh fomo ?_
   refine d1 [0] (fun ve h => OpT.move (A := .cel _ _) (.inl rfl) rfl (ok' rfl) (D1 h rfl) rfl) rfl ?_
   refine d1 [3] (fun ve h => OpT.nilCheck (H rfl) (D1 h rfl)) rfl ?_
   refine d1 [4] (fun ve h => OpT.fieldAddr (H rfl) (D1 h rfl) fd74_0 sz55 (by decide) sb74_0) rfl ?_
   refine d1 [5] (fun ve h => OpT.loadA (H rfl) (D1 h rfl) ag55 sz55) rfl ?_
   refine d1 [6] (fun ve h => OpT.c1 (ms := [.flat]) (c_spec_l01Mask _) (H rfl) (Af (D1 h rfl) rfl rfl <| An) rfl rfl) rfl ?_
   refine d1 [7] (fun ve h => OpT.move (A := .cel _ _) (.inl rfl) rfl (ok' rfl) (D1 h rfl) rfl) rfl ?_
   refine dr [0, 8] hd1 (fun ve h => OpT.move (A := .cel _ _) (.inl rfl) rfl (ok' rfl) (D1 h rfl) rfl) rfl ?_
   refine dr [8, 9] hd1 (fun ve h => OpT.nilCheck (H rfl) (D1 h rfl)) rfl ?_
   refine dr [8, 10] hd1 (fun ve h => OpT.fieldAddr (H rfl) (D1 h rfl) fd74_1 sz55 (by decide) sb74_1) rfl ?_
   refine dr [8, 11] hd1 (fun ve h => OpT.loadA (H rfl) (D1 h rfl) ag55 sz55) rfl ?_
   refine dr [8, 12] hd1 (fun ve h => OpT.c1 (ms := [.flat]) (c_spec_l01Mask _) (H rfl) (Af (D1 h rfl) rfl rfl <| An) rfl rfl) rfl ?_
   refine d1 [8, 13] (fun ve h => OpT.pickT (A := .cel _ _) (H rfl) (D1 h rfl) hd1 (D1 h rfl) rfl) rfl ?_
   refine d1 [14] (fun ve h => OpT.move (A := .cel _ _) (.inl rfl) rfl (ok' rfl) (D1 h rfl) rfl) rfl ?_
   refine dr [0, 15] hd2 (fun ve h => OpT.move (A := .cel _ _) (.inl rfl) rfl (ok' rfl) (D1 h rfl) rfl) rfl ?_
   refine dr [15, 16] hd2 (fun ve h => OpT.nilCheck (H rfl) (D1 h rfl)) rfl ?_
   refine dr [15, 17] hd2 (fun ve h => OpT.fieldAddr (H rfl) (D1 h rfl) fd74_0 sz55 (by decide) sb74_0) rfl ?_
   refine dr [15, 18] hd2 (fun ve h => OpT.loadA (H rfl) (D1 h rfl) ag55 sz55) rfl ?_
   refine dr [0, 15] hd2 (fun ve h => OpT.move (A := .cel _ _) (.inl rfl) rfl (ok' rfl) (D1 h rfl) rfl) rfl ?_
   refine dr [15, 20] hd2 (fun ve h => OpT.nilCheck (H rfl) (D1 h rfl)) rfl ?_
   refine dr [15, 21] hd2 (fun ve h => OpT.fieldAddr (H rfl) (D1 h rfl) fd74_1 sz55 (by decide) sb74_1) rfl ?_
   refine dr [15, 22] hd2 (fun ve h => OpT.loadA (H rfl) (D1 h rfl) ag55 sz55) rfl ?_
   refine dr [15, 19, 23] hd2 (fun ve h => OpT.c1 (ms := [.flat, .flat]) (c_spec_l01Meet _ _) (H rfl) (Af (D1 h rfl) rfl rfl <| Af (D1 h rfl) rfl rfl <| An) rfl rfl) rfl ?_
   refine dr [15] hd2 (fun ve h => OpT.buildA (H rfl) ar55 sz49 zr55 zk55 (Built.nil _)) rfl ?_
   refine dr [15, 24, 25] hd2 (fun ve h => OpT.eqA (H rfl) (D1 h rfl) (D1 h rfl) eq55 ag55 rfl eg55) rfl ?_
   refine d1 [15, 26] (fun ve h => OpT.pickT (A := .cel _ _) (H rfl) (D1 h rfl) hd2 (D1 h rfl) rfl) rfl ?_
   refine d1 [27] (fun ve h => OpT.move (A := .cel _ _) (.inr rfl) rfl (ok' rfl) (D1 h rfl) rfl) rfl ?_
   refine dn ⟨by kernel_rfl, by kernel_rfl, ?_⟩
   refine AX.pr (kc 2 rfl <| Kn) ?_
   refine AX.go ?_
   refine AW.ret ?_
   exact rt1 rfl (.inl rfl) (by first | rfl | (unfold queryOK; simp [*]))
  ·
   refine dh fomo ?_
   refine d1 [0] (fun ve h => OpT.move (A := .cel _ _) (.inl rfl) rfl (ok' rfl) (D1 h rfl) rfl) rfl ?_
   refine d1 [3] (fun ve h => OpT.nilCheck (H rfl) (D1 h rfl)) rfl ?_
   refine d1 [4] (fun ve h => OpT.fieldAddr (H rfl) (D1 h rfl) fd74_0 sz55 (by decide) sb74_0) rfl ?_
   refine d1 [5] (fun ve h => OpT.loadA (H rfl) (D1 h rfl) ag55 sz55) rfl ?_
   refine d1 [6] (fun ve h => OpT.c1 (ms := [.flat]) (c_spec_l01Mask _) (H rfl) (Af (D1 h rfl) rfl rfl <| An) rfl rfl) rfl ?_
   refine d1 [7] (fun ve h => OpT.move (A := .cel _ _) (.inl rfl) rfl (ok' rfl) (D1 h rfl) rfl) rfl ?_
   refine dr [0, 8] hd1 (fun ve h => OpT.move (A := .cel _ _) (.inl rfl) rfl (ok' rfl) (D1 h rfl) rfl) rfl ?_
   refine dr [8, 9] hd1 (fun ve h => OpT.nilCheck (H rfl) (D1 h rfl)) rfl ?_
   refine dr [8, 10] hd1 (fun ve h => OpT.fieldAddr (H rfl) (D1 h rfl) fd74_1 sz55 (by decide) sb74_1) rfl ?_
   refine dr [8, 11] hd1 (fun ve h => OpT.loadA (H rfl) (D1 h rfl) ag55 sz55) rfl ?_
   refine dr [8, 12] hd1 (fun ve h => OpT.c1 (ms := [.flat]) (c_spec_l01Mask _) (H rfl) (Af (D1 h rfl) rfl rfl <| An) rfl rfl) rfl ?_
   refine d1 [8, 13] (fun ve h => OpT.pickT (A := .cel _ _) (H rfl) (D1 h rfl) hd1 (D1 h rfl) rfl) rfl ?_
   refine d1 [14] (fun ve h => OpT.move (A := .cel _ _) (.inl rfl) rfl (ok' rfl) (D1 h rfl) rfl) rfl ?_
   refine dp hd2 rfl ?_
   refine dp hd2 rfl ?_
   refine dp hd2 rfl ?_
   refine dp hd2 rfl ?_
   refine dp hd2 rfl ?_
   refine dp hd2 rfl ?_
   refine dp hd2 rfl ?_
   refine dp hd2 rfl ?_
   refine dp hd2 rfl ?_
   refine dp hd2 rfl ?_
   refine dp hd2 rfl ?_
   refine d1 [15] (fun ve h => OpT.pickF (A := .cel _ _) (H rfl) (D1 h rfl) hd2 Opd.bool rfl) rfl ?_
   refine d1 [27] (fun ve h => OpT.move (A := .cel _ _) (.inr rfl) rfl (ok' rfl) (D1 h rfl) rfl) rfl ?_
   refine dn ⟨by kernel_rfl, by kernel_rfl, ?_⟩
   refine AX.pr (kc 2 rfl <| Kn) ?_
   refine AX.go ?_
   refine AW.ret ?_
   exact rt1 rfl (.inl rfl) (by first | rfl | (unfold queryOK; simp [*]))
 ·
  refine dh fomo ?_
  refine d1 [0] (fun ve h => OpT.move (A := .cel _ _) (.inl rfl) rfl (ok' rfl) (D1 h rfl) rfl) rfl ?_
  refine d1 [3] (fun ve h => OpT.nilCheck (H rfl) (D1 h rfl)) rfl ?_
  refine d1 [4] (fun ve h => OpT.fieldAddr (H rfl) (D1 h rfl) fd74_0 sz55 (by decide) sb74_0) rfl ?_
  refine d1 [5] (fun ve h => OpT.loadA (H rfl) (D1 h rfl) ag55 sz55) rfl ?_
  refine d1 [6] (fun ve h => OpT.c1 (ms := [.flat]) (c_spec_l01Mask _) (H rfl) (Af (D1 h rfl) rfl rfl <| An) rfl rfl) rfl ?_
  refine d1 [7] (fun ve h => OpT.move (A := .cel _ _) (.inl rfl) rfl (ok' rfl) (D1 h rfl) rfl) rfl ?_
  refine dp hd1 rfl ?_
  refine dp hd1 rfl ?_
  refine dp hd1 rfl ?_
  refine dp hd1 rfl ?_
  refine dp hd1 rfl ?_
  refine d1 [8] (fun ve h => OpT.pickF (A := .cel _ _) (H rfl) (D1 h rfl) hd1 Opd.bool rfl) rfl ?_
  refine d1 [14] (fun ve h => OpT.move (A := .cel _ _) (.inl rfl) rfl (ok' rfl) (D1 h rfl) rfl) rfl ?_
  refine dp rfl rfl ?_
  refine dp rfl rfl ?_
  refine dp rfl rfl ?_
  refine dp rfl rfl ?_
  refine dp rfl rfl ?_
  refine dp rfl rfl ?_
  refine dp rfl rfl ?_
  refine dp rfl rfl ?_
  refine dp rfl rfl ?_
  refine dp rfl rfl ?_
  refine dp rfl rfl ?_
  refine d1 [15] (fun ve h => OpT.pickF (A := .cel _ _) (H rfl) (D1 h rfl) rfl Opd.bool rfl) rfl ?_
  refine d1 [27] (fun ve h => OpT.move (A := .cel _ _) (.inr rfl) rfl (ok' rfl) (D1 h rfl) rfl) rfl ?_
  refine dn ⟨by kernel_rfl, by kernel_rfl, ?_⟩
  refine AX.pr (kc 2 rfl <| Kn) ?_
  refine AX.go ?_
  refine AW.ret ?_
  exact rt1 rfl (.inl rfl) (by first | rfl | (unfold queryOK; simp [*]))

/-- impl.isQuery -/
theorem c_impl_isQuery (q : DQuery) : AC Tryd.prog 93 [.agg kQuery q] [.cel Kd.bool (queryOK q)] [] := by
 refine acI (N := 20) Tryd.func93 (Nat.le_of_ble_eq_true rfl) rfl fun w0 hd s0 ar => ?_
 refine AW.to (ka 0 rfl <| Kn) ?_
 refine sr ?_
 refine st (OpT.frz (OpT.boxA (E := 74) (H rfl) (T1 rfl))) rfl ?_
 refine st (asB rfl) rfl ?_
 refine ng ?_
 refine sr ?_
 refine st (OpT.fieldAddr (H rfl) (T1 rfl) fd74_0 sz55 (by decide) sb74_0) rfl ?_
 refine st (OpT.loadA (H rfl) (T1 rfl) ag55 sz55) rfl ?_
 refine st (OpT.c1 (ms := [.flat]) (c_impl_isMask _) (H rfl) (Af (T1 rfl) rfl rfl <| An) rfl rfl) rfl ?_
 refine st (mvT rfl) rfl ?_
 apply AWl.and (d := 10) (t := 6) rfl
 ·
  intro hb1 Q1 k1
  refine rs hb1 (OpT.fieldAddr (H rfl) (T1 rfl) fd74_1 sz55 (by decide) sb74_1) rfl ?_
  refine rs hb1 (OpT.loadA (H rfl) (T1 rfl) ag55 sz55) rfl ?_
  refine rs hb1 (OpT.c1 (ms := [.flat]) (c_impl_isMask _) (H rfl) (Af (T1 rfl) rfl rfl <| An) rfl rfl) rfl ?_
  refine st (OpT.pickT (A := .cel _ _) (H rfl) (T1 rfl) hb1 (T1 rfl) rfl) rfl ?_
  exact AWl.to (junk 3 rfl) k1
 ·
  intro hb1 Q1 k1
  refine ps hb1 rfl ?_
  refine ps hb1 rfl ?_
  refine ps hb1 rfl ?_
  refine st (OpT.pickF (A := .cel _ _) (H rfl) (T1 rfl) hb1 Opd.bool rfl) rfl ?_
  exact k1
 refine st (mvT rfl) rfl ?_
 apply AWl.and (d := 19) (t := 11) rfl
 ·
  intro hb2 Q1 k1
  refine rs hb2 (OpT.fieldAddr (H rfl) (T1 rfl) fd74_0 sz55 (by decide) sb74_0) rfl ?_
  refine rs hb2 (OpT.loadA (H rfl) (T1 rfl) ag55 sz55) rfl ?_
  refine rs hb2 (OpT.fieldAddr (H rfl) (T1 rfl) fd74_1 sz55 (by decide) sb74_1) rfl ?_
  refine rs hb2 (OpT.loadA (H rfl) (T1 rfl) ag55 sz55) rfl ?_
  refine rs hb2 (OpT.c1 (ms := [.flat, .flat]) (c_impl_MeetMasks _ _) (H rfl) (Af (T1 rfl) rfl rfl <| Af (T1 rfl) rfl rfl <| An) rfl rfl) rfl ?_
  refine rs hb2 (OpT.buildA (H rfl) ar55 sz49 zr55 zk55 (Built.nil _)) rfl ?_
  refine rs hb2 (OpT.eqA (H rfl) (T1 rfl) (T1 rfl) eq55 ag55 rfl eg55) rfl ?_
  refine st (OpT.pickT (A := .cel _ _) (H rfl) (T1 rfl) hb2 (T1 rfl) rfl) rfl ?_
  exact AWl.to (junk 7 rfl) k1
 ·
  intro hb2 Q1 k1
  refine ps hb2 rfl ?_
  refine ps hb2 rfl ?_
  refine ps hb2 rfl ?_
  refine ps hb2 rfl ?_
  refine ps hb2 rfl ?_
  refine ps hb2 rfl ?_
  refine ps hb2 rfl ?_
  refine st (OpT.pickF (A := .cel _ _) (H rfl) (T1 rfl) hb2 Opd.bool rfl) rfl ?_
  exact k1
 refine st (asT rfl) rfl ?_
 refine ng ?_
 refine AW.ret ?_
 exact rt1 rfl (.inl rfl) rfl

/-- spec.l07Shows -/
theorem c_spec_l07Shows (q : DQuery) (m : BitVec 64 × BitVec 64) (i : Int) (h : 0 ≤ i ∧ i < 128) : AC Tryd.prog 150 [.cel (Kd.ptr kQuery) q, .agg kMask m, .cel (Kd.int .i64) i] [.cel Kd.bool (showsQ q m i)] [] := by
 refine acI (N := 32) Tryd.func150 (Nat.le_of_ble_eq_true rfl) rfl fun w0 hd s0 ar => ?_
 refine AW.to (kc 0 rfl <| ka 1 rfl <| kc 2 rfl <| Kn) ?_
 refine sr ?_
 refine st (OpT.frz (OpT.boxA (E := 55) (H rfl) (T1 rfl))) rfl ?_
 refine st (asB rfl) rfl ?_
 refine ng ?_
 refine sr ?_
 refine st (mvT rfl) rfl ?_
 refine st (OpT.nilCheck (H rfl) (T1 rfl)) rfl ?_
 refine st (OpT.fieldAddr (H rfl) (T1 rfl) fd74_0 sz55 (by decide) sb74_0) rfl ?_
 refine st (OpT.loadA (H rfl) (T1 rfl) ag55 sz55) rfl ?_
 refine st (mvT rfl) rfl ?_
 refine st (OpT.c1 (ms := [.flat, .flat]) (c_spec_l01Has _ _ h) (H rfl) (Af (T1 rfl) rfl rfl <| Af (T1 rfl) rfl rfl <| An) rfl rfl) rfl ?_
 refine st (mvT rfl) rfl ?_
 apply AWl.and (d := 18) (t := 13) rfl
 ·
  intro hb1 Q1 k1
  refine rs hb1 (OpT.loadA (H rfl) (T1 rfl) ag55 sz55) rfl ?_
  refine rs hb1 (mvT rfl) rfl ?_
  refine rs hb1 (OpT.c1 (ms := [.flat, .flat]) (c_spec_l01Has _ _ h) (H rfl) (Af (T1 rfl) rfl rfl <| Af (T1 rfl) rfl rfl <| An) rfl rfl) rfl ?_
  refine rs hb1 (OpT.not (H rfl) (T1 rfl)) rfl ?_
  refine st (OpT.pickT (A := .cel _ _) (H rfl) (T1 rfl) hb1 (T1 rfl) rfl) rfl ?_
  exact AWl.to (junk 4 rfl) k1
 ·
  intro hb1 Q1 k1
  refine ps hb1 rfl ?_
  refine ps hb1 rfl ?_
  refine ps hb1 rfl ?_
  refine ps hb1 rfl ?_
  refine st (OpT.pickF (A := .cel _ _) (H rfl) (T1 rfl) hb1 Opd.bool rfl) rfl ?_
  exact k1
 refine st (mvT rfl) rfl ?_
 apply AWl.or (d := 31) (t := 19) rfl
 ·
  intro hb2 Q1 k1
  refine rs hb2 (mvT rfl) rfl ?_
  refine rs hb2 (OpT.nilCheck (H rfl) (T1 rfl)) rfl ?_
  refine rs hb2 (OpT.fieldAddr (H rfl) (T1 rfl) fd74_1 sz55 (by decide) sb74_1) rfl ?_
  refine rs hb2 (OpT.loadA (H rfl) (T1 rfl) ag55 sz55) rfl ?_
  refine rs hb2 (mvT rfl) rfl ?_
  refine rs hb2 (OpT.c1 (ms := [.flat, .flat]) (c_spec_l01Has _ _ h) (H rfl) (Af (T1 rfl) rfl rfl <| Af (T1 rfl) rfl rfl <| An) rfl rfl) rfl ?_
  refine rs hb2 (mvT rfl) rfl ?_
  apply AWl.and (d := 30) (t := 26) rfl
  ·
   intro hb3 Q1 k1
   refine rs hb3 (OpT.loadA (H rfl) (T1 rfl) ag55 sz55) rfl ?_
   refine rs hb3 (mvT rfl) rfl ?_
   refine rs hb3 (OpT.c1 (ms := [.flat, .flat]) (c_spec_l01Has _ _ h) (H rfl) (Af (T1 rfl) rfl rfl <| Af (T1 rfl) rfl rfl <| An) rfl rfl) rfl ?_
   refine rs hb2 (OpT.pickT (A := .cel _ _) (H rfl) (T1 rfl) hb3 (T1 rfl) rfl) rfl ?_
   exact AWl.to (junk 3 rfl) k1
  ·
   intro hb3 Q1 k1
   refine ps hb3 rfl ?_
   refine ps hb3 rfl ?_
   refine ps hb3 rfl ?_
   refine rs hb2 (OpT.pickF (A := .cel _ _) (H rfl) (T1 rfl) hb3 Opd.bool rfl) rfl ?_
   exact k1
  refine st (OpT.pickF (A := .cel _ _) (H rfl) (T1 rfl) hb2 (T1 rfl) rfl) rfl ?_
  exact AWl.to (junk 8 rfl) k1
 ·
  intro hb2 Q1 k1
  refine ps hb2 rfl ?_
  refine ps hb2 rfl ?_
  refine ps hb2 rfl ?_
  refine ps hb2 rfl ?_
  refine ps hb2 rfl ?_
  refine ps hb2 rfl ?_
  refine AWl.pasv rfl rfl rfl rfl hb2 rfl (ok' rfl) rfl ?_
  refine AWl.pasu rfl rfl rfl rfl rfl (ok' rfl) rfl ?_
  refine AWl.pasu rfl rfl rfl rfl rfl (ok' rfl) rfl ?_
  refine AWl.pasu rfl rfl rfl rfl rfl (ok' rfl) rfl ?_
  refine ps hb2 rfl ?_
  refine st (OpT.pickT (A := .cel _ _) (H rfl) (T1 rfl) hb2 Opd.bool rfl) rfl ?_
  exact AWl.to (junk 4 rfl) k1
 refine st (asT rfl) rfl ?_
 refine AWl.to (kc 6 rfl <| Kn) ?_
 refine ng ?_
 refine AW.ret ?_
 exact rt1 rfl (.inl rfl) rfl

/-- impl.Query).isWitness -/
theorem c_impl_Query_isWitness (q : DQuery) (m : BitVec 64 × BitVec 64) (i : Int) (h : 0 ≤ i ∧ i < 128) : AC Tryd.prog 95 [.agg kQuery q, .agg kMask m, .cel (Kd.int .i64) i] [.cel Kd.bool (showsQ q m i)] [] := by
 refine acI (N := 28) Tryd.func95 (Nat.le_of_ble_eq_true rfl) rfl fun w0 hd s0 ar => ?_
 refine AW.to (ka 0 rfl <| ka 1 rfl <| kc 2 rfl <| Kn) ?_
 refine sr ?_
 refine st (OpT.frz (OpT.boxA (E := 74) (H rfl) (T1 rfl))) rfl ?_
 refine st (OpT.frz (OpT.boxA (E := 55) (H rfl) (T1 rfl))) rfl ?_
 refine st (asB rfl) rfl ?_
 refine ng ?_
 refine sr ?_
 refine st (OpT.fieldAddr (H rfl) (T1 rfl) fd74_0 sz55 (by decide) sb74_0) rfl ?_
 refine st (OpT.loadA (H rfl) (T1 rfl) ag55 sz55) rfl ?_
 refine st (mvT rfl) rfl ?_
 refine st (OpT.c1 (ms := [.flat, .flat]) (c_impl_Mask_has _ _ h) (H rfl) (Af (T1 rfl) rfl rfl <| Af (T1 rfl) rfl rfl <| An) rfl rfl) rfl ?_
 refine st (mvT rfl) rfl ?_
 apply AWl.and (d := 16) (t := 11) rfl
 ·
  intro hb1 Q1 k1
  refine rs hb1 (OpT.loadA (H rfl) (T1 rfl) ag55 sz55) rfl ?_
  refine rs hb1 (mvT rfl) rfl ?_
  refine rs hb1 (OpT.c1 (ms := [.flat, .flat]) (c_impl_Mask_has _ _ h) (H rfl) (Af (T1 rfl) rfl rfl <| Af (T1 rfl) rfl rfl <| An) rfl rfl) rfl ?_
  refine rs hb1 (OpT.not (H rfl) (T1 rfl)) rfl ?_
  refine st (OpT.pickT (A := .cel _ _) (H rfl) (T1 rfl) hb1 (T1 rfl) rfl) rfl ?_
  exact AWl.to (junk 4 rfl) k1
 ·
  intro hb1 Q1 k1
  refine ps hb1 rfl ?_
  refine ps hb1 rfl ?_
  refine ps hb1 rfl ?_
  refine ps hb1 rfl ?_
  refine st (OpT.pickF (A := .cel _ _) (H rfl) (T1 rfl) hb1 Opd.bool rfl) rfl ?_
  exact k1
 refine st (mvT rfl) rfl ?_
 apply AWl.or (d := 27) (t := 17) rfl
 ·
  intro hb2 Q1 k1
  refine rs hb2 (OpT.fieldAddr (H rfl) (T1 rfl) fd74_1 sz55 (by decide) sb74_1) rfl ?_
  refine rs hb2 (OpT.loadA (H rfl) (T1 rfl) ag55 sz55) rfl ?_
  refine rs hb2 (mvT rfl) rfl ?_
  refine rs hb2 (OpT.c1 (ms := [.flat, .flat]) (c_impl_Mask_has _ _ h) (H rfl) (Af (T1 rfl) rfl rfl <| Af (T1 rfl) rfl rfl <| An) rfl rfl) rfl ?_
  refine rs hb2 (mvT rfl) rfl ?_
  apply AWl.and (d := 26) (t := 22) rfl
  ·
   intro hb3 Q1 k1
   refine rs hb3 (OpT.loadA (H rfl) (T1 rfl) ag55 sz55) rfl ?_
   refine rs hb3 (mvT rfl) rfl ?_
   refine rs hb3 (OpT.c1 (ms := [.flat, .flat]) (c_impl_Mask_has _ _ h) (H rfl) (Af (T1 rfl) rfl rfl <| Af (T1 rfl) rfl rfl <| An) rfl rfl) rfl ?_
   refine rs hb2 (OpT.pickT (A := .cel _ _) (H rfl) (T1 rfl) hb3 (T1 rfl) rfl) rfl ?_
   exact AWl.to (junk 3 rfl) k1
  ·
   intro hb3 Q1 k1
   refine ps hb3 rfl ?_
   refine ps hb3 rfl ?_
   refine ps hb3 rfl ?_
   refine rs hb2 (OpT.pickF (A := .cel _ _) (H rfl) (T1 rfl) hb3 Opd.bool rfl) rfl ?_
   exact k1
  refine st (OpT.pickF (A := .cel _ _) (H rfl) (T1 rfl) hb2 (T1 rfl) rfl) rfl ?_
  exact AWl.to (junk 6 rfl) k1
 ·
  intro hb2 Q1 k1
  refine ps hb2 rfl ?_
  refine ps hb2 rfl ?_
  refine ps hb2 rfl ?_
  refine ps hb2 rfl ?_
  refine AWl.pasv rfl rfl rfl rfl hb2 rfl (ok' rfl) rfl ?_
  refine AWl.pasu rfl rfl rfl rfl rfl (ok' rfl) rfl ?_
  refine AWl.pasu rfl rfl rfl rfl rfl (ok' rfl) rfl ?_
  refine AWl.pasu rfl rfl rfl rfl rfl (ok' rfl) rfl ?_
  refine ps hb2 rfl ?_
  refine st (OpT.pickT (A := .cel _ _) (H rfl) (T1 rfl) hb2 Opd.bool rfl) rfl ?_
  exact AWl.to (junk 4 rfl) k1
 refine st (asT rfl) rfl ?_
 refine AWl.to (kc 6 rfl <| Kn) ?_
 refine ng ?_
 refine AW.ret ?_
 exact rt1 rfl (.inl rfl) rfl
end Go.Proofs.YtfnkphllkbkfaaaDoor.VL
