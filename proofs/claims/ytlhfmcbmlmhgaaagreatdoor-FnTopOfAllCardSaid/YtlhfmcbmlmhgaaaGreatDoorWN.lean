/- Proved here: what some functions of the program take and give: walks with the words of VA..VQ. Printed by program. -/
import Derived.Test.YtlhfmcbmlmhgaaaGreatDoorWT
import Derived.Test.YtlhfmcbmlmhgaaaGreatDoorBpa
import Derived.Test.YtlhfmcbmlmhgaaaGreatDoorWA
import Derived.Test.YtlhfmcbmlmhgaaaGreatDoorWB
import Derived.Test.YtlhfmcbmlmhgaaaGreatDoorWL
set_option linter.unusedVariables false
set_option linter.unusedSimpArgs false
set_option maxRecDepth 4000
namespace Go.Proofs.YtlhfmcbmlmhgaaaGreatDoor.VL
open Go
theorem c_spec_l01Has (m : BitVec 64 × BitVec 64) (i : Int) (h : 0 ≤ i ∧ i < 128) : AC Tryz.prog 128 [.agg kMask m, .cel (Kd.int .i64) i] [.cel Kd.bool (hasM m i)] [] := by
 refine acI (N := 15) Tryz.func128 (Nat.le_of_ble_eq_true rfl) rfl fun w0 hd s0 ar => ?_
 refine AW.to (ka 0 rfl <| kc 1 rfl <| Kn) ?_
 have hd64 := div64 h
 have hm64 := mod64 h.1
 refine sr ?_
 refine st (OpT.frz (OpT.boxA (E := 31) (H rfl) (T1 rfl))) rfl ?_
 refine st (asB rfl) rfl ?_
 refine ng ?_
 refine sr ?_
 refine st (mvT rfl) rfl ?_
 refine st (OpT.quo (H rfl) (T1 rfl) (I rfl) (by omega) (nw (by omega))) rfl ?_
 refine st (OpT.indexAddrP (H rfl) (T1 rfl) (T1 rfl) ar31 sz29 (by omega) (Sub.two (by omega) rfl)) rfl ?_
 refine st (OpT.load (H rfl) (T1 rfl) ag29 rfl) rfl ?_
 refine st (mvT rfl) rfl ?_
 refine st (OpT.rem (H rfl) (T1 rfl) (I rfl) (by omega)) rfl ?_
 refine st (OpT.convu (H rfl) us2 Tryz.underlying29 (T1 rfl)) rfl ?_
 refine st (OpT.shr (H rfl) (T1 rfl) (Opd.asInt (T1 rfl)) (Int.natCast_nonneg _)) rfl ?_
 refine st (OpT.urem (H rfl) (T1 rfl) (U2 2 rfl rfl) (by decide)) rfl ?_
 refine st (OpT.ueql (H rfl) (T1 rfl) (U2 1 rfl rfl)) rfl ?_
 refine st (asT rfl) rfl ?_
 refine AWl.to (kc 4 rfl <| Kn) ?_
 refine ng ?_
 refine AW.ret ?_
 exact rt1 rfl (.inl rfl) (by unfold hasM limb; rw [rem64 h.1]; rfl)

theorem c_impl_Mask_has (m : BitVec 64 × BitVec 64) (i : Int) (h : 0 ≤ i ∧ i < 128) : AC Tryz.prog 103 [.agg kMask m, .cel (Kd.int .i64) i] [.cel Kd.bool (hasM m i)] [] := by
 refine acI (N := 14) Tryz.func103 (Nat.le_of_ble_eq_true rfl) rfl fun w0 hd s0 ar => ?_
 refine AW.to (ka 0 rfl <| kc 1 rfl <| Kn) ?_
 have hd64 := div64 h
 have hm64 := mod64 h.1
 refine sr ?_
 refine st (OpT.frz (OpT.boxA (E := 31) (H rfl) (T1 rfl))) rfl ?_
 refine st (asB rfl) rfl ?_
 refine ng ?_
 refine sr ?_
 refine st (mvT rfl) rfl ?_
 refine st (OpT.quo (H rfl) (T1 rfl) (I rfl) (by omega) (nw (by omega))) rfl ?_
 refine st (OpT.indexAddrP (H rfl) (T1 rfl) (T1 rfl) ar31 sz29 (by omega) (Sub.two (by omega) rfl)) rfl ?_
 refine st (OpT.load (H rfl) (T1 rfl) ag29 rfl) rfl ?_
 refine st (mvT rfl) rfl ?_
 refine st (OpT.rem (H rfl) (T1 rfl) (I rfl) (by omega)) rfl ?_
 refine st (OpT.shr (H rfl) (T1 rfl) (T1 rfl) (by omega)) rfl ?_
 refine st (OpT.band (H rfl) (T1 rfl) (U2 1 rfl rfl)) rfl ?_
 refine st (OpT.ueql (H rfl) (T1 rfl) (U2 1 rfl rfl)) rfl ?_
 refine st (asT rfl) rfl ?_
 refine AWl.to (kc 4 rfl <| Kn) ?_
 refine ng ?_
 refine AW.ret ?_
 exact rt1 rfl (.inl rfl) (by unfold hasM limb; rw [and_one])

theorem c_spec_l01Hole (h : Int) : AC Tryz.prog 132 [.cel (Kd.int .i64) h] [.cel Kd.bool (inb h 0 95)] [] := by
 refine acI (N := 5) Tryz.func132 (Nat.le_of_ble_eq_true rfl) rfl fun w0 hd s0 ar => ?_
 refine AW.to (kc 0 rfl <| Kn) ?_
 refine sr ?_
 refine st (asB rfl) rfl ?_
 refine ng ?_
 refine sr ?_
 refine st (mvT rfl) rfl ?_
 refine st (OpT.c1 (ms := [.flat, .flat, .flat]) (c_spec_l00In _ _ _) (H rfl) (Af (T1 rfl) rfl rfl <| Af (I rfl) rfl rfl <| Af (I rfl) rfl rfl <| An) rfl rfl) rfl ?_
 refine st (asT rfl) rfl ?_
 refine ng ?_
 refine AW.ret ?_
 exact rt1 rfl (.inl rfl) rfl

theorem c_impl_isHole (h : Int) : AC Tryz.prog 109 [.cel (Kd.int .i64) h] [.cel Kd.bool (inb h 0 95)] [] := by
 refine acI (N := 9) Tryz.func109 (Nat.le_of_ble_eq_true rfl) rfl fun w0 hd s0 ar => ?_
 refine AW.to (kc 0 rfl <| Kn) ?_
 refine sr ?_
 refine st (asB rfl) rfl ?_
 refine ng ?_
 refine sr ?_
 refine st (mvT rfl) rfl ?_
 refine st (OpT.geq (H rfl) (T1 rfl) (I rfl)) rfl ?_
 refine st (mvT rfl) rfl ?_
 apply AWl.and (d := 8) (t := 5) rfl
 ·
  intro hb1 Q1 k1
  refine rs hb1 (mvT rfl) rfl ?_
  refine rs hb1 (OpT.lss (H rfl) (T1 rfl) (I rfl)) rfl ?_
  refine st (OpT.pickT (A := .cel _ _) (H rfl) (T1 rfl) hb1 (T1 rfl) rfl) rfl ?_
  exact AWl.to (junk 2 rfl) k1
 ·
  intro hb1 Q1 k1
  refine ps hb1 rfl ?_
  refine ps hb1 rfl ?_
  refine st (OpT.pickF (A := .cel _ _) (H rfl) (T1 rfl) hb1 Opd.bool rfl) rfl ?_
  exact k1
 refine st (asT rfl) rfl ?_
 refine ng ?_
 refine AW.ret ?_
 exact rt1 rfl (.inl rfl) (hole_same h)

theorem c_spec_l01Meet (x y : BitVec 64 × BitVec 64) : AC Tryz.prog 85 [.agg kMask x, .agg kMask y] [.agg kMask (meetM x y)] [] := by
 refine acI (N := 16) Tryz.func85 (Nat.le_of_ble_eq_true rfl) rfl fun w0 hd s0 ar => ?_
 refine AW.to (ka 0 rfl <| ka 1 rfl <| Kn) ?_
 refine sr ?_
 refine st (OpT.frz (OpT.boxA (E := 31) (H rfl) (T1 rfl))) rfl ?_
 refine st (OpT.frz (OpT.boxA (E := 31) (H rfl) (T1 rfl))) rfl ?_
 refine st (OpT.alloc (H rfl) zr31 zk31) rfl ?_
 refine ng ?_
 refine sr ?_
 refine st (OpT.indexAddrP (H rfl) (T1 rfl) (I rfl) ar31 sz29 (by decide) sx31_0) rfl ?_
 refine st (OpT.load (H rfl) (T1 rfl) ag29 rfl) rfl ?_
 refine st (OpT.indexAddrP (H rfl) (T1 rfl) (I rfl) ar31 sz29 (by decide) sx31_0) rfl ?_
 refine st (OpT.load (H rfl) (T1 rfl) ag29 rfl) rfl ?_
 refine st (OpT.band (H rfl) (T1 rfl) (T1 rfl)) rfl ?_
 refine st (OpT.indexAddrP (H rfl) (T1 rfl) (I rfl) ar31 sz29 (by decide) sx31_1) rfl ?_
 refine st (OpT.load (H rfl) (T1 rfl) ag29 rfl) rfl ?_
 refine st (OpT.indexAddrP (H rfl) (T1 rfl) (I rfl) ar31 sz29 (by decide) sx31_1) rfl ?_
 refine st (OpT.load (H rfl) (T1 rfl) ag29 rfl) rfl ?_
 refine st (OpT.band (H rfl) (T1 rfl) (T1 rfl)) rfl ?_
 refine st (OpT.buildA (H rfl) ar31 sz29 zr31 zk31 (Built.cel (T1 rfl) rfl rfl sx31_0 (Built.cel (T1 rfl) rfl rfl sx31_1 (Built.nil _)))) rfl ?_
 refine sk (OpT.storeBA rfl rfl (Opd.whole (Root.self (t := 4) (by decide)) rfl) rfl sz31 (by decide) (T1 rfl)) rfl ?_
 refine AWl.to (kb 4 rfl <| Kn) ?_
 refine ng ?_
 refine AW.ret ?_
 exact AX.rt (rs := [.cell 4 31]) (ts := [none]) (.inl rfl) rfl (ROs.cons (RO.cellA (by decide) (Kb rfl rfl) ag31 sz31) <| ROs.nil) (by decide) OutsOK.nil

theorem c_impl_MeetMasks (x y : BitVec 64 × BitVec 64) : AC Tryz.prog 77 [.agg kMask x, .agg kMask y] [.agg kMask (meetM x y)] [] := by
 refine acI (N := 16) Tryz.func77 (Nat.le_of_ble_eq_true rfl) rfl fun w0 hd s0 ar => ?_
 refine AW.to (ka 0 rfl <| ka 1 rfl <| Kn) ?_
 refine sr ?_
 refine st (OpT.frz (OpT.boxA (E := 31) (H rfl) (T1 rfl))) rfl ?_
 refine st (OpT.frz (OpT.boxA (E := 31) (H rfl) (T1 rfl))) rfl ?_
 refine st (OpT.alloc (H rfl) zr31 zk31) rfl ?_
 refine ng ?_
 refine sr ?_
 refine st (OpT.indexAddrP (H rfl) (T1 rfl) (I rfl) ar31 sz29 (by decide) sx31_0) rfl ?_
 refine st (OpT.load (H rfl) (T1 rfl) ag29 rfl) rfl ?_
 refine st (OpT.indexAddrP (H rfl) (T1 rfl) (I rfl) ar31 sz29 (by decide) sx31_0) rfl ?_
 refine st (OpT.load (H rfl) (T1 rfl) ag29 rfl) rfl ?_
 refine st (OpT.band (H rfl) (T1 rfl) (T1 rfl)) rfl ?_
 refine st (OpT.indexAddrP (H rfl) (T1 rfl) (I rfl) ar31 sz29 (by decide) sx31_1) rfl ?_
 refine st (OpT.load (H rfl) (T1 rfl) ag29 rfl) rfl ?_
 refine st (OpT.indexAddrP (H rfl) (T1 rfl) (I rfl) ar31 sz29 (by decide) sx31_1) rfl ?_
 refine st (OpT.load (H rfl) (T1 rfl) ag29 rfl) rfl ?_
 refine st (OpT.band (H rfl) (T1 rfl) (T1 rfl)) rfl ?_
 refine st (OpT.buildA (H rfl) ar31 sz29 zr31 zk31 (Built.cel (T1 rfl) rfl rfl sx31_0 (Built.cel (T1 rfl) rfl rfl sx31_1 (Built.nil _)))) rfl ?_
 refine sk (OpT.storeBA rfl rfl (Opd.whole (Root.self (t := 4) (by decide)) rfl) rfl sz31 (by decide) (T1 rfl)) rfl ?_
 refine AWl.to (kb 4 rfl <| Kn) ?_
 refine ng ?_
 refine AW.ret ?_
 exact AX.rt (rs := [.cell 4 31]) (ts := [none]) (.inl rfl) rfl (ROs.cons (RO.cellA (by decide) (Kb rfl rfl) ag31 sz31) <| ROs.nil) (by decide) OutsOK.nil

theorem c_spec_IsWithin (x y : BitVec 64 × BitVec 64) : AC Tryz.prog 118 [.agg kMask x, .agg kMask y] [.cel Kd.bool (withinM x y)] [] := by
 refine acI (N := 10) Tryz.func118 (Nat.le_of_ble_eq_true rfl) rfl fun w0 hd s0 ar => ?_
 refine AW.to (ka 0 rfl <| ka 1 rfl <| Kn) ?_
 refine sr ?_
 refine st (OpT.frz (OpT.boxA (E := 31) (H rfl) (T1 rfl))) rfl ?_
 refine st (OpT.frz (OpT.boxA (E := 31) (H rfl) (T1 rfl))) rfl ?_
 refine st (asB rfl) rfl ?_
 refine ng ?_
 refine sr ?_
 refine st (OpT.loadA (H rfl) (T1 rfl) ag31 sz31) rfl ?_
 refine st (OpT.loadA (H rfl) (T1 rfl) ag31 sz31) rfl ?_
 refine st (OpT.c1 (ms := [.flat, .flat]) (c_spec_l01Less _ _) (H rfl) (Af (T1 rfl) rfl rfl <| Af (T1 rfl) rfl rfl <| An) rfl rfl) rfl ?_
 refine st (OpT.buildA (H rfl) ar31 sz29 zr31 zk31 (Built.nil _)) rfl ?_
 refine st (OpT.eqA (H rfl) (T1 rfl) (T1 rfl) eq31 ag31 rfl eg31) rfl ?_
 refine st (asT rfl) rfl ?_
 refine ng ?_
 refine AW.ret ?_
 exact rt1 rfl (.inl rfl) rfl

theorem c_impl_IsWithin (x y : BitVec 64 × BitVec 64) : AC Tryz.prog 105 [.agg kMask x, .agg kMask y] [.cel Kd.bool (withinM x y)] [] := by
 refine acI (N := 10) Tryz.func105 (Nat.le_of_ble_eq_true rfl) rfl fun w0 hd s0 ar => ?_
 refine AW.to (ka 0 rfl <| ka 1 rfl <| Kn) ?_
 refine sr ?_
 refine st (OpT.frz (OpT.boxA (E := 31) (H rfl) (T1 rfl))) rfl ?_
 refine st (OpT.frz (OpT.boxA (E := 31) (H rfl) (T1 rfl))) rfl ?_
 refine st (asB rfl) rfl ?_
 refine ng ?_
 refine sr ?_
 refine st (OpT.loadA (H rfl) (T1 rfl) ag31 sz31) rfl ?_
 refine st (OpT.loadA (H rfl) (T1 rfl) ag31 sz31) rfl ?_
 refine st (OpT.c1 (ms := [.flat, .flat]) (c_impl_LessMask _ _) (H rfl) (Af (T1 rfl) rfl rfl <| Af (T1 rfl) rfl rfl <| An) rfl rfl) rfl ?_
 refine st (OpT.buildA (H rfl) ar31 sz29 zr31 zk31 (Built.nil _)) rfl ?_
 refine st (OpT.eqA (H rfl) (T1 rfl) (T1 rfl) eq31 ag31 rfl eg31) rfl ?_
 refine st (asT rfl) rfl ?_
 refine ng ?_
 refine AW.ret ?_
 exact rt1 rfl (.inl rfl) rfl

theorem c_spec_l02Drops (q : DQuery) (m : BitVec 64 × BitVec 64) : AC Tryz.prog 107 [.cel (Kd.ptr kQuery) q, .agg kMask m] [.cel Kd.bool (dropsQ q m)] [] := by
 refine acI (N := 21) Tryz.func107 (Nat.le_of_ble_eq_true rfl) rfl fun w0 hd s0 ar => ?_
 refine AW.to (kc 0 rfl <| ka 1 rfl <| Kn) ?_
 refine sr ?_
 refine st (OpT.frz (OpT.boxA (E := 31) (H rfl) (T1 rfl))) rfl ?_
 refine st (asB rfl) rfl ?_
 refine AWl.to (kc3 4 3 0 rfl <| Kn) ?_
 refine ng ?_
 refine AW.seq ?_
 rcases Bool.eq_false_or_eq_true (withinM q.1 m) with hd1 | hd1
 ·
  refine dh fomo ?_
  refine d1 [0] (fun ve h => OpT.move (A := .cel _ _) (.inl rfl) rfl (ok' rfl) (D1 h rfl) rfl) rfl ?_
  refine d1 [5] (fun ve h => OpT.nilCheck (H rfl) (D1 h rfl)) rfl ?_
  refine d1 [6] (fun ve h => OpT.fieldAddr (H rfl) (D1 h rfl) fd49_0 sz31 (by decide) sb49_0) rfl ?_
  refine d1 [7] (fun ve h => OpT.loadA (H rfl) (D1 h rfl) ag31 sz31) rfl ?_
  refine d1 [3] (fun ve h => OpT.loadA (H rfl) (D1 h rfl) ag31 sz31) rfl ?_
  refine d1 [8, 9] (fun ve h => OpT.c1 (ms := [.flat, .flat]) (c_spec_IsWithin _ _) (H rfl) (Af (D1 h rfl) rfl rfl <| Af (D1 h rfl) rfl rfl <| An) rfl rfl) rfl ?_
  refine d1 [10] (fun ve h => OpT.move (A := .cel _ _) (.inl rfl) rfl (ok' rfl) (D1 h rfl) rfl) rfl ?_
  refine dr [0, 11] hd1 (fun ve h => OpT.move (A := .cel _ _) (.inl rfl) rfl (ok' rfl) (D1 h rfl) rfl) rfl ?_
  refine dr [11, 12] hd1 (fun ve h => OpT.nilCheck (H rfl) (D1 h rfl)) rfl ?_
  refine dr [11, 13] hd1 (fun ve h => OpT.fieldAddr (H rfl) (D1 h rfl) fd49_1 sz31 (by decide) sb49_1) rfl ?_
  refine dr [11, 14] hd1 (fun ve h => OpT.loadA (H rfl) (D1 h rfl) ag31 sz31) rfl ?_
  refine dr [3, 11] hd1 (fun ve h => OpT.loadA (H rfl) (D1 h rfl) ag31 sz31) rfl ?_
  refine dr [11, 15, 16] hd1 (fun ve h => OpT.c1 (ms := [.flat, .flat]) (c_spec_l01Meet _ _) (H rfl) (Af (D1 h rfl) rfl rfl <| Af (D1 h rfl) rfl rfl <| An) rfl rfl) rfl ?_
  refine dr [11] hd1 (fun ve h => OpT.buildA (H rfl) ar31 sz29 zr31 zk31 (Built.nil _)) rfl ?_
  refine dr [11, 17, 18] hd1 (fun ve h => OpT.eqA (H rfl) (D1 h rfl) (D1 h rfl) eq31 ag31 rfl eg31) rfl ?_
  refine d1 [11, 19] (fun ve h => OpT.pickT (A := .cel _ _) (H rfl) (D1 h rfl) hd1 (D1 h rfl) rfl) rfl ?_
  refine d1 [20] (fun ve h => OpT.move (A := .cel _ _) (.inr rfl) rfl (ok' rfl) (D1 h rfl) rfl) rfl ?_
  refine dn ⟨by kernel_rfl, by kernel_rfl, ?_⟩
  refine AX.pr (kc 4 rfl <| Kn) ?_
  refine AX.go ?_
  refine AW.ret ?_
  exact rt1 rfl (.inl rfl) (by first | rfl | (unfold dropsQ; rw [hd1]; rfl))
 ·
  refine dh fomo ?_
  refine d1 [0] (fun ve h => OpT.move (A := .cel _ _) (.inl rfl) rfl (ok' rfl) (D1 h rfl) rfl) rfl ?_
  refine d1 [5] (fun ve h => OpT.nilCheck (H rfl) (D1 h rfl)) rfl ?_
  refine d1 [6] (fun ve h => OpT.fieldAddr (H rfl) (D1 h rfl) fd49_0 sz31 (by decide) sb49_0) rfl ?_
  refine d1 [7] (fun ve h => OpT.loadA (H rfl) (D1 h rfl) ag31 sz31) rfl ?_
  refine d1 [3] (fun ve h => OpT.loadA (H rfl) (D1 h rfl) ag31 sz31) rfl ?_
  refine d1 [8, 9] (fun ve h => OpT.c1 (ms := [.flat, .flat]) (c_spec_IsWithin _ _) (H rfl) (Af (D1 h rfl) rfl rfl <| Af (D1 h rfl) rfl rfl <| An) rfl rfl) rfl ?_
  refine d1 [10] (fun ve h => OpT.move (A := .cel _ _) (.inl rfl) rfl (ok' rfl) (D1 h rfl) rfl) rfl ?_
  refine dp hd1 rfl ?_
  refine dp hd1 rfl ?_
  refine dp hd1 rfl ?_
  refine dp hd1 rfl ?_
  refine dp hd1 rfl ?_
  refine dp hd1 rfl ?_
  refine dp hd1 rfl ?_
  refine dp hd1 rfl ?_
  refine d1 [11] (fun ve h => OpT.pickF (A := .cel _ _) (H rfl) (D1 h rfl) hd1 Opd.bool rfl) rfl ?_
  refine d1 [20] (fun ve h => OpT.move (A := .cel _ _) (.inr rfl) rfl (ok' rfl) (D1 h rfl) rfl) rfl ?_
  refine dn ⟨by kernel_rfl, by kernel_rfl, ?_⟩
  refine AX.pr (kc 4 rfl <| Kn) ?_
  refine AX.go ?_
  refine AW.ret ?_
  exact rt1 rfl (.inl rfl) (by first | rfl | (unfold dropsQ; rw [hd1]; rfl))

theorem c_impl_Query_drops (q : DQuery) (m : BitVec 64 × BitVec 64) : AC Tryz.prog 63 [.agg kQuery q, .agg kMask m] [.cel Kd.bool (dropsQ q m)] [] := by
 refine acI (N := 17) Tryz.func63 (Nat.le_of_ble_eq_true rfl) rfl fun w0 hd s0 ar => ?_
 refine AW.to (ka 0 rfl <| ka 1 rfl <| Kn) ?_
 refine sr ?_
 refine st (OpT.frz (OpT.boxA (E := 49) (H rfl) (T1 rfl))) rfl ?_
 refine st (OpT.frz (OpT.boxA (E := 31) (H rfl) (T1 rfl))) rfl ?_
 refine st (asB rfl) rfl ?_
 refine ng ?_
 refine sr ?_
 refine st (OpT.fieldAddr (H rfl) (T1 rfl) fd49_0 sz31 (by decide) sb49_0) rfl ?_
 refine st (OpT.loadA (H rfl) (T1 rfl) ag31 sz31) rfl ?_
 refine st (OpT.loadA (H rfl) (T1 rfl) ag31 sz31) rfl ?_
 refine st (OpT.c1 (ms := [.flat, .flat]) (c_impl_IsWithin _ _) (H rfl) (Af (T1 rfl) rfl rfl <| Af (T1 rfl) rfl rfl <| An) rfl rfl) rfl ?_
 refine st (mvT rfl) rfl ?_
 apply AWl.and (d := 16) (t := 9) rfl
 ·
  intro hb1 Q1 k1
  refine rs hb1 (OpT.fieldAddr (H rfl) (T1 rfl) fd49_1 sz31 (by decide) sb49_1) rfl ?_
  refine rs hb1 (OpT.loadA (H rfl) (T1 rfl) ag31 sz31) rfl ?_
  refine rs hb1 (OpT.loadA (H rfl) (T1 rfl) ag31 sz31) rfl ?_
  refine rs hb1 (OpT.c1 (ms := [.flat, .flat]) (c_impl_MeetMasks _ _) (H rfl) (Af (T1 rfl) rfl rfl <| Af (T1 rfl) rfl rfl <| An) rfl rfl) rfl ?_
  refine rs hb1 (OpT.buildA (H rfl) ar31 sz29 zr31 zk31 (Built.nil _)) rfl ?_
  refine rs hb1 (OpT.eqA (H rfl) (T1 rfl) (T1 rfl) eq31 ag31 rfl eg31) rfl ?_
  refine st (OpT.pickT (A := .cel _ _) (H rfl) (T1 rfl) hb1 (T1 rfl) rfl) rfl ?_
  exact AWl.to (junk 6 rfl) k1
 ·
  intro hb1 Q1 k1
  refine ps hb1 rfl ?_
  refine ps hb1 rfl ?_
  refine ps hb1 rfl ?_
  refine ps hb1 rfl ?_
  refine ps hb1 rfl ?_
  refine ps hb1 rfl ?_
  refine st (OpT.pickF (A := .cel _ _) (H rfl) (T1 rfl) hb1 Opd.bool rfl) rfl ?_
  exact k1
 refine st (asT rfl) rfl ?_
 refine AWl.to (kc 4 rfl <| Kn) ?_
 refine ng ?_
 refine AW.ret ?_
 exact rt1 rfl (.inl rfl) rfl

theorem c_spec_l02Query (q : DQuery) : AC Tryz.prog 65 [.cel (Kd.ptr kQuery) q] [.cel Kd.bool (queryOK q)] [] := by
 refine acI (N := 28) Tryz.func65 (Nat.le_of_ble_eq_true rfl) rfl fun w0 hd s0 ar => ?_
 refine AW.to (kc 0 rfl <| Kn) ?_
 refine sr ?_
 refine st (asB rfl) rfl ?_
 refine ng ?_
 refine AW.seq ?_
 rcases Bool.eq_false_or_eq_true (okM q.1) with hd1 | hd1
 ·
  rcases Bool.eq_false_or_eq_true (okM q.2) with hd2 | hd2
  ·
   refine dh fomo ?_
   refine d1 [0] (fun ve h => OpT.move (A := .cel _ _) (.inl rfl) rfl (ok' rfl) (D1 h rfl) rfl) rfl ?_
   refine d1 [3] (fun ve h => OpT.nilCheck (H rfl) (D1 h rfl)) rfl ?_
   refine d1 [4] (fun ve h => OpT.fieldAddr (H rfl) (D1 h rfl) fd49_0 sz31 (by decide) sb49_0) rfl ?_
   refine d1 [5] (fun ve h => OpT.loadA (H rfl) (D1 h rfl) ag31 sz31) rfl ?_
   refine d1 [6] (fun ve h => OpT.c1 (ms := [.flat]) (c_spec_l01Mask _) (H rfl) (Af (D1 h rfl) rfl rfl <| An) rfl rfl) rfl ?_
   refine d1 [7] (fun ve h => OpT.move (A := .cel _ _) (.inl rfl) rfl (ok' rfl) (D1 h rfl) rfl) rfl ?_
   refine dr [0, 8] hd1 (fun ve h => OpT.move (A := .cel _ _) (.inl rfl) rfl (ok' rfl) (D1 h rfl) rfl) rfl ?_
   refine dr [8, 9] hd1 (fun ve h => OpT.nilCheck (H rfl) (D1 h rfl)) rfl ?_
   refine dr [8, 10] hd1 (fun ve h => OpT.fieldAddr (H rfl) (D1 h rfl) fd49_1 sz31 (by decide) sb49_1) rfl ?_
   refine dr [8, 11] hd1 (fun ve h => OpT.loadA (H rfl) (D1 h rfl) ag31 sz31) rfl ?_
   refine dr [8, 12] hd1 (fun ve h => OpT.c1 (ms := [.flat]) (c_spec_l01Mask _) (H rfl) (Af (D1 h rfl) rfl rfl <| An) rfl rfl) rfl ?_
   refine d1 [8, 13] (fun ve h => OpT.pickT (A := .cel _ _) (H rfl) (D1 h rfl) hd1 (D1 h rfl) rfl) rfl ?_
   refine d1 [14] (fun ve h => OpT.move (A := .cel _ _) (.inl rfl) rfl (ok' rfl) (D1 h rfl) rfl) rfl ?_
   refine dr [0, 15] hd2 (fun ve h => OpT.move (A := .cel _ _) (.inl rfl) rfl (ok' rfl) (D1 h rfl) rfl) rfl ?_
   refine dr [15, 16] hd2 (fun ve h => OpT.nilCheck (H rfl) (D1 h rfl)) rfl ?_
   refine dr [15, 17] hd2 (fun ve h => OpT.fieldAddr (H rfl) (D1 h rfl) fd49_0 sz31 (by decide) sb49_0) rfl ?_
   refine dr [15, 18] hd2 (fun ve h => OpT.loadA (H rfl) (D1 h rfl) ag31 sz31) rfl ?_
   refine dr [0, 15] hd2 (fun ve h => OpT.move (A := .cel _ _) (.inl rfl) rfl (ok' rfl) (D1 h rfl) rfl) rfl ?_
   refine dr [15, 20] hd2 (fun ve h => OpT.nilCheck (H rfl) (D1 h rfl)) rfl ?_
   refine dr [15, 21] hd2 (fun ve h => OpT.fieldAddr (H rfl) (D1 h rfl) fd49_1 sz31 (by decide) sb49_1) rfl ?_
   refine dr [15, 22] hd2 (fun ve h => OpT.loadA (H rfl) (D1 h rfl) ag31 sz31) rfl ?_
   refine dr [15, 19, 23] hd2 (fun ve h => OpT.c1 (ms := [.flat, .flat]) (c_spec_l01Meet _ _) (H rfl) (Af (D1 h rfl) rfl rfl <| Af (D1 h rfl) rfl rfl <| An) rfl rfl) rfl ?_
   refine dr [15] hd2 (fun ve h => OpT.buildA (H rfl) ar31 sz29 zr31 zk31 (Built.nil _)) rfl ?_
   refine dr [15, 24, 25] hd2 (fun ve h => OpT.eqA (H rfl) (D1 h rfl) (D1 h rfl) eq31 ag31 rfl eg31) rfl ?_
   refine d1 [15, 26] (fun ve h => OpT.pickT (A := .cel _ _) (H rfl) (D1 h rfl) hd2 (D1 h rfl) rfl) rfl ?_
   refine d1 [27] (fun ve h => OpT.move (A := .cel _ _) (.inr rfl) rfl (ok' rfl) (D1 h rfl) rfl) rfl ?_
   refine dn ⟨by kernel_rfl, by kernel_rfl, ?_⟩
   refine AX.pr (kc 2 rfl <| Kn) ?_
   refine AX.go ?_
   refine AW.ret ?_
   exact rt1 rfl (.inl rfl) (by first | rfl | (unfold queryOK; simp [*]))
  ·
   refine dh fomo ?_
   refine d1 [0] (fun ve h => OpT.move (A := .cel _ _) (.inl rfl) rfl (ok' rfl) (D1 h rfl) rfl) rfl ?_
   refine d1 [3] (fun ve h => OpT.nilCheck (H rfl) (D1 h rfl)) rfl ?_
   refine d1 [4] (fun ve h => OpT.fieldAddr (H rfl) (D1 h rfl) fd49_0 sz31 (by decide) sb49_0) rfl ?_
   refine d1 [5] (fun ve h => OpT.loadA (H rfl) (D1 h rfl) ag31 sz31) rfl ?_
   refine d1 [6] (fun ve h => OpT.c1 (ms := [.flat]) (c_spec_l01Mask _) (H rfl) (Af (D1 h rfl) rfl rfl <| An) rfl rfl) rfl ?_
   refine d1 [7] (fun ve h => OpT.move (A := .cel _ _) (.inl rfl) rfl (ok' rfl) (D1 h rfl) rfl) rfl ?_
   refine dr [0, 8] hd1 (fun ve h => OpT.move (A := .cel _ _) (.inl rfl) rfl (ok' rfl) (D1 h rfl) rfl) rfl ?_
   refine dr [8, 9] hd1 (fun ve h => OpT.nilCheck (H rfl) (D1 h rfl)) rfl ?_
   refine dr [8, 10] hd1 (fun ve h => OpT.fieldAddr (H rfl) (D1 h rfl) fd49_1 sz31 (by decide) sb49_1) rfl ?_
   refine dr [8, 11] hd1 (fun ve h => OpT.loadA (H rfl) (D1 h rfl) ag31 sz31) rfl ?_
   refine dr [8, 12] hd1 (fun ve h => OpT.c1 (ms := [.flat]) (c_spec_l01Mask _) (H rfl) (Af (D1 h rfl) rfl rfl <| An) rfl rfl) rfl ?_
   refine d1 [8, 13] (fun ve h => OpT.pickT (A := .cel _ _) (H rfl) (D1 h rfl) hd1 (D1 h rfl) rfl) rfl ?_
   refine d1 [14] (fun ve h => OpT.move (A := .cel _ _) (.inl rfl) rfl (ok' rfl) (D1 h rfl) rfl) rfl ?_
   refine dp hd2 rfl ?_
   refine dp hd2 rfl ?_
   refine dp hd2 rfl ?_
   refine dp hd2 rfl ?_
   refine dp hd2 rfl ?_
   refine dp hd2 rfl ?_
   refine dp hd2 rfl ?_
   refine dp hd2 rfl ?_
   refine dp hd2 rfl ?_
   refine dp hd2 rfl ?_
   refine dp hd2 rfl ?_
   refine d1 [15] (fun ve h => OpT.pickF (A := .cel _ _) (H rfl) (D1 h rfl) hd2 Opd.bool rfl) rfl ?_
   refine d1 [27] (fun ve h => OpT.move (A := .cel _ _) (.inr rfl) rfl (ok' rfl) (D1 h rfl) rfl) rfl ?_
   refine dn ⟨by kernel_rfl, by kernel_rfl, ?_⟩
   refine AX.pr (kc 2 rfl <| Kn) ?_
   refine AX.go ?_
   refine AW.ret ?_
   exact rt1 rfl (.inl rfl) (by first | rfl | (unfold queryOK; simp [*]))
 ·
  refine dh fomo ?_
  refine d1 [0] (fun ve h => OpT.move (A := .cel _ _) (.inl rfl) rfl (ok' rfl) (D1 h rfl) rfl) rfl ?_
  refine d1 [3] (fun ve h => OpT.nilCheck (H rfl) (D1 h rfl)) rfl ?_
  refine d1 [4] (fun ve h => OpT.fieldAddr (H rfl) (D1 h rfl) fd49_0 sz31 (by decide) sb49_0) rfl ?_
  refine d1 [5] (fun ve h => OpT.loadA (H rfl) (D1 h rfl) ag31 sz31) rfl ?_
  refine d1 [6] (fun ve h => OpT.c1 (ms := [.flat]) (c_spec_l01Mask _) (H rfl) (Af (D1 h rfl) rfl rfl <| An) rfl rfl) rfl ?_
  refine d1 [7] (fun ve h => OpT.move (A := .cel _ _) (.inl rfl) rfl (ok' rfl) (D1 h rfl) rfl) rfl ?_
  refine dp hd1 rfl ?_
  refine dp hd1 rfl ?_
  refine dp hd1 rfl ?_
  refine dp hd1 rfl ?_
  refine dp hd1 rfl ?_
  refine d1 [8] (fun ve h => OpT.pickF (A := .cel _ _) (H rfl) (D1 h rfl) hd1 Opd.bool rfl) rfl ?_
  refine d1 [14] (fun ve h => OpT.move (A := .cel _ _) (.inl rfl) rfl (ok' rfl) (D1 h rfl) rfl) rfl ?_
  refine dp rfl rfl ?_
  refine dp rfl rfl ?_
  refine dp rfl rfl ?_
  refine dp rfl rfl ?_
  refine dp rfl rfl ?_
  refine dp rfl rfl ?_
  refine dp rfl rfl ?_
  refine dp rfl rfl ?_
  refine dp rfl rfl ?_
  refine dp rfl rfl ?_
  refine dp rfl rfl ?_
  refine d1 [15] (fun ve h => OpT.pickF (A := .cel _ _) (H rfl) (D1 h rfl) rfl Opd.bool rfl) rfl ?_
  refine d1 [27] (fun ve h => OpT.move (A := .cel _ _) (.inr rfl) rfl (ok' rfl) (D1 h rfl) rfl) rfl ?_
  refine dn ⟨by kernel_rfl, by kernel_rfl, ?_⟩
  refine AX.pr (kc 2 rfl <| Kn) ?_
  refine AX.go ?_
  refine AW.ret ?_
  exact rt1 rfl (.inl rfl) (by first | rfl | (unfold queryOK; simp [*]))

theorem c_impl_isQuery (q : DQuery) : AC Tryz.prog 62 [.agg kQuery q] [.cel Kd.bool (queryOK q)] [] := by
 refine acI (N := 20) Tryz.func62 (Nat.le_of_ble_eq_true rfl) rfl fun w0 hd s0 ar => ?_
 refine AW.to (ka 0 rfl <| Kn) ?_
 refine sr ?_
 refine st (OpT.frz (OpT.boxA (E := 49) (H rfl) (T1 rfl))) rfl ?_
 refine st (asB rfl) rfl ?_
 refine ng ?_
 refine sr ?_
 refine st (OpT.fieldAddr (H rfl) (T1 rfl) fd49_0 sz31 (by decide) sb49_0) rfl ?_
 refine st (OpT.loadA (H rfl) (T1 rfl) ag31 sz31) rfl ?_
 refine st (OpT.c1 (ms := [.flat]) (c_impl_isMask _) (H rfl) (Af (T1 rfl) rfl rfl <| An) rfl rfl) rfl ?_
 refine st (mvT rfl) rfl ?_
 apply AWl.and (d := 10) (t := 6) rfl
 ·
  intro hb1 Q1 k1
  refine rs hb1 (OpT.fieldAddr (H rfl) (T1 rfl) fd49_1 sz31 (by decide) sb49_1) rfl ?_
  refine rs hb1 (OpT.loadA (H rfl) (T1 rfl) ag31 sz31) rfl ?_
  refine rs hb1 (OpT.c1 (ms := [.flat]) (c_impl_isMask _) (H rfl) (Af (T1 rfl) rfl rfl <| An) rfl rfl) rfl ?_
  refine st (OpT.pickT (A := .cel _ _) (H rfl) (T1 rfl) hb1 (T1 rfl) rfl) rfl ?_
  exact AWl.to (junk 3 rfl) k1
 ·
  intro hb1 Q1 k1
  refine ps hb1 rfl ?_
  refine ps hb1 rfl ?_
  refine ps hb1 rfl ?_
  refine st (OpT.pickF (A := .cel _ _) (H rfl) (T1 rfl) hb1 Opd.bool rfl) rfl ?_
  exact k1
 refine st (mvT rfl) rfl ?_
 apply AWl.and (d := 19) (t := 11) rfl
 ·
  intro hb2 Q1 k1
  refine rs hb2 (OpT.fieldAddr (H rfl) (T1 rfl) fd49_0 sz31 (by decide) sb49_0) rfl ?_
  refine rs hb2 (OpT.loadA (H rfl) (T1 rfl) ag31 sz31) rfl ?_
  refine rs hb2 (OpT.fieldAddr (H rfl) (T1 rfl) fd49_1 sz31 (by decide) sb49_1) rfl ?_
  refine rs hb2 (OpT.loadA (H rfl) (T1 rfl) ag31 sz31) rfl ?_
  refine rs hb2 (OpT.c1 (ms := [.flat, .flat]) (c_impl_MeetMasks _ _) (H rfl) (Af (T1 rfl) rfl rfl <| Af (T1 rfl) rfl rfl <| An) rfl rfl) rfl ?_
  refine rs hb2 (OpT.buildA (H rfl) ar31 sz29 zr31 zk31 (Built.nil _)) rfl ?_
  refine rs hb2 (OpT.eqA (H rfl) (T1 rfl) (T1 rfl) eq31 ag31 rfl eg31) rfl ?_
  refine st (OpT.pickT (A := .cel _ _) (H rfl) (T1 rfl) hb2 (T1 rfl) rfl) rfl ?_
  exact AWl.to (junk 7 rfl) k1
 ·
  intro hb2 Q1 k1
  refine ps hb2 rfl ?_
  refine ps hb2 rfl ?_
  refine ps hb2 rfl ?_
  refine ps hb2 rfl ?_
  refine ps hb2 rfl ?_
  refine ps hb2 rfl ?_
  refine ps hb2 rfl ?_
  refine st (OpT.pickF (A := .cel _ _) (H rfl) (T1 rfl) hb2 Opd.bool rfl) rfl ?_
  exact k1
 refine st (asT rfl) rfl ?_
 refine ng ?_
 refine AW.ret ?_
 exact rt1 rfl (.inl rfl) rfl

theorem c_spec_l07Shows (q : DQuery) (m : BitVec 64 × BitVec 64) (i : Int) (h : 0 ≤ i ∧ i < 128) : AC Tryz.prog 108 [.cel (Kd.ptr kQuery) q, .agg kMask m, .cel (Kd.int .i64) i] [.cel Kd.bool (showsQ q m i)] [] := by
 refine acI (N := 32) Tryz.func108 (Nat.le_of_ble_eq_true rfl) rfl fun w0 hd s0 ar => ?_
 refine AW.to (kc 0 rfl <| ka 1 rfl <| kc 2 rfl <| Kn) ?_
 refine sr ?_
 refine st (OpT.frz (OpT.boxA (E := 31) (H rfl) (T1 rfl))) rfl ?_
 refine st (asB rfl) rfl ?_
 refine ng ?_
 refine sr ?_
 refine st (mvT rfl) rfl ?_
 refine st (OpT.nilCheck (H rfl) (T1 rfl)) rfl ?_
 refine st (OpT.fieldAddr (H rfl) (T1 rfl) fd49_0 sz31 (by decide) sb49_0) rfl ?_
 refine st (OpT.loadA (H rfl) (T1 rfl) ag31 sz31) rfl ?_
 refine st (mvT rfl) rfl ?_
 refine st (OpT.c1 (ms := [.flat, .flat]) (c_spec_l01Has _ _ h) (H rfl) (Af (T1 rfl) rfl rfl <| Af (T1 rfl) rfl rfl <| An) rfl rfl) rfl ?_
 refine st (mvT rfl) rfl ?_
 apply AWl.and (d := 18) (t := 13) rfl
 ·
  intro hb1 Q1 k1
  refine rs hb1 (OpT.loadA (H rfl) (T1 rfl) ag31 sz31) rfl ?_
  refine rs hb1 (mvT rfl) rfl ?_
  refine rs hb1 (OpT.c1 (ms := [.flat, .flat]) (c_spec_l01Has _ _ h) (H rfl) (Af (T1 rfl) rfl rfl <| Af (T1 rfl) rfl rfl <| An) rfl rfl) rfl ?_
  refine rs hb1 (OpT.not (H rfl) (T1 rfl)) rfl ?_
  refine st (OpT.pickT (A := .cel _ _) (H rfl) (T1 rfl) hb1 (T1 rfl) rfl) rfl ?_
  exact AWl.to (junk 4 rfl) k1
 ·
  intro hb1 Q1 k1
  refine ps hb1 rfl ?_
  refine ps hb1 rfl ?_
  refine ps hb1 rfl ?_
  refine ps hb1 rfl ?_
  refine st (OpT.pickF (A := .cel _ _) (H rfl) (T1 rfl) hb1 Opd.bool rfl) rfl ?_
  exact k1
 refine st (mvT rfl) rfl ?_
 apply AWl.or (d := 31) (t := 19) rfl
 ·
  intro hb2 Q1 k1
  refine rs hb2 (mvT rfl) rfl ?_
  refine rs hb2 (OpT.nilCheck (H rfl) (T1 rfl)) rfl ?_
  refine rs hb2 (OpT.fieldAddr (H rfl) (T1 rfl) fd49_1 sz31 (by decide) sb49_1) rfl ?_
  refine rs hb2 (OpT.loadA (H rfl) (T1 rfl) ag31 sz31) rfl ?_
  refine rs hb2 (mvT rfl) rfl ?_
  refine rs hb2 (OpT.c1 (ms := [.flat, .flat]) (c_spec_l01Has _ _ h) (H rfl) (Af (T1 rfl) rfl rfl <| Af (T1 rfl) rfl rfl <| An) rfl rfl) rfl ?_
  refine rs hb2 (mvT rfl) rfl ?_
  apply AWl.and (d := 30) (t := 26) rfl
  ·
   intro hb3 Q1 k1
   refine rs hb3 (OpT.loadA (H rfl) (T1 rfl) ag31 sz31) rfl ?_
   refine rs hb3 (mvT rfl) rfl ?_
   refine rs hb3 (OpT.c1 (ms := [.flat, .flat]) (c_spec_l01Has _ _ h) (H rfl) (Af (T1 rfl) rfl rfl <| Af (T1 rfl) rfl rfl <| An) rfl rfl) rfl ?_
   refine rs hb2 (OpT.pickT (A := .cel _ _) (H rfl) (T1 rfl) hb3 (T1 rfl) rfl) rfl ?_
   exact AWl.to (junk 3 rfl) k1
  ·
   intro hb3 Q1 k1
   refine ps hb3 rfl ?_
   refine ps hb3 rfl ?_
   refine ps hb3 rfl ?_
   refine rs hb2 (OpT.pickF (A := .cel _ _) (H rfl) (T1 rfl) hb3 Opd.bool rfl) rfl ?_
   exact k1
  refine st (OpT.pickF (A := .cel _ _) (H rfl) (T1 rfl) hb2 (T1 rfl) rfl) rfl ?_
  exact AWl.to (junk 8 rfl) k1
 ·
  intro hb2 Q1 k1
  refine ps hb2 rfl ?_
  refine ps hb2 rfl ?_
  refine ps hb2 rfl ?_
  refine ps hb2 rfl ?_
  refine ps hb2 rfl ?_
  refine ps hb2 rfl ?_
  refine AWl.pasv rfl rfl rfl rfl hb2 rfl (ok' rfl) rfl ?_
  refine AWl.pasu rfl rfl rfl rfl rfl (ok' rfl) rfl ?_
  refine AWl.pasu rfl rfl rfl rfl rfl (ok' rfl) rfl ?_
  refine AWl.pasu rfl rfl rfl rfl rfl (ok' rfl) rfl ?_
  refine ps hb2 rfl ?_
  refine st (OpT.pickT (A := .cel _ _) (H rfl) (T1 rfl) hb2 Opd.bool rfl) rfl ?_
  exact AWl.to (junk 4 rfl) k1
 refine st (asT rfl) rfl ?_
 refine AWl.to (kc 6 rfl <| Kn) ?_
 refine ng ?_
 refine AW.ret ?_
 exact rt1 rfl (.inl rfl) rfl

theorem c_impl_Query_isWitness (q : DQuery) (m : BitVec 64 × BitVec 64) (i : Int) (h : 0 ≤ i ∧ i < 128) : AC Tryz.prog 64 [.agg kQuery q, .agg kMask m, .cel (Kd.int .i64) i] [.cel Kd.bool (showsQ q m i)] [] := by
 refine acI (N := 28) Tryz.func64 (Nat.le_of_ble_eq_true rfl) rfl fun w0 hd s0 ar => ?_
 refine AW.to (ka 0 rfl <| ka 1 rfl <| kc 2 rfl <| Kn) ?_
 refine sr ?_
 refine st (OpT.frz (OpT.boxA (E := 49) (H rfl) (T1 rfl))) rfl ?_
 refine st (OpT.frz (OpT.boxA (E := 31) (H rfl) (T1 rfl))) rfl ?_
 refine st (asB rfl) rfl ?_
 refine ng ?_
 refine sr ?_
 refine st (OpT.fieldAddr (H rfl) (T1 rfl) fd49_0 sz31 (by decide) sb49_0) rfl ?_
 refine st (OpT.loadA (H rfl) (T1 rfl) ag31 sz31) rfl ?_
 refine st (mvT rfl) rfl ?_
 refine st (OpT.c1 (ms := [.flat, .flat]) (c_impl_Mask_has _ _ h) (H rfl) (Af (T1 rfl) rfl rfl <| Af (T1 rfl) rfl rfl <| An) rfl rfl) rfl ?_
 refine st (mvT rfl) rfl ?_
 apply AWl.and (d := 16) (t := 11) rfl
 ·
  intro hb1 Q1 k1
  refine rs hb1 (OpT.loadA (H rfl) (T1 rfl) ag31 sz31) rfl ?_
  refine rs hb1 (mvT rfl) rfl ?_
  refine rs hb1 (OpT.c1 (ms := [.flat, .flat]) (c_impl_Mask_has _ _ h) (H rfl) (Af (T1 rfl) rfl rfl <| Af (T1 rfl) rfl rfl <| An) rfl rfl) rfl ?_
  refine rs hb1 (OpT.not (H rfl) (T1 rfl)) rfl ?_
  refine st (OpT.pickT (A := .cel _ _) (H rfl) (T1 rfl) hb1 (T1 rfl) rfl) rfl ?_
  exact AWl.to (junk 4 rfl) k1
 ·
  intro hb1 Q1 k1
  refine ps hb1 rfl ?_
  refine ps hb1 rfl ?_
  refine ps hb1 rfl ?_
  refine ps hb1 rfl ?_
  refine st (OpT.pickF (A := .cel _ _) (H rfl) (T1 rfl) hb1 Opd.bool rfl) rfl ?_
  exact k1
 refine st (mvT rfl) rfl ?_
 apply AWl.or (d := 27) (t := 17) rfl
 ·
  intro hb2 Q1 k1
  refine rs hb2 (OpT.fieldAddr (H rfl) (T1 rfl) fd49_1 sz31 (by decide) sb49_1) rfl ?_
  refine rs hb2 (OpT.loadA (H rfl) (T1 rfl) ag31 sz31) rfl ?_
  refine rs hb2 (mvT rfl) rfl ?_
  refine rs hb2 (OpT.c1 (ms := [.flat, .flat]) (c_impl_Mask_has _ _ h) (H rfl) (Af (T1 rfl) rfl rfl <| Af (T1 rfl) rfl rfl <| An) rfl rfl) rfl ?_
  refine rs hb2 (mvT rfl) rfl ?_
  apply AWl.and (d := 26) (t := 22) rfl
  ·
   intro hb3 Q1 k1
   refine rs hb3 (OpT.loadA (H rfl) (T1 rfl) ag31 sz31) rfl ?_
   refine rs hb3 (mvT rfl) rfl ?_
   refine rs hb3 (OpT.c1 (ms := [.flat, .flat]) (c_impl_Mask_has _ _ h) (H rfl) (Af (T1 rfl) rfl rfl <| Af (T1 rfl) rfl rfl <| An) rfl rfl) rfl ?_
   refine rs hb2 (OpT.pickT (A := .cel _ _) (H rfl) (T1 rfl) hb3 (T1 rfl) rfl) rfl ?_
   exact AWl.to (junk 3 rfl) k1
  ·
   intro hb3 Q1 k1
   refine ps hb3 rfl ?_
   refine ps hb3 rfl ?_
   refine ps hb3 rfl ?_
   refine rs hb2 (OpT.pickF (A := .cel _ _) (H rfl) (T1 rfl) hb3 Opd.bool rfl) rfl ?_
   exact k1
  refine st (OpT.pickF (A := .cel _ _) (H rfl) (T1 rfl) hb2 (T1 rfl) rfl) rfl ?_
  exact AWl.to (junk 6 rfl) k1
 ·
  intro hb2 Q1 k1
  refine ps hb2 rfl ?_
  refine ps hb2 rfl ?_
  refine ps hb2 rfl ?_
  refine ps hb2 rfl ?_
  refine AWl.pasv rfl rfl rfl rfl hb2 rfl (ok' rfl) rfl ?_
  refine AWl.pasu rfl rfl rfl rfl rfl (ok' rfl) rfl ?_
  refine AWl.pasu rfl rfl rfl rfl rfl (ok' rfl) rfl ?_
  refine AWl.pasu rfl rfl rfl rfl rfl (ok' rfl) rfl ?_
  refine ps hb2 rfl ?_
  refine st (OpT.pickT (A := .cel _ _) (H rfl) (T1 rfl) hb2 Opd.bool rfl) rfl ?_
  exact AWl.to (junk 4 rfl) k1
 refine st (asT rfl) rfl ?_
 refine AWl.to (kc 6 rfl <| Kn) ?_
 refine ng ?_
 refine AW.ret ?_
 exact rt1 rfl (.inl rfl) rfl

set_option maxHeartbeats 4000000 in
theorem c_impl_firstFault (x : List DCard) (v : DAns') (hx : x.length ≤ 80) (hn : v.2.1.length ≤ 1048576 ∧ v.2.2.length ≤ 1048576) : AC Tryz.prog 68 [.cel (Kd.slice kCard) x, .agg kAns v] [.cel (Kd.int .i64) (faultI x v).1, .cel Kd.bool (faultI x v).2] [] := by
 refine acI (N := 150) Tryz.func68 (Nat.le_of_ble_eq_true rfl) rfl fun w0 hd s0 ar => ?_
 refine AW.to (kc 0 rfl <| ka 1 rfl <| Kn) ?_
 refine AW.fact (fun a w hr => (ok_slice (R_ok (t := 0) rfl hr)).2) (fun hl0 => ?_)
 refine AW.fact (fun a w hr => (ok_slice (ok_pair (ok_pair (R_okA (t := 1) rfl hr)).2).2).1) (fun hw => ?_)
 refine sr ?_
 refine st (OpT.frz (OpT.boxA (E := 54) (H rfl) (T1 rfl))) rfl ?_
 refine st (asI rfl) rfl ?_
 refine st (asB rfl) rfl ?_
 refine ng ?_
 refine sr ?_
 refine st (mvT rfl) rfl ?_
 refine st (OpT.len (H rfl) (T1 rfl) el24) rfl ?_
 refine st (OpT.make (H rfl) (T1 rfl) (T1 rfl) el135 zr3 sz3 by3 (by decide) zk3 (by omega) (by omega)) rfl ?_
 refine sg (OpT.take (.inl rfl) rfl (ok' rfl) (Root.self (by decide)) rfl rfl (by decide)) (ko 6 rfl <| kc4 14 13 5 4 rfl <| kc2 3 0 rfl <| ka 1 rfl <| Kn) rfl ?_
 refine ng ?_
 refine sr ?_
 refine st (mvT rfl) rfl ?_
 refine st (OpT.len (H rfl) (T1 rfl) el24) rfl ?_
 refine st (OpT.make (H rfl) (T1 rfl) (T1 rfl) el136 zr4 sz4 by4 (by decide) zk4 (by omega) (by omega)) rfl ?_
 refine sg (OpT.take (.inl rfl) rfl (ok' rfl) (Root.self (by decide)) rfl rfl (by decide)) (ko 7 rfl <| kc2 17 16 rfl <| ko 6 rfl <| kc4 14 13 5 4 rfl <| kc2 3 0 rfl <| ka 1 rfl <| Kn) rfl ?_
 refine ng ?_
 refine AW.seq ?_
 refine sr ?_
 refine st (OpT.fieldAddr (H rfl) (T1 rfl) fd54_1 sz23 (by decide) sb54_1) rfl ?_
 refine st (OpT.load (H rfl) (T1 rfl) ag23 rfl) rfl ?_
 refine st (OpT.len (H rfl) (T1 rfl) el23) rfl ?_
 refine st (mvI rfl) rfl ?_
 refine ng ?_
 refine AW.block ?_
 refine AW.loop (fun z : Nat => z ≤ v.2.1.length ∧ ∀ i, i < z → ordF (fun c => c) x.length v.2.1 i) (fun z : Nat => keep [(0, .cel (Kd.slice kCard) x), (3, .cel (Kd.ptr kAns) v), (6, .own 3 (Kd.int .i64) (cntL 0 x.length (v.2.1.take z))), (7, .own 4 Kd.bool (rtA v.1 x (v.2.1.take z))), (20, .cel (Kd.slice (Kd.int .i64)) v.2.1), (21, .cel (Kd.int .i64) (v.2.1.length : Int)), (22, .cel (Kd.int .i64) (z : Int))]) (fun z : Nat => v.2.1.length - z) (0) ⟨Nat.zero_le _, all_none⟩ (Kc 0 _ (Kv rfl rfl) <| Kc 3 _ (Kv rfl rfl) <| Kc 6 _ (Ko rfl cntL_nil) <| Kc 7 _ (Ko rfl rfl) <| Kc 20 _ (Kv rfl rfl) <| Kc 21 _ (Kv rfl rfl) <| Kc 22 _ (Kv rfl rfl) <| Kn) ?_
 intro z hI
 refine sr ?_
 refine st (OpT.lss (H rfl) (T1 rfl) (T1 rfl)) rfl ?_
 refine ng ?_
 refine AW.seq ?_
 refine cd rfl (fun hc1 => ?_) fun hc1 => ?_
 ·
  obtain ⟨hc1, hc1'⟩ := pT hc1
  obtain ⟨a, ha⟩ := getI (x := v.2.1) (z := z) (by omega)
  obtain ⟨vp, hvp⟩ := getPr (x := v.2.1) (z := z) hI.1
  have hio := ordF_iff (f := fun c => c) (n := x.length) ha hvp
  refine AW.skip ?_
  refine AX.go ?_
  refine AW.seq ?_
  refine AW.block ?_
  refine sr ?_
  refine st (mvT rfl) rfl ?_
  refine st (OpT.indexAddr (H rfl) (T1 rfl) (T1 rfl) el23 sz2 (by omega) (by assumption)) rfl ?_
  refine st (OpT.load (H rfl) (T1 rfl) ag2 rfl) rfl ?_
  refine st (asT rfl) rfl ?_
  refine st (asT rfl) rfl ?_
  refine ng ?_
  refine AW.seq ?_
  refine sr ?_
  refine st (mvT rfl) rfl ?_
  refine st (OpT.lss (H rfl) (T1 rfl) (I rfl)) rfl ?_
  refine st (mvT rfl) rfl ?_
  apply AWl.or (d := 34) (t := 29) rfl
  ·
   intro hb1 Q1 k1
   have hb1' := lF hb1
   refine rs hb1 (mvT rfl) rfl ?_
   refine rs hb1 (mvT rfl) rfl ?_
   refine rs hb1 (OpT.len (H rfl) (T1 rfl) el24) rfl ?_
   refine rs hb1 (OpT.geq (H rfl) (T1 rfl) (T1 rfl)) rfl ?_
   refine st (OpT.pickF (A := .cel _ _) (H rfl) (T1 rfl) hb1 (T1 rfl) rfl) rfl ?_
   exact AWl.to (junk 4 rfl) k1
  ·
   intro hb1 Q1 k1
   refine ps hb1 rfl ?_
   refine ps hb1 rfl ?_
   refine ps hb1 rfl ?_
   refine ps hb1 rfl ?_
   refine st (OpT.pickT (A := .cel _ _) (H rfl) (T1 rfl) hb1 Opd.bool rfl) rfl ?_
   exact k1
  refine st (mvT rfl) rfl ?_
  apply AWl.or (d := 48) (t := 35) rfl
  ·
   intro hb2 Q1 k1
   have hb2' := lF hb2
   refine rs hb2 (mvT rfl) rfl ?_
   refine rs hb2 (OpT.gtr (H rfl) (T1 rfl) (I rfl)) rfl ?_
   refine rs hb2 (mvT rfl) rfl ?_
   apply AWl.and (d := 47) (t := 38) rfl
   ·
    intro hb3 Q1 k1
    have hb3' := lT hb3
    have hvp1 := hvp (by omega)
    refine rs hb3 (OpT.fieldAddr (H rfl) (T1 rfl) fd54_1 sz23 (by decide) sb54_1) rfl ?_
    refine rs hb3 (OpT.load (H rfl) (T1 rfl) ag23 rfl) rfl ?_
    refine rs hb3 (mvT rfl) rfl ?_
    refine rs hb3 (OpT.sub (H rfl) (T1 rfl) (I rfl) (nw (by omega))) rfl ?_
    refine rs hb3 (OpT.indexAddr (H rfl) (T1 rfl) (T1 rfl) el23 sz2 (by omega) (by assumption)) rfl ?_
    refine rs hb3 (OpT.load (H rfl) (T1 rfl) ag2 rfl) rfl ?_
    refine rs hb3 (mvT rfl) rfl ?_
    refine rs hb3 (OpT.geq (H rfl) (T1 rfl) (T1 rfl)) rfl ?_
    refine rs hb2 (OpT.pickT (A := .cel _ _) (H rfl) (T1 rfl) hb3 (T1 rfl) rfl) rfl ?_
    exact AWl.to (junk 8 rfl) k1
   ·
    intro hb3 Q1 k1
    refine ps hb3 rfl ?_
    refine ps hb3 rfl ?_
    refine ps hb3 rfl ?_
    refine ps hb3 rfl ?_
    refine ps hb3 rfl ?_
    refine ps hb3 rfl ?_
    refine ps hb3 rfl ?_
    refine ps hb3 rfl ?_
    refine rs hb2 (OpT.pickF (A := .cel _ _) (H rfl) (T1 rfl) hb3 Opd.bool rfl) rfl ?_
    exact k1
   refine st (OpT.pickF (A := .cel _ _) (H rfl) (T1 rfl) hb2 (T1 rfl) rfl) rfl ?_
   exact AWl.to (junk 4 rfl) k1
  ·
   intro hb2 Q1 k1
   refine ps hb2 rfl ?_
   refine ps hb2 rfl ?_
   refine AWl.pasv rfl rfl rfl rfl hb2 rfl (ok' rfl) rfl ?_
   refine AWl.pasu rfl rfl rfl rfl rfl (ok' rfl) rfl ?_
   refine AWl.pasu rfl rfl rfl rfl rfl (ok' rfl) rfl ?_
   refine AWl.pasu rfl rfl rfl rfl rfl (ok' rfl) rfl ?_
   refine AWl.pasu rfl rfl rfl rfl rfl (ok' rfl) rfl ?_
   refine AWl.pasu rfl rfl rfl rfl rfl (ok' rfl) rfl ?_
   refine AWl.pasu rfl rfl rfl rfl rfl (ok' rfl) rfl ?_
   refine AWl.pasu rfl rfl rfl rfl rfl (ok' rfl) rfl ?_
   refine AWl.pasu rfl rfl rfl rfl rfl (ok' rfl) rfl ?_
   refine ps hb2 rfl ?_
   refine st (OpT.pickT (A := .cel _ _) (H rfl) (T1 rfl) hb2 Opd.bool rfl) rfl ?_
   exact AWl.to (junk 9 rfl) k1
  refine ng ?_
  refine cd rfl (fun hc2 => ?_) fun hc2 => ?_
  ·
   obtain ⟨hc2, hc2'⟩ := pT hc2
   have hno : ¬ (0 ≤ a ∧ a < (x.length : Int) ∧ (0 < z → vp < a)) := by omega
   refine sr ?_
   refine st (asI rfl) rfl ?_
   refine st (asB rfl) rfl ?_
   refine ng ?_
   refine AW.ret ?_
   refine rT <| rK <| rT <| rT <| rK <| rT ?_
   exact rt2 rfl (.inl rfl) (by first | rw [fltI_neg (flt_no1 (x := x) (v := v) (z := z) (by omega) (fun h => hno (hio.1 h)))] | rw [fltI_neg (flt_no2 (x := x) (v := v) (z := y) (by omega) (fun h => hno (hio.1 h)))] | rw [fltI_at (flt_at hI0.2 hI1.2 hI.2 (by omega) (fun h => Bool.false_ne_true ((hob.1 h).symm.trans hcF)))] | rw [fltI_end (flt_end hI0.2 hI1.2 hI.2 (by omega))]) (by first | rw [fltI_neg (flt_no1 (x := x) (v := v) (z := z) (by omega) (fun h => hno (hio.1 h)))] | rw [fltI_neg (flt_no2 (x := x) (v := v) (z := y) (by omega) (fun h => hno (hio.1 h)))] | rw [fltI_at (flt_at hI0.2 hI1.2 hI.2 (by omega) (fun h => Bool.false_ne_true ((hob.1 h).symm.trans hcF)))] | rw [fltI_end (flt_end hI0.2 hI1.2 hI.2 (by omega))])
  ·
   obtain ⟨hc2, hc2'⟩ := pF hc2
   have hyes : 0 ≤ a ∧ a < (x.length : Int) ∧ (0 < z → vp < a) := by omega
   have hol : (v.2.1.take z).length ≤ 1048576 := by (rw [List.length_take]; omega)
   obtain ⟨e, he⟩ := get_of_len (r := x) rfl (c := a) (by omega)
   obtain ⟨cv, hcv, hcv1⟩ := cntL_in (b := 0) (a := a) (n := x.length) (l := v.2.1.take z) (by omega) (by omega)
   obtain ⟨rv, hrv⟩ := get_of_len (rtA_len v.1 x (v.2.1.take z)) (c := a) (by omega)
   refine AW.skip ?_
   refine AX.go ?_
   refine sr ?_
   refine st (OpT.alias (H rfl) (by decide) (by decide)) rfl ?_
   refine st (mvT rfl) rfl ?_
   refine st (OpT.indexAddrO (H rfl) (Root.ali rfl (by decide) (by decide)) rfl (by decide) (T1 rfl) el135 sz3 (by omega) (by assumption)) rfl ?_
   refine st (OpT.loadP (H rfl) (T1 rfl) (.inr ⟨_, _, rfl, (by assumption)⟩) ag3 rfl) rfl ?_
   refine st (OpT.add (H rfl) (T1 rfl) (I rfl) (nw (by omega))) rfl ?_
   refine st (OpT.indexAddrO (H rfl) (Root.ali rfl (by decide) (by decide)) rfl (by decide) (T1 rfl) el135 sz3 (by omega) (by assumption)) rfl ?_
   refine sk (OpT.storeO rfl rfl (T1 rfl) rfl (by assumption) sz3 rfl (T1 rfl)) rfl ?_
   refine AWl.to (ko 6 rfl <| Kc 54 (.pel _ _ _ _ _ _ _) rfl <| kc2 53 52 rfl <| Kc 51 (.pel _ _ _ _ _ _ _) rfl <| kc 50 rfl <| Kc 49 (.ali _) rfl <| kc4 48 35 34 29 rfl <| kc4 28 27 9 8 rfl <| kc4 26 25 24 23 rfl <| kc2 0 3 rfl <| ko 7 rfl <| kc3 20 21 22 rfl <| Kn) ?_
   refine ng ?_
   refine dh fomo ?_
   refine d1 [] (fun ve h => OpT.alias (H rfl) (by decide) (by decide)) rfl ?_
   refine d1 [9] (fun ve h => OpT.move (A := .cel _ _) (.inl rfl) rfl (ok' rfl) (D1 h rfl) rfl) rfl ?_
   refine d1 [3] (fun ve h => OpT.fieldAddr (H rfl) (D1 h rfl) fd54_0 sz49 (by decide) sb54_0) rfl ?_
   refine d1 [57] (fun ve h => OpT.loadA (H rfl) (D1 h rfl) ag49 sz49) rfl ?_
   refine d1 [0] (fun ve h => OpT.move (A := .cel _ _) (.inl rfl) rfl (ok' rfl) (D1 h rfl) rfl) rfl ?_
   refine d1 [9] (fun ve h => OpT.move (A := .cel _ _) (.inl rfl) rfl (ok' rfl) (D1 h rfl) rfl) rfl ?_
   refine d1 [59, 60] (fun ve h => OpT.indexAddr (H rfl) (D1 h rfl) (D1 h rfl) el24 sz33 (by omega) (by assumption)) rfl ?_
   refine d1 [61] (fun ve h => OpT.fieldAddr (H rfl) (D1 h rfl) fd33_1 sz31 (by decide) sb33_1) rfl ?_
   refine d1 [62] (fun ve h => OpT.loadA (H rfl) (D1 h rfl) ag31 sz31) rfl ?_
   refine d1 [58, 63] (fun ve h => OpT.c1 (ms := [.flat, .flat]) (c_impl_Query_drops _ _) (H rfl) (Af (D1 h rfl) rfl rfl <| Af (D1 h rfl) rfl rfl <| An) rfl rfl) rfl ?_
   refine d1 [7, 55, 56] (fun ve h => OpT.indexAddrO (H rfl) (Root.ali ((h _ (List.elem_iff.1 rfl)).trans rfl) (by decide) (by decide)) ((h _ (List.elem_iff.1 rfl)).trans rfl) (by decide) (D1 h rfl) el136 sz4 (by omega) (by assumption)) rfl ?_
   refine dm (t := 7) [7, 64, 65] (fun ve h => OpT.storeO rfl rfl (D1 h rfl) ((h _ (List.elem_iff.1 rfl)).trans rfl) (by assumption) sz4 rfl (D1 h rfl)) rfl ?_
   refine dn ⟨by kernel_rfl, by kernel_rfl, ?_⟩
   refine AX.normal_block ?_
   refine AX.go ?_
   refine AW.region ?_
   refine st (OpT.add (H rfl) (T1 rfl) (I rfl) (nw (by omega))) rfl ?_
   refine st (mvT rfl) rfl ?_
   refine nn ?_
   exact AX.again (z + 1) ⟨by omega, all_step hI.2 (hio.2 hyes)⟩ (by omega) (Kc 0 _ (Kv rfl rfl) <| Kc 3 _ (Kv rfl rfl) <| Kc 6 _ (Ko rfl (cnt_one ha (by omega) hcv)) <| Kc 7 _ (Ko rfl (rtA_next ha he)) <| Kc 20 _ (Kv rfl rfl) <| Kc 21 _ (Kv rfl rfl) <| Kc 22 _ (Kv rfl (by omega)) <| Kn)
 ·
  obtain ⟨hc1, hc1'⟩ := pF hc1
  refine AW.exit ?_
  refine xT <| xT <| AX.exit_hit ?_
  refine AX.go ?_
  refine AW.seq ?_
  refine sr ?_
  refine st (OpT.fieldAddr (H rfl) (T1 rfl) fd54_2 sz52 (by decide) sb54_2) rfl ?_
  refine st (OpT.load (H rfl) (T1 rfl) ag52 rfl) rfl ?_
  refine st (OpT.len (H rfl) (T1 rfl) el52) rfl ?_
  refine st (mvI rfl) rfl ?_
  refine ng ?_
  refine AW.block ?_
  obtain rfl : z = v.2.1.length := by omega
  have hI0 := hI
  refine AW.loop (fun y : Nat => y ≤ v.2.2.length ∧ ∀ i, i < y → ordF Prod.fst x.length v.2.2 i) (fun y : Nat => keep [(0, .cel (Kd.slice kCard) x), (3, .cel (Kd.ptr kAns) v), (6, .own 3 (Kd.int .i64) (cntL 0 x.length (v.2.1 ++ (v.2.2.map (·.1)).take y))), (7, .own 4 Kd.bool (rtB v.1 x v.2.1 (v.2.2.take y))), (68, .cel (Kd.slice kWit) v.2.2), (69, .cel (Kd.int .i64) (v.2.2.length : Int)), (70, .cel (Kd.int .i64) (y : Int))]) (fun y : Nat => v.2.2.length - y) (0) ⟨Nat.zero_le _, all_none⟩ (Kc 0 _ (Kv rfl rfl) <| Kc 3 _ (Kv rfl rfl) <| Kc 6 _ (Ko rfl (by rw [List.take_length, List.take_zero, List.append_nil])) <| Kc 7 _ (Ko rfl (by rw [List.take_length, List.take_zero]; rfl)) <| Kc 68 _ (Kv rfl rfl) <| Kc 69 _ (Kv rfl rfl) <| Kc 70 _ (Kv rfl rfl) <| Kn) ?_
  intro y hI
  refine sr ?_
  refine st (OpT.lss (H rfl) (T1 rfl) (T1 rfl)) rfl ?_
  refine ng ?_
  refine AW.seq ?_
  refine cd rfl (fun hc3 => ?_) fun hc3 => ?_
  ·
   obtain ⟨hc3, hc3'⟩ := pT hc3
   obtain ⟨wt, hwt⟩ := getI (x := v.2.2) (z := y) (by omega)
   obtain ⟨wp, hwp⟩ := getPr (x := v.2.2) (z := y) hI.1
   have hio := ordF_iff (f := Prod.fst) (n := x.length) hwt hwp
   have hw16 := ok_i16 (ok_pair (hw wt (mem_getI hwt))).2
   refine AW.skip ?_
   refine AX.go ?_
   refine AW.seq ?_
   refine AW.block ?_
   refine sr ?_
   refine st (mvT rfl) rfl ?_
   refine st (OpT.indexAddr (H rfl) (T1 rfl) (T1 rfl) el52 sz97 (by omega) (by assumption)) rfl ?_
   refine st (OpT.loadA (H rfl) (T1 rfl) ag97 sz97) rfl ?_
   refine st (OpT.alloc (H rfl) zr97 zk97) rfl ?_
   refine st (asT rfl) rfl ?_
   refine sk (OpT.storeBA rfl rfl (Opd.whole (Root.self (t := 11) (by decide)) rfl) rfl sz97 (by decide) (T1 rfl)) rfl ?_
   refine AWl.to (kb 11 rfl <| kc 10 rfl <| ka 74 rfl <| kc4 73 72 71 0 rfl <| kc 3 rfl <| ko 6 rfl <| ko 7 rfl <| kc3 68 69 70 rfl <| Kn) ?_
   refine ng ?_
   refine AW.seq ?_
   refine AW.seq ?_
   rcases Bool.eq_false_or_eq_true (decide (wt.1 < (0 : Int))) with hd1 | hd1
   ·
    have hd1' := lT hd1
    refine dh fomo ?_
    refine d1 [11] (fun ve h => OpT.fieldAddrB (H rfl) (Root.self (t := 11) (by decide)) ((h _ (List.elem_iff.1 rfl)).trans rfl) (by decide) fd97_0 sz2 (by decide) sb97_0) rfl ?_
    refine d1 [11, 75] (fun ve h => OpT.loadP (H rfl) (D1 h rfl) (.inl ⟨_, ((h _ (List.elem_iff.1 rfl)).trans rfl), rfl⟩) ag2 rfl) rfl ?_
    refine d1 [76] (fun ve h => OpT.lss (H rfl) (D1 h rfl) (I rfl)) rfl ?_
    refine d1 [77] (fun ve h => OpT.move (A := .cel _ _) (.inl rfl) rfl (ok' rfl) (D1 h rfl) rfl) rfl ?_
    refine dp hd1 rfl ?_
    refine dp hd1 rfl ?_
    refine dp hd1 rfl ?_
    refine dp hd1 rfl ?_
    refine dp hd1 rfl ?_
    refine d1 [78] (fun ve h => OpT.pickT (A := .cel _ _) (H rfl) (D1 h rfl) hd1 Opd.bool rfl) rfl ?_
    refine d1 [84] (fun ve h => OpT.move (A := .cel _ _) (.inl rfl) rfl (ok' rfl) (D1 h rfl) rfl) rfl ?_
    refine dp rfl rfl ?_
    refine dp rfl rfl ?_
    refine dq rfl rfl ?_
    refine dpu rfl ?_
    refine dpu rfl ?_
    refine dpu rfl ?_
    refine dpu rfl ?_
    refine dpu rfl ?_
    refine dpu rfl ?_
    refine dpu rfl ?_
    refine dpu rfl ?_
    refine dpu rfl ?_
    refine dpu rfl ?_
    refine dp rfl rfl ?_
    refine d1 [85] (fun ve h => OpT.pickT (A := .cel _ _) (H rfl) (D1 h rfl) rfl Opd.bool rfl) rfl ?_
    refine dn ⟨by kernel_rfl, by kernel_rfl, ?_⟩
    refine AX.go ?_
    refine cd rfl (fun hc4 => ?_) fun hc4 => ?_
    ·
     obtain ⟨hc4, hc4'⟩ := pT hc4
     have hno : ¬ (0 ≤ wt.1 ∧ wt.1 < (x.length : Int) ∧ (0 < y → wp.1 < wt.1)) := by omega
     refine sr ?_
     refine st (asI rfl) rfl ?_
     refine st (asB rfl) rfl ?_
     refine ng ?_
     refine AW.ret ?_
     refine rT <| rK <| rT <| rT <| rK <| rT ?_
     exact rt2 rfl (.inl rfl) (by first | rw [fltI_neg (flt_no1 (x := x) (v := v) (z := z) (by omega) (fun h => hno (hio.1 h)))] | rw [fltI_neg (flt_no2 (x := x) (v := v) (z := y) (by omega) (fun h => hno (hio.1 h)))] | rw [fltI_at (flt_at hI0.2 hI1.2 hI.2 (by omega) (fun h => Bool.false_ne_true ((hob.1 h).symm.trans hcF)))] | rw [fltI_end (flt_end hI0.2 hI1.2 hI.2 (by omega))]) (by first | rw [fltI_neg (flt_no1 (x := x) (v := v) (z := z) (by omega) (fun h => hno (hio.1 h)))] | rw [fltI_neg (flt_no2 (x := x) (v := v) (z := y) (by omega) (fun h => hno (hio.1 h)))] | rw [fltI_at (flt_at hI0.2 hI1.2 hI.2 (by omega) (fun h => Bool.false_ne_true ((hob.1 h).symm.trans hcF)))] | rw [fltI_end (flt_end hI0.2 hI1.2 hI.2 (by omega))])
    ·
     obtain ⟨hc4, hc4'⟩ := pF hc4
     exact absurd hc4 (by decide)
   ·
    have hd1' := lF hd1
    rcases Bool.eq_false_or_eq_true (decide (wt.1 ≥ ((x).length : Int))) with hd2 | hd2
    ·
     have hd2' := lT hd2
     refine dh fomo ?_
     refine d1 [11] (fun ve h => OpT.fieldAddrB (H rfl) (Root.self (t := 11) (by decide)) ((h _ (List.elem_iff.1 rfl)).trans rfl) (by decide) fd97_0 sz2 (by decide) sb97_0) rfl ?_
     refine d1 [11, 75] (fun ve h => OpT.loadP (H rfl) (D1 h rfl) (.inl ⟨_, ((h _ (List.elem_iff.1 rfl)).trans rfl), rfl⟩) ag2 rfl) rfl ?_
     refine d1 [76] (fun ve h => OpT.lss (H rfl) (D1 h rfl) (I rfl)) rfl ?_
     refine d1 [77] (fun ve h => OpT.move (A := .cel _ _) (.inl rfl) rfl (ok' rfl) (D1 h rfl) rfl) rfl ?_
     refine dr [11, 78] hd1 (fun ve h => OpT.fieldAddrB (H rfl) (Root.self (t := 11) (by decide)) ((h _ (List.elem_iff.1 rfl)).trans rfl) (by decide) fd97_0 sz2 (by decide) sb97_0) rfl ?_
     refine dr [11, 78, 79] hd1 (fun ve h => OpT.loadP (H rfl) (D1 h rfl) (.inl ⟨_, ((h _ (List.elem_iff.1 rfl)).trans rfl), rfl⟩) ag2 rfl) rfl ?_
     refine dr [0, 78] hd1 (fun ve h => OpT.move (A := .cel _ _) (.inl rfl) rfl (ok' rfl) (D1 h rfl) rfl) rfl ?_
     refine dr [78, 81] hd1 (fun ve h => OpT.len (H rfl) (D1 h rfl) el24) rfl ?_
     refine dr [78, 80, 82] hd1 (fun ve h => OpT.geq (H rfl) (D1 h rfl) (D1 h rfl)) rfl ?_
     refine d1 [78, 83] (fun ve h => OpT.pickF (A := .cel _ _) (H rfl) (D1 h rfl) hd1 (D1 h rfl) rfl) rfl ?_
     refine d1 [84] (fun ve h => OpT.move (A := .cel _ _) (.inl rfl) rfl (ok' rfl) (D1 h rfl) rfl) rfl ?_
     refine dp hd2 rfl ?_
     refine dp hd2 rfl ?_
     refine dq hd2 rfl ?_
     refine dpu rfl ?_
     refine dpu rfl ?_
     refine dpu rfl ?_
     refine dpu rfl ?_
     refine dpu rfl ?_
     refine dpu rfl ?_
     refine dpu rfl ?_
     refine dpu rfl ?_
     refine dpu rfl ?_
     refine dpu rfl ?_
     refine dp hd2 rfl ?_
     refine d1 [85] (fun ve h => OpT.pickT (A := .cel _ _) (H rfl) (D1 h rfl) hd2 Opd.bool rfl) rfl ?_
     refine dn ⟨by kernel_rfl, by kernel_rfl, ?_⟩
     refine AX.go ?_
     refine cd rfl (fun hc5 => ?_) fun hc5 => ?_
     ·
      obtain ⟨hc5, hc5'⟩ := pT hc5
      have hno : ¬ (0 ≤ wt.1 ∧ wt.1 < (x.length : Int) ∧ (0 < y → wp.1 < wt.1)) := by omega
      refine sr ?_
      refine st (asI rfl) rfl ?_
      refine st (asB rfl) rfl ?_
      refine ng ?_
      refine AW.ret ?_
      refine rT <| rK <| rT <| rT <| rK <| rT ?_
      exact rt2 rfl (.inl rfl) (by first | rw [fltI_neg (flt_no1 (x := x) (v := v) (z := z) (by omega) (fun h => hno (hio.1 h)))] | rw [fltI_neg (flt_no2 (x := x) (v := v) (z := y) (by omega) (fun h => hno (hio.1 h)))] | rw [fltI_at (flt_at hI0.2 hI1.2 hI.2 (by omega) (fun h => Bool.false_ne_true ((hob.1 h).symm.trans hcF)))] | rw [fltI_end (flt_end hI0.2 hI1.2 hI.2 (by omega))]) (by first | rw [fltI_neg (flt_no1 (x := x) (v := v) (z := z) (by omega) (fun h => hno (hio.1 h)))] | rw [fltI_neg (flt_no2 (x := x) (v := v) (z := y) (by omega) (fun h => hno (hio.1 h)))] | rw [fltI_at (flt_at hI0.2 hI1.2 hI.2 (by omega) (fun h => Bool.false_ne_true ((hob.1 h).symm.trans hcF)))] | rw [fltI_end (flt_end hI0.2 hI1.2 hI.2 (by omega))])
     ·
      obtain ⟨hc5, hc5'⟩ := pF hc5
      exact absurd hc5 (by decide)
    ·
     have hd2' := lF hd2
     rcases Bool.eq_false_or_eq_true (decide ((y : Int) > (0 : Int))) with hd3 | hd3
     ·
      have hd3' := lT hd3
      have hwp1 := hwp (by omega)
      refine dh fomo ?_
      refine d1 [11] (fun ve h => OpT.fieldAddrB (H rfl) (Root.self (t := 11) (by decide)) ((h _ (List.elem_iff.1 rfl)).trans rfl) (by decide) fd97_0 sz2 (by decide) sb97_0) rfl ?_
      refine d1 [11, 75] (fun ve h => OpT.loadP (H rfl) (D1 h rfl) (.inl ⟨_, ((h _ (List.elem_iff.1 rfl)).trans rfl), rfl⟩) ag2 rfl) rfl ?_
      refine d1 [76] (fun ve h => OpT.lss (H rfl) (D1 h rfl) (I rfl)) rfl ?_
      refine d1 [77] (fun ve h => OpT.move (A := .cel _ _) (.inl rfl) rfl (ok' rfl) (D1 h rfl) rfl) rfl ?_
      refine dr [11, 78] hd1 (fun ve h => OpT.fieldAddrB (H rfl) (Root.self (t := 11) (by decide)) ((h _ (List.elem_iff.1 rfl)).trans rfl) (by decide) fd97_0 sz2 (by decide) sb97_0) rfl ?_
      refine dr [11, 78, 79] hd1 (fun ve h => OpT.loadP (H rfl) (D1 h rfl) (.inl ⟨_, ((h _ (List.elem_iff.1 rfl)).trans rfl), rfl⟩) ag2 rfl) rfl ?_
      refine dr [0, 78] hd1 (fun ve h => OpT.move (A := .cel _ _) (.inl rfl) rfl (ok' rfl) (D1 h rfl) rfl) rfl ?_
      refine dr [78, 81] hd1 (fun ve h => OpT.len (H rfl) (D1 h rfl) el24) rfl ?_
      refine dr [78, 80, 82] hd1 (fun ve h => OpT.geq (H rfl) (D1 h rfl) (D1 h rfl)) rfl ?_
      refine d1 [78, 83] (fun ve h => OpT.pickF (A := .cel _ _) (H rfl) (D1 h rfl) hd1 (D1 h rfl) rfl) rfl ?_
      refine d1 [84] (fun ve h => OpT.move (A := .cel _ _) (.inl rfl) rfl (ok' rfl) (D1 h rfl) rfl) rfl ?_
      refine dr [10, 85] hd2 (fun ve h => OpT.move (A := .cel _ _) (.inl rfl) rfl (ok' rfl) (D1 h rfl) rfl) rfl ?_
      refine dr [85, 86] hd2 (fun ve h => OpT.gtr (H rfl) (D1 h rfl) (I rfl)) rfl ?_
      refine dr [85, 87] hd2 (fun ve h => OpT.move (A := .cel _ _) (.inl rfl) rfl (ok' rfl) (D1 h rfl) rfl) rfl ?_
      refine dr [3, 88] hd3 (fun ve h => OpT.fieldAddr (H rfl) (D1 h rfl) fd54_2 sz52 (by decide) sb54_2) rfl ?_
      refine dr [88, 89] hd3 (fun ve h => OpT.load (H rfl) (D1 h rfl) ag52 rfl) rfl ?_
      refine dr [10, 88] hd3 (fun ve h => OpT.move (A := .cel _ _) (.inl rfl) rfl (ok' rfl) (D1 h rfl) rfl) rfl ?_
      refine dr [88, 91] hd3 (fun ve h => OpT.sub (H rfl) (D1 h rfl) (I rfl) (nw (by omega))) rfl ?_
      refine dr [88, 90, 92] hd3 (fun ve h => OpT.indexAddr (H rfl) (D1 h rfl) (D1 h rfl) el52 sz97 (by omega) (by assumption)) rfl ?_
      refine dr [88, 93] hd3 (fun ve h => OpT.fieldAddr (H rfl) (D1 h rfl) fd97_0 sz2 (by decide) sb97_0) rfl ?_
      refine dr [88, 94] hd3 (fun ve h => OpT.load (H rfl) (D1 h rfl) ag2 rfl) rfl ?_
      refine dr [11, 88] hd3 (fun ve h => OpT.fieldAddrB (H rfl) (Root.self (t := 11) (by decide)) ((h _ (List.elem_iff.1 rfl)).trans rfl) (by decide) fd97_0 sz2 (by decide) sb97_0) rfl ?_
      refine dr [11, 88, 96] hd3 (fun ve h => OpT.loadP (H rfl) (D1 h rfl) (.inl ⟨_, ((h _ (List.elem_iff.1 rfl)).trans rfl), rfl⟩) ag2 rfl) rfl ?_
      refine dr [88, 95, 97] hd3 (fun ve h => OpT.geq (H rfl) (D1 h rfl) (D1 h rfl)) rfl ?_
      refine dr [85, 88, 98] hd2 (fun ve h => OpT.pickT (A := .cel _ _) (H rfl) (D1 h rfl) hd3 (D1 h rfl) rfl) rfl ?_
      refine d1 [85, 99] (fun ve h => OpT.pickF (A := .cel _ _) (H rfl) (D1 h rfl) hd2 (D1 h rfl) rfl) rfl ?_
      refine dn ⟨by kernel_rfl, by kernel_rfl, ?_⟩
      refine AX.go ?_
      refine cd rfl (fun hc6 => ?_) fun hc6 => ?_
      ·
       obtain ⟨hc6, hc6'⟩ := pT hc6
       have hno : ¬ (0 ≤ wt.1 ∧ wt.1 < (x.length : Int) ∧ (0 < y → wp.1 < wt.1)) := by omega
       refine sr ?_
       refine st (asI rfl) rfl ?_
       refine st (asB rfl) rfl ?_
       refine ng ?_
       refine AW.ret ?_
       refine rT <| rK <| rT <| rT <| rK <| rT ?_
       exact rt2 rfl (.inl rfl) (by first | rw [fltI_neg (flt_no1 (x := x) (v := v) (z := z) (by omega) (fun h => hno (hio.1 h)))] | rw [fltI_neg (flt_no2 (x := x) (v := v) (z := y) (by omega) (fun h => hno (hio.1 h)))] | rw [fltI_at (flt_at hI0.2 hI1.2 hI.2 (by omega) (fun h => Bool.false_ne_true ((hob.1 h).symm.trans hcF)))] | rw [fltI_end (flt_end hI0.2 hI1.2 hI.2 (by omega))]) (by first | rw [fltI_neg (flt_no1 (x := x) (v := v) (z := z) (by omega) (fun h => hno (hio.1 h)))] | rw [fltI_neg (flt_no2 (x := x) (v := v) (z := y) (by omega) (fun h => hno (hio.1 h)))] | rw [fltI_at (flt_at hI0.2 hI1.2 hI.2 (by omega) (fun h => Bool.false_ne_true ((hob.1 h).symm.trans hcF)))] | rw [fltI_end (flt_end hI0.2 hI1.2 hI.2 (by omega))])
      ·
       obtain ⟨hc6, hc6'⟩ := pF hc6
       have hyes : 0 ≤ wt.1 ∧ wt.1 < (x.length : Int) ∧ (0 < y → wp.1 < wt.1) := by omega
       have hol : (v.2.1 ++ (v.2.2.map (·.1)).take y).length ≤ 2097152 := by (rw [List.length_append, List.length_take, List.length_map]; omega)
       obtain ⟨e, he⟩ := get_of_len (r := x) rfl (c := wt.1) (by omega)
       obtain ⟨cv, hcv, hcv1⟩ := cntL_in (b := 0) (a := wt.1) (n := x.length) (l := v.2.1 ++ (v.2.2.map (·.1)).take y) (by omega) (by omega)
       obtain ⟨rv, hrv⟩ := get_of_len (rtB_len v.1 x v.2.1 (v.2.2.take y)) (c := wt.1) (by omega)
       refine AW.skip ?_
       refine AX.go ?_
       refine sr ?_
       refine st (OpT.alias (H rfl) (by decide) (by decide)) rfl ?_
       refine st (OpT.fieldAddrB (H rfl) (Root.self (t := 11) (by decide)) rfl (by decide) fd97_0 sz2 (by decide) sb97_0) rfl ?_
       refine st (OpT.loadP (H rfl) (T1 rfl) (.inl ⟨_, rfl, rfl⟩) ag2 rfl) rfl ?_
       refine st (OpT.indexAddrO (H rfl) (Root.ali rfl (by decide) (by decide)) rfl (by decide) (T1 rfl) el135 sz3 (by omega) (by assumption)) rfl ?_
       refine st (OpT.loadP (H rfl) (T1 rfl) (.inr ⟨_, _, rfl, (by assumption)⟩) ag3 rfl) rfl ?_
       refine st (OpT.add (H rfl) (T1 rfl) (I rfl) (nw (by omega))) rfl ?_
       refine st (OpT.indexAddrO (H rfl) (Root.ali rfl (by decide) (by decide)) rfl (by decide) (T1 rfl) el135 sz3 (by omega) (by assumption)) rfl ?_
       refine sk (OpT.storeO rfl rfl (T1 rfl) rfl (by assumption) sz3 rfl (T1 rfl)) rfl ?_
       refine AWl.to (ko 6 rfl <| Kc 107 (.pel _ _ _ _ _ _ _) rfl <| kc2 106 105 rfl <| Kc 104 (.pel _ _ _ _ _ _ _) rfl <| kc 103 rfl <| Kc 102 (.pel _ _ _ _ _ _ _) rfl <| Kc 101 (.ali _) rfl <| kc4 100 99 98 97 rfl <| Kc 96 (.pel _ _ _ _ _ _ _) rfl <| kc4 95 94 93 92 rfl <| kc4 91 90 89 88 rfl <| kc4 87 86 85 84 rfl <| kc4 83 82 81 80 rfl <| Kc 79 (.pel _ _ _ _ _ _ _) rfl <| kc3 78 77 76 rfl <| Kc 75 (.pel _ _ _ _ _ _ _) rfl <| kb 11 rfl <| kc 10 rfl <| ka 74 rfl <| kc4 73 72 71 0 rfl <| kc 3 rfl <| ko 7 rfl <| kc3 68 69 70 rfl <| Kn) ?_
       refine ng ?_
       rcases Bool.eq_false_or_eq_true (inb wt.2 0 95) with hd4 | hd4
       ·
        have hd4' := lT hd4
        refine dh fomo ?_
        refine d1 [] (fun ve h => OpT.alias (H rfl) (by decide) (by decide)) rfl ?_
        refine d1 [11] (fun ve h => OpT.fieldAddrB (H rfl) (Root.self (t := 11) (by decide)) ((h _ (List.elem_iff.1 rfl)).trans rfl) (by decide) fd97_0 sz2 (by decide) sb97_0) rfl ?_
        refine d1 [11, 109] (fun ve h => OpT.loadP (H rfl) (D1 h rfl) (.inl ⟨_, ((h _ (List.elem_iff.1 rfl)).trans rfl), rfl⟩) ag2 rfl) rfl ?_
        refine d1 [11] (fun ve h => OpT.fieldAddrB (H rfl) (Root.self (t := 11) (by decide)) ((h _ (List.elem_iff.1 rfl)).trans rfl) (by decide) fd97_1 sz26 (by decide) sb97_1) rfl ?_
        refine d1 [11, 111] (fun ve h => OpT.loadP (H rfl) (D1 h rfl) (.inl ⟨_, ((h _ (List.elem_iff.1 rfl)).trans rfl), rfl⟩) ag26 rfl) rfl ?_
        refine d1 [112] (fun ve h => OpT.conv (H rfl) us26 Tryz.underlying2 (D1 h rfl) (nw (by omega))) rfl ?_
        refine d1 [113] (fun ve h => OpT.c1 (ms := [.flat]) (c_impl_isHole _) (H rfl) (Af (D1 h rfl) rfl rfl <| An) rfl rfl) rfl ?_
        refine d1 [114] (fun ve h => OpT.move (A := .cel _ _) (.inl rfl) rfl (ok' rfl) (D1 h rfl) rfl) rfl ?_
        refine dr [3, 115] hd4 (fun ve h => OpT.fieldAddr (H rfl) (D1 h rfl) fd54_0 sz49 (by decide) sb54_0) rfl ?_
        refine dr [115, 116] hd4 (fun ve h => OpT.loadA (H rfl) (D1 h rfl) ag49 sz49) rfl ?_
        refine dr [0, 115] hd4 (fun ve h => OpT.move (A := .cel _ _) (.inl rfl) rfl (ok' rfl) (D1 h rfl) rfl) rfl ?_
        refine dr [11, 115] hd4 (fun ve h => OpT.fieldAddrB (H rfl) (Root.self (t := 11) (by decide)) ((h _ (List.elem_iff.1 rfl)).trans rfl) (by decide) fd97_0 sz2 (by decide) sb97_0) rfl ?_
        refine dr [11, 115, 119] hd4 (fun ve h => OpT.loadP (H rfl) (D1 h rfl) (.inl ⟨_, ((h _ (List.elem_iff.1 rfl)).trans rfl), rfl⟩) ag2 rfl) rfl ?_
        refine dr [115, 118, 120] hd4 (fun ve h => OpT.indexAddr (H rfl) (D1 h rfl) (D1 h rfl) el24 sz33 (by omega) (by assumption)) rfl ?_
        refine dr [115, 121] hd4 (fun ve h => OpT.fieldAddr (H rfl) (D1 h rfl) fd33_1 sz31 (by decide) sb33_1) rfl ?_
        refine dr [115, 122] hd4 (fun ve h => OpT.loadA (H rfl) (D1 h rfl) ag31 sz31) rfl ?_
        refine dr [11, 115] hd4 (fun ve h => OpT.fieldAddrB (H rfl) (Root.self (t := 11) (by decide)) ((h _ (List.elem_iff.1 rfl)).trans rfl) (by decide) fd97_1 sz26 (by decide) sb97_1) rfl ?_
        refine dr [11, 115, 124] hd4 (fun ve h => OpT.loadP (H rfl) (D1 h rfl) (.inl ⟨_, ((h _ (List.elem_iff.1 rfl)).trans rfl), rfl⟩) ag26 rfl) rfl ?_
        refine dr [115, 125] hd4 (fun ve h => OpT.conv (H rfl) us26 Tryz.underlying2 (D1 h rfl) (nw (by omega))) rfl ?_
        refine dr [115, 117, 123, 126] hd4 (fun ve h => OpT.c1 (ms := [.flat, .flat, .flat]) (c_impl_Query_isWitness _ _ _ (by have := hole_in (h := wt.2) (by assumption); omega)) (H rfl) (Af (D1 h rfl) rfl rfl <| Af (D1 h rfl) rfl rfl <| Af (D1 h rfl) rfl rfl <| An) rfl rfl) rfl ?_
        refine d1 [115, 127] (fun ve h => OpT.pickT (A := .cel _ _) (H rfl) (D1 h rfl) hd4 (D1 h rfl) rfl) rfl ?_
        refine d1 [7, 108, 110] (fun ve h => OpT.indexAddrO (H rfl) (Root.ali ((h _ (List.elem_iff.1 rfl)).trans rfl) (by decide) (by decide)) ((h _ (List.elem_iff.1 rfl)).trans rfl) (by decide) (D1 h rfl) el136 sz4 (by omega) (by assumption)) rfl ?_
        refine dm (t := 7) [7, 128, 129] (fun ve h => OpT.storeO rfl rfl (D1 h rfl) ((h _ (List.elem_iff.1 rfl)).trans rfl) (by assumption) sz4 rfl (D1 h rfl)) rfl ?_
        refine dn ⟨by kernel_rfl, by kernel_rfl, ?_⟩
        refine AX.normal_block ?_
        refine AX.go ?_
        refine AW.region ?_
        refine st (OpT.add (H rfl) (T1 rfl) (I rfl) (nw (by omega))) rfl ?_
        refine st (mvT rfl) rfl ?_
        refine nn ?_
        exact AX.again (y + 1) ⟨by omega, all_step hI.2 (hio.2 hyes)⟩ (by omega) (Kc 0 _ (Kv rfl rfl) <| Kc 3 _ (Kv rfl rfl) <| Kc 6 _ (Ko rfl (cnt_next (map_next hwt) (by omega) hcv)) <| Kc 7 _ (Ko rfl (by first | exact rtB_no hwt (by assumption) | exact rtB_yes hwt he (by assumption))) <| Kc 68 _ (Kv rfl rfl) <| Kc 69 _ (Kv rfl rfl) <| Kc 70 _ (Kv rfl (by omega)) <| Kn)
       ·
        have hd4' := lF hd4
        refine dh fomo ?_
        refine d1 [] (fun ve h => OpT.alias (H rfl) (by decide) (by decide)) rfl ?_
        refine d1 [11] (fun ve h => OpT.fieldAddrB (H rfl) (Root.self (t := 11) (by decide)) ((h _ (List.elem_iff.1 rfl)).trans rfl) (by decide) fd97_0 sz2 (by decide) sb97_0) rfl ?_
        refine d1 [11, 109] (fun ve h => OpT.loadP (H rfl) (D1 h rfl) (.inl ⟨_, ((h _ (List.elem_iff.1 rfl)).trans rfl), rfl⟩) ag2 rfl) rfl ?_
        refine d1 [11] (fun ve h => OpT.fieldAddrB (H rfl) (Root.self (t := 11) (by decide)) ((h _ (List.elem_iff.1 rfl)).trans rfl) (by decide) fd97_1 sz26 (by decide) sb97_1) rfl ?_
        refine d1 [11, 111] (fun ve h => OpT.loadP (H rfl) (D1 h rfl) (.inl ⟨_, ((h _ (List.elem_iff.1 rfl)).trans rfl), rfl⟩) ag26 rfl) rfl ?_
        refine d1 [112] (fun ve h => OpT.conv (H rfl) us26 Tryz.underlying2 (D1 h rfl) (nw (by omega))) rfl ?_
        refine d1 [113] (fun ve h => OpT.c1 (ms := [.flat]) (c_impl_isHole _) (H rfl) (Af (D1 h rfl) rfl rfl <| An) rfl rfl) rfl ?_
        refine d1 [114] (fun ve h => OpT.move (A := .cel _ _) (.inl rfl) rfl (ok' rfl) (D1 h rfl) rfl) rfl ?_
        refine dp hd4 rfl ?_
        refine dp hd4 rfl ?_
        refine dp hd4 rfl ?_
        refine dp hd4 rfl ?_
        refine dp hd4 rfl ?_
        refine dp hd4 rfl ?_
        refine dp hd4 rfl ?_
        refine dp hd4 rfl ?_
        refine dp hd4 rfl ?_
        refine dp hd4 rfl ?_
        refine dp hd4 rfl ?_
        refine dp hd4 rfl ?_
        refine d1 [115] (fun ve h => OpT.pickF (A := .cel _ _) (H rfl) (D1 h rfl) hd4 Opd.bool rfl) rfl ?_
        refine d1 [7, 108, 110] (fun ve h => OpT.indexAddrO (H rfl) (Root.ali ((h _ (List.elem_iff.1 rfl)).trans rfl) (by decide) (by decide)) ((h _ (List.elem_iff.1 rfl)).trans rfl) (by decide) (D1 h rfl) el136 sz4 (by omega) (by assumption)) rfl ?_
        refine dm (t := 7) [7, 128, 129] (fun ve h => OpT.storeO rfl rfl (D1 h rfl) ((h _ (List.elem_iff.1 rfl)).trans rfl) (by assumption) sz4 rfl (D1 h rfl)) rfl ?_
        refine dn ⟨by kernel_rfl, by kernel_rfl, ?_⟩
        refine AX.normal_block ?_
        refine AX.go ?_
        refine AW.region ?_
        refine st (OpT.add (H rfl) (T1 rfl) (I rfl) (nw (by omega))) rfl ?_
        refine st (mvT rfl) rfl ?_
        refine nn ?_
        exact AX.again (y + 1) ⟨by omega, all_step hI.2 (hio.2 hyes)⟩ (by omega) (Kc 0 _ (Kv rfl rfl) <| Kc 3 _ (Kv rfl rfl) <| Kc 6 _ (Ko rfl (cnt_next (map_next hwt) (by omega) hcv)) <| Kc 7 _ (Ko rfl (by first | exact rtB_no hwt (by assumption) | exact rtB_yes hwt he (by assumption))) <| Kc 68 _ (Kv rfl rfl) <| Kc 69 _ (Kv rfl rfl) <| Kc 70 _ (Kv rfl (by omega)) <| Kn)
     ·
      have hd3' := lF hd3
      refine dh fomo ?_
      refine d1 [11] (fun ve h => OpT.fieldAddrB (H rfl) (Root.self (t := 11) (by decide)) ((h _ (List.elem_iff.1 rfl)).trans rfl) (by decide) fd97_0 sz2 (by decide) sb97_0) rfl ?_
      refine d1 [11, 75] (fun ve h => OpT.loadP (H rfl) (D1 h rfl) (.inl ⟨_, ((h _ (List.elem_iff.1 rfl)).trans rfl), rfl⟩) ag2 rfl) rfl ?_
      refine d1 [76] (fun ve h => OpT.lss (H rfl) (D1 h rfl) (I rfl)) rfl ?_
      refine d1 [77] (fun ve h => OpT.move (A := .cel _ _) (.inl rfl) rfl (ok' rfl) (D1 h rfl) rfl) rfl ?_
      refine dr [11, 78] hd1 (fun ve h => OpT.fieldAddrB (H rfl) (Root.self (t := 11) (by decide)) ((h _ (List.elem_iff.1 rfl)).trans rfl) (by decide) fd97_0 sz2 (by decide) sb97_0) rfl ?_
      refine dr [11, 78, 79] hd1 (fun ve h => OpT.loadP (H rfl) (D1 h rfl) (.inl ⟨_, ((h _ (List.elem_iff.1 rfl)).trans rfl), rfl⟩) ag2 rfl) rfl ?_
      refine dr [0, 78] hd1 (fun ve h => OpT.move (A := .cel _ _) (.inl rfl) rfl (ok' rfl) (D1 h rfl) rfl) rfl ?_
      refine dr [78, 81] hd1 (fun ve h => OpT.len (H rfl) (D1 h rfl) el24) rfl ?_
      refine dr [78, 80, 82] hd1 (fun ve h => OpT.geq (H rfl) (D1 h rfl) (D1 h rfl)) rfl ?_
      refine d1 [78, 83] (fun ve h => OpT.pickF (A := .cel _ _) (H rfl) (D1 h rfl) hd1 (D1 h rfl) rfl) rfl ?_
      refine d1 [84] (fun ve h => OpT.move (A := .cel _ _) (.inl rfl) rfl (ok' rfl) (D1 h rfl) rfl) rfl ?_
      refine dr [10, 85] hd2 (fun ve h => OpT.move (A := .cel _ _) (.inl rfl) rfl (ok' rfl) (D1 h rfl) rfl) rfl ?_
      refine dr [85, 86] hd2 (fun ve h => OpT.gtr (H rfl) (D1 h rfl) (I rfl)) rfl ?_
      refine dr [85, 87] hd2 (fun ve h => OpT.move (A := .cel _ _) (.inl rfl) rfl (ok' rfl) (D1 h rfl) rfl) rfl ?_
      refine dp hd3 rfl ?_
      refine dp hd3 rfl ?_
      refine dp hd3 rfl ?_
      refine dp hd3 rfl ?_
      refine dp hd3 rfl ?_
      refine dp hd3 rfl ?_
      refine dp hd3 rfl ?_
      refine dp hd3 rfl ?_
      refine dp hd3 rfl ?_
      refine dp hd3 rfl ?_
      refine dr [85, 88] hd2 (fun ve h => OpT.pickF (A := .cel _ _) (H rfl) (D1 h rfl) hd3 Opd.bool rfl) rfl ?_
      refine d1 [85, 99] (fun ve h => OpT.pickF (A := .cel _ _) (H rfl) (D1 h rfl) hd2 (D1 h rfl) rfl) rfl ?_
      refine dn ⟨by kernel_rfl, by kernel_rfl, ?_⟩
      refine AX.go ?_
      refine cd rfl (fun hc7 => ?_) fun hc7 => ?_
      ·
       obtain ⟨hc7, hc7'⟩ := pT hc7
       exact absurd hc7 (by decide)
      ·
       obtain ⟨hc7, hc7'⟩ := pF hc7
       have hyes : 0 ≤ wt.1 ∧ wt.1 < (x.length : Int) ∧ (0 < y → wp.1 < wt.1) := by omega
       have hol : (v.2.1 ++ (v.2.2.map (·.1)).take y).length ≤ 2097152 := by (rw [List.length_append, List.length_take, List.length_map]; omega)
       obtain ⟨e, he⟩ := get_of_len (r := x) rfl (c := wt.1) (by omega)
       obtain ⟨cv, hcv, hcv1⟩ := cntL_in (b := 0) (a := wt.1) (n := x.length) (l := v.2.1 ++ (v.2.2.map (·.1)).take y) (by omega) (by omega)
       obtain ⟨rv, hrv⟩ := get_of_len (rtB_len v.1 x v.2.1 (v.2.2.take y)) (c := wt.1) (by omega)
       refine AW.skip ?_
       refine AX.go ?_
       refine sr ?_
       refine st (OpT.alias (H rfl) (by decide) (by decide)) rfl ?_
       refine st (OpT.fieldAddrB (H rfl) (Root.self (t := 11) (by decide)) rfl (by decide) fd97_0 sz2 (by decide) sb97_0) rfl ?_
       refine st (OpT.loadP (H rfl) (T1 rfl) (.inl ⟨_, rfl, rfl⟩) ag2 rfl) rfl ?_
       refine st (OpT.indexAddrO (H rfl) (Root.ali rfl (by decide) (by decide)) rfl (by decide) (T1 rfl) el135 sz3 (by omega) (by assumption)) rfl ?_
       refine st (OpT.loadP (H rfl) (T1 rfl) (.inr ⟨_, _, rfl, (by assumption)⟩) ag3 rfl) rfl ?_
       refine st (OpT.add (H rfl) (T1 rfl) (I rfl) (nw (by omega))) rfl ?_
       refine st (OpT.indexAddrO (H rfl) (Root.ali rfl (by decide) (by decide)) rfl (by decide) (T1 rfl) el135 sz3 (by omega) (by assumption)) rfl ?_
       refine sk (OpT.storeO rfl rfl (T1 rfl) rfl (by assumption) sz3 rfl (T1 rfl)) rfl ?_
       refine AWl.to (ko 6 rfl <| Kc 107 (.pel _ _ _ _ _ _ _) rfl <| kc2 106 105 rfl <| Kc 104 (.pel _ _ _ _ _ _ _) rfl <| kc 103 rfl <| Kc 102 (.pel _ _ _ _ _ _ _) rfl <| Kc 101 (.ali _) rfl <| kc4 100 99 88 87 rfl <| kc4 86 85 84 83 rfl <| kc3 82 81 80 rfl <| Kc 79 (.pel _ _ _ _ _ _ _) rfl <| kc3 78 77 76 rfl <| Kc 75 (.pel _ _ _ _ _ _ _) rfl <| kb 11 rfl <| kc 10 rfl <| ka 74 rfl <| kc4 73 72 71 0 rfl <| kc 3 rfl <| ko 7 rfl <| kc3 68 69 70 rfl <| Kn) ?_
       refine ng ?_
       rcases Bool.eq_false_or_eq_true (inb wt.2 0 95) with hd5 | hd5
       ·
        have hd5' := lT hd5
        refine dh fomo ?_
        refine d1 [] (fun ve h => OpT.alias (H rfl) (by decide) (by decide)) rfl ?_
        refine d1 [11] (fun ve h => OpT.fieldAddrB (H rfl) (Root.self (t := 11) (by decide)) ((h _ (List.elem_iff.1 rfl)).trans rfl) (by decide) fd97_0 sz2 (by decide) sb97_0) rfl ?_
        refine d1 [11, 109] (fun ve h => OpT.loadP (H rfl) (D1 h rfl) (.inl ⟨_, ((h _ (List.elem_iff.1 rfl)).trans rfl), rfl⟩) ag2 rfl) rfl ?_
        refine d1 [11] (fun ve h => OpT.fieldAddrB (H rfl) (Root.self (t := 11) (by decide)) ((h _ (List.elem_iff.1 rfl)).trans rfl) (by decide) fd97_1 sz26 (by decide) sb97_1) rfl ?_
        refine d1 [11, 111] (fun ve h => OpT.loadP (H rfl) (D1 h rfl) (.inl ⟨_, ((h _ (List.elem_iff.1 rfl)).trans rfl), rfl⟩) ag26 rfl) rfl ?_
        refine d1 [112] (fun ve h => OpT.conv (H rfl) us26 Tryz.underlying2 (D1 h rfl) (nw (by omega))) rfl ?_
        refine d1 [113] (fun ve h => OpT.c1 (ms := [.flat]) (c_impl_isHole _) (H rfl) (Af (D1 h rfl) rfl rfl <| An) rfl rfl) rfl ?_
        refine d1 [114] (fun ve h => OpT.move (A := .cel _ _) (.inl rfl) rfl (ok' rfl) (D1 h rfl) rfl) rfl ?_
        refine dr [3, 115] hd5 (fun ve h => OpT.fieldAddr (H rfl) (D1 h rfl) fd54_0 sz49 (by decide) sb54_0) rfl ?_
        refine dr [115, 116] hd5 (fun ve h => OpT.loadA (H rfl) (D1 h rfl) ag49 sz49) rfl ?_
        refine dr [0, 115] hd5 (fun ve h => OpT.move (A := .cel _ _) (.inl rfl) rfl (ok' rfl) (D1 h rfl) rfl) rfl ?_
        refine dr [11, 115] hd5 (fun ve h => OpT.fieldAddrB (H rfl) (Root.self (t := 11) (by decide)) ((h _ (List.elem_iff.1 rfl)).trans rfl) (by decide) fd97_0 sz2 (by decide) sb97_0) rfl ?_
        refine dr [11, 115, 119] hd5 (fun ve h => OpT.loadP (H rfl) (D1 h rfl) (.inl ⟨_, ((h _ (List.elem_iff.1 rfl)).trans rfl), rfl⟩) ag2 rfl) rfl ?_
        refine dr [115, 118, 120] hd5 (fun ve h => OpT.indexAddr (H rfl) (D1 h rfl) (D1 h rfl) el24 sz33 (by omega) (by assumption)) rfl ?_
        refine dr [115, 121] hd5 (fun ve h => OpT.fieldAddr (H rfl) (D1 h rfl) fd33_1 sz31 (by decide) sb33_1) rfl ?_
        refine dr [115, 122] hd5 (fun ve h => OpT.loadA (H rfl) (D1 h rfl) ag31 sz31) rfl ?_
        refine dr [11, 115] hd5 (fun ve h => OpT.fieldAddrB (H rfl) (Root.self (t := 11) (by decide)) ((h _ (List.elem_iff.1 rfl)).trans rfl) (by decide) fd97_1 sz26 (by decide) sb97_1) rfl ?_
        refine dr [11, 115, 124] hd5 (fun ve h => OpT.loadP (H rfl) (D1 h rfl) (.inl ⟨_, ((h _ (List.elem_iff.1 rfl)).trans rfl), rfl⟩) ag26 rfl) rfl ?_
        refine dr [115, 125] hd5 (fun ve h => OpT.conv (H rfl) us26 Tryz.underlying2 (D1 h rfl) (nw (by omega))) rfl ?_
        refine dr [115, 117, 123, 126] hd5 (fun ve h => OpT.c1 (ms := [.flat, .flat, .flat]) (c_impl_Query_isWitness _ _ _ (by have := hole_in (h := wt.2) (by assumption); omega)) (H rfl) (Af (D1 h rfl) rfl rfl <| Af (D1 h rfl) rfl rfl <| Af (D1 h rfl) rfl rfl <| An) rfl rfl) rfl ?_
        refine d1 [115, 127] (fun ve h => OpT.pickT (A := .cel _ _) (H rfl) (D1 h rfl) hd5 (D1 h rfl) rfl) rfl ?_
        refine d1 [7, 108, 110] (fun ve h => OpT.indexAddrO (H rfl) (Root.ali ((h _ (List.elem_iff.1 rfl)).trans rfl) (by decide) (by decide)) ((h _ (List.elem_iff.1 rfl)).trans rfl) (by decide) (D1 h rfl) el136 sz4 (by omega) (by assumption)) rfl ?_
        refine dm (t := 7) [7, 128, 129] (fun ve h => OpT.storeO rfl rfl (D1 h rfl) ((h _ (List.elem_iff.1 rfl)).trans rfl) (by assumption) sz4 rfl (D1 h rfl)) rfl ?_
        refine dn ⟨by kernel_rfl, by kernel_rfl, ?_⟩
        refine AX.normal_block ?_
        refine AX.go ?_
        refine AW.region ?_
        refine st (OpT.add (H rfl) (T1 rfl) (I rfl) (nw (by omega))) rfl ?_
        refine st (mvT rfl) rfl ?_
        refine nn ?_
        exact AX.again (y + 1) ⟨by omega, all_step hI.2 (hio.2 hyes)⟩ (by omega) (Kc 0 _ (Kv rfl rfl) <| Kc 3 _ (Kv rfl rfl) <| Kc 6 _ (Ko rfl (cnt_next (map_next hwt) (by omega) hcv)) <| Kc 7 _ (Ko rfl (by first | exact rtB_no hwt (by assumption) | exact rtB_yes hwt he (by assumption))) <| Kc 68 _ (Kv rfl rfl) <| Kc 69 _ (Kv rfl rfl) <| Kc 70 _ (Kv rfl (by omega)) <| Kn)
       ·
        have hd5' := lF hd5
        refine dh fomo ?_
        refine d1 [] (fun ve h => OpT.alias (H rfl) (by decide) (by decide)) rfl ?_
        refine d1 [11] (fun ve h => OpT.fieldAddrB (H rfl) (Root.self (t := 11) (by decide)) ((h _ (List.elem_iff.1 rfl)).trans rfl) (by decide) fd97_0 sz2 (by decide) sb97_0) rfl ?_
        refine d1 [11, 109] (fun ve h => OpT.loadP (H rfl) (D1 h rfl) (.inl ⟨_, ((h _ (List.elem_iff.1 rfl)).trans rfl), rfl⟩) ag2 rfl) rfl ?_
        refine d1 [11] (fun ve h => OpT.fieldAddrB (H rfl) (Root.self (t := 11) (by decide)) ((h _ (List.elem_iff.1 rfl)).trans rfl) (by decide) fd97_1 sz26 (by decide) sb97_1) rfl ?_
        refine d1 [11, 111] (fun ve h => OpT.loadP (H rfl) (D1 h rfl) (.inl ⟨_, ((h _ (List.elem_iff.1 rfl)).trans rfl), rfl⟩) ag26 rfl) rfl ?_
        refine d1 [112] (fun ve h => OpT.conv (H rfl) us26 Tryz.underlying2 (D1 h rfl) (nw (by omega))) rfl ?_
        refine d1 [113] (fun ve h => OpT.c1 (ms := [.flat]) (c_impl_isHole _) (H rfl) (Af (D1 h rfl) rfl rfl <| An) rfl rfl) rfl ?_
        refine d1 [114] (fun ve h => OpT.move (A := .cel _ _) (.inl rfl) rfl (ok' rfl) (D1 h rfl) rfl) rfl ?_
        refine dp hd5 rfl ?_
        refine dp hd5 rfl ?_
        refine dp hd5 rfl ?_
        refine dp hd5 rfl ?_
        refine dp hd5 rfl ?_
        refine dp hd5 rfl ?_
        refine dp hd5 rfl ?_
        refine dp hd5 rfl ?_
        refine dp hd5 rfl ?_
        refine dp hd5 rfl ?_
        refine dp hd5 rfl ?_
        refine dp hd5 rfl ?_
        refine d1 [115] (fun ve h => OpT.pickF (A := .cel _ _) (H rfl) (D1 h rfl) hd5 Opd.bool rfl) rfl ?_
        refine d1 [7, 108, 110] (fun ve h => OpT.indexAddrO (H rfl) (Root.ali ((h _ (List.elem_iff.1 rfl)).trans rfl) (by decide) (by decide)) ((h _ (List.elem_iff.1 rfl)).trans rfl) (by decide) (D1 h rfl) el136 sz4 (by omega) (by assumption)) rfl ?_
        refine dm (t := 7) [7, 128, 129] (fun ve h => OpT.storeO rfl rfl (D1 h rfl) ((h _ (List.elem_iff.1 rfl)).trans rfl) (by assumption) sz4 rfl (D1 h rfl)) rfl ?_
        refine dn ⟨by kernel_rfl, by kernel_rfl, ?_⟩
        refine AX.normal_block ?_
        refine AX.go ?_
        refine AW.region ?_
        refine st (OpT.add (H rfl) (T1 rfl) (I rfl) (nw (by omega))) rfl ?_
        refine st (mvT rfl) rfl ?_
        refine nn ?_
        exact AX.again (y + 1) ⟨by omega, all_step hI.2 (hio.2 hyes)⟩ (by omega) (Kc 0 _ (Kv rfl rfl) <| Kc 3 _ (Kv rfl rfl) <| Kc 6 _ (Ko rfl (cnt_next (map_next hwt) (by omega) hcv)) <| Kc 7 _ (Ko rfl (by first | exact rtB_no hwt (by assumption) | exact rtB_yes hwt he (by assumption))) <| Kc 68 _ (Kv rfl rfl) <| Kc 69 _ (Kv rfl rfl) <| Kc 70 _ (Kv rfl (by omega)) <| Kn)
  ·
   obtain ⟨hc3, hc3'⟩ := pF hc3
   refine AW.exit ?_
   refine xT <| xT <| AX.exit_hit ?_
   refine AX.go ?_
   refine AW.seq ?_
   refine sr ?_
   refine st (mvT rfl) rfl ?_
   refine st (OpT.len (H rfl) (T1 rfl) el24) rfl ?_
   refine st (mvI rfl) rfl ?_
   refine ng ?_
   refine AW.block ?_
   obtain rfl : y = v.2.2.length := by omega
   have hI1 := hI
   refine AW.loop (fun u : Nat => u ≤ x.length ∧ ∀ i, i < u → onceI x v i) (fun u : Nat => keep [(6, .own 3 (Kd.int .i64) (tmS x v.2.1 v.2.2)), (7, .own 4 Kd.bool (rtB v.1 x v.2.1 v.2.2)), (132, .cel (Kd.int .i64) (x.length : Int)), (133, .cel (Kd.int .i64) (u : Int))]) (fun u : Nat => x.length - u) (0) ⟨Nat.zero_le _, all_none⟩ (Kc 6 _ (Ko rfl (by rw [List.take_of_length_le (by rw [List.length_map]; exact Nat.le_refl _)]; rfl)) <| Kc 7 _ (Ko rfl (by rw [List.take_length])) <| Kc 132 _ (Kv rfl rfl) <| Kc 133 _ (Kv rfl rfl) <| Kn) ?_
   intro u hI
   refine sr ?_
   refine st (OpT.lss (H rfl) (T1 rfl) (T1 rfl)) rfl ?_
   refine ng ?_
   refine AW.seq ?_
   refine cd rfl (fun hc8 => ?_) fun hc8 => ?_
   ·
    obtain ⟨hc8, hc8'⟩ := pT hc8
    obtain ⟨t, ht⟩ := get_of_len (r := tmS x v.2.1 v.2.2) (by (unfold tmS; rw [cntL_len])) (c := (u : Int)) (by omega)
    obtain ⟨r, hr⟩ := get_of_len (rtB_len v.1 x v.2.1 v.2.2) (c := (u : Int)) (by omega)
    have hob := once_bool ht hr
    refine AW.skip ?_
    refine AX.go ?_
    refine AW.seq ?_
    refine AW.block ?_
    refine sr ?_
    refine st (mvT rfl) rfl ?_
    refine st (asT rfl) rfl ?_
    refine ng ?_
    refine sr ?_
    refine st (OpT.alias (H rfl) (by decide) (by decide)) rfl ?_
    refine st (mvT rfl) rfl ?_
    refine st (OpT.indexAddrO (H rfl) (Root.ali rfl (by decide) (by decide)) rfl (by decide) (T1 rfl) el135 sz3 (by omega) (by assumption)) rfl ?_
    refine st (OpT.loadP (H rfl) (T1 rfl) (.inr ⟨_, _, rfl, (by assumption)⟩) ag3 rfl) rfl ?_
    refine st (OpT.neq (H rfl) (T1 rfl) (I rfl)) rfl ?_
    refine st (mvT rfl) rfl ?_
    apply AWl.or (d := 147) (t := 141) rfl
    ·
     intro hb4 Q1 k1
     have hb4' := lF hb4
     refine rs hb4 (OpT.alias (H rfl) (by decide) (by decide)) rfl ?_
     refine rs hb4 (mvT rfl) rfl ?_
     refine rs hb4 (OpT.indexAddrO (H rfl) (Root.ali rfl (by decide) (by decide)) rfl (by decide) (T1 rfl) el136 sz4 (by omega) (by assumption)) rfl ?_
     refine rs hb4 (OpT.loadP (H rfl) (T1 rfl) (.inr ⟨_, _, rfl, (by assumption)⟩) ag4 rfl) rfl ?_
     refine rs hb4 (OpT.not (H rfl) (T1 rfl)) rfl ?_
     refine st (OpT.pickF (A := .cel _ _) (H rfl) (T1 rfl) hb4 (T1 rfl) rfl) rfl ?_
     exact AWl.to (junk 5 rfl) k1
    ·
     intro hb4 Q1 k1
     refine ps hb4 rfl ?_
     refine ps hb4 rfl ?_
     refine ps hb4 rfl ?_
     refine ps hb4 rfl ?_
     refine ps hb4 rfl ?_
     refine st (OpT.pickT (A := .cel _ _) (H rfl) (T1 rfl) hb4 Opd.bool rfl) rfl ?_
     exact k1
    refine ng ?_
    refine cd rfl (fun hc9 => ?_) fun hc9 => ?_
    ·
     obtain ⟨hc9, hc9'⟩ := pT hc9
     have hcF := hc9
     refine sr ?_
     refine st (mvT rfl) rfl ?_
     refine st (asT rfl) rfl ?_
     refine st (asB rfl) rfl ?_
     refine ng ?_
     refine AW.ret ?_
     refine rK <| rT <| rT <| rK <| rT ?_
     exact rt2 rfl (.inl rfl) (by first | rw [fltI_neg (flt_no1 (x := x) (v := v) (z := z) (by omega) (fun h => hno (hio.1 h)))] | rw [fltI_neg (flt_no2 (x := x) (v := v) (z := y) (by omega) (fun h => hno (hio.1 h)))] | rw [fltI_at (flt_at hI0.2 hI1.2 hI.2 (by omega) (fun h => Bool.false_ne_true ((hob.1 h).symm.trans hcF)))] | rw [fltI_end (flt_end hI0.2 hI1.2 hI.2 (by omega))]) (by first | rw [fltI_neg (flt_no1 (x := x) (v := v) (z := z) (by omega) (fun h => hno (hio.1 h)))] | rw [fltI_neg (flt_no2 (x := x) (v := v) (z := y) (by omega) (fun h => hno (hio.1 h)))] | rw [fltI_at (flt_at hI0.2 hI1.2 hI.2 (by omega) (fun h => Bool.false_ne_true ((hob.1 h).symm.trans hcF)))] | rw [fltI_end (flt_end hI0.2 hI1.2 hI.2 (by omega))])
    ·
     obtain ⟨hc9, hc9'⟩ := pF hc9
     have hcF := hc9
     refine AW.skip ?_
     refine AX.normal_block ?_
     refine AX.go ?_
     refine AW.region ?_
     refine st (OpT.add (H rfl) (T1 rfl) (I rfl) (nw (by omega))) rfl ?_
     refine st (mvT rfl) rfl ?_
     refine nn ?_
     exact AX.again (u + 1) ⟨by omega, all_step hI.2 (hob.2 hcF)⟩ (by omega) (Kc 6 _ (Ko rfl rfl) <| Kc 7 _ (Ko rfl rfl) <| Kc 132 _ (Kv rfl rfl) <| Kc 133 _ (Kv rfl (by omega)) <| Kn)
   ·
    obtain ⟨hc8, hc8'⟩ := pF hc8
    refine AW.exit ?_
    refine xT <| xT <| AX.exit_hit ?_
    refine AX.go ?_
    refine sr ?_
    refine st (asI rfl) rfl ?_
    refine st (asB rfl) rfl ?_
    refine ng ?_
    refine AW.ret ?_
    exact rt2 rfl (.inl rfl) (by first | rw [fltI_neg (flt_no1 (x := x) (v := v) (z := z) (by omega) (fun h => hno (hio.1 h)))] | rw [fltI_neg (flt_no2 (x := x) (v := v) (z := y) (by omega) (fun h => hno (hio.1 h)))] | rw [fltI_at (flt_at hI0.2 hI1.2 hI.2 (by omega) (fun h => Bool.false_ne_true ((hob.1 h).symm.trans hcF)))] | rw [fltI_end (flt_end hI0.2 hI1.2 hI.2 (by omega))]) (by first | rw [fltI_neg (flt_no1 (x := x) (v := v) (z := z) (by omega) (fun h => hno (hio.1 h)))] | rw [fltI_neg (flt_no2 (x := x) (v := v) (z := y) (by omega) (fun h => hno (hio.1 h)))] | rw [fltI_at (flt_at hI0.2 hI1.2 hI.2 (by omega) (fun h => Bool.false_ne_true ((hob.1 h).symm.trans hcF)))] | rw [fltI_end (flt_end hI0.2 hI1.2 hI.2 (by omega))])

theorem c_impl_CheckAnswer (x : List DCard) (v : DAns') (hn : v.2.1.length ≤ 1048576 ∧ v.2.2.length ≤ 1048576) : AC Tryz.prog 20 [.cel (Kd.slice kCard) x, .agg kAns v] [.cel Kd.bool (checkA x v).1, .cel (Kd.int .i64) (checkA x v).2] [] := by
 refine acI (N := 24) Tryz.func20 (Nat.le_of_ble_eq_true rfl) rfl fun w0 hd s0 ar => ?_
 refine AW.to (kc 0 rfl <| ka 1 rfl <| Kn) ?_
 refine AW.fact (fun a w hr => (ok_slice (R_ok (t := 0) rfl hr)).2) (fun hl0 => ?_)
 refine sr ?_
 refine st (OpT.frz (OpT.boxA (E := 54) (H rfl) (T1 rfl))) rfl ?_
 refine st (asB rfl) rfl ?_
 refine st (asI rfl) rfl ?_
 refine ng ?_
 refine AW.seq ?_
 refine sr ?_
 refine st (mvT rfl) rfl ?_
 refine st (OpT.c1 (ms := [.flat]) (c_impl_isDeck _) (H rfl) (Af (T1 rfl) rfl rfl <| An) rfl rfl) rfl ?_
 refine st (OpT.not (H rfl) (T1 rfl)) rfl ?_
 refine st (mvT rfl) rfl ?_
 apply AWl.or (d := 16) (t := 11) rfl
 ·
  intro hb1 Q1 k1
  refine rs hb1 (OpT.fieldAddr (H rfl) (T1 rfl) fd54_0 sz49 (by decide) sb54_0) rfl ?_
  refine rs hb1 (OpT.loadA (H rfl) (T1 rfl) ag49 sz49) rfl ?_
  refine rs hb1 (OpT.c1 (ms := [.flat]) (c_impl_isQuery _) (H rfl) (Af (T1 rfl) rfl rfl <| An) rfl rfl) rfl ?_
  refine rs hb1 (OpT.not (H rfl) (T1 rfl)) rfl ?_
  refine st (OpT.pickF (A := .cel _ _) (H rfl) (T1 rfl) hb1 (T1 rfl) rfl) rfl ?_
  exact AWl.to (junk 4 rfl) k1
 ·
  intro hb1 Q1 k1
  refine ps hb1 rfl ?_
  refine ps hb1 rfl ?_
  refine ps hb1 rfl ?_
  refine ps hb1 rfl ?_
  refine st (OpT.pickT (A := .cel _ _) (H rfl) (T1 rfl) hb1 Opd.bool rfl) rfl ?_
  exact k1
 refine ng ?_
 refine cd rfl (fun hc1 => ?_) fun hc1 => ?_
 ·
  replace hc1 := oT hc1
  refine sr ?_
  refine st (asB rfl) rfl ?_
  refine st (asI rfl) rfl ?_
  refine ng ?_
  refine AW.ret ?_
  refine rT ?_
  exact rt2 rfl (.inl rfl) (by first | (rw [checkA_no hc1]; done) | (rw [checkA_yes' hc1]; done)) (by first | (rw [checkA_no hc1]; done) | (rw [checkA_yes' hc1]; done))
 ·
  replace hc1 := oF hc1
  have hdk := deck_bad hc1
  refine AW.skip ?_
  refine AX.go ?_
  refine sr ?_
  refine st (mvT rfl) rfl ?_
  refine st (OpT.loadA (H rfl) (T1 rfl) ag54 sz54) rfl ?_
  refine s2 (OpT.c2 (ms := [.flat, .flat]) (c_impl_firstFault x v hdk hn) (H rfl) (Af (T1 rfl) rfl rfl <| Af (T1 rfl) rfl rfl <| An) rfl rfl rfl) rfl ?_
  refine st (OpT.alias (H rfl) (by decide) (by decide)) rfl ?_
  refine st (OpT.extractV (m := 10020) (H rfl) rfl rfl rfl rfl rfl rfl rfl) rfl ?_
  refine st (OpT.extractV (m := 20020) (H rfl) rfl rfl rfl rfl rfl rfl rfl) rfl ?_
  refine st (asT rfl) rfl ?_
  refine st (asT rfl) rfl ?_
  refine AWl.to (kc3 7 5 4 rfl <| Kn) ?_
  refine ng ?_
  refine sr ?_
  refine st (mvT rfl) rfl ?_
  refine st (asT rfl) rfl ?_
  refine st (asI rfl) rfl ?_
  refine ng ?_
  refine AW.ret ?_
  exact rt2 rfl (.inl rfl) (by first | (rw [checkA_no hc1]; done) | (rw [checkA_yes' hc1]; done)) (by first | (rw [checkA_no hc1]; done) | (rw [checkA_yes' hc1]; done))
end Go.Proofs.YtlhfmcbmlmhgaaaGreatDoor.VL
