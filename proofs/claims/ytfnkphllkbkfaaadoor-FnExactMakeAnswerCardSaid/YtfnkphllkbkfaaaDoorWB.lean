/- Proved here: what some functions of the program take and give: walks with the words of VA..VQ. Printed by program. -/
import Derived.Test.YtfnkphllkbkfaaaDoorWT
set_option linter.unusedVariables false
set_option linter.unusedSimpArgs false
set_option maxRecDepth 4000
namespace Go.Proofs.YtfnkphllkbkfaaaDoor.VL
open Go
/-- laws.toMask -/
theorem c_laws_toMask (x : BitVec 64 × BitVec 64) : AC Tryd.prog 79 [.agg kMask x] [.agg kMask x] [] := by
 refine acI (N := 15) Tryd.func79 (Nat.le_of_ble_eq_true rfl) rfl fun w0 hd s0 ar => ?_
 refine AW.to (ka 0 rfl <| Kn) ?_
 refine sr ?_
 refine st (OpT.frz (OpT.boxA (E := 50) (H rfl) (T1 rfl))) rfl ?_
 refine st (OpT.alloc (H rfl) zr55 zk55) rfl ?_
 refine ng ?_
 refine sr ?_
 refine st (OpT.alloc (H rfl) zr55 zk55) rfl ?_
 refine ng ?_
 refine AW.seq ?_
 refine sr ?_
 refine st (asI rfl) rfl ?_
 refine ng ?_
 refine AW.block ?_
 refine AW.loop (fun z : Nat => z ≤ 2) (fun z : Nat => keep [(1, .cel (Kd.ptr kMask) x), (2, .box 55 kMask (0#64, 0#64)), (3, .box 55 kMask (toM x z)), (4, .cel (Kd.int .i64) (z : Int))]) (fun z : Nat => 2 - z) (0) (by omega) (Kc 1 _ (Kv rfl rfl) <| Kc 2 _ (Kb rfl rfl) <| Kc 3 _ (Kb rfl rfl) <| Kc 4 _ (Kv rfl rfl) <| Kn) ?_
 intro z hI
 refine AW.seq ?_
 refine sr ?_
 refine st (mvT rfl) rfl ?_
 refine st (OpT.lss (H rfl) (T1 rfl) (I rfl)) rfl ?_
 refine ng ?_
 refine cd rfl (fun hc1 => ?_) fun hc1 => ?_
 ·
  replace hc1 := oT hc1
  refine AW.skip ?_
  refine AX.go ?_
  refine AW.seq ?_
  refine AW.block ?_
  refine AW.region ?_
  refine st (mvT rfl) rfl ?_
  refine st (mvT rfl) rfl ?_
  refine st (OpT.indexAddrP (H rfl) (T1 rfl) (T1 rfl) ar50 sz49 (by omega) (Sub.two (by omega) rfl)) rfl ?_
  refine st (OpT.load (H rfl) (T1 rfl) ag49 rfl) rfl ?_
  refine st (OpT.indexAddrB (H rfl) (Root.self (t := 3) (by decide)) rfl (by decide) (T1 rfl) ar55 sz49 (by omega) (Sub.two (by omega) rfl)) rfl ?_
  refine sk (OpT.storeB rfl rfl (T1 rfl) rfl sz49 rfl (T1 rfl)) rfl ?_
  refine nn ?_
  refine AX.normal_block ?_
  refine AX.go ?_
  refine AW.region ?_
  refine st (mvT rfl) rfl ?_
  refine st (OpT.add (H rfl) (T1 rfl) (I rfl) (nw (by omega))) rfl ?_
  refine st (asT rfl) rfl ?_
  refine nn ?_
  exact AX.again (z + 1) (by omega) (by omega) (Kc 1 _ (Kv rfl rfl) <| Kc 2 _ (Kb rfl rfl) <| Kc 3 _ (Kb rfl (toM_step x (by omega))) <| Kc 4 _ (Kv rfl (by omega)) <| Kn)
 ·
  replace hc1 := oF hc1
  refine AW.exit ?_
  refine xT <| xT <| AX.exit_hit ?_
  refine AX.go ?_
  refine sr ?_
  refine st (OpT.loadB (H rfl) (Root.self (t := 3) (by decide)) rfl ag55 sz55) rfl ?_
  refine sk (OpT.storeBA rfl rfl (Opd.whole (Root.self (t := 2) (by decide)) rfl) rfl sz55 (by decide) (T1 rfl)) rfl ?_
  refine ng ?_
  refine AW.ret ?_
  exact AX.rt (rs := [.cell 2 55]) (ts := [none]) (.inl rfl) rfl (ROs.cons (RO.cellA (by decide) (Kb rfl (by obtain rfl : z = 2 := (by omega); rfl)) ag55 sz55) <| ROs.nil) (by decide) OutsOK.nil

/-- spec.l01Mask -/
theorem c_spec_l01Mask (x : BitVec 64 × BitVec 64) : AC Tryd.prog 118 [.agg kMask x] [.cel Kd.bool (okM x)] [] := by
 refine acI (N := 7) Tryd.func118 (Nat.le_of_ble_eq_true rfl) rfl fun w0 hd s0 ar => ?_
 refine AW.to (ka 0 rfl <| Kn) ?_
 refine sr ?_
 refine st (OpT.frz (OpT.boxA (E := 55) (H rfl) (T1 rfl))) rfl ?_
 refine st (asB rfl) rfl ?_
 refine ng ?_
 refine sr ?_
 refine st (OpT.indexAddrP (H rfl) (T1 rfl) (I rfl) ar55 sz49 (by decide) sx55_1) rfl ?_
 refine st (OpT.load (H rfl) (T1 rfl) ag49 rfl) rfl ?_
 refine st (OpT.shr (H rfl) (T1 rfl) (I rfl) (by decide)) rfl ?_
 refine st (OpT.ueql (H rfl) (T1 rfl) (U2 0 rfl rfl)) rfl ?_
 refine st (asT rfl) rfl ?_
 refine ng ?_
 refine AW.ret ?_
 exact rt1 rfl (.inl rfl) rfl

/-- impl.isMask -/
theorem c_impl_isMask (x : BitVec 64 × BitVec 64) : AC Tryd.prog 124 [.agg kMask x] [.cel Kd.bool (okM x)] [] := by
 refine acI (N := 7) Tryd.func124 (Nat.le_of_ble_eq_true rfl) rfl fun w0 hd s0 ar => ?_
 refine AW.to (ka 0 rfl <| Kn) ?_
 refine sr ?_
 refine st (OpT.frz (OpT.boxA (E := 55) (H rfl) (T1 rfl))) rfl ?_
 refine st (asB rfl) rfl ?_
 refine ng ?_
 refine sr ?_
 refine st (OpT.indexAddrP (H rfl) (T1 rfl) (I rfl) ar55 sz49 (by decide) sx55_1) rfl ?_
 refine st (OpT.load (H rfl) (T1 rfl) ag49 rfl) rfl ?_
 refine st (OpT.shr (H rfl) (T1 rfl) (I rfl) (by decide)) rfl ?_
 refine st (OpT.ueql (H rfl) (T1 rfl) (U2 0 rfl rfl)) rfl ?_
 refine st (asT rfl) rfl ?_
 refine ng ?_
 refine AW.ret ?_
 exact rt1 rfl (.inl rfl) rfl

/-- spec.l01Less -/
theorem c_spec_l01Less (x y : BitVec 64 × BitVec 64) : AC Tryd.prog 115 [.agg kMask x, .agg kMask y] [.agg kMask (lessM x y)] [] := by
 refine acI (N := 16) Tryd.func115 (Nat.le_of_ble_eq_true rfl) rfl fun w0 hd s0 ar => ?_
 refine AW.to (ka 0 rfl <| ka 1 rfl <| Kn) ?_
 refine sr ?_
 refine st (OpT.frz (OpT.boxA (E := 55) (H rfl) (T1 rfl))) rfl ?_
 refine st (OpT.frz (OpT.boxA (E := 55) (H rfl) (T1 rfl))) rfl ?_
 refine st (OpT.alloc (H rfl) zr55 zk55) rfl ?_
 refine ng ?_
 refine sr ?_
 refine st (OpT.indexAddrP (H rfl) (T1 rfl) (I rfl) ar55 sz49 (by decide) sx55_0) rfl ?_
 refine st (OpT.load (H rfl) (T1 rfl) ag49 rfl) rfl ?_
 refine st (OpT.indexAddrP (H rfl) (T1 rfl) (I rfl) ar55 sz49 (by decide) sx55_0) rfl ?_
 refine st (OpT.load (H rfl) (T1 rfl) ag49 rfl) rfl ?_
 refine st (OpT.bandNot (H rfl) (T1 rfl) (T1 rfl)) rfl ?_
 refine st (OpT.indexAddrP (H rfl) (T1 rfl) (I rfl) ar55 sz49 (by decide) sx55_1) rfl ?_
 refine st (OpT.load (H rfl) (T1 rfl) ag49 rfl) rfl ?_
 refine st (OpT.indexAddrP (H rfl) (T1 rfl) (I rfl) ar55 sz49 (by decide) sx55_1) rfl ?_
 refine st (OpT.load (H rfl) (T1 rfl) ag49 rfl) rfl ?_
 refine st (OpT.bandNot (H rfl) (T1 rfl) (T1 rfl)) rfl ?_
 refine st (OpT.buildA (H rfl) ar55 sz49 zr55 zk55 (Built.cel (T1 rfl) rfl rfl sx55_0 (Built.cel (T1 rfl) rfl rfl sx55_1 (Built.nil _)))) rfl ?_
 refine sk (OpT.storeBA rfl rfl (Opd.whole (Root.self (t := 4) (by decide)) rfl) rfl sz55 (by decide) (T1 rfl)) rfl ?_
 refine AWl.to (kb 4 rfl <| Kn) ?_
 refine ng ?_
 refine AW.ret ?_
 exact AX.rt (rs := [.cell 4 55]) (ts := [none]) (.inl rfl) rfl (ROs.cons (RO.cellA (by decide) (Kb rfl rfl) ag55 sz55) <| ROs.nil) (by decide) OutsOK.nil

/-- impl.LessMask -/
theorem c_impl_LessMask (x y : BitVec 64 × BitVec 64) : AC Tryd.prog 75 [.agg kMask x, .agg kMask y] [.agg kMask (lessM x y)] [] := by
 refine acI (N := 16) Tryd.func75 (Nat.le_of_ble_eq_true rfl) rfl fun w0 hd s0 ar => ?_
 refine AW.to (ka 0 rfl <| ka 1 rfl <| Kn) ?_
 refine sr ?_
 refine st (OpT.frz (OpT.boxA (E := 55) (H rfl) (T1 rfl))) rfl ?_
 refine st (OpT.frz (OpT.boxA (E := 55) (H rfl) (T1 rfl))) rfl ?_
 refine st (OpT.alloc (H rfl) zr55 zk55) rfl ?_
 refine ng ?_
 refine sr ?_
 refine st (OpT.indexAddrP (H rfl) (T1 rfl) (I rfl) ar55 sz49 (by decide) sx55_0) rfl ?_
 refine st (OpT.load (H rfl) (T1 rfl) ag49 rfl) rfl ?_
 refine st (OpT.indexAddrP (H rfl) (T1 rfl) (I rfl) ar55 sz49 (by decide) sx55_0) rfl ?_
 refine st (OpT.load (H rfl) (T1 rfl) ag49 rfl) rfl ?_
 refine st (OpT.bandNot (H rfl) (T1 rfl) (T1 rfl)) rfl ?_
 refine st (OpT.indexAddrP (H rfl) (T1 rfl) (I rfl) ar55 sz49 (by decide) sx55_1) rfl ?_
 refine st (OpT.load (H rfl) (T1 rfl) ag49 rfl) rfl ?_
 refine st (OpT.indexAddrP (H rfl) (T1 rfl) (I rfl) ar55 sz49 (by decide) sx55_1) rfl ?_
 refine st (OpT.load (H rfl) (T1 rfl) ag49 rfl) rfl ?_
 refine st (OpT.bandNot (H rfl) (T1 rfl) (T1 rfl)) rfl ?_
 refine st (OpT.buildA (H rfl) ar55 sz49 zr55 zk55 (Built.cel (T1 rfl) rfl rfl sx55_0 (Built.cel (T1 rfl) rfl rfl sx55_1 (Built.nil _)))) rfl ?_
 refine sk (OpT.storeBA rfl rfl (Opd.whole (Root.self (t := 4) (by decide)) rfl) rfl sz55 (by decide) (T1 rfl)) rfl ?_
 refine AWl.to (kb 4 rfl <| Kn) ?_
 refine ng ?_
 refine AW.ret ?_
 exact AX.rt (rs := [.cell 4 55]) (ts := [none]) (.inl rfl) rfl (ROs.cons (RO.cellA (by decide) (Kb rfl rfl) ag55 sz55) <| ROs.nil) (by decide) OutsOK.nil
end Go.Proofs.YtfnkphllkbkfaaaDoor.VL
