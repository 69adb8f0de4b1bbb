/- Proved here: what some functions of the program take and give: walks with the words of VA..VQ. Printed by program. -/
import Derived.Test.YtmmjcpiikdcldaaGreatDoorWT
import Derived.Test.YtmmjcpiikdcldaaGreatDoorBpa
import Derived.Test.YtmmjcpiikdcldaaGreatDoorWA
set_option linter.unusedVariables false
set_option linter.unusedSimpArgs false
set_option maxRecDepth 4000
namespace Go.Proofs.YtmmjcpiikdcldaaGreatDoor.VL
open Go
/-- spec.l01Has -/
theorem c_spec_l01Has (m : BitVec 64 × BitVec 64) (i : Int) (h : 0 ≤ i ∧ i < 128) : AC Tryz.prog 90 [.agg kMask m, .cel (Kd.int .i64) i] [.cel Kd.bool (hasM m i)] [] := by
 refine acI (N := 15) Tryz.func90 (Nat.le_of_ble_eq_true rfl) rfl fun w0 hd s0 ar => ?_
 refine AW.to (ka 0 rfl <| kc 1 rfl <| Kn) ?_
 have hd64 := div64 h
 have hm64 := mod64 h.1
 refine sr ?_
 refine st (OpT.frz (OpT.boxA (E := 38) (H rfl) (T1 rfl))) rfl ?_
 refine st (asB rfl) rfl ?_
 refine ng ?_
 refine sr ?_
 refine st (mvT rfl) rfl ?_
 refine st (OpT.quo (H rfl) (T1 rfl) (I rfl) (by omega) (nw (by omega))) rfl ?_
 refine st (OpT.indexAddrP (H rfl) (T1 rfl) (T1 rfl) ar38 sz36 (by omega) (Sub.two (by omega) rfl)) rfl ?_
 refine st (OpT.load (H rfl) (T1 rfl) ag36 rfl) rfl ?_
 refine st (mvT rfl) rfl ?_
 refine st (OpT.rem (H rfl) (T1 rfl) (I rfl) (by omega)) rfl ?_
 refine st (OpT.convu (H rfl) us2 Tryz.underlying36 (T1 rfl)) rfl ?_
 refine st (OpT.shr (H rfl) (T1 rfl) (Opd.asInt (T1 rfl)) (Int.natCast_nonneg _)) rfl ?_
 refine st (OpT.urem (H rfl) (T1 rfl) (U2 2 rfl rfl) (by decide)) rfl ?_
 refine st (OpT.ueql (H rfl) (T1 rfl) (U2 1 rfl rfl)) rfl ?_
 refine st (asT rfl) rfl ?_
 refine AWl.to (kc 4 rfl <| Kn) ?_
 refine ng ?_
 refine AW.ret ?_
 exact rt1 rfl (.inl rfl) (by unfold hasM limb; rw [rem64 h.1]; rfl)

/-- impl.Mask).has -/
theorem c_impl_Mask_has (m : BitVec 64 × BitVec 64) (i : Int) (h : 0 ≤ i ∧ i < 128) : AC Tryz.prog 48 [.agg kMask m, .cel (Kd.int .i64) i] [.cel Kd.bool (hasM m i)] [] := by
 refine acI (N := 14) Tryz.func48 (Nat.le_of_ble_eq_true rfl) rfl fun w0 hd s0 ar => ?_
 refine AW.to (ka 0 rfl <| kc 1 rfl <| Kn) ?_
 have hd64 := div64 h
 have hm64 := mod64 h.1
 refine sr ?_
 refine st (OpT.frz (OpT.boxA (E := 38) (H rfl) (T1 rfl))) rfl ?_
 refine st (asB rfl) rfl ?_
 refine ng ?_
 refine sr ?_
 refine st (mvT rfl) rfl ?_
 refine st (OpT.quo (H rfl) (T1 rfl) (I rfl) (by omega) (nw (by omega))) rfl ?_
 refine st (OpT.indexAddrP (H rfl) (T1 rfl) (T1 rfl) ar38 sz36 (by omega) (Sub.two (by omega) rfl)) rfl ?_
 refine st (OpT.load (H rfl) (T1 rfl) ag36 rfl) rfl ?_
 refine st (mvT rfl) rfl ?_
 refine st (OpT.rem (H rfl) (T1 rfl) (I rfl) (by omega)) rfl ?_
 refine st (OpT.shr (H rfl) (T1 rfl) (T1 rfl) (by omega)) rfl ?_
 refine st (OpT.band (H rfl) (T1 rfl) (U2 1 rfl rfl)) rfl ?_
 refine st (OpT.ueql (H rfl) (T1 rfl) (U2 1 rfl rfl)) rfl ?_
 refine st (asT rfl) rfl ?_
 refine AWl.to (kc 4 rfl <| Kn) ?_
 refine ng ?_
 refine AW.ret ?_
 exact rt1 rfl (.inl rfl) (by unfold hasM limb; rw [and_one])

/-- spec.l01Hole -/
theorem c_spec_l01Hole (h : Int) : AC Tryz.prog 89 [.cel (Kd.int .i64) h] [.cel Kd.bool (inb h 0 95)] [] := by
 refine acI (N := 5) Tryz.func89 (Nat.le_of_ble_eq_true rfl) rfl fun w0 hd s0 ar => ?_
 refine AW.to (kc 0 rfl <| Kn) ?_
 refine sr ?_
 refine st (asB rfl) rfl ?_
 refine ng ?_
 refine sr ?_
 refine st (mvT rfl) rfl ?_
 refine st (OpT.c1 (ms := [.flat, .flat, .flat]) (c_spec_l00In _ _ _) (H rfl) (Af (T1 rfl) rfl rfl <| Af (I rfl) rfl rfl <| Af (I rfl) rfl rfl <| An) rfl rfl) rfl ?_
 refine st (asT rfl) rfl ?_
 refine ng ?_
 refine AW.ret ?_
 exact rt1 rfl (.inl rfl) rfl

/-- impl.isHole -/
theorem c_impl_isHole (h : Int) : AC Tryz.prog 42 [.cel (Kd.int .i64) h] [.cel Kd.bool (inb h 0 95)] [] := by
 refine acI (N := 9) Tryz.func42 (Nat.le_of_ble_eq_true rfl) rfl fun w0 hd s0 ar => ?_
 refine AW.to (kc 0 rfl <| Kn) ?_
 refine sr ?_
 refine st (asB rfl) rfl ?_
 refine ng ?_
 refine sr ?_
 refine st (mvT rfl) rfl ?_
 refine st (OpT.geq (H rfl) (T1 rfl) (I rfl)) rfl ?_
 refine st (mvT rfl) rfl ?_
 apply AWl.and (d := 8) (t := 5) rfl
 ·
  intro hb1 Q1 k1
  refine rs hb1 (mvT rfl) rfl ?_
  refine rs hb1 (OpT.lss (H rfl) (T1 rfl) (I rfl)) rfl ?_
  refine st (OpT.pickT (A := .cel _ _) (H rfl) (T1 rfl) hb1 (T1 rfl) rfl) rfl ?_
  exact AWl.to (junk 2 rfl) k1
 ·
  intro hb1 Q1 k1
  refine ps hb1 rfl ?_
  refine ps hb1 rfl ?_
  refine st (OpT.pickF (A := .cel _ _) (H rfl) (T1 rfl) hb1 Opd.bool rfl) rfl ?_
  exact k1
 refine st (asT rfl) rfl ?_
 refine ng ?_
 refine AW.ret ?_
 exact rt1 rfl (.inl rfl) (hole_same h)
end Go.Proofs.YtmmjcpiikdcldaaGreatDoor.VL
