/- Proved here: what some functions of the program take and give: walks with the words of VA..VQ. Printed by program. -/
import Derived.Test.YtmmjcpiikdcldaaGreatDoorWT
import Derived.Test.YtmmjcpiikdcldaaGreatDoorBpa
import Derived.Test.YtmmjcpiikdcldaaGreatDoorWN
import Derived.Test.YtmmjcpiikdcldaaGreatDoorWB
import Derived.Test.YtmmjcpiikdcldaaGreatDoorWL
import Derived.Test.YtmmjcpiikdcldaaGreatDoorWX
import Derived.Test.YtmmjcpiikdcldaaGreatDoorWM
set_option linter.unusedVariables false
set_option linter.unusedSimpArgs false
set_option maxRecDepth 4000
namespace Go.Proofs.YtmmjcpiikdcldaaGreatDoor.VL
open Go
/-- spec.l01Holes -/
theorem c_spec_l01Holes_o (m : DMask) : AC Tryz.prog 132 [.agg kMask m] [.own 2 (Kd.int .i64) (hol m 96)] [] := by
 refine acI (N := 18) Tryz.func132 (Nat.le_of_ble_eq_true rfl) rfl fun w0 hd s0 ar => ?_
 refine AW.to (ka 0 rfl <| Kn) ?_
 refine sr ?_
 refine st (OpT.frz (OpT.boxA (E := 38) (H rfl) (T1 rfl))) rfl ?_
 refine st (nilO (E := 2) (Kd.int .i64) rfl (.inl rfl)) rfl ?_
 refine ng ?_
 refine sr ?_
 refine st (OpT.buildSlice0 (m := 0) (z := .bool false) (Kd.int .i64) (H rfl) el43 sz2 (by decide)) rfl ?_
 refine sg (OpT.take (.inl rfl) rfl (ok' rfl) (Root.self (by decide)) rfl rfl (by decide)) (ko 3 rfl <| ko 2 rfl <| kc 1 rfl <| ka 0 rfl <| Kn) rfl ?_
 refine ng ?_
 refine AW.seq ?_
 refine sr ?_
 refine st (asI rfl) rfl ?_
 refine ng ?_
 refine AW.block ?_
 refine AW.loop (fun z : Nat => z ≤ 96) (fun z : Nat => keep [(1, .cel (Kd.ptr kMask) m), (3, .own 2 (Kd.int .i64) (hol m z)), (4, .cel (Kd.int .i64) (z : Int))]) (fun z : Nat => 96 - z) (0) (Nat.zero_le _) (Kc 1 _ (Kv rfl rfl) <| Kc 3 _ (Ko rfl rfl) <| Kc 4 _ (Kv rfl rfl) <| Kn) ?_
 intro z hI
 refine AW.seq ?_
 refine sr ?_
 refine st (mvT rfl) rfl ?_
 refine st (OpT.lss (H rfl) (T1 rfl) (I rfl)) rfl ?_
 refine ng ?_
 refine cd rfl (fun hc1 => ?_) fun hc1 => ?_
 ·
  obtain ⟨hc1, hc1'⟩ := pT hc1
  refine AW.skip ?_
  refine AX.go ?_
  refine AW.seq ?_
  refine AW.block ?_
  refine sr ?_
  refine st (OpT.loadA (H rfl) (T1 rfl) ag38 sz38) rfl ?_
  refine st (mvT rfl) rfl ?_
  refine st (OpT.c1 (ms := [.flat, .flat]) (c_spec_l01Has _ _ (by omega)) (H rfl) (Af (T1 rfl) rfl rfl <| Af (T1 rfl) rfl rfl <| An) rfl rfl) rfl ?_
  refine ng ?_
  refine cd rfl (fun hc2 => ?_) fun hc2 => ?_
  ·
   obtain ⟨hc2, hc2'⟩ := pT hc2
   refine AW.region ?_
   refine st (OpT.alias (H rfl) (by decide) (by decide)) rfl ?_
   refine st (mvT rfl) rfl ?_
   refine st (OpT.buildSlice (H rfl) el43 zr2 sz2 rfl (by decide) zk2 (by decide) (Built.cel (T1 rfl) rfl rfl (sub_arr (by decide) (0 : Int)) (Built.nil _))) rfl ?_
   refine sg (OpT.append (H rfl) (Root.ali rfl (by decide) (by decide)) rfl (Src.own (Root.self (t := 15) (by decide)) rfl) (by decide) el43 zr2 rfl sz2 by2 (by decide) (by have := hol_len m z; simp only [List.length_set, List.length_replicate]; omega)) (ko 16 rfl <| ko 15 rfl <| kc3 14 12 11 rfl <| ka 10 rfl <| kc4 7 6 1 4 rfl <| Kn) rfl ?_
   refine sg (OpT.take (.inl rfl) rfl (ok' rfl) (Root.self (by decide)) rfl rfl (by decide)) (ko 3 rfl <| ko 15 rfl <| kc3 14 12 11 rfl <| ka 10 rfl <| kc4 7 6 1 4 rfl <| Kn) rfl ?_
   refine nn ?_
   refine AX.normal_block ?_
   refine AX.go ?_
   refine AW.region ?_
   refine st (mvT rfl) rfl ?_
   refine st (OpT.add (H rfl) (T1 rfl) (I rfl) (nw (by omega))) rfl ?_
   refine st (asT rfl) rfl ?_
   refine nn ?_
   exact AX.again (z + 1) (by omega) (by omega) (Kc 1 _ (Kv rfl rfl) <| Kc 3 _ (Ko rfl (by first | exact hol_yes hc2 (by omega) | exact hol_no hc2 (by omega))) <| Kc 4 _ (Kv rfl (by omega)) <| Kn)
  ·
   obtain ⟨hc2, hc2'⟩ := pF hc2
   refine AW.skip ?_
   refine AX.normal_block ?_
   refine AX.go ?_
   refine AW.region ?_
   refine st (mvT rfl) rfl ?_
   refine st (OpT.add (H rfl) (T1 rfl) (I rfl) (nw (by omega))) rfl ?_
   refine st (asT rfl) rfl ?_
   refine nn ?_
   exact AX.again (z + 1) (by omega) (by omega) (Kc 1 _ (Kv rfl rfl) <| Kc 3 _ (Ko rfl (by first | exact hol_yes hc2 (by omega) | exact hol_no hc2 (by omega))) <| Kc 4 _ (Kv rfl (by omega)) <| Kn)
 ·
  obtain ⟨hc1, hc1'⟩ := pF hc1
  refine AW.exit ?_
  refine xT <| xT <| AX.exit_hit ?_
  refine AX.go ?_
  refine sr ?_
  refine st (OpT.alias (H rfl) (by decide) (by decide)) rfl ?_
  refine sg (OpT.take (.inl rfl) rfl (ok' rfl) (Root.ali rfl (by decide) (by decide)) rfl rfl (by decide)) (ko 2 rfl <| kc4 7 6 1 4 rfl <| Kn) rfl ?_
  refine ng ?_
  refine AW.ret ?_
  exact AX.rt (rs := [.tmp 2]) (ts := [some 2]) (.inl rfl) rfl (ROs.cons (RO.tmp (At.self (by decide)) (Ko rfl (by rw [show z = 96 by omega])) rfl) <| ROs.nil) (by decide) OutsOK.nil
theorem c_spec_l01Holes (m : DMask) : AC Tryz.prog 132 [.agg kMask m] [.cel (Kd.slice (Kd.int .i64)) (hol m 96)] [] := (c_spec_l01Holes_o m).frz rfl

end Go.Proofs.YtmmjcpiikdcldaaGreatDoor.VL
