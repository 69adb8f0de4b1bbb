/- Proved here: what some functions of the program take and give: walks with the words of VA..VQ. Printed by program. -/
import Derived.Test.YtkgboidjghcegaaGreatDoorWT
set_option linter.unusedVariables false
set_option linter.unusedSimpArgs false
set_option maxRecDepth 4000
namespace Go.Proofs.YtkgboidjghcegaaGreatDoor.VL
open Go
/-- spec.l01Mask -/
theorem c_spec_l01Mask (x : BitVec 64 × BitVec 64) : AC Tryz.prog 111 [.agg kMask x] [.cel Kd.bool (okM x)] [] := by
 refine acI (N := 7) Tryz.func111 (Nat.le_of_ble_eq_true rfl) rfl fun w0 hd s0 ar => ?_
 refine AW.to (ka 0 rfl <| Kn) ?_
 refine sr ?_
 refine st (OpT.frz (OpT.boxA (E := 84) (H rfl) (T1 rfl))) rfl ?_
 refine st (asB rfl) rfl ?_
 refine ng ?_
 refine sr ?_
 refine st (OpT.indexAddrP (H rfl) (T1 rfl) (I rfl) ar84 sz73 (by decide) sx84_1) rfl ?_
 refine st (OpT.load (H rfl) (T1 rfl) ag73 rfl) rfl ?_
 refine st (OpT.shr (H rfl) (T1 rfl) (I rfl) (by decide)) rfl ?_
 refine st (OpT.ueql (H rfl) (T1 rfl) (U2 0 rfl rfl)) rfl ?_
 refine st (asT rfl) rfl ?_
 refine ng ?_
 refine AW.ret ?_
 exact rt1 rfl (.inl rfl) rfl

/-- impl.isMask -/
theorem c_impl_isMask (x : BitVec 64 × BitVec 64) : AC Tryz.prog 118 [.agg kMask x] [.cel Kd.bool (okM x)] [] := by
 refine acI (N := 7) Tryz.func118 (Nat.le_of_ble_eq_true rfl) rfl fun w0 hd s0 ar => ?_
 refine AW.to (ka 0 rfl <| Kn) ?_
 refine sr ?_
 refine st (OpT.frz (OpT.boxA (E := 84) (H rfl) (T1 rfl))) rfl ?_
 refine st (asB rfl) rfl ?_
 refine ng ?_
 refine sr ?_
 refine st (OpT.indexAddrP (H rfl) (T1 rfl) (I rfl) ar84 sz73 (by decide) sx84_1) rfl ?_
 refine st (OpT.load (H rfl) (T1 rfl) ag73 rfl) rfl ?_
 refine st (OpT.shr (H rfl) (T1 rfl) (I rfl) (by decide)) rfl ?_
 refine st (OpT.ueql (H rfl) (T1 rfl) (U2 0 rfl rfl)) rfl ?_
 refine st (asT rfl) rfl ?_
 refine ng ?_
 refine AW.ret ?_
 exact rt1 rfl (.inl rfl) rfl

/-- bits.OnesCount64 -/
theorem c_math_bits_OnesCount64 (x : BitVec 64) : AC Tryz.prog 137 [.cel Kd.u64 x] [.cel (Kd.int .i64) (pop x)] [] := by
 refine acI (N := 35) Tryz.func137 (Nat.le_of_ble_eq_true rfl) rfl fun w0 hd s0 ar => ?_
 refine AW.to (kc 0 rfl <| Kn) ?_
 refine sr ?_
 refine st (asI rfl) rfl ?_
 refine ng ?_
 refine sr ?_
 refine st (mvT rfl) rfl ?_
 refine st (OpT.shr (H rfl) (T1 rfl) (I rfl) (by decide)) rfl ?_
 refine st (OpT.band (H rfl) (T1 rfl) (U2 6148914691236517205 rfl rfl)) rfl ?_
 refine st (mvT rfl) rfl ?_
 refine st (OpT.band (H rfl) (T1 rfl) (U2 6148914691236517205 rfl rfl)) rfl ?_
 refine st (OpT.uadd (H rfl) (T1 rfl) (T1 rfl)) rfl ?_
 refine st (asT rfl) rfl ?_
 refine ng ?_
 refine sr ?_
 refine st (mvT rfl) rfl ?_
 refine st (OpT.shr (H rfl) (T1 rfl) (I rfl) (by decide)) rfl ?_
 refine st (OpT.band (H rfl) (T1 rfl) (U2 3689348814741910323 rfl rfl)) rfl ?_
 refine st (mvT rfl) rfl ?_
 refine st (OpT.band (H rfl) (T1 rfl) (U2 3689348814741910323 rfl rfl)) rfl ?_
 refine st (OpT.uadd (H rfl) (T1 rfl) (T1 rfl)) rfl ?_
 refine st (asT rfl) rfl ?_
 refine AWl.to (kc2 0 2 rfl <| Kn) ?_
 refine ng ?_
 refine sr ?_
 refine st (mvT rfl) rfl ?_
 refine st (OpT.shr (H rfl) (T1 rfl) (I rfl) (by decide)) rfl ?_
 refine st (mvT rfl) rfl ?_
 refine st (OpT.uadd (H rfl) (T1 rfl) (T1 rfl)) rfl ?_
 refine st (OpT.band (H rfl) (T1 rfl) (U2 1085102592571150095 rfl rfl)) rfl ?_
 refine st (asT rfl) rfl ?_
 refine ng ?_
 refine sr ?_
 refine st (mvT rfl) rfl ?_
 refine st (mvT rfl) rfl ?_
 refine st (OpT.shr (H rfl) (T1 rfl) (I rfl) (by decide)) rfl ?_
 refine st (OpT.uadd (H rfl) (T1 rfl) (T1 rfl)) rfl ?_
 refine st (asT rfl) rfl ?_
 refine AWl.to (kc2 0 2 rfl <| Kn) ?_
 refine ng ?_
 refine sr ?_
 refine st (mvT rfl) rfl ?_
 refine st (mvT rfl) rfl ?_
 refine st (OpT.shr (H rfl) (T1 rfl) (I rfl) (by decide)) rfl ?_
 refine st (OpT.uadd (H rfl) (T1 rfl) (T1 rfl)) rfl ?_
 refine st (asT rfl) rfl ?_
 refine ng ?_
 refine sr ?_
 refine st (mvT rfl) rfl ?_
 refine st (mvT rfl) rfl ?_
 refine st (OpT.shr (H rfl) (T1 rfl) (I rfl) (by decide)) rfl ?_
 refine st (OpT.uadd (H rfl) (T1 rfl) (T1 rfl)) rfl ?_
 refine st (asT rfl) rfl ?_
 refine ng ?_
 refine sr ?_
 refine st (mvT rfl) rfl ?_
 refine st (OpT.convi (H rfl) us73 Tryz.underlying3 (T1 rfl) (ones_wrap x)) rfl ?_
 refine st (OpT.iand (y := 127) (H rfl) (T1 rfl) (I rfl)) rfl ?_
 refine st (asT rfl) rfl ?_
 refine AWl.to (kc 2 rfl <| Kn) ?_
 refine ng ?_
 refine AW.ret ?_
 exact rt1 rfl (.inl rfl) (ones_eq x).2

/-- impl.CountHoles -/
theorem c_impl_CountHoles (x : BitVec 64 × BitVec 64) : AC Tryz.prog 120 [.agg kMask x] [.cel (Kd.int .i64) (cntM x)] [] := by
 refine acI (N := 10) Tryz.func120 (Nat.le_of_ble_eq_true rfl) rfl fun w0 hd s0 ar => ?_
 refine AW.to (ka 0 rfl <| Kn) ?_
 have h1 := pop_in x.1
 have h2 := pop_in x.2
 refine sr ?_
 refine st (OpT.frz (OpT.boxA (E := 84) (H rfl) (T1 rfl))) rfl ?_
 refine st (asI rfl) rfl ?_
 refine AWl.to (kc2 2 1 rfl <| Kn) ?_
 refine ng ?_
 refine AW.seq ?_
 refine dh fomo ?_
 refine d1 [1] (fun ve h => OpT.indexAddrP (H rfl) (D1 h rfl) (I rfl) ar84 sz73 (by decide) sx84_0) rfl ?_
 refine d1 [3] (fun ve h => OpT.load (H rfl) (D1 h rfl) ag73 rfl) rfl ?_
 refine d1 [4] (fun ve h => OpT.c1 (ms := [.flat]) (c_math_bits_OnesCount64 _) (H rfl) (Af (D1 h rfl) rfl rfl <| An) rfl rfl) rfl ?_
 refine d1 [1] (fun ve h => OpT.indexAddrP (H rfl) (D1 h rfl) (I rfl) ar84 sz73 (by decide) sx84_1) rfl ?_
 refine d1 [6] (fun ve h => OpT.load (H rfl) (D1 h rfl) ag73 rfl) rfl ?_
 refine d1 [7] (fun ve h => OpT.c1 (ms := [.flat]) (c_math_bits_OnesCount64 _) (H rfl) (Af (D1 h rfl) rfl rfl <| An) rfl rfl) rfl ?_
 refine d1 [5, 8] (fun ve h => OpT.add (H rfl) (D1 h rfl) (D1 h rfl) (nw (by omega))) rfl ?_
 refine d1 [9] (fun ve h => OpT.move (A := .cel _ _) (.inr rfl) rfl (ok' rfl) (D1 h rfl) rfl) rfl ?_
 refine dn ⟨by kernel_rfl, by kernel_rfl, ?_⟩
 refine AX.go ?_
 refine AW.ret ?_
 exact rt1 rfl (.inl rfl) rfl

/-- spec.CountHoles -/
theorem c_spec_CountHoles (x : BitVec 64 × BitVec 64) : AC Tryz.prog 104 [.agg kMask x] [.cel (Kd.int .i64) (cntM x)] [] := by
 refine acI (N := 23) Tryz.func104 (Nat.le_of_ble_eq_true rfl) rfl fun w0 hd s0 ar => ?_
 refine AW.to (ka 0 rfl <| Kn) ?_
 refine sr ?_
 refine st (OpT.frz (OpT.boxA (E := 84) (H rfl) (T1 rfl))) rfl ?_
 refine st (asI rfl) rfl ?_
 refine ng ?_
 refine sr ?_
 refine st (asI rfl) rfl ?_
 refine ng ?_
 refine AW.seq ?_
 refine sr ?_
 refine st (asI rfl) rfl ?_
 refine ng ?_
 refine AW.block ?_
 refine AW.loop (fun z : Nat => z ≤ 2) (fun z : Nat => keep [(1, .cel (Kd.ptr kMask) x), (3, .cel (Kd.int .i64) (pcs x z)), (4, .cel (Kd.int .i64) (z : Int))]) (fun z : Nat => 2 - z) (0) (by omega) (Kc 1 _ (Kv rfl rfl) <| Kc 3 _ (Kv rfl rfl) <| Kc 4 _ (Kv rfl rfl) <| Kn) ?_
 intro z hI
 refine AW.seq ?_
 refine sr ?_
 refine st (mvT rfl) rfl ?_
 refine st (OpT.lss (H rfl) (T1 rfl) (I rfl)) rfl ?_
 refine ng ?_
 refine cd rfl (fun hc1 => ?_) fun hc1 => ?_
 ·
  replace hc1 := oT hc1
  refine AW.skip ?_
  refine AX.go ?_
  refine AW.seq ?_
  refine AW.block ?_
  refine sr ?_
  refine st (mvT rfl) rfl ?_
  refine st (OpT.indexAddrP (H rfl) (T1 rfl) (T1 rfl) ar84 sz73 (by omega) (Sub.two (by omega) rfl)) rfl ?_
  refine st (OpT.load (H rfl) (T1 rfl) ag73 rfl) rfl ?_
  refine st (asT rfl) rfl ?_
  refine ng ?_
  refine AW.block ?_
  refine AW.loop (fun p : BitVec 64 × Int => p.2 + pop p.1 = pcs x (z + 1) ∧ 0 ≤ p.2 ∧ p.2 ≤ 128) (fun p : BitVec 64 × Int => keep [(1, .cel (Kd.ptr kMask) x), (3, .cel (Kd.int .i64) p.2), (4, .cel (Kd.int .i64) (z : Int)), (5, .cel Kd.u64 p.1)]) (fun p : BitVec 64 × Int => p.1.toNat) ((if Int.toNat (z : Int) = 0 then x.1 else x.2, pcs x z)) (pcs_step x (by omega)) (Kc 1 _ (Kv rfl rfl) <| Kc 3 _ (Kv rfl rfl) <| Kc 4 _ (Kv rfl rfl) <| Kc 5 _ (Kv rfl rfl) <| Kn) ?_
  intro p hI
  have hpi := pop_in p.1
  have hst := pop_step p.1
  have hr2 := rem2_in p.1
  have hpj := pop_in (p.1 / 2#64)
  have hps := pcs_in x (z + 1)
  refine AW.seq ?_
  refine sr ?_
  refine st (mvT rfl) rfl ?_
  refine st (OpT.ugtr (H rfl) (T1 rfl) (U2 0 rfl rfl)) rfl ?_
  refine ng ?_
  refine cd rfl (fun hc2 => ?_) fun hc2 => ?_
  ·
   replace hc2 := oT hc2
   refine AW.skip ?_
   refine AX.go ?_
   refine AW.seq ?_
   refine AW.block ?_
   refine AW.region ?_
   refine st (mvT rfl) rfl ?_
   refine st (mvT rfl) rfl ?_
   refine st (OpT.urem (H rfl) (T1 rfl) (U2 2 rfl rfl) (by decide)) rfl ?_
   refine st (OpT.convi (H rfl) us73 Tryz.underlying2 (T1 rfl) (wrap_i64 (by have := rem2_in p.1; omega))) rfl ?_
   refine st (OpT.add (H rfl) (T1 rfl) (T1 rfl) (nw (by omega))) rfl ?_
   refine st (asT rfl) rfl ?_
   refine nn ?_
   refine AX.normal_block ?_
   refine AX.go ?_
   refine AW.region ?_
   refine st (mvT rfl) rfl ?_
   refine st (OpT.uquo (H rfl) (T1 rfl) (U2 2 rfl rfl) (by decide)) rfl ?_
   refine st (asT rfl) rfl ?_
   refine nn ?_
   exact AX.again ((p.1 / 2#64, p.2 + ((p.1 % 2#64).toNat : Int))) (by refine ⟨?_, ?_, ?_⟩ <;> (try simp only []) <;> omega) (half_lt (by simpa using hc2)) (Kc 1 _ (Kv rfl rfl) <| Kc 3 _ (Kv rfl rfl) <| Kc 4 _ (Kv rfl rfl) <| Kc 5 _ (Kv rfl rfl) <| Kn)
  ·
   replace hc2 := oF hc2
   refine AW.exit ?_
   refine xT <| xT <| AX.exit_hit ?_
   refine AX.normal_block ?_
   refine AX.go ?_
   refine AW.region ?_
   refine st (mvT rfl) rfl ?_
   refine st (OpT.add (H rfl) (T1 rfl) (I rfl) (nw (by omega))) rfl ?_
   refine st (asT rfl) rfl ?_
   refine nn ?_
   exact AX.again (z + 1) (by omega) (by omega) (Kc 1 _ (Kv rfl rfl) <| Kc 3 _ (Kv rfl (by have := pop_of_zero hc2; omega)) <| Kc 4 _ (Kv rfl (by omega)) <| Kn)
 ·
  replace hc1 := oF hc1
  refine AW.exit ?_
  refine xT <| xT <| AX.exit_hit ?_
  refine AX.go ?_
  refine sr ?_
  refine st (mvT rfl) rfl ?_
  refine st (asT rfl) rfl ?_
  refine ng ?_
  refine AW.ret ?_
  exact rt1 rfl (.inl rfl) (by obtain rfl : z = 2 := (by omega); rfl)
end Go.Proofs.YtkgboidjghcegaaGreatDoor.VL
