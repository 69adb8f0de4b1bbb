/- Proved here: what some functions of the program take and give: walks with the words of VA..VQ. Printed by program. -/
import Derived.Test.YtohcpnobmknglaaDoorWT
import Derived.Test.YtohcpnobmknglaaDoorBpa
import Derived.Test.YtohcpnobmknglaaDoorWA
import Derived.Test.YtohcpnobmknglaaDoorWK
import Derived.Test.YtohcpnobmknglaaDoorWN
import Derived.Test.YtohcpnobmknglaaDoorWL
set_option linter.unusedVariables false
set_option linter.unusedSimpArgs false
set_option maxRecDepth 4000
namespace Go.Proofs.YtohcpnobmknglaaDoor.VL
open Go
/-- spec.l01Bit -/
theorem c_spec_l01Bit (i : Int) (h : 0 ≤ i ∧ i < 128) : AC Tryd.prog 127 [.cel (Kd.int .i64) i] [.agg kMask (bitM i)] [] := by
 refine acI (N := 13) Tryd.func127 (Nat.le_of_ble_eq_true rfl) rfl fun w0 hd s0 ar => ?_
 refine AW.to (kc 0 rfl <| Kn) ?_
 have hd64 := div64 h
 have hm64 := mod64 h.1
 refine sr ?_
 refine st (OpT.alloc (H rfl) zr30 zk30) rfl ?_
 refine ng ?_
 refine sr ?_
 refine st (OpT.buildA (H rfl) ar30 sz28 zr30 zk30 (Built.nil _)) rfl ?_
 refine st (OpT.alloc (H rfl) zr30 zk30) rfl ?_
 refine sk (OpT.storeBA rfl rfl (Opd.whole (Root.self (t := 3) (by decide)) rfl) rfl sz30 (by decide) (T1 rfl)) rfl ?_
 refine ng ?_
 refine sr ?_
 refine st (mvT rfl) rfl ?_
 refine st (OpT.quo (H rfl) (T1 rfl) (I rfl) (by omega) (nw (by omega))) rfl ?_
 refine st (mvT rfl) rfl ?_
 refine st (OpT.rem (H rfl) (T1 rfl) (I rfl) (by omega)) rfl ?_
 refine st (OpT.convu (H rfl) us2 Tryd.underlying28 (T1 rfl)) rfl ?_
 refine st (OpT.shl (H rfl) (U2 1 rfl rfl) (Opd.asInt (T1 rfl)) (Int.natCast_nonneg _)) rfl ?_
 refine st (OpT.indexAddrB (H rfl) (Root.self (t := 3) (by decide)) rfl (by decide) (T1 rfl) ar30 sz28 (by omega) (Sub.two (by omega) rfl)) rfl ?_
 refine sk (OpT.storeB rfl rfl (T1 rfl) rfl sz28 rfl (T1 rfl)) rfl ?_
 refine AWl.to (kb 3 rfl <| kb 2 rfl <| Kn) ?_
 refine ng ?_
 refine sr ?_
 refine st (OpT.loadB (H rfl) (Root.self (t := 3) (by decide)) rfl ag30 sz30) rfl ?_
 refine sk (OpT.storeBA rfl rfl (Opd.whole (Root.self (t := 2) (by decide)) rfl) rfl sz30 (by decide) (T1 rfl)) rfl ?_
 refine ng ?_
 refine AW.ret ?_
 exact AX.rt (rs := [.cell 2 30]) (ts := [none]) (.inl rfl) rfl (ROs.cons (RO.cellA (by decide) (Kb rfl (bit_of h.1)) ag30 sz30) <| ROs.nil) (by decide) OutsOK.nil

/-- spec.l01Join -/
theorem c_spec_l01Join (x y : BitVec 64 × BitVec 64) : AC Tryd.prog 124 [.agg kMask x, .agg kMask y] [.agg kMask (joinM x y)] [] := by
 refine acI (N := 16) Tryd.func124 (Nat.le_of_ble_eq_true rfl) rfl fun w0 hd s0 ar => ?_
 refine AW.to (ka 0 rfl <| ka 1 rfl <| Kn) ?_
 refine sr ?_
 refine st (OpT.frz (OpT.boxA (E := 30) (H rfl) (T1 rfl))) rfl ?_
 refine st (OpT.frz (OpT.boxA (E := 30) (H rfl) (T1 rfl))) rfl ?_
 refine st (OpT.alloc (H rfl) zr30 zk30) rfl ?_
 refine ng ?_
 refine sr ?_
 refine st (OpT.indexAddrP (H rfl) (T1 rfl) (I rfl) ar30 sz28 (by decide) sx30_0) rfl ?_
 refine st (OpT.load (H rfl) (T1 rfl) ag28 rfl) rfl ?_
 refine st (OpT.indexAddrP (H rfl) (T1 rfl) (I rfl) ar30 sz28 (by decide) sx30_0) rfl ?_
 refine st (OpT.load (H rfl) (T1 rfl) ag28 rfl) rfl ?_
 refine st (OpT.bor (H rfl) (T1 rfl) (T1 rfl)) rfl ?_
 refine st (OpT.indexAddrP (H rfl) (T1 rfl) (I rfl) ar30 sz28 (by decide) sx30_1) rfl ?_
 refine st (OpT.load (H rfl) (T1 rfl) ag28 rfl) rfl ?_
 refine st (OpT.indexAddrP (H rfl) (T1 rfl) (I rfl) ar30 sz28 (by decide) sx30_1) rfl ?_
 refine st (OpT.load (H rfl) (T1 rfl) ag28 rfl) rfl ?_
 refine st (OpT.bor (H rfl) (T1 rfl) (T1 rfl)) rfl ?_
 refine st (OpT.buildA (H rfl) ar30 sz28 zr30 zk30 (Built.cel (T1 rfl) rfl rfl sx30_0 (Built.cel (T1 rfl) rfl rfl sx30_1 (Built.nil _)))) rfl ?_
 refine sk (OpT.storeBA rfl rfl (Opd.whole (Root.self (t := 4) (by decide)) rfl) rfl sz30 (by decide) (T1 rfl)) rfl ?_
 refine AWl.to (kb 4 rfl <| Kn) ?_
 refine ng ?_
 refine AW.ret ?_
 exact AX.rt (rs := [.cell 4 30]) (ts := [none]) (.inl rfl) rfl (ROs.cons (RO.cellA (by decide) (Kb rfl rfl) ag30 sz30) <| ROs.nil) (by decide) OutsOK.nil

/-- spec.l01Width -/
theorem c_spec_l01Width (f : DField) : AC Tryd.prog 121 [.cel (Kd.ptr kField) f] [.cel (Kd.int .i64) (widthF f)] [] := by
 refine acI (N := 26) Tryd.func121 (Nat.le_of_ble_eq_true rfl) rfl fun w0 hd s0 ar => ?_
 refine AW.to (kc 0 rfl <| Kn) ?_
 refine AW.fact (fun a w hr => okField (ok_ptr (R_ok (t := 0) rfl hr))) (fun hf => ?_)
 refine sr ?_
 refine st (asI rfl) rfl ?_
 refine ng ?_
 refine sr ?_
 refine st (mvT rfl) rfl ?_
 refine st (OpT.nilCheck (H rfl) (T1 rfl)) rfl ?_
 refine st (OpT.fieldAddr (H rfl) (T1 rfl) fd141_3 sz68 (by decide) sb141_3) rfl ?_
 refine st (OpT.load (H rfl) (T1 rfl) ag68 rfl) rfl ?_
 refine st (OpT.conv (H rfl) us68 Tryd.underlying2 (T1 rfl) (nw (by omega))) rfl ?_
 refine st (asT rfl) rfl ?_
 refine ng ?_
 refine AW.seq ?_
 refine sr ?_
 refine st (mvT rfl) rfl ?_
 refine st (OpT.nilCheck (H rfl) (T1 rfl)) rfl ?_
 refine st (OpT.fieldAddr (H rfl) (T1 rfl) fd141_1 sz130 (by decide) sb141_1) rfl ?_
 refine st (OpT.load (H rfl) (T1 rfl) ag130 rfl) rfl ?_
 refine ng ?_
 refine AW.block ?_
 refine sr ?_
 refine st (OpT.eql (H rfl) (T1 rfl) (I rfl)) rfl ?_
 refine st (asT rfl) rfl ?_
 refine ng ?_
 refine cd rfl (fun hc1 => ?_) fun hc1 => ?_
 ·
  obtain ⟨hc1, hc1'⟩ := pT hc1
  refine sr ?_
  refine st (mvT rfl) rfl ?_
  refine st (OpT.mul (H rfl) (I rfl) (T1 rfl) (nw (by omega))) rfl ?_
  refine st (asT rfl) rfl ?_
  refine AWl.to (kc2 2 3 rfl <| Kn) ?_
  refine ng ?_
  refine AW.ret ?_
  refine rK <| rT ?_
  exact rt1 rfl (.inl rfl) (by unfold widthF; (repeat' split) <;> first | rfl | omega)
 ·
  obtain ⟨hc1, hc1'⟩ := pF hc1
  refine sr ?_
  refine st (OpT.eql (H rfl) (T1 rfl) (I rfl)) rfl ?_
  refine st (asT rfl) rfl ?_
  refine AWl.to (kc4 17 12 3 2 rfl <| Kn) ?_
  refine ng ?_
  refine cd rfl (fun hc2 => ?_) fun hc2 => ?_
  ·
   obtain ⟨hc2, hc2'⟩ := pT hc2
   refine sr ?_
   refine st (mvT rfl) rfl ?_
   refine st (OpT.mul (H rfl) (I rfl) (T1 rfl) (nw (by omega))) rfl ?_
   refine st (asT rfl) rfl ?_
   refine ng ?_
   refine AW.ret ?_
   refine rK <| rT ?_
   exact rt1 rfl (.inl rfl) (by unfold widthF; (repeat' split) <;> first | rfl | omega)
  ·
   obtain ⟨hc2, hc2'⟩ := pF hc2
   refine sr ?_
   refine st (OpT.eql (H rfl) (T1 rfl) (I rfl)) rfl ?_
   refine st (asT rfl) rfl ?_
   refine ng ?_
   refine cd rfl (fun hc3 => ?_) fun hc3 => ?_
   ·
    obtain ⟨hc3, hc3'⟩ := pT hc3
    refine sr ?_
    refine st (mvT rfl) rfl ?_
    refine st (OpT.add (H rfl) (T1 rfl) (I rfl) (nw (by omega))) rfl ?_
    refine st (asT rfl) rfl ?_
    refine ng ?_
    refine AW.ret ?_
    refine rK <| rT ?_
    exact rt1 rfl (.inl rfl) (by unfold widthF; (repeat' split) <;> first | rfl | omega)
   ·
    obtain ⟨hc3, hc3'⟩ := pF hc3
    refine AW.skip ?_
    refine AX.normal_block ?_
    refine AX.go ?_
    refine sr ?_
    refine st (mvT rfl) rfl ?_
    refine st (asT rfl) rfl ?_
    refine ng ?_
    refine AW.ret ?_
    exact rt1 rfl (.inl rfl) (by unfold widthF; (repeat' split) <;> first | rfl | omega)

/-- spec.l01Part -/
theorem c_spec_l01Part (f : DField) (hok : fieldOK f) : AC Tryd.prog 140 [.cel (Kd.ptr kField) f] [.agg kMask (partF f)] [] := by
 refine acI (N := 23) Tryd.func140 (Nat.le_of_ble_eq_true rfl) rfl fun w0 hd s0 ar => ?_
 refine AW.to (kc 0 rfl <| Kn) ?_
 have hw := field_width hok
 have hlo := hok.2.2.2.2.2
 refine sr ?_
 refine st (OpT.alloc (H rfl) zr30 zk30) rfl ?_
 refine ng ?_
 refine sr ?_
 refine st (OpT.buildA (H rfl) ar30 sz28 zr30 zk30 (Built.nil _)) rfl ?_
 refine st (OpT.alloc (H rfl) zr30 zk30) rfl ?_
 refine sk (OpT.storeBA rfl rfl (Opd.whole (Root.self (t := 3) (by decide)) rfl) rfl sz30 (by decide) (T1 rfl)) rfl ?_
 refine ng ?_
 refine AW.seq ?_
 refine sr ?_
 refine st (asI rfl) rfl ?_
 refine ng ?_
 refine AW.block ?_
 refine AW.loop (fun z : Nat => z ≤ Int.toNat (widthF f)) (fun z : Nat => keep [(0, .cel (Kd.ptr kField) f), (2, .box 30 kMask (0#64, 0#64)), (3, .box 30 kMask (rngM f.2.2.1 z)), (4, .cel (Kd.int .i64) (z : Int))]) (fun z : Nat => Int.toNat (widthF f) - z) (0) (Nat.zero_le _) (Kc 0 _ (Kv rfl rfl) <| Kc 2 _ (Kb rfl rfl) <| Kc 3 _ (Kb rfl rfl) <| Kc 4 _ (Kv rfl rfl) <| Kn) ?_
 intro z hI
 refine AW.seq ?_
 refine sr ?_
 refine st (mvT rfl) rfl ?_
 refine st (mvT rfl) rfl ?_
 refine st (OpT.c1 (ms := [.flat]) (c_spec_l01Width _) (H rfl) (Af (T1 rfl) rfl rfl <| An) rfl rfl) rfl ?_
 refine st (OpT.lss (H rfl) (T1 rfl) (T1 rfl)) rfl ?_
 refine ng ?_
 refine cd rfl (fun hc1 => ?_) fun hc1 => ?_
 ·
  obtain ⟨hc1, hc1'⟩ := pT hc1
  refine AW.skip ?_
  refine AX.go ?_
  refine AW.seq ?_
  refine AW.block ?_
  refine dh fomo ?_
  refine d1 [3] (fun ve h => OpT.loadB (H rfl) (Root.self (t := 3) (by decide)) ((h _ (List.elem_iff.1 rfl)).trans rfl) ag30 sz30) rfl ?_
  refine d1 [0] (fun ve h => OpT.move (A := .cel _ _) (.inl rfl) rfl (ok' rfl) (D1 h rfl) rfl) rfl ?_
  refine d1 [13] (fun ve h => OpT.nilCheck (H rfl) (D1 h rfl)) rfl ?_
  refine d1 [14] (fun ve h => OpT.fieldAddr (H rfl) (D1 h rfl) fd141_2 sz68 (by decide) sb141_2) rfl ?_
  refine d1 [15] (fun ve h => OpT.load (H rfl) (D1 h rfl) ag68 rfl) rfl ?_
  refine d1 [16] (fun ve h => OpT.conv (H rfl) us68 Tryd.underlying2 (D1 h rfl) (nw (by omega))) rfl ?_
  refine d1 [4] (fun ve h => OpT.move (A := .cel _ _) (.inl rfl) rfl (ok' rfl) (D1 h rfl) rfl) rfl ?_
  refine d1 [17, 18] (fun ve h => OpT.add (H rfl) (D1 h rfl) (D1 h rfl) (nw (by omega))) rfl ?_
  refine d1 [19] (fun ve h => OpT.c1 (ms := [.flat]) (c_spec_l01Bit _ (by omega)) (H rfl) (Af (D1 h rfl) rfl rfl <| An) rfl rfl) rfl ?_
  refine d1 [12, 20] (fun ve h => OpT.c1 (ms := [.flat, .flat]) (c_spec_l01Join _ _) (H rfl) (Af (D1 h rfl) rfl rfl <| Af (D1 h rfl) rfl rfl <| An) rfl rfl) rfl ?_
  refine dm (t := 3) [3, 21] (fun ve h => OpT.storeBA rfl rfl (Opd.whole (Root.self (t := 3) (by decide)) ((h _ (List.elem_iff.1 rfl)).trans rfl)) ((h _ (List.elem_iff.1 rfl)).trans rfl) sz30 (by decide) (D1 h rfl)) rfl ?_
  refine dn ⟨by kernel_rfl, by kernel_rfl, ?_⟩
  refine AX.normal_block ?_
  refine AX.go ?_
  refine AW.region ?_
  refine st (mvT rfl) rfl ?_
  refine st (OpT.add (H rfl) (T1 rfl) (I rfl) (nw (by omega))) rfl ?_
  refine st (asT rfl) rfl ?_
  refine nn ?_
  exact AX.again (z + 1) (by omega) (by omega) (Kc 0 _ (Kv rfl rfl) <| Kc 2 _ (Kb rfl rfl) <| Kc 3 _ (Kb rfl rfl) <| Kc 4 _ (Kv rfl (by omega)) <| Kn)
 ·
  obtain ⟨hc1, hc1'⟩ := pF hc1
  refine AW.exit ?_
  refine xT <| xT <| AX.exit_hit ?_
  refine AX.go ?_
  refine sr ?_
  refine st (OpT.loadB (H rfl) (Root.self (t := 3) (by decide)) rfl ag30 sz30) rfl ?_
  refine sk (OpT.storeBA rfl rfl (Opd.whole (Root.self (t := 2) (by decide)) rfl) rfl sz30 (by decide) (T1 rfl)) rfl ?_
  refine ng ?_
  refine AW.ret ?_
  exact AX.rt (rs := [.cell 2 30]) (ts := [none]) (.inl rfl) rfl (ROs.cons (RO.cellA (by decide) (Kb rfl (by rw [show z = Int.toNat (widthF f) by omega]; rfl)) ag30 sz30) <| ROs.nil) (by decide) OutsOK.nil

end Go.Proofs.YtohcpnobmknglaaDoor.VL
