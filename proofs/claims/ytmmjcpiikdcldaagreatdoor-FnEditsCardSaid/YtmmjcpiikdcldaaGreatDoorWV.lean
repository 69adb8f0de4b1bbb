/- Proved here: what some functions of the program take and give: walks with the words of VA..VQ. Printed by program. -/
import Derived.Test.YtmmjcpiikdcldaaGreatDoorWT
import Derived.Test.YtmmjcpiikdcldaaGreatDoorBpa
import Derived.Test.YtmmjcpiikdcldaaGreatDoorWP
import Derived.Test.YtmmjcpiikdcldaaGreatDoorWB
set_option linter.unusedVariables false
set_option linter.unusedSimpArgs false
set_option maxRecDepth 4000
namespace Go.Proofs.YtmmjcpiikdcldaaGreatDoor.VL
open Go
/-- spec.l01Power -/
theorem c_spec_l01Power (b n : Int) (h : 1 ≤ b ∧ b ≤ 10 ∧ 0 ≤ n ∧ n ≤ 12) : AC Tryz.prog 124 [.cel (Kd.int .i64) b, .cel (Kd.int .i64) n] [.cel (Kd.int .i64) (b ^ n.toNat)] [] := by
 refine acI (N := 16) Tryz.func124 (Nat.le_of_ble_eq_true rfl) rfl fun w0 hd s0 ar => ?_
 refine AW.to (kc2 0 1 rfl <| Kn) ?_
 refine sr ?_
 refine st (asI rfl) rfl ?_
 refine ng ?_
 refine sr ?_
 refine st (asI rfl) rfl ?_
 refine ng ?_
 refine AW.seq ?_
 refine sr ?_
 refine st (asI rfl) rfl ?_
 refine ng ?_
 refine AW.block ?_
 refine AW.loop (fun z : Nat => z ≤ n.toNat) (fun z : Nat => keep [(0, .cel (Kd.int .i64) b), (1, .cel (Kd.int .i64) n), (5, .cel (Kd.int .i64) (b ^ z)), (6, .cel (Kd.int .i64) (z : Int))]) (fun z : Nat => n.toNat - z) (0) (Nat.zero_le _) (Kc 0 _ (Kv rfl rfl) <| Kc 1 _ (Kv rfl rfl) <| Kc 5 _ (Kv rfl (Int.pow_zero b).symm) <| Kc 6 _ (Kv rfl rfl) <| Kn) ?_
 intro z hI
 have hp := pow_mul (b := b) (by omega) (z := z) (by omega)
 refine AW.seq ?_
 refine sr ?_
 refine st (mvT rfl) rfl ?_
 refine st (mvT rfl) rfl ?_
 refine st (OpT.lss (H rfl) (T1 rfl) (T1 rfl)) rfl ?_
 refine ng ?_
 refine cd rfl (fun hc1 => ?_) fun hc1 => ?_
 ·
  obtain ⟨hc1, hc1'⟩ := pT hc1
  refine AW.skip ?_
  refine AX.go ?_
  refine AW.seq ?_
  refine AW.block ?_
  refine AW.region ?_
  refine st (mvT rfl) rfl ?_
  refine st (mvT rfl) rfl ?_
  refine st (OpT.mul (H rfl) (T1 rfl) (T1 rfl) (nw (by omega))) rfl ?_
  refine st (asT rfl) rfl ?_
  refine nn ?_
  refine AX.normal_block ?_
  refine AX.go ?_
  refine AW.region ?_
  refine st (mvT rfl) rfl ?_
  refine st (OpT.add (H rfl) (T1 rfl) (I rfl) (nw (by omega))) rfl ?_
  refine st (asT rfl) rfl ?_
  refine nn ?_
  exact AX.again (z + 1) (by omega) (by omega) (Kc 0 _ (Kv rfl rfl) <| Kc 1 _ (Kv rfl rfl) <| Kc 5 _ (Kv rfl (pow_next b z)) <| Kc 6 _ (Kv rfl (by omega)) <| Kn)
 ·
  obtain ⟨hc1, hc1'⟩ := pF hc1
  refine AW.exit ?_
  refine xT <| xT <| AX.exit_hit ?_
  refine AX.go ?_
  refine sr ?_
  refine st (mvT rfl) rfl ?_
  refine st (asT rfl) rfl ?_
  refine ng ?_
  refine AW.ret ?_
  exact rt1 rfl (.inl rfl) (by rw [show z = n.toNat by omega])

/-- spec.l01Sums -/
theorem c_spec_l01Sums  : AC Tryz.prog 122 [] [.cel (Kd.slice (Kd.int .i64)) sumB] [] := by
 refine acI (N := 2) Tryz.func122 (Nat.le_of_ble_eq_true rfl) rfl fun w0 hd s0 ar => ?_
 refine AW.to (Kn) ?_
 refine sr ?_
 refine st (OpT.move (A := .cel _ _) (.inr rfl) rfl (ok' rfl) (Opd.nilslice (Kd.int .i64)) rfl) rfl ?_
 refine ng ?_
 refine sr ?_
 refine st (OpT.buildSlice (H rfl) el43 zr2 sz2 rfl (by decide) zk2 (by decide) (Built.cel (I rfl) rfl rfl (sub_arr (by decide) (0 : Int)) (Built.cel (I rfl) rfl rfl (sub_arr (by decide) (0 : Int)) (Built.cel (I rfl) rfl rfl (sub_arr (by decide) (0 : Int)) (Built.cel (I rfl) rfl rfl (sub_arr (by decide) (0 : Int)) (Built.cel (I rfl) rfl rfl (sub_arr (by decide) (0 : Int)) (Built.cel (I rfl) rfl rfl (sub_arr (by decide) (0 : Int)) (Built.cel (I rfl) rfl rfl (sub_arr (by decide) (0 : Int)) (Built.cel (I rfl) rfl rfl (sub_arr (by decide) (0 : Int)) (Built.cel (I rfl) rfl rfl (sub_arr (by decide) (0 : Int)) (Built.cel (I rfl) rfl rfl (sub_arr (by decide) (0 : Int)) (Built.nil _)))))))))))) rfl ?_
 refine sg (OpT.take (.inl rfl) rfl (ok' rfl) (Root.self (by decide)) rfl rfl (by decide)) (ko 0 rfl <| Kn) rfl ?_
 refine ng ?_
 refine AW.ret ?_
 refine AX.freeze (t := 0) rfl ?_
 refine AX.pr (kc 0 rfl <| Kn) ?_
 exact rt1 rfl (.inl rfl) rfl

/-- spec.l01Pairs -/
theorem c_spec_l01Pairs  : AC Tryz.prog 123 [] [.cel (Kd.slice (Kd.int .i64)) pairB] [] := by
 refine acI (N := 2) Tryz.func123 (Nat.le_of_ble_eq_true rfl) rfl fun w0 hd s0 ar => ?_
 refine AW.to (Kn) ?_
 refine sr ?_
 refine st (OpT.move (A := .cel _ _) (.inr rfl) rfl (ok' rfl) (Opd.nilslice (Kd.int .i64)) rfl) rfl ?_
 refine ng ?_
 refine sr ?_
 refine st (OpT.buildSlice (H rfl) el43 zr2 sz2 rfl (by decide) zk2 (by decide) (Built.cel (I rfl) rfl rfl (sub_arr (by decide) (0 : Int)) (Built.cel (I rfl) rfl rfl (sub_arr (by decide) (0 : Int)) (Built.cel (I rfl) rfl rfl (sub_arr (by decide) (0 : Int)) (Built.cel (I rfl) rfl rfl (sub_arr (by decide) (0 : Int)) (Built.cel (I rfl) rfl rfl (sub_arr (by decide) (0 : Int)) (Built.cel (I rfl) rfl rfl (sub_arr (by decide) (0 : Int)) (Built.cel (I rfl) rfl rfl (sub_arr (by decide) (0 : Int)) (Built.cel (I rfl) rfl rfl (sub_arr (by decide) (0 : Int)) (Built.cel (I rfl) rfl rfl (sub_arr (by decide) (0 : Int)) (Built.cel (I rfl) rfl rfl (sub_arr (by decide) (0 : Int)) (Built.nil _)))))))))))) rfl ?_
 refine sg (OpT.take (.inl rfl) rfl (ok' rfl) (Root.self (by decide)) rfl rfl (by decide)) (ko 0 rfl <| Kn) rfl ?_
 refine ng ?_
 refine AW.ret ?_
 refine AX.freeze (t := 0) rfl ?_
 refine AX.pr (kc 0 rfl <| Kn) ?_
 exact rt1 rfl (.inl rfl) rfl

/-- spec.l01Most -/
theorem c_spec_l01Most (f : DField) (hok : fieldOK f) : AC Tryz.prog 85 [.cel (Kd.ptr kField) f] [.cel (Kd.int .i64) (topF f)] [] := by
 refine acI (N := 31) Tryz.func85 (Nat.le_of_ble_eq_true rfl) rfl fun w0 hd s0 ar => ?_
 refine AW.to (kc 0 rfl <| Kn) ?_
 have hsz := size_in hok
 have hp2 := fun h0 => pow_in (b := 2) (z := f.2.2.2.toNat) (by omega) (h0 : f.2.2.2.toNat ≤ 12)
 have hp10 := fun h0 => pow_in (b := 10) (z := f.2.2.2.toNat) (by omega) (h0 : f.2.2.2.toNat ≤ 12)
 refine sr ?_
 refine st (asI rfl) rfl ?_
 refine ng ?_
 refine AW.seq ?_
 refine sr ?_
 refine st (mvT rfl) rfl ?_
 refine st (OpT.nilCheck (H rfl) (T1 rfl)) rfl ?_
 refine st (OpT.fieldAddr (H rfl) (T1 rfl) fd106_1 sz60 (by decide) sb106_1) rfl ?_
 refine st (OpT.load (H rfl) (T1 rfl) ag60 rfl) rfl ?_
 refine ng ?_
 refine AW.block ?_
 refine sr ?_
 refine st (OpT.eql (H rfl) (T1 rfl) (I rfl)) rfl ?_
 refine st (asT rfl) rfl ?_
 refine ng ?_
 refine cd rfl (fun hc1 => ?_) fun hc1 => ?_
 ·
  obtain ⟨hc1, hc1'⟩ := pT hc1
  refine sr ?_
  refine st (mvT rfl) rfl ?_
  refine st (OpT.nilCheck (H rfl) (T1 rfl)) rfl ?_
  refine st (OpT.fieldAddr (H rfl) (T1 rfl) fd106_3 sz61 (by decide) sb106_3) rfl ?_
  refine st (OpT.load (H rfl) (T1 rfl) ag61 rfl) rfl ?_
  refine st (OpT.conv (H rfl) us61 Tryz.underlying2 (T1 rfl) (nw (by omega))) rfl ?_
  refine st (OpT.sub (H rfl) (T1 rfl) (I rfl) (nw (by omega))) rfl ?_
  refine st (asT rfl) rfl ?_
  refine AWl.to (kc2 2 0 rfl <| Kn) ?_
  refine ng ?_
  refine AW.ret ?_
  refine rK <| rT ?_
  exact rt1 rfl (.inl rfl) (by unfold topF; (repeat' split) <;> first | rfl | omega)
 ·
  obtain ⟨hc1, hc1'⟩ := pF hc1
  refine sr ?_
  refine st (OpT.eql (H rfl) (T1 rfl) (I rfl)) rfl ?_
  refine st (asT rfl) rfl ?_
  refine ng ?_
  refine cd rfl (fun hc2 => ?_) fun hc2 => ?_
  ·
   obtain ⟨hc2, hc2'⟩ := pT hc2
   refine sr ?_
   refine st (mvT rfl) rfl ?_
   refine st (OpT.nilCheck (H rfl) (T1 rfl)) rfl ?_
   refine st (OpT.fieldAddr (H rfl) (T1 rfl) fd106_3 sz61 (by decide) sb106_3) rfl ?_
   refine st (OpT.load (H rfl) (T1 rfl) ag61 rfl) rfl ?_
   refine st (OpT.conv (H rfl) us61 Tryz.underlying2 (T1 rfl) (nw (by omega))) rfl ?_
   refine st (OpT.c1 (ms := [.flat, .flat]) (c_spec_l01Power _ _ (by omega)) (H rfl) (Af (I rfl) rfl rfl <| Af (T1 rfl) rfl rfl <| An) rfl rfl) rfl ?_
   refine st (OpT.sub (H rfl) (T1 rfl) (I rfl) (nw (by have := hp2 (by omega); omega))) rfl ?_
   refine st (asT rfl) rfl ?_
   refine AWl.to (kc2 2 0 rfl <| Kn) ?_
   refine ng ?_
   refine AW.ret ?_
   refine rK <| rT ?_
   exact rt1 rfl (.inl rfl) (by unfold topF; (repeat' split) <;> first | rfl | omega)
  ·
   obtain ⟨hc2, hc2'⟩ := pF hc2
   refine AW.skip ?_
   refine AX.normal_block ?_
   refine AX.go ?_
   refine sr ?_
   refine st (mvT rfl) rfl ?_
   refine st (OpT.nilCheck (H rfl) (T1 rfl)) rfl ?_
   refine st (OpT.fieldAddr (H rfl) (T1 rfl) fd106_3 sz61 (by decide) sb106_3) rfl ?_
   refine st (OpT.load (H rfl) (T1 rfl) ag61 rfl) rfl ?_
   refine st (OpT.conv (H rfl) us61 Tryz.underlying2 (T1 rfl) (nw (by omega))) rfl ?_
   refine st (OpT.c1 (ms := [.flat, .flat]) (c_spec_l01Power _ _ (by omega)) (H rfl) (Af (I rfl) rfl rfl <| Af (T1 rfl) rfl rfl <| An) rfl rfl) rfl ?_
   refine st (OpT.sub (H rfl) (T1 rfl) (I rfl) (nw (by have := hp10 (by omega); omega))) rfl ?_
   refine st (asT rfl) rfl ?_
   refine AWl.to (kc 2 rfl <| Kn) ?_
   refine ng ?_
   refine AW.ret ?_
   exact rt1 rfl (.inl rfl) (by unfold topF; (repeat' split) <;> first | rfl | omega)

/-- spec.l01Notch -/
theorem c_spec_l01Notch (m : DMask) (s w b : Int) (h : 0 ≤ s ∧ s + w ≤ 128 ∧ 0 ≤ w ∧ w ≤ 12 ∧ 0 ≤ b ∧ b ≤ 9999) : AC Tryz.prog 120 [.agg kMask m, .cel (Kd.int .i64) s, .cel (Kd.int .i64) w, .cel (Kd.int .i64) b] [.agg kMask (ntc m s w b w.toNat)] [] := by
 refine acI (N := 31) Tryz.func120 (Nat.le_of_ble_eq_true rfl) rfl fun w0 hd s0 ar => ?_
 refine AW.to (ka 0 rfl <| kc3 1 2 3 rfl <| Kn) ?_
 refine sr ?_
 refine st (OpT.boxA (E := 38) (H rfl) (T1 rfl)) rfl ?_
 refine st (OpT.alloc (H rfl) zr38 zk38) rfl ?_
 refine ng ?_
 refine AW.seq ?_
 refine sr ?_
 refine st (asI rfl) rfl ?_
 refine ng ?_
 refine AW.block ?_
 refine AW.loop (fun z : Nat => z ≤ w.toNat) (fun z : Nat => keep [(1, .cel (Kd.int .i64) s), (2, .cel (Kd.int .i64) w), (3, .cel (Kd.int .i64) b), (4, .box 38 kMask (ntc m s w b z)), (8, .box 38 kMask (0#64, 0#64)), (9, .cel (Kd.int .i64) (z : Int))]) (fun z : Nat => w.toNat - z) (0) (Nat.zero_le _) (Kc 1 _ (Kv rfl rfl) <| Kc 2 _ (Kv rfl rfl) <| Kc 3 _ (Kv rfl rfl) <| Kc 4 _ (Kb rfl rfl) <| Kc 8 _ (Kb rfl rfl) <| Kc 9 _ (Kv rfl rfl) <| Kn) ?_
 intro z hI
 refine AW.seq ?_
 refine sr ?_
 refine st (mvT rfl) rfl ?_
 refine st (mvT rfl) rfl ?_
 refine st (OpT.lss (H rfl) (T1 rfl) (T1 rfl)) rfl ?_
 refine ng ?_
 refine cd rfl (fun hc1 => ?_) fun hc1 => ?_
 ·
  obtain ⟨hc1, hc1'⟩ := pT hc1
  have hp := pow_in (b := 2) (z := (w - 1 - (z : Int)).toNat) (by omega) (by omega)
  have hq := tdv_le (p := b) (g := 2 ^ (w - 1 - (z : Int)).toNat) (by omega) (by omega)
  refine AW.skip ?_
  refine AX.go ?_
  refine AW.seq ?_
  refine AW.block ?_
  refine sr ?_
  refine st (mvT rfl) rfl ?_
  refine st (mvT rfl) rfl ?_
  refine st (OpT.sub (H rfl) (T1 rfl) (I rfl) (nw (by omega))) rfl ?_
  refine st (mvT rfl) rfl ?_
  refine st (OpT.sub (H rfl) (T1 rfl) (T1 rfl) (nw (by omega))) rfl ?_
  refine st (OpT.c1 (ms := [.flat, .flat]) (c_spec_l01Power _ _ (by omega)) (H rfl) (Af (I rfl) rfl rfl <| Af (T1 rfl) rfl rfl <| An) rfl rfl) rfl ?_
  refine st (OpT.quo (H rfl) (T1 rfl) (T1 rfl) (by omega) (nw (by omega))) rfl ?_
  refine st (OpT.rem (H rfl) (T1 rfl) (I rfl) (by omega)) rfl ?_
  refine st (OpT.eql (H rfl) (T1 rfl) (I rfl)) rfl ?_
  refine ng ?_
  refine cd rfl (fun hc2 => ?_) fun hc2 => ?_
  ·
   obtain ⟨hc2, hc2'⟩ := pT hc2
   refine dh fomo ?_
   refine d1 [4] (fun ve h => OpT.loadB (H rfl) (Root.self (t := 4) (by decide)) ((h _ (List.elem_iff.1 rfl)).trans rfl) ag38 sz38) rfl ?_
   refine d1 [1] (fun ve h => OpT.move (A := .cel _ _) (.inl rfl) rfl (ok' rfl) (D1 h rfl) rfl) rfl ?_
   refine d1 [9] (fun ve h => OpT.move (A := .cel _ _) (.inl rfl) rfl (ok' rfl) (D1 h rfl) rfl) rfl ?_
   refine d1 [25, 26] (fun ve h => OpT.add (H rfl) (D1 h rfl) (D1 h rfl) (nw (by omega))) rfl ?_
   refine d1 [27] (fun ve h => OpT.c1 (ms := [.flat]) (c_spec_l01Bit _ (by omega)) (H rfl) (Af (D1 h rfl) rfl rfl <| An) rfl rfl) rfl ?_
   refine d1 [24, 28] (fun ve h => OpT.c1 (ms := [.flat, .flat]) (c_spec_l01Join _ _) (H rfl) (Af (D1 h rfl) rfl rfl <| Af (D1 h rfl) rfl rfl <| An) rfl rfl) rfl ?_
   refine dm (t := 4) [4, 29] (fun ve h => OpT.storeBA rfl rfl (Opd.whole (Root.self (t := 4) (by decide)) ((h _ (List.elem_iff.1 rfl)).trans rfl)) ((h _ (List.elem_iff.1 rfl)).trans rfl) sz38 (by decide) (D1 h rfl)) rfl ?_
   refine dn ⟨by kernel_rfl, by kernel_rfl, ?_⟩
   refine AX.normal_block ?_
   refine AX.go ?_
   refine AW.region ?_
   refine st (mvT rfl) rfl ?_
   refine st (OpT.add (H rfl) (T1 rfl) (I rfl) (nw (by omega))) rfl ?_
   refine st (asT rfl) rfl ?_
   refine nn ?_
   exact AX.again (z + 1) (by omega) (by omega) (Kc 1 _ (Kv rfl rfl) <| Kc 2 _ (Kv rfl rfl) <| Kc 3 _ (Kv rfl rfl) <| Kc 4 _ (Kb rfl (by first | exact ntc_yes hc2 | exact ntc_no hc2)) <| Kc 8 _ (Kb rfl rfl) <| Kc 9 _ (Kv rfl (by omega)) <| Kn)
  ·
   obtain ⟨hc2, hc2'⟩ := pF hc2
   refine AW.skip ?_
   refine AX.normal_block ?_
   refine AX.go ?_
   refine AW.region ?_
   refine st (mvT rfl) rfl ?_
   refine st (OpT.add (H rfl) (T1 rfl) (I rfl) (nw (by omega))) rfl ?_
   refine st (asT rfl) rfl ?_
   refine nn ?_
   exact AX.again (z + 1) (by omega) (by omega) (Kc 1 _ (Kv rfl rfl) <| Kc 2 _ (Kv rfl rfl) <| Kc 3 _ (Kv rfl rfl) <| Kc 4 _ (Kb rfl (by first | exact ntc_yes hc2 | exact ntc_no hc2)) <| Kc 8 _ (Kb rfl rfl) <| Kc 9 _ (Kv rfl (by omega)) <| Kn)
 ·
  obtain ⟨hc1, hc1'⟩ := pF hc1
  refine AW.exit ?_
  refine xT <| xT <| AX.exit_hit ?_
  refine AX.go ?_
  refine sr ?_
  refine st (OpT.loadB (H rfl) (Root.self (t := 4) (by decide)) rfl ag38 sz38) rfl ?_
  refine sk (OpT.storeBA rfl rfl (Opd.whole (Root.self (t := 8) (by decide)) rfl) rfl sz38 (by decide) (T1 rfl)) rfl ?_
  refine ng ?_
  refine AW.ret ?_
  exact AX.rt (rs := [.cell 8 38]) (ts := [none]) (.inl rfl) rfl (ROs.cons (RO.cellA (by decide) (Kb rfl (by rw [show z = w.toNat by omega])) ag38 sz38) <| ROs.nil) (by decide) OutsOK.nil

set_option maxHeartbeats 4000000 in
/-- spec.l01Code -/
theorem c_spec_l01Code (f : DField) (v : Nat) (hok : fieldOK f) (hv : (v : Int) ≤ topF f) : AC Tryz.prog 84 [.cel (Kd.ptr kField) f, .cel (Kd.int .i64) (v : Int)] [.agg kMask (codeF f (v : Int))] [] := by
 refine acI (N := 84) Tryz.func84 (Nat.le_of_ble_eq_true rfl) rfl fun w0 hd s0 ar => ?_
 refine AW.to (kc2 0 1 rfl <| Kn) ?_
 have hsz := size_in hok
 have hfw := field_width hok
 have htp := top_in hok
 have hw0 := cf_top hok
 refine sr ?_
 refine st (OpT.alloc (H rfl) zr38 zk38) rfl ?_
 refine ng ?_
 refine sr ?_
 refine st (mvT rfl) rfl ?_
 refine st (OpT.nilCheck (H rfl) (T1 rfl)) rfl ?_
 refine st (OpT.fieldAddr (H rfl) (T1 rfl) fd106_2 sz61 (by decide) sb106_2) rfl ?_
 refine st (OpT.load (H rfl) (T1 rfl) ag61 rfl) rfl ?_
 refine st (OpT.conv (H rfl) us61 Tryz.underlying2 (T1 rfl) (nw (by omega))) rfl ?_
 refine st (asT rfl) rfl ?_
 refine ng ?_
 refine sr ?_
 refine st (mvT rfl) rfl ?_
 refine st (OpT.nilCheck (H rfl) (T1 rfl)) rfl ?_
 refine st (OpT.fieldAddr (H rfl) (T1 rfl) fd106_3 sz61 (by decide) sb106_3) rfl ?_
 refine st (OpT.load (H rfl) (T1 rfl) ag61 rfl) rfl ?_
 refine st (OpT.conv (H rfl) us61 Tryz.underlying2 (T1 rfl) (nw (by omega))) rfl ?_
 refine st (asT rfl) rfl ?_
 refine ng ?_
 refine sr ?_
 refine st (OpT.buildA (H rfl) ar38 sz36 zr38 zk38 (Built.nil _)) rfl ?_
 refine st (OpT.alloc (H rfl) zr38 zk38) rfl ?_
 refine sk (OpT.storeBA rfl rfl (Opd.whole (Root.self (t := 7) (by decide)) rfl) rfl sz38 (by decide) (T1 rfl)) rfl ?_
 refine AWl.to (kb 7 rfl <| kc2 6 5 rfl <| kb 4 rfl <| kc2 0 1 rfl <| Kn) ?_
 refine ng ?_
 refine AW.seq ?_
 refine sr ?_
 refine st (mvT rfl) rfl ?_
 refine st (OpT.nilCheck (H rfl) (T1 rfl)) rfl ?_
 refine st (OpT.fieldAddr (H rfl) (T1 rfl) fd106_1 sz60 (by decide) sb106_1) rfl ?_
 refine st (OpT.load (H rfl) (T1 rfl) ag60 rfl) rfl ?_
 refine ng ?_
 refine AW.block ?_
 refine sr ?_
 refine st (OpT.eql (H rfl) (T1 rfl) (I rfl)) rfl ?_
 refine st (asT rfl) rfl ?_
 refine ng ?_
 refine cd rfl (fun hc1 => ?_) fun hc1 => ?_
 ·
  obtain ⟨hc1, hc1'⟩ := pT hc1
  refine sr ?_
  refine st (mvT rfl) rfl ?_
  refine st (mvT rfl) rfl ?_
  refine st (OpT.add (H rfl) (T1 rfl) (T1 rfl) (nw (by omega))) rfl ?_
  refine st (OpT.c1 (ms := [.flat]) (c_spec_l01Bit _ (by omega)) (H rfl) (Af (T1 rfl) rfl rfl <| An) rfl rfl) rfl ?_
  refine sk (OpT.storeBA rfl rfl (Opd.whole (Root.self (t := 4) (by decide)) rfl) rfl sz38 (by decide) (T1 rfl)) rfl ?_
  refine AWl.to (kb 4 rfl <| kb 7 rfl <| kc4 6 5 0 1 rfl <| Kn) ?_
  refine ng ?_
  refine AW.ret ?_
  refine rK <| rT ?_
  exact AX.rt (rs := [.cell 4 38]) (ts := [none]) (.inl rfl) rfl (ROs.cons (RO.cellA (by decide) (Kb rfl (by first | exact cf_dir hc1' | exact cf_bin0 hc2' hc3' | exact cf_bin1 hc2' hc3' | exact cf_dig hok hk12 (by omega))) ag38 sz38) <| ROs.nil) (by decide) OutsOK.nil
 ·
  obtain ⟨hc1, hc1'⟩ := pF hc1
  have hk0 := hc1'
  refine sr ?_
  refine st (OpT.eql (H rfl) (T1 rfl) (I rfl)) rfl ?_
  refine st (asT rfl) rfl ?_
  refine ng ?_
  refine cd rfl (fun hc2 => ?_) fun hc2 => ?_
  ·
   obtain ⟨hc2, hc2'⟩ := pT hc2
   have hwd : widthF f = f.2.2.2 + 1 := by unfold widthF; rw [hc2']; rfl
   refine sr ?_
   refine st (OpT.loadB (H rfl) (Root.self (t := 7) (by decide)) rfl ag38 sz38) rfl ?_
   refine st (mvT rfl) rfl ?_
   refine st (mvT rfl) rfl ?_
   refine st (mvT rfl) rfl ?_
   refine st (OpT.c1 (ms := [.flat, .flat, .flat, .flat]) (c_spec_l01Notch _ _ _ _ (by omega)) (H rfl) (Af (T1 rfl) rfl rfl <| Af (T1 rfl) rfl rfl <| Af (T1 rfl) rfl rfl <| Af (T1 rfl) rfl rfl <| An) rfl rfl) rfl ?_
   refine sk (OpT.storeBA rfl rfl (Opd.whole (Root.self (t := 7) (by decide)) rfl) rfl sz38 (by decide) (T1 rfl)) rfl ?_
   refine AWl.to (kb 7 rfl <| kc2 6 5 rfl <| kb 4 rfl <| kc2 0 1 rfl <| Kn) ?_
   refine ng ?_
   refine AW.seq ?_
   refine sr ?_
   refine st (OpT.loadB (H rfl) (Root.self (t := 7) (by decide)) rfl ag38 sz38) rfl ?_
   refine st (OpT.c1 (ms := [.flat]) (c_spec_CountHoles _) (H rfl) (Af (T1 rfl) rfl rfl <| An) rfl rfl) rfl ?_
   refine st (OpT.rem (H rfl) (T1 rfl) (I rfl) (by omega)) rfl ?_
   refine st (OpT.eql (H rfl) (T1 rfl) (I rfl)) rfl ?_
   refine AWl.to (kc 43 rfl <| kb 7 rfl <| kc2 6 5 rfl <| kb 4 rfl <| kc2 0 1 rfl <| Kn) ?_
   refine ng ?_
   refine cd rfl (fun hc3 => ?_) fun hc3 => ?_
   ·
    obtain ⟨hc3, hc3'⟩ := pT hc3
    refine dh fomo ?_
    refine d1 [7] (fun ve h => OpT.loadB (H rfl) (Root.self (t := 7) (by decide)) ((h _ (List.elem_iff.1 rfl)).trans rfl) ag38 sz38) rfl ?_
    refine d1 [5] (fun ve h => OpT.move (A := .cel _ _) (.inl rfl) rfl (ok' rfl) (D1 h rfl) rfl) rfl ?_
    refine d1 [6] (fun ve h => OpT.move (A := .cel _ _) (.inl rfl) rfl (ok' rfl) (D1 h rfl) rfl) rfl ?_
    refine d1 [45, 46] (fun ve h => OpT.add (H rfl) (D1 h rfl) (D1 h rfl) (nw (by omega))) rfl ?_
    refine d1 [47] (fun ve h => OpT.c1 (ms := [.flat]) (c_spec_l01Bit _ (by omega)) (H rfl) (Af (D1 h rfl) rfl rfl <| An) rfl rfl) rfl ?_
    refine d1 [44, 48] (fun ve h => OpT.c1 (ms := [.flat, .flat]) (c_spec_l01Join _ _) (H rfl) (Af (D1 h rfl) rfl rfl <| Af (D1 h rfl) rfl rfl <| An) rfl rfl) rfl ?_
    refine dm (t := 7) [7, 49] (fun ve h => OpT.storeBA rfl rfl (Opd.whole (Root.self (t := 7) (by decide)) ((h _ (List.elem_iff.1 rfl)).trans rfl)) ((h _ (List.elem_iff.1 rfl)).trans rfl) sz38 (by decide) (D1 h rfl)) rfl ?_
    refine dn ⟨by kernel_rfl, by kernel_rfl, ?_⟩
    refine AX.go ?_
    refine sr ?_
    refine st (OpT.loadB (H rfl) (Root.self (t := 7) (by decide)) rfl ag38 sz38) rfl ?_
    refine sk (OpT.storeBA rfl rfl (Opd.whole (Root.self (t := 4) (by decide)) rfl) rfl sz38 (by decide) (T1 rfl)) rfl ?_
    refine ng ?_
    refine AW.ret ?_
    refine rK <| rT ?_
    exact AX.rt (rs := [.cell 4 38]) (ts := [none]) (.inl rfl) rfl (ROs.cons (RO.cellA (by decide) (Kb rfl (by first | exact cf_dir hc1' | exact cf_bin0 hc2' hc3' | exact cf_bin1 hc2' hc3' | exact cf_dig hok hk12 (by omega))) ag38 sz38) <| ROs.nil) (by decide) OutsOK.nil
   ·
    obtain ⟨hc3, hc3'⟩ := pF hc3
    refine AW.skip ?_
    refine AX.go ?_
    refine sr ?_
    refine st (OpT.loadB (H rfl) (Root.self (t := 7) (by decide)) rfl ag38 sz38) rfl ?_
    refine sk (OpT.storeBA rfl rfl (Opd.whole (Root.self (t := 4) (by decide)) rfl) rfl sz38 (by decide) (T1 rfl)) rfl ?_
    refine ng ?_
    refine AW.ret ?_
    refine rK <| rT ?_
    exact AX.rt (rs := [.cell 4 38]) (ts := [none]) (.inl rfl) rfl (ROs.cons (RO.cellA (by decide) (Kb rfl (by first | exact cf_dir hc1' | exact cf_bin0 hc2' hc3' | exact cf_bin1 hc2' hc3' | exact cf_dig hok hk12 (by omega))) ag38 sz38) <| ROs.nil) (by decide) OutsOK.nil
  ·
   obtain ⟨hc2, hc2'⟩ := pF hc2
   have hk12 := kind_12 hok hk0 hc2'
   have hww := wid_in hok hk12
   refine AW.skip ?_
   refine AX.normal_block ?_
   refine AX.go ?_
   refine sr ?_
   refine st (OpT.c1 (ms := []) (c_spec_l01Sums ) (H rfl) (An) rfl rfl) rfl ?_
   refine st (asT rfl) rfl ?_
   refine ng ?_
   refine sr ?_
   refine st (asI rfl) rfl ?_
   refine ng ?_
   refine AW.seq ?_
   refine sr ?_
   refine st (mvT rfl) rfl ?_
   refine st (OpT.nilCheck (H rfl) (T1 rfl)) rfl ?_
   refine st (OpT.fieldAddr (H rfl) (T1 rfl) fd106_1 sz60 (by decide) sb106_1) rfl ?_
   refine st (OpT.load (H rfl) (T1 rfl) ag60 rfl) rfl ?_
   refine st (OpT.eql (H rfl) (T1 rfl) (I rfl)) rfl ?_
   refine AWl.to (kc3 56 9 8 rfl <| kb 7 rfl <| kc2 6 5 rfl <| kb 4 rfl <| kc 1 rfl <| Kn) ?_
   refine ng ?_
   refine cd rfl (fun hc4 => ?_) fun hc4 => ?_
   ·
    obtain ⟨hc4, hc4'⟩ := pT hc4
    refine sr ?_
    refine st (OpT.c1 (ms := []) (c_spec_l01Pairs ) (H rfl) (An) rfl rfl) rfl ?_
    refine st (asT rfl) rfl ?_
    refine ng ?_
    refine AW.region ?_
    refine st (asI rfl) rfl ?_
    refine ng ?_
    refine AW.seq ?_
    refine sr ?_
    refine st (asI rfl) rfl ?_
    refine ng ?_
    refine AW.block ?_
    refine AW.loop (fun z : Nat => (z : Int) ≤ f.2.2.2) (fun z : Nat => keep [(1, .cel (Kd.int .i64) (v : Int)), (4, .box 38 kMask (0#64, 0#64)), (7, .box 38 kMask (withM zM (upH f (v : Int) z))), (5, .cel (Kd.int .i64) f.2.2.1), (6, .cel (Kd.int .i64) f.2.2.2), (8, .cel (Kd.slice (Kd.int .i64)) (digB f.2.1)), (9, .cel (Kd.int .i64) (wid f.2.1)), (10, .cel (Kd.int .i64) (z : Int))]) (fun z : Nat => f.2.2.2.toNat - z) (0) (by omega) (Kc 1 _ (Kv rfl rfl) <| Kc 4 _ (Kb rfl rfl) <| Kc 7 _ (Kb rfl rfl) <| Kc 5 _ (Kv rfl rfl) <| Kc 6 _ (Kv rfl rfl) <| Kc 8 _ (Kv rfl (by unfold digB; split <;> first | rfl | omega)) <| Kc 9 _ (Kv rfl (by unfold wid; split <;> first | rfl | omega)) <| Kc 10 _ (Kv rfl rfl) <| Kn) ?_
    intro z hI
    refine AW.seq ?_
    refine sr ?_
    refine st (mvT rfl) rfl ?_
    refine st (mvT rfl) rfl ?_
    refine st (OpT.lss (H rfl) (T1 rfl) (T1 rfl)) rfl ?_
    refine ng ?_
    refine cd rfl (fun hc5 => ?_) fun hc5 => ?_
    ·
     obtain ⟨hc5, hc5'⟩ := pT hc5
     have hp := pow_in (b := 10) (z := (f.2.2.2 - 1 - (z : Int)).toNat) (by omega) (by omega)
     have hq := tdv_le (p := (v : Int)) (g := 10 ^ (f.2.2.2 - 1 - (z : Int)).toNat) (by omega) (by omega)
     have hd : 0 ≤ ((v : Int).tdiv (10 ^ (f.2.2.2 - 1 - (z : Int)).toNat)).tmod 10 ∧ ((v : Int).tdiv (10 ^ (f.2.2.2 - 1 - (z : Int)).toNat)).tmod 10 < 10 := digA_in f v z
     obtain ⟨b, hb, hb1⟩ := digB_get (k := f.2.1) hd
     have hwm := wid_mul f.2.1 (z : Int) (by omega)
     have hwp := wid_end hok hk12 (z := z) (by omega)
     refine AW.skip ?_
     refine AX.go ?_
     refine AW.seq ?_
     refine AW.block ?_
     refine sr ?_
     refine st (mvT rfl) rfl ?_
     refine st (mvT rfl) rfl ?_
     refine st (OpT.sub (H rfl) (T1 rfl) (I rfl) (nw (by omega))) rfl ?_
     refine st (mvT rfl) rfl ?_
     refine st (OpT.sub (H rfl) (T1 rfl) (T1 rfl) (nw (by omega))) rfl ?_
     refine st (OpT.c1 (ms := [.flat, .flat]) (c_spec_l01Power _ _ (by omega)) (H rfl) (Af (I rfl) rfl rfl <| Af (T1 rfl) rfl rfl <| An) rfl rfl) rfl ?_
     refine st (OpT.quo (H rfl) (T1 rfl) (T1 rfl) (by omega) (nw (by omega))) rfl ?_
     refine st (OpT.rem (H rfl) (T1 rfl) (I rfl) (by omega)) rfl ?_
     refine st (asT rfl) rfl ?_
     refine ng ?_
     refine dh fomo ?_
     refine d1 [7] (fun ve h => OpT.loadB (H rfl) (Root.self (t := 7) (by decide)) ((h _ (List.elem_iff.1 rfl)).trans rfl) ag38 sz38) rfl ?_
     refine d1 [5] (fun ve h => OpT.move (A := .cel _ _) (.inl rfl) rfl (ok' rfl) (D1 h rfl) rfl) rfl ?_
     refine d1 [9] (fun ve h => OpT.move (A := .cel _ _) (.inl rfl) rfl (ok' rfl) (D1 h rfl) rfl) rfl ?_
     refine d1 [10] (fun ve h => OpT.move (A := .cel _ _) (.inl rfl) rfl (ok' rfl) (D1 h rfl) rfl) rfl ?_
     refine d1 [73, 74] (fun ve h => OpT.mul (H rfl) (D1 h rfl) (D1 h rfl) (nw (by omega))) rfl ?_
     refine d1 [72, 75] (fun ve h => OpT.add (H rfl) (D1 h rfl) (D1 h rfl) (nw (by omega))) rfl ?_
     refine d1 [9] (fun ve h => OpT.move (A := .cel _ _) (.inl rfl) rfl (ok' rfl) (D1 h rfl) rfl) rfl ?_
     refine d1 [8] (fun ve h => OpT.move (A := .cel _ _) (.inl rfl) rfl (ok' rfl) (D1 h rfl) rfl) rfl ?_
     refine d1 [11] (fun ve h => OpT.move (A := .cel _ _) (.inl rfl) rfl (ok' rfl) (D1 h rfl) rfl) rfl ?_
     refine d1 [78, 79] (fun ve h => OpT.indexAddr (H rfl) (D1 h rfl) (D1 h rfl) el43 sz2 (by omega) (by assumption)) rfl ?_
     refine d1 [80] (fun ve h => OpT.load (H rfl) (D1 h rfl) ag2 rfl) rfl ?_
     refine d1 [71, 76, 77, 81] (fun ve h => OpT.c1 (ms := [.flat, .flat, .flat, .flat]) (c_spec_l01Notch _ _ _ _ (by omega)) (H rfl) (Af (D1 h rfl) rfl rfl <| Af (D1 h rfl) rfl rfl <| Af (D1 h rfl) rfl rfl <| Af (D1 h rfl) rfl rfl <| An) rfl rfl) rfl ?_
     refine dm (t := 7) [7, 82] (fun ve h => OpT.storeBA rfl rfl (Opd.whole (Root.self (t := 7) (by decide)) ((h _ (List.elem_iff.1 rfl)).trans rfl)) ((h _ (List.elem_iff.1 rfl)).trans rfl) sz38 (by decide) (D1 h rfl)) rfl ?_
     refine dn ⟨by kernel_rfl, by kernel_rfl, ?_⟩
     refine AX.normal_block ?_
     refine AX.go ?_
     refine AW.region ?_
     refine st (mvT rfl) rfl ?_
     refine st (OpT.add (H rfl) (T1 rfl) (I rfl) (nw (by omega))) rfl ?_
     refine st (asT rfl) rfl ?_
     refine nn ?_
     exact AX.again (z + 1) (by omega) (by omega) (Kc 1 _ (Kv rfl rfl) <| Kc 4 _ (Kb rfl rfl) <| Kc 7 _ (Kb rfl (by rw [← upH_next, plH]; exact ntc_dig _ _ hk12 hd hb)) <| Kc 5 _ (Kv rfl rfl) <| Kc 6 _ (Kv rfl rfl) <| Kc 8 _ (Kv rfl rfl) <| Kc 9 _ (Kv rfl rfl) <| Kc 10 _ (Kv rfl (by omega)) <| Kn)
    ·
     obtain ⟨hc5, hc5'⟩ := pF hc5
     refine AW.exit ?_
     refine xT <| xT <| AX.exit_hit ?_
     refine AX.go ?_
     refine sr ?_
     refine st (OpT.loadB (H rfl) (Root.self (t := 7) (by decide)) rfl ag38 sz38) rfl ?_
     refine sk (OpT.storeBA rfl rfl (Opd.whole (Root.self (t := 4) (by decide)) rfl) rfl sz38 (by decide) (T1 rfl)) rfl ?_
     refine AWl.to (kb 4 rfl <| Kn) ?_
     refine ng ?_
     refine AW.ret ?_
     exact AX.rt (rs := [.cell 4 38]) (ts := [none]) (.inl rfl) rfl (ROs.cons (RO.cellA (by decide) (Kb rfl (by first | exact cf_dir hc1' | exact cf_bin0 hc2' hc3' | exact cf_bin1 hc2' hc3' | exact cf_dig hok hk12 (by omega))) ag38 sz38) <| ROs.nil) (by decide) OutsOK.nil
   ·
    obtain ⟨hc4, hc4'⟩ := pF hc4
    refine AW.skip ?_
    refine AX.go ?_
    refine AW.seq ?_
    refine sr ?_
    refine st (asI rfl) rfl ?_
    refine ng ?_
    refine AW.block ?_
    refine AW.loop (fun z : Nat => (z : Int) ≤ f.2.2.2) (fun z : Nat => keep [(1, .cel (Kd.int .i64) (v : Int)), (4, .box 38 kMask (0#64, 0#64)), (7, .box 38 kMask (withM zM (upH f (v : Int) z))), (5, .cel (Kd.int .i64) f.2.2.1), (6, .cel (Kd.int .i64) f.2.2.2), (8, .cel (Kd.slice (Kd.int .i64)) (digB f.2.1)), (9, .cel (Kd.int .i64) (wid f.2.1)), (10, .cel (Kd.int .i64) (z : Int))]) (fun z : Nat => f.2.2.2.toNat - z) (0) (by omega) (Kc 1 _ (Kv rfl rfl) <| Kc 4 _ (Kb rfl rfl) <| Kc 7 _ (Kb rfl rfl) <| Kc 5 _ (Kv rfl rfl) <| Kc 6 _ (Kv rfl rfl) <| Kc 8 _ (Kv rfl (by unfold digB; split <;> first | rfl | omega)) <| Kc 9 _ (Kv rfl (by unfold wid; split <;> first | rfl | omega)) <| Kc 10 _ (Kv rfl rfl) <| Kn) ?_
    intro z hI
    refine AW.seq ?_
    refine sr ?_
    refine st (mvT rfl) rfl ?_
    refine st (mvT rfl) rfl ?_
    refine st (OpT.lss (H rfl) (T1 rfl) (T1 rfl)) rfl ?_
    refine ng ?_
    refine cd rfl (fun hc6 => ?_) fun hc6 => ?_
    ·
     obtain ⟨hc6, hc6'⟩ := pT hc6
     have hp := pow_in (b := 10) (z := (f.2.2.2 - 1 - (z : Int)).toNat) (by omega) (by omega)
     have hq := tdv_le (p := (v : Int)) (g := 10 ^ (f.2.2.2 - 1 - (z : Int)).toNat) (by omega) (by omega)
     have hd : 0 ≤ ((v : Int).tdiv (10 ^ (f.2.2.2 - 1 - (z : Int)).toNat)).tmod 10 ∧ ((v : Int).tdiv (10 ^ (f.2.2.2 - 1 - (z : Int)).toNat)).tmod 10 < 10 := digA_in f v z
     obtain ⟨b, hb, hb1⟩ := digB_get (k := f.2.1) hd
     have hwm := wid_mul f.2.1 (z : Int) (by omega)
     have hwp := wid_end hok hk12 (z := z) (by omega)
     refine AW.skip ?_
     refine AX.go ?_
     refine AW.seq ?_
     refine AW.block ?_
     refine sr ?_
     refine st (mvT rfl) rfl ?_
     refine st (mvT rfl) rfl ?_
     refine st (OpT.sub (H rfl) (T1 rfl) (I rfl) (nw (by omega))) rfl ?_
     refine st (mvT rfl) rfl ?_
     refine st (OpT.sub (H rfl) (T1 rfl) (T1 rfl) (nw (by omega))) rfl ?_
     refine st (OpT.c1 (ms := [.flat, .flat]) (c_spec_l01Power _ _ (by omega)) (H rfl) (Af (I rfl) rfl rfl <| Af (T1 rfl) rfl rfl <| An) rfl rfl) rfl ?_
     refine st (OpT.quo (H rfl) (T1 rfl) (T1 rfl) (by omega) (nw (by omega))) rfl ?_
     refine st (OpT.rem (H rfl) (T1 rfl) (I rfl) (by omega)) rfl ?_
     refine st (asT rfl) rfl ?_
     refine ng ?_
     refine dh fomo ?_
     refine d1 [7] (fun ve h => OpT.loadB (H rfl) (Root.self (t := 7) (by decide)) ((h _ (List.elem_iff.1 rfl)).trans rfl) ag38 sz38) rfl ?_
     refine d1 [5] (fun ve h => OpT.move (A := .cel _ _) (.inl rfl) rfl (ok' rfl) (D1 h rfl) rfl) rfl ?_
     refine d1 [9] (fun ve h => OpT.move (A := .cel _ _) (.inl rfl) rfl (ok' rfl) (D1 h rfl) rfl) rfl ?_
     refine d1 [10] (fun ve h => OpT.move (A := .cel _ _) (.inl rfl) rfl (ok' rfl) (D1 h rfl) rfl) rfl ?_
     refine d1 [73, 74] (fun ve h => OpT.mul (H rfl) (D1 h rfl) (D1 h rfl) (nw (by omega))) rfl ?_
     refine d1 [72, 75] (fun ve h => OpT.add (H rfl) (D1 h rfl) (D1 h rfl) (nw (by omega))) rfl ?_
     refine d1 [9] (fun ve h => OpT.move (A := .cel _ _) (.inl rfl) rfl (ok' rfl) (D1 h rfl) rfl) rfl ?_
     refine d1 [8] (fun ve h => OpT.move (A := .cel _ _) (.inl rfl) rfl (ok' rfl) (D1 h rfl) rfl) rfl ?_
     refine d1 [11] (fun ve h => OpT.move (A := .cel _ _) (.inl rfl) rfl (ok' rfl) (D1 h rfl) rfl) rfl ?_
     refine d1 [78, 79] (fun ve h => OpT.indexAddr (H rfl) (D1 h rfl) (D1 h rfl) el43 sz2 (by omega) (by assumption)) rfl ?_
     refine d1 [80] (fun ve h => OpT.load (H rfl) (D1 h rfl) ag2 rfl) rfl ?_
     refine d1 [71, 76, 77, 81] (fun ve h => OpT.c1 (ms := [.flat, .flat, .flat, .flat]) (c_spec_l01Notch _ _ _ _ (by omega)) (H rfl) (Af (D1 h rfl) rfl rfl <| Af (D1 h rfl) rfl rfl <| Af (D1 h rfl) rfl rfl <| Af (D1 h rfl) rfl rfl <| An) rfl rfl) rfl ?_
     refine dm (t := 7) [7, 82] (fun ve h => OpT.storeBA rfl rfl (Opd.whole (Root.self (t := 7) (by decide)) ((h _ (List.elem_iff.1 rfl)).trans rfl)) ((h _ (List.elem_iff.1 rfl)).trans rfl) sz38 (by decide) (D1 h rfl)) rfl ?_
     refine dn ⟨by kernel_rfl, by kernel_rfl, ?_⟩
     refine AX.normal_block ?_
     refine AX.go ?_
     refine AW.region ?_
     refine st (mvT rfl) rfl ?_
     refine st (OpT.add (H rfl) (T1 rfl) (I rfl) (nw (by omega))) rfl ?_
     refine st (asT rfl) rfl ?_
     refine nn ?_
     exact AX.again (z + 1) (by omega) (by omega) (Kc 1 _ (Kv rfl rfl) <| Kc 4 _ (Kb rfl rfl) <| Kc 7 _ (Kb rfl (by rw [← upH_next, plH]; exact ntc_dig _ _ hk12 hd hb)) <| Kc 5 _ (Kv rfl rfl) <| Kc 6 _ (Kv rfl rfl) <| Kc 8 _ (Kv rfl rfl) <| Kc 9 _ (Kv rfl rfl) <| Kc 10 _ (Kv rfl (by omega)) <| Kn)
    ·
     obtain ⟨hc6, hc6'⟩ := pF hc6
     refine AW.exit ?_
     refine xT <| xT <| AX.exit_hit ?_
     refine AX.go ?_
     refine sr ?_
     refine st (OpT.loadB (H rfl) (Root.self (t := 7) (by decide)) rfl ag38 sz38) rfl ?_
     refine sk (OpT.storeBA rfl rfl (Opd.whole (Root.self (t := 4) (by decide)) rfl) rfl sz38 (by decide) (T1 rfl)) rfl ?_
     refine AWl.to (kb 4 rfl <| Kn) ?_
     refine ng ?_
     refine AW.ret ?_
     exact AX.rt (rs := [.cell 4 38]) (ts := [none]) (.inl rfl) rfl (ROs.cons (RO.cellA (by decide) (Kb rfl (by first | exact cf_dir hc1' | exact cf_bin0 hc2' hc3' | exact cf_bin1 hc2' hc3' | exact cf_dig hok hk12 (by omega))) ag38 sz38) <| ROs.nil) (by decide) OutsOK.nil
end Go.Proofs.YtmmjcpiikdcldaaGreatDoor.VL
