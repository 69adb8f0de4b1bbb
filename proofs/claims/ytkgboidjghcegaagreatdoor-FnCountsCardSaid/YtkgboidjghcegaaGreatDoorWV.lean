/- Proved here: what some functions of the program take and give: walks with the words of VA..VQ. Printed by program. -/
import Derived.Test.YtkgboidjghcegaaGreatDoorWT
import Derived.Test.YtkgboidjghcegaaGreatDoorBpa
import Derived.Test.YtkgboidjghcegaaGreatDoorWP
import Derived.Test.YtkgboidjghcegaaGreatDoorWB
import Derived.Test.YtkgboidjghcegaaGreatDoorWN
set_option linter.unusedVariables false
set_option linter.unusedSimpArgs false
set_option maxRecDepth 4000
namespace Go.Proofs.YtkgboidjghcegaaGreatDoor.VL
open Go
/-- spec.l01Power -/
theorem c_spec_l01Power (b n : Int) (h : 1 ≤ b ∧ b ≤ 10 ∧ 0 ≤ n ∧ n ≤ 12) : AC Tryz.prog 107 [.cel (Kd.int .i64) b, .cel (Kd.int .i64) n] [.cel (Kd.int .i64) (b ^ n.toNat)] [] := by
 refine acI (N := 16) Tryz.func107 (Nat.le_of_ble_eq_true rfl) rfl fun w0 hd s0 ar => ?_
 refine AW.to (kc2 0 1 rfl <| Kn) ?_
 refine sr ?_
 refine st (asI rfl) rfl ?_
 refine ng ?_
 refine sr ?_
 refine st (asI rfl) rfl ?_
 refine ng ?_
 refine AW.seq ?_
 refine sr ?_
 refine st (asI rfl) rfl ?_
 refine ng ?_
 refine AW.block ?_
 refine AW.loop (fun z : Nat => z ≤ n.toNat) (fun z : Nat => keep [(0, .cel (Kd.int .i64) b), (1, .cel (Kd.int .i64) n), (5, .cel (Kd.int .i64) (b ^ z)), (6, .cel (Kd.int .i64) (z : Int))]) (fun z : Nat => n.toNat - z) (0) (Nat.zero_le _) (Kc 0 _ (Kv rfl rfl) <| Kc 1 _ (Kv rfl rfl) <| Kc 5 _ (Kv rfl (Int.pow_zero b).symm) <| Kc 6 _ (Kv rfl rfl) <| Kn) ?_
 intro z hI
 have hp := pow_mul (b := b) (by omega) (z := z) (by omega)
 refine AW.seq ?_
 refine sr ?_
 refine st (mvT rfl) rfl ?_
 refine st (mvT rfl) rfl ?_
 refine st (OpT.lss (H rfl) (T1 rfl) (T1 rfl)) rfl ?_
 refine ng ?_
 refine cd rfl (fun hc1 => ?_) fun hc1 => ?_
 ·
  obtain ⟨hc1, hc1'⟩ := pT hc1
  refine AW.skip ?_
  refine AX.go ?_
  refine AW.seq ?_
  refine AW.block ?_
  refine AW.region ?_
  refine st (mvT rfl) rfl ?_
  refine st (mvT rfl) rfl ?_
  refine st (OpT.mul (H rfl) (T1 rfl) (T1 rfl) (nw (by omega))) rfl ?_
  refine st (asT rfl) rfl ?_
  refine nn ?_
  refine AX.normal_block ?_
  refine AX.go ?_
  refine AW.region ?_
  refine st (mvT rfl) rfl ?_
  refine st (OpT.add (H rfl) (T1 rfl) (I rfl) (nw (by omega))) rfl ?_
  refine st (asT rfl) rfl ?_
  refine nn ?_
  exact AX.again (z + 1) (by omega) (by omega) (Kc 0 _ (Kv rfl rfl) <| Kc 1 _ (Kv rfl rfl) <| Kc 5 _ (Kv rfl (pow_next b z)) <| Kc 6 _ (Kv rfl (by omega)) <| Kn)
 ·
  obtain ⟨hc1, hc1'⟩ := pF hc1
  refine AW.exit ?_
  refine xT <| xT <| AX.exit_hit ?_
  refine AX.go ?_
  refine sr ?_
  refine st (mvT rfl) rfl ?_
  refine st (asT rfl) rfl ?_
  refine ng ?_
  refine AW.ret ?_
  exact rt1 rfl (.inl rfl) (by rw [show z = n.toNat by omega])

/-- spec.l01Sums -/
theorem c_spec_l01Sums  : AC Tryz.prog 105 [] [.cel (Kd.slice (Kd.int .i64)) sumB] [] := by
 refine acI (N := 2) Tryz.func105 (Nat.le_of_ble_eq_true rfl) rfl fun w0 hd s0 ar => ?_
 refine AW.to (Kn) ?_
 refine sr ?_
 refine st (OpT.move (A := .cel _ _) (.inr rfl) rfl (ok' rfl) (Opd.nilslice (Kd.int .i64)) rfl) rfl ?_
 refine ng ?_
 refine sr ?_
 refine st (OpT.buildSlice (H rfl) el81 zr2 sz2 rfl (by decide) zk2 (by decide) (Built.cel (I rfl) rfl rfl (sub_arr (by decide) (0 : Int)) (Built.cel (I rfl) rfl rfl (sub_arr (by decide) (0 : Int)) (Built.cel (I rfl) rfl rfl (sub_arr (by decide) (0 : Int)) (Built.cel (I rfl) rfl rfl (sub_arr (by decide) (0 : Int)) (Built.cel (I rfl) rfl rfl (sub_arr (by decide) (0 : Int)) (Built.cel (I rfl) rfl rfl (sub_arr (by decide) (0 : Int)) (Built.cel (I rfl) rfl rfl (sub_arr (by decide) (0 : Int)) (Built.cel (I rfl) rfl rfl (sub_arr (by decide) (0 : Int)) (Built.cel (I rfl) rfl rfl (sub_arr (by decide) (0 : Int)) (Built.cel (I rfl) rfl rfl (sub_arr (by decide) (0 : Int)) (Built.nil _)))))))))))) rfl ?_
 refine sg (OpT.take (.inl rfl) rfl (ok' rfl) (Root.self (by decide)) rfl rfl (by decide)) (ko 0 rfl <| Kn) rfl ?_
 refine ng ?_
 refine AW.ret ?_
 refine AX.freeze (t := 0) rfl ?_
 refine AX.pr (kc 0 rfl <| Kn) ?_
 exact rt1 rfl (.inl rfl) rfl

/-- spec.l01Pairs -/
theorem c_spec_l01Pairs  : AC Tryz.prog 106 [] [.cel (Kd.slice (Kd.int .i64)) pairB] [] := by
 refine acI (N := 2) Tryz.func106 (Nat.le_of_ble_eq_true rfl) rfl fun w0 hd s0 ar => ?_
 refine AW.to (Kn) ?_
 refine sr ?_
 refine st (OpT.move (A := .cel _ _) (.inr rfl) rfl (ok' rfl) (Opd.nilslice (Kd.int .i64)) rfl) rfl ?_
 refine ng ?_
 refine sr ?_
 refine st (OpT.buildSlice (H rfl) el81 zr2 sz2 rfl (by decide) zk2 (by decide) (Built.cel (I rfl) rfl rfl (sub_arr (by decide) (0 : Int)) (Built.cel (I rfl) rfl rfl (sub_arr (by decide) (0 : Int)) (Built.cel (I rfl) rfl rfl (sub_arr (by decide) (0 : Int)) (Built.cel (I rfl) rfl rfl (sub_arr (by decide) (0 : Int)) (Built.cel (I rfl) rfl rfl (sub_arr (by decide) (0 : Int)) (Built.cel (I rfl) rfl rfl (sub_arr (by decide) (0 : Int)) (Built.cel (I rfl) rfl rfl (sub_arr (by decide) (0 : Int)) (Built.cel (I rfl) rfl rfl (sub_arr (by decide) (0 : Int)) (Built.cel (I rfl) rfl rfl (sub_arr (by decide) (0 : Int)) (Built.cel (I rfl) rfl rfl (sub_arr (by decide) (0 : Int)) (Built.nil _)))))))))))) rfl ?_
 refine sg (OpT.take (.inl rfl) rfl (ok' rfl) (Root.self (by decide)) rfl rfl (by decide)) (ko 0 rfl <| Kn) rfl ?_
 refine ng ?_
 refine AW.ret ?_
 refine AX.freeze (t := 0) rfl ?_
 refine AX.pr (kc 0 rfl <| Kn) ?_
 exact rt1 rfl (.inl rfl) rfl

/-- spec.l01Most -/
theorem c_spec_l01Most (f : DField) (hok : fieldOK f) : AC Tryz.prog 112 [.cel (Kd.ptr kField) f] [.cel (Kd.int .i64) (topF f)] [] := by
 refine acI (N := 31) Tryz.func112 (Nat.le_of_ble_eq_true rfl) rfl fun w0 hd s0 ar => ?_
 refine AW.to (kc 0 rfl <| Kn) ?_
 have hsz := size_in hok
 have hp2 := fun h0 => pow_in (b := 2) (z := f.2.2.2.toNat) (by omega) (h0 : f.2.2.2.toNat ≤ 12)
 have hp10 := fun h0 => pow_in (b := 10) (z := f.2.2.2.toNat) (by omega) (h0 : f.2.2.2.toNat ≤ 12)
 refine sr ?_
 refine st (asI rfl) rfl ?_
 refine ng ?_
 refine AW.seq ?_
 refine sr ?_
 refine st (mvT rfl) rfl ?_
 refine st (OpT.nilCheck (H rfl) (T1 rfl)) rfl ?_
 refine st (OpT.fieldAddr (H rfl) (T1 rfl) fd80_1 sz68 (by decide) sb80_1) rfl ?_
 refine st (OpT.load (H rfl) (T1 rfl) ag68 rfl) rfl ?_
 refine ng ?_
 refine AW.block ?_
 refine sr ?_
 refine st (OpT.eql (H rfl) (T1 rfl) (I rfl)) rfl ?_
 refine st (asT rfl) rfl ?_
 refine ng ?_
 refine cd rfl (fun hc1 => ?_) fun hc1 => ?_
 ·
  obtain ⟨hc1, hc1'⟩ := pT hc1
  refine sr ?_
  refine st (mvT rfl) rfl ?_
  refine st (OpT.nilCheck (H rfl) (T1 rfl)) rfl ?_
  refine st (OpT.fieldAddr (H rfl) (T1 rfl) fd80_3 sz69 (by decide) sb80_3) rfl ?_
  refine st (OpT.load (H rfl) (T1 rfl) ag69 rfl) rfl ?_
  refine st (OpT.conv (H rfl) us69 Tryz.underlying2 (T1 rfl) (nw (by omega))) rfl ?_
  refine st (OpT.sub (H rfl) (T1 rfl) (I rfl) (nw (by omega))) rfl ?_
  refine st (asT rfl) rfl ?_
  refine AWl.to (kc2 2 0 rfl <| Kn) ?_
  refine ng ?_
  refine AW.ret ?_
  refine rK <| rT ?_
  exact rt1 rfl (.inl rfl) (by unfold topF; (repeat' split) <;> first | rfl | omega)
 ·
  obtain ⟨hc1, hc1'⟩ := pF hc1
  refine sr ?_
  refine st (OpT.eql (H rfl) (T1 rfl) (I rfl)) rfl ?_
  refine st (asT rfl) rfl ?_
  refine ng ?_
  refine cd rfl (fun hc2 => ?_) fun hc2 => ?_
  ·
   obtain ⟨hc2, hc2'⟩ := pT hc2
   refine sr ?_
   refine st (mvT rfl) rfl ?_
   refine st (OpT.nilCheck (H rfl) (T1 rfl)) rfl ?_
   refine st (OpT.fieldAddr (H rfl) (T1 rfl) fd80_3 sz69 (by decide) sb80_3) rfl ?_
   refine st (OpT.load (H rfl) (T1 rfl) ag69 rfl) rfl ?_
   refine st (OpT.conv (H rfl) us69 Tryz.underlying2 (T1 rfl) (nw (by omega))) rfl ?_
   refine st (OpT.c1 (ms := [.flat, .flat]) (c_spec_l01Power _ _ (by omega)) (H rfl) (Af (I rfl) rfl rfl <| Af (T1 rfl) rfl rfl <| An) rfl rfl) rfl ?_
   refine st (OpT.sub (H rfl) (T1 rfl) (I rfl) (nw (by have := hp2 (by omega); omega))) rfl ?_
   refine st (asT rfl) rfl ?_
   refine AWl.to (kc2 2 0 rfl <| Kn) ?_
   refine ng ?_
   refine AW.ret ?_
   refine rK <| rT ?_
   exact rt1 rfl (.inl rfl) (by unfold topF; (repeat' split) <;> first | rfl | omega)
  ·
   obtain ⟨hc2, hc2'⟩ := pF hc2
   refine AW.skip ?_
   refine AX.normal_block ?_
   refine AX.go ?_
   refine sr ?_
   refine st (mvT rfl) rfl ?_
   refine st (OpT.nilCheck (H rfl) (T1 rfl)) rfl ?_
   refine st (OpT.fieldAddr (H rfl) (T1 rfl) fd80_3 sz69 (by decide) sb80_3) rfl ?_
   refine st (OpT.load (H rfl) (T1 rfl) ag69 rfl) rfl ?_
   refine st (OpT.conv (H rfl) us69 Tryz.underlying2 (T1 rfl) (nw (by omega))) rfl ?_
   refine st (OpT.c1 (ms := [.flat, .flat]) (c_spec_l01Power _ _ (by omega)) (H rfl) (Af (I rfl) rfl rfl <| Af (T1 rfl) rfl rfl <| An) rfl rfl) rfl ?_
   refine st (OpT.sub (H rfl) (T1 rfl) (I rfl) (nw (by have := hp10 (by omega); omega))) rfl ?_
   refine st (asT rfl) rfl ?_
   refine AWl.to (kc 2 rfl <| Kn) ?_
   refine ng ?_
   refine AW.ret ?_
   exact rt1 rfl (.inl rfl) (by unfold topF; (repeat' split) <;> first | rfl | omega)

/-- spec.l01Notch -/
theorem c_spec_l01Notch (m : DMask) (s w b : Int) (h : 0 ≤ s ∧ s + w ≤ 128 ∧ 0 ≤ w ∧ w ≤ 12 ∧ 0 ≤ b ∧ b ≤ 9999) : AC Tryz.prog 103 [.agg kMask m, .cel (Kd.int .i64) s, .cel (Kd.int .i64) w, .cel (Kd.int .i64) b] [.agg kMask (ntc m s w b w.toNat)] [] := by
 refine acI (N := 31) Tryz.func103 (Nat.le_of_ble_eq_true rfl) rfl fun w0 hd s0 ar => ?_
 refine AW.to (ka 0 rfl <| kc3 1 2 3 rfl <| Kn) ?_
 refine sr ?_
 refine st (OpT.boxA (E := 84) (H rfl) (T1 rfl)) rfl ?_
 refine st (OpT.alloc (H rfl) zr84 zk84) rfl ?_
 refine ng ?_
 refine AW.seq ?_
 refine sr ?_
 refine st (asI rfl) rfl ?_
 refine ng ?_
 refine AW.block ?_
 refine AW.loop (fun z : Nat => z ≤ w.toNat) (fun z : Nat => keep [(1, .cel (Kd.int .i64) s), (2, .cel (Kd.int .i64) w), (3, .cel (Kd.int .i64) b), (4, .box 84 kMask (ntc m s w b z)), (8, .box 84 kMask (0#64, 0#64)), (9, .cel (Kd.int .i64) (z : Int))]) (fun z : Nat => w.toNat - z) (0) (Nat.zero_le _) (Kc 1 _ (Kv rfl rfl) <| Kc 2 _ (Kv rfl rfl) <| Kc 3 _ (Kv rfl rfl) <| Kc 4 _ (Kb rfl rfl) <| Kc 8 _ (Kb rfl rfl) <| Kc 9 _ (Kv rfl rfl) <| Kn) ?_
 intro z hI
 refine AW.seq ?_
 refine sr ?_
 refine st (mvT rfl) rfl ?_
 refine st (mvT rfl) rfl ?_
 refine st (OpT.lss (H rfl) (T1 rfl) (T1 rfl)) rfl ?_
 refine ng ?_
 refine cd rfl (fun hc1 => ?_) fun hc1 => ?_
 ·
  obtain ⟨hc1, hc1'⟩ := pT hc1
  have hp := pow_in (b := 2) (z := (w - 1 - (z : Int)).toNat) (by omega) (by omega)
  have hq := tdv_le (p := b) (g := 2 ^ (w - 1 - (z : Int)).toNat) (by omega) (by omega)
  refine AW.skip ?_
  refine AX.go ?_
  refine AW.seq ?_
  refine AW.block ?_
  refine sr ?_
  refine st (mvT rfl) rfl ?_
  refine st (mvT rfl) rfl ?_
  refine st (OpT.sub (H rfl) (T1 rfl) (I rfl) (nw (by omega))) rfl ?_
  refine st (mvT rfl) rfl ?_
  refine st (OpT.sub (H rfl) (T1 rfl) (T1 rfl) (nw (by omega))) rfl ?_
  refine st (OpT.c1 (ms := [.flat, .flat]) (c_spec_l01Power _ _ (by omega)) (H rfl) (Af (I rfl) rfl rfl <| Af (T1 rfl) rfl rfl <| An) rfl rfl) rfl ?_
  refine st (OpT.quo (H rfl) (T1 rfl) (T1 rfl) (by omega) (nw (by omega))) rfl ?_
  refine st (OpT.rem (H rfl) (T1 rfl) (I rfl) (by omega)) rfl ?_
  refine st (OpT.eql (H rfl) (T1 rfl) (I rfl)) rfl ?_
  refine ng ?_
  refine cd rfl (fun hc2 => ?_) fun hc2 => ?_
  ·
   obtain ⟨hc2, hc2'⟩ := pT hc2
   refine dh fomo ?_
   refine d1 [4] (fun ve h => OpT.loadB (H rfl) (Root.self (t := 4) (by decide)) ((h _ (List.elem_iff.1 rfl)).trans rfl) ag84 sz84) rfl ?_
   refine d1 [1] (fun ve h => OpT.move (A := .cel _ _) (.inl rfl) rfl (ok' rfl) (D1 h rfl) rfl) rfl ?_
   refine d1 [9] (fun ve h => OpT.move (A := .cel _ _) (.inl rfl) rfl (ok' rfl) (D1 h rfl) rfl) rfl ?_
   refine d1 [25, 26] (fun ve h => OpT.add (H rfl) (D1 h rfl) (D1 h rfl) (nw (by omega))) rfl ?_
   refine d1 [27] (fun ve h => OpT.c1 (ms := [.flat]) (c_spec_l01Bit _ (by omega)) (H rfl) (Af (D1 h rfl) rfl rfl <| An) rfl rfl) rfl ?_
   refine d1 [24, 28] (fun ve h => OpT.c1 (ms := [.flat, .flat]) (c_spec_l01Join _ _) (H rfl) (Af (D1 h rfl) rfl rfl <| Af (D1 h rfl) rfl rfl <| An) rfl rfl) rfl ?_
   refine dm (t := 4) [4, 29] (fun ve h => OpT.storeBA rfl rfl (Opd.whole (Root.self (t := 4) (by decide)) ((h _ (List.elem_iff.1 rfl)).trans rfl)) ((h _ (List.elem_iff.1 rfl)).trans rfl) sz84 (by decide) (D1 h rfl)) rfl ?_
   refine dn ⟨by kernel_rfl, by kernel_rfl, ?_⟩
   refine AX.normal_block ?_
   refine AX.go ?_
   refine AW.region ?_
   refine st (mvT rfl) rfl ?_
   refine st (OpT.add (H rfl) (T1 rfl) (I rfl) (nw (by omega))) rfl ?_
   refine st (asT rfl) rfl ?_
   refine nn ?_
   exact AX.again (z + 1) (by omega) (by omega) (Kc 1 _ (Kv rfl rfl) <| Kc 2 _ (Kv rfl rfl) <| Kc 3 _ (Kv rfl rfl) <| Kc 4 _ (Kb rfl (by first | exact ntc_yes hc2 | exact ntc_no hc2)) <| Kc 8 _ (Kb rfl rfl) <| Kc 9 _ (Kv rfl (by omega)) <| Kn)
  ·
   obtain ⟨hc2, hc2'⟩ := pF hc2
   refine AW.skip ?_
   refine AX.normal_block ?_
   refine AX.go ?_
   refine AW.region ?_
   refine st (mvT rfl) rfl ?_
   refine st (OpT.add (H rfl) (T1 rfl) (I rfl) (nw (by omega))) rfl ?_
   refine st (asT rfl) rfl ?_
   refine nn ?_
   exact AX.again (z + 1) (by omega) (by omega) (Kc 1 _ (Kv rfl rfl) <| Kc 2 _ (Kv rfl rfl) <| Kc 3 _ (Kv rfl rfl) <| Kc 4 _ (Kb rfl (by first | exact ntc_yes hc2 | exact ntc_no hc2)) <| Kc 8 _ (Kb rfl rfl) <| Kc 9 _ (Kv rfl (by omega)) <| Kn)
 ·
  obtain ⟨hc1, hc1'⟩ := pF hc1
  refine AW.exit ?_
  refine xT <| xT <| AX.exit_hit ?_
  refine AX.go ?_
  refine sr ?_
  refine st (OpT.loadB (H rfl) (Root.self (t := 4) (by decide)) rfl ag84 sz84) rfl ?_
  refine sk (OpT.storeBA rfl rfl (Opd.whole (Root.self (t := 8) (by decide)) rfl) rfl sz84 (by decide) (T1 rfl)) rfl ?_
  refine ng ?_
  refine AW.ret ?_
  exact AX.rt (rs := [.cell 8 84]) (ts := [none]) (.inl rfl) rfl (ROs.cons (RO.cellA (by decide) (Kb rfl (by rw [show z = w.toNat by omega])) ag84 sz84) <| ROs.nil) (by decide) OutsOK.nil

set_option maxHeartbeats 4000000 in
/-- spec.l01Code -/
theorem c_spec_l01Code (f : DField) (v : Nat) (hok : fieldOK f) (hv : (v : Int) ≤ topF f) : AC Tryz.prog 71 [.cel (Kd.ptr kField) f, .cel (Kd.int .i64) (v : Int)] [.agg kMask (codeF f (v : Int))] [] := by
 refine acI (N := 84) Tryz.func71 (Nat.le_of_ble_eq_true rfl) rfl fun w0 hd s0 ar => ?_
 refine AW.to (kc2 0 1 rfl <| Kn) ?_
 have hsz := size_in hok
 have hfw := field_width hok
 have htp := top_in hok
 have hw0 := cf_top hok
 refine sr ?_
 refine st (OpT.alloc (H rfl) zr84 zk84) rfl ?_
 refine ng ?_
 refine sr ?_
 refine st (mvT rfl) rfl ?_
 refine st (OpT.nilCheck (H rfl) (T1 rfl)) rfl ?_
 refine st (OpT.fieldAddr (H rfl) (T1 rfl) fd80_2 sz69 (by decide) sb80_2) rfl ?_
 refine st (OpT.load (H rfl) (T1 rfl) ag69 rfl) rfl ?_
 refine st (OpT.conv (H rfl) us69 Tryz.underlying2 (T1 rfl) (nw (by omega))) rfl ?_
 refine st (asT rfl) rfl ?_
 refine ng ?_
 refine sr ?_
 refine st (mvT rfl) rfl ?_
 refine st (OpT.nilCheck (H rfl) (T1 rfl)) rfl ?_
 refine st (OpT.fieldAddr (H rfl) (T1 rfl) fd80_3 sz69 (by decide) sb80_3) rfl ?_
 refine st (OpT.load (H rfl) (T1 rfl) ag69 rfl) rfl ?_
 refine st (OpT.conv (H rfl) us69 Tryz.underlying2 (T1 rfl) (nw (by omega))) rfl ?_
 refine st (asT rfl) rfl ?_
 refine ng ?_
 refine sr ?_
 refine st (OpT.buildA (H rfl) ar84 sz73 zr84 zk84 (Built.nil _)) rfl ?_
 refine st (OpT.alloc (H rfl) zr84 zk84) rfl ?_
 refine sk (OpT.storeBA rfl rfl (Opd.whole (Root.self (t := 7) (by decide)) rfl) rfl sz84 (by decide) (T1 rfl)) rfl ?_
 refine AWl.to (kb 7 rfl <| kc2 6 5 rfl <| kb 4 rfl <| kc2 0 1 rfl <| Kn) ?_
 refine ng ?_
 refine AW.seq ?_
 refine sr ?_
 refine st (mvT rfl) rfl ?_
 refine st (OpT.nilCheck (H rfl) (T1 rfl)) rfl ?_
 refine st (OpT.fieldAddr (H rfl) (T1 rfl) fd80_1 sz68 (by decide) sb80_1) rfl ?_
 refine st (OpT.load (H rfl) (T1 rfl) ag68 rfl) rfl ?_
 refine ng ?_
 refine AW.block ?_
 refine sr ?_
 refine st (OpT.eql (H rfl) (T1 rfl) (I rfl)) rfl ?_
 refine st (asT rfl) rfl ?_
 refine ng ?_
 refine cd rfl (fun hc1 => ?_) fun hc1 => ?_
 ·
  obtain ⟨hc1, hc1'⟩ := pT hc1
  refine sr ?_
  refine st (mvT rfl) rfl ?_
  refine st (mvT rfl) rfl ?_
  refine st (OpT.add (H rfl) (T1 rfl) (T1 rfl) (nw (by omega))) rfl ?_
  refine st (OpT.c1 (ms := [.flat]) (c_spec_l01Bit _ (by omega)) (H rfl) (Af (T1 rfl) rfl rfl <| An) rfl rfl) rfl ?_
  refine sk (OpT.storeBA rfl rfl (Opd.whole (Root.self (t := 4) (by decide)) rfl) rfl sz84 (by decide) (T1 rfl)) rfl ?_
  refine AWl.to (kb 4 rfl <| kb 7 rfl <| kc4 6 5 0 1 rfl <| Kn) ?_
  refine ng ?_
  refine AW.ret ?_
  refine rK <| rT ?_
  exact AX.rt (rs := [.cell 4 84]) (ts := [none]) (.inl rfl) rfl (ROs.cons (RO.cellA (by decide) (Kb rfl (by first | exact cf_dir hc1' | exact cf_bin0 hc2' hc3' | exact cf_bin1 hc2' hc3' | exact cf_dig hok hk12 (by omega))) ag84 sz84) <| ROs.nil) (by decide) OutsOK.nil
 ·
  obtain ⟨hc1, hc1'⟩ := pF hc1
  have hk0 := hc1'
  refine sr ?_
  refine st (OpT.eql (H rfl) (T1 rfl) (I rfl)) rfl ?_
  refine st (asT rfl) rfl ?_
  refine ng ?_
  refine cd rfl (fun hc2 => ?_) fun hc2 => ?_
  ·
   obtain ⟨hc2, hc2'⟩ := pT hc2
   have hwd : widthF f = f.2.2.2 + 1 := by unfold widthF; rw [hc2']; rfl
   refine sr ?_
   refine st (OpT.loadB (H rfl) (Root.self (t := 7) (by decide)) rfl ag84 sz84) rfl ?_
   refine st (mvT rfl) rfl ?_
   refine st (mvT rfl) rfl ?_
   refine st (mvT rfl) rfl ?_
   refine st (OpT.c1 (ms := [.flat, .flat, .flat, .flat]) (c_spec_l01Notch _ _ _ _ (by omega)) (H rfl) (Af (T1 rfl) rfl rfl <| Af (T1 rfl) rfl rfl <| Af (T1 rfl) rfl rfl <| Af (T1 rfl) rfl rfl <| An) rfl rfl) rfl ?_
   refine sk (OpT.storeBA rfl rfl (Opd.whole (Root.self (t := 7) (by decide)) rfl) rfl sz84 (by decide) (T1 rfl)) rfl ?_
   refine AWl.to (kb 7 rfl <| kc2 6 5 rfl <| kb 4 rfl <| kc2 0 1 rfl <| Kn) ?_
   refine ng ?_
   refine AW.seq ?_
   refine sr ?_
   refine st (OpT.loadB (H rfl) (Root.self (t := 7) (by decide)) rfl ag84 sz84) rfl ?_
   refine st (OpT.c1 (ms := [.flat]) (c_spec_CountHoles _) (H rfl) (Af (T1 rfl) rfl rfl <| An) rfl rfl) rfl ?_
   refine st (OpT.rem (H rfl) (T1 rfl) (I rfl) (by omega)) rfl ?_
   refine st (OpT.eql (H rfl) (T1 rfl) (I rfl)) rfl ?_
   refine AWl.to (kc 43 rfl <| kb 7 rfl <| kc2 6 5 rfl <| kb 4 rfl <| kc2 0 1 rfl <| Kn) ?_
   refine ng ?_
   refine cd rfl (fun hc3 => ?_) fun hc3 => ?_
   ·
    obtain ⟨hc3, hc3'⟩ := pT hc3
    refine dh fomo ?_
    refine d1 [7] (fun ve h => OpT.loadB (H rfl) (Root.self (t := 7) (by decide)) ((h _ (List.elem_iff.1 rfl)).trans rfl) ag84 sz84) rfl ?_
    refine d1 [5] (fun ve h => OpT.move (A := .cel _ _) (.inl rfl) rfl (ok' rfl) (D1 h rfl) rfl) rfl ?_
    refine d1 [6] (fun ve h => OpT.move (A := .cel _ _) (.inl rfl) rfl (ok' rfl) (D1 h rfl) rfl) rfl ?_
    refine d1 [45, 46] (fun ve h => OpT.add (H rfl) (D1 h rfl) (D1 h rfl) (nw (by omega))) rfl ?_
    refine d1 [47] (fun ve h => OpT.c1 (ms := [.flat]) (c_spec_l01Bit _ (by omega)) (H rfl) (Af (D1 h rfl) rfl rfl <| An) rfl rfl) rfl ?_
    refine d1 [44, 48] (fun ve h => OpT.c1 (ms := [.flat, .flat]) (c_spec_l01Join _ _) (H rfl) (Af (D1 h rfl) rfl rfl <| Af (D1 h rfl) rfl rfl <| An) rfl rfl) rfl ?_
    refine dm (t := 7) [7, 49] (fun ve h => OpT.storeBA rfl rfl (Opd.whole (Root.self (t := 7) (by decide)) ((h _ (List.elem_iff.1 rfl)).trans rfl)) ((h _ (List.elem_iff.1 rfl)).trans rfl) sz84 (by decide) (D1 h rfl)) rfl ?_
    refine dn ⟨by kernel_rfl, by kernel_rfl, ?_⟩
    refine AX.go ?_
    refine sr ?_
    refine st (OpT.loadB (H rfl) (Root.self (t := 7) (by decide)) rfl ag84 sz84) rfl ?_
    refine sk (OpT.storeBA rfl rfl (Opd.whole (Root.self (t := 4) (by decide)) rfl) rfl sz84 (by decide) (T1 rfl)) rfl ?_
    refine ng ?_
    refine AW.ret ?_
    refine rK <| rT ?_
    exact AX.rt (rs := [.cell 4 84]) (ts := [none]) (.inl rfl) rfl (ROs.cons (RO.cellA (by decide) (Kb rfl (by first | exact cf_dir hc1' | exact cf_bin0 hc2' hc3' | exact cf_bin1 hc2' hc3' | exact cf_dig hok hk12 (by omega))) ag84 sz84) <| ROs.nil) (by decide) OutsOK.nil
   ·
    obtain ⟨hc3, hc3'⟩ := pF hc3
    refine AW.skip ?_
    refine AX.go ?_
    refine sr ?_
    refine st (OpT.loadB (H rfl) (Root.self (t := 7) (by decide)) rfl ag84 sz84) rfl ?_
    refine sk (OpT.storeBA rfl rfl (Opd.whole (Root.self (t := 4) (by decide)) rfl) rfl sz84 (by decide) (T1 rfl)) rfl ?_
    refine ng ?_
    refine AW.ret ?_
    refine rK <| rT ?_
    exact AX.rt (rs := [.cell 4 84]) (ts := [none]) (.inl rfl) rfl (ROs.cons (RO.cellA (by decide) (Kb rfl (by first | exact cf_dir hc1' | exact cf_bin0 hc2' hc3' | exact cf_bin1 hc2' hc3' | exact cf_dig hok hk12 (by omega))) ag84 sz84) <| ROs.nil) (by decide) OutsOK.nil
  ·
   obtain ⟨hc2, hc2'⟩ := pF hc2
   have hk12 := kind_12 hok hk0 hc2'
   have hww := wid_in hok hk12
   refine AW.skip ?_
   refine AX.normal_block ?_
   refine AX.go ?_
   refine sr ?_
   refine st (OpT.c1 (ms := []) (c_spec_l01Sums ) (H rfl) (An) rfl rfl) rfl ?_
   refine st (asT rfl) rfl ?_
   refine ng ?_
   refine sr ?_
   refine st (asI rfl) rfl ?_
   refine ng ?_
   refine AW.seq ?_
   refine sr ?_
   refine st (mvT rfl) rfl ?_
   refine st (OpT.nilCheck (H rfl) (T1 rfl)) rfl ?_
   refine st (OpT.fieldAddr (H rfl) (T1 rfl) fd80_1 sz68 (by decide) sb80_1) rfl ?_
   refine st (OpT.load (H rfl) (T1 rfl) ag68 rfl) rfl ?_
   refine st (OpT.eql (H rfl) (T1 rfl) (I rfl)) rfl ?_
   refine AWl.to (kc3 56 9 8 rfl <| kb 7 rfl <| kc2 6 5 rfl <| kb 4 rfl <| kc 1 rfl <| Kn) ?_
   refine ng ?_
   refine cd rfl (fun hc4 => ?_) fun hc4 => ?_
   ·
    obtain ⟨hc4, hc4'⟩ := pT hc4
    refine sr ?_
    refine st (OpT.c1 (ms := []) (c_spec_l01Pairs ) (H rfl) (An) rfl rfl) rfl ?_
    refine st (asT rfl) rfl ?_
    refine ng ?_
    refine AW.region ?_
    refine st (asI rfl) rfl ?_
    refine ng ?_
    refine AW.seq ?_
    refine sr ?_
    refine st (asI rfl) rfl ?_
    refine ng ?_
    refine AW.block ?_
    refine AW.loop (fun z : Nat => (z : Int) ≤ f.2.2.2) (fun z : Nat => keep [(1, .cel (Kd.int .i64) (v : Int)), (4, .box 84 kMask (0#64, 0#64)), (7, .box 84 kMask (withM zM (upH f (v : Int) z))), (5, .cel (Kd.int .i64) f.2.2.1), (6, .cel (Kd.int .i64) f.2.2.2), (8, .cel (Kd.slice (Kd.int .i64)) (digB f.2.1)), (9, .cel (Kd.int .i64) (wid f.2.1)), (10, .cel (Kd.int .i64) (z : Int))]) (fun z : Nat => f.2.2.2.toNat - z) (0) (by omega) (Kc 1 _ (Kv rfl rfl) <| Kc 4 _ (Kb rfl rfl) <| Kc 7 _ (Kb rfl rfl) <| Kc 5 _ (Kv rfl rfl) <| Kc 6 _ (Kv rfl rfl) <| Kc 8 _ (Kv rfl (by unfold digB; split <;> first | rfl | omega)) <| Kc 9 _ (Kv rfl (by unfold wid; split <;> first | rfl | omega)) <| Kc 10 _ (Kv rfl rfl) <| Kn) ?_
    intro z hI
    refine AW.seq ?_
    refine sr ?_
    refine st (mvT rfl) rfl ?_
    refine st (mvT rfl) rfl ?_
    refine st (OpT.lss (H rfl) (T1 rfl) (T1 rfl)) rfl ?_
    refine ng ?_
    refine cd rfl (fun hc5 => ?_) fun hc5 => ?_
    ·
     obtain ⟨hc5, hc5'⟩ := pT hc5
     have hp := pow_in (b := 10) (z := (f.2.2.2 - 1 - (z : Int)).toNat) (by omega) (by omega)
     have hq := tdv_le (p := (v : Int)) (g := 10 ^ (f.2.2.2 - 1 - (z : Int)).toNat) (by omega) (by omega)
     have hd : 0 ≤ ((v : Int).tdiv (10 ^ (f.2.2.2 - 1 - (z : Int)).toNat)).tmod 10 ∧ ((v : Int).tdiv (10 ^ (f.2.2.2 - 1 - (z : Int)).toNat)).tmod 10 < 10 := digA_in f v z
     obtain ⟨b, hb, hb1⟩ := digB_get (k := f.2.1) hd
     have hwm := wid_mul f.2.1 (z : Int) (by omega)
     have hwp := wid_end hok hk12 (z := z) (by omega)
     refine AW.skip ?_
     refine AX.go ?_
     refine AW.seq ?_
     refine AW.block ?_
     refine sr ?_
     refine st (mvT rfl) rfl ?_
     refine st (mvT rfl) rfl ?_
     refine st (OpT.sub (H rfl) (T1 rfl) (I rfl) (nw (by omega))) rfl ?_
     refine st (mvT rfl) rfl ?_
     refine st (OpT.sub (H rfl) (T1 rfl) (T1 rfl) (nw (by omega))) rfl ?_
     refine st (OpT.c1 (ms := [.flat, .flat]) (c_spec_l01Power _ _ (by omega)) (H rfl) (Af (I rfl) rfl rfl <| Af (T1 rfl) rfl rfl <| An) rfl rfl) rfl ?_
     refine st (OpT.quo (H rfl) (T1 rfl) (T1 rfl) (by omega) (nw (by omega))) rfl ?_
     refine st (OpT.rem (H rfl) (T1 rfl) (I rfl) (by omega)) rfl ?_
     refine st (asT rfl) rfl ?_
     refine ng ?_
     refine dhm [0, 0, 0, 0, 12, 30, 0, 0, 0, 384, 896, 2047, 4095] [] fomo ?_
     refine d1 [7] (fun ve h => OpT.loadB (H rfl) (Root.self (t := 7) (by decide)) ((h _ (List.elem_iff.1 rfl)).trans rfl) ag84 sz84) rfl ?_
     refine d1 [5] (fun ve h => OpT.move (A := .cel _ _) (.inl rfl) rfl (ok' rfl) (D1 h rfl) rfl) rfl ?_
     refine d1 [9] (fun ve h => OpT.move (A := .cel _ _) (.inl rfl) rfl (ok' rfl) (D1 h rfl) rfl) rfl ?_
     refine d1 [10] (fun ve h => OpT.move (A := .cel _ _) (.inl rfl) rfl (ok' rfl) (D1 h rfl) rfl) rfl ?_
     refine d1 [73, 74] (fun ve h => OpT.mul (H rfl) (D1 h rfl) (D1 h rfl) (nw (by omega))) rfl ?_
     refine d1 [72, 75] (fun ve h => OpT.add (H rfl) (D1 h rfl) (D1 h rfl) (nw (by omega))) rfl ?_
     refine d1 [9] (fun ve h => OpT.move (A := .cel _ _) (.inl rfl) rfl (ok' rfl) (D1 h rfl) rfl) rfl ?_
     refine d1 [8] (fun ve h => OpT.move (A := .cel _ _) (.inl rfl) rfl (ok' rfl) (D1 h rfl) rfl) rfl ?_
     refine d1 [11] (fun ve h => OpT.move (A := .cel _ _) (.inl rfl) rfl (ok' rfl) (D1 h rfl) rfl) rfl ?_
     refine d1 [78, 79] (fun ve h => OpT.indexAddr (H rfl) (D1 h rfl) (D1 h rfl) el81 sz2 (by omega) (by assumption)) rfl ?_
     refine d1 [80] (fun ve h => OpT.load (H rfl) (D1 h rfl) ag2 rfl) rfl ?_
     refine d1 [71, 76, 77, 81] (fun ve h => OpT.c1 (ms := [.flat, .flat, .flat, .flat]) (c_spec_l01Notch _ _ _ _ (by omega)) (H rfl) (Af (D1 h rfl) rfl rfl <| Af (D1 h rfl) rfl rfl <| Af (D1 h rfl) rfl rfl <| Af (D1 h rfl) rfl rfl <| An) rfl rfl) rfl ?_
     refine dm (t := 7) [7, 82] (fun ve h => OpT.storeBA rfl rfl (Opd.whole (Root.self (t := 7) (by decide)) ((h _ (List.elem_iff.1 rfl)).trans rfl)) ((h _ (List.elem_iff.1 rfl)).trans rfl) sz84 (by decide) (D1 h rfl)) rfl ?_
     refine dn ⟨by kernel_rfl, by kernel_rfl, ?_⟩
     refine AX.normal_block ?_
     refine AX.go ?_
     refine AW.region ?_
     refine st (mvT rfl) rfl ?_
     refine st (OpT.add (H rfl) (T1 rfl) (I rfl) (nw (by omega))) rfl ?_
     refine st (asT rfl) rfl ?_
     refine nn ?_
     exact AX.again (z + 1) (by omega) (by omega) (Kc 1 _ (Kv rfl rfl) <| Kc 4 _ (Kb rfl rfl) <| Kc 7 _ (Kb rfl (by rw [← upH_next, plH]; exact ntc_dig _ _ hk12 hd hb)) <| Kc 5 _ (Kv rfl rfl) <| Kc 6 _ (Kv rfl rfl) <| Kc 8 _ (Kv rfl rfl) <| Kc 9 _ (Kv rfl rfl) <| Kc 10 _ (Kv rfl (by omega)) <| Kn)
    ·
     obtain ⟨hc5, hc5'⟩ := pF hc5
     refine AW.exit ?_
     refine xT <| xT <| AX.exit_hit ?_
     refine AX.go ?_
     refine sr ?_
     refine st (OpT.loadB (H rfl) (Root.self (t := 7) (by decide)) rfl ag84 sz84) rfl ?_
     refine sk (OpT.storeBA rfl rfl (Opd.whole (Root.self (t := 4) (by decide)) rfl) rfl sz84 (by decide) (T1 rfl)) rfl ?_
     refine AWl.to (kb 4 rfl <| Kn) ?_
     refine ng ?_
     refine AW.ret ?_
     exact AX.rt (rs := [.cell 4 84]) (ts := [none]) (.inl rfl) rfl (ROs.cons (RO.cellA (by decide) (Kb rfl (by first | exact cf_dir hc1' | exact cf_bin0 hc2' hc3' | exact cf_bin1 hc2' hc3' | exact cf_dig hok hk12 (by omega))) ag84 sz84) <| ROs.nil) (by decide) OutsOK.nil
   ·
    obtain ⟨hc4, hc4'⟩ := pF hc4
    refine AW.skip ?_
    refine AX.go ?_
    refine AW.seq ?_
    refine sr ?_
    refine st (asI rfl) rfl ?_
    refine ng ?_
    refine AW.block ?_
    refine AW.loop (fun z : Nat => (z : Int) ≤ f.2.2.2) (fun z : Nat => keep [(1, .cel (Kd.int .i64) (v : Int)), (4, .box 84 kMask (0#64, 0#64)), (7, .box 84 kMask (withM zM (upH f (v : Int) z))), (5, .cel (Kd.int .i64) f.2.2.1), (6, .cel (Kd.int .i64) f.2.2.2), (8, .cel (Kd.slice (Kd.int .i64)) (digB f.2.1)), (9, .cel (Kd.int .i64) (wid f.2.1)), (10, .cel (Kd.int .i64) (z : Int))]) (fun z : Nat => f.2.2.2.toNat - z) (0) (by omega) (Kc 1 _ (Kv rfl rfl) <| Kc 4 _ (Kb rfl rfl) <| Kc 7 _ (Kb rfl rfl) <| Kc 5 _ (Kv rfl rfl) <| Kc 6 _ (Kv rfl rfl) <| Kc 8 _ (Kv rfl (by unfold digB; split <;> first | rfl | omega)) <| Kc 9 _ (Kv rfl (by unfold wid; split <;> first | rfl | omega)) <| Kc 10 _ (Kv rfl rfl) <| Kn) ?_
    intro z hI
    refine AW.seq ?_
    refine sr ?_
    refine st (mvT rfl) rfl ?_
    refine st (mvT rfl) rfl ?_
    refine st (OpT.lss (H rfl) (T1 rfl) (T1 rfl)) rfl ?_
    refine ng ?_
    refine cd rfl (fun hc6 => ?_) fun hc6 => ?_
    ·
     obtain ⟨hc6, hc6'⟩ := pT hc6
     have hp := pow_in (b := 10) (z := (f.2.2.2 - 1 - (z : Int)).toNat) (by omega) (by omega)
     have hq := tdv_le (p := (v : Int)) (g := 10 ^ (f.2.2.2 - 1 - (z : Int)).toNat) (by omega) (by omega)
     have hd : 0 ≤ ((v : Int).tdiv (10 ^ (f.2.2.2 - 1 - (z : Int)).toNat)).tmod 10 ∧ ((v : Int).tdiv (10 ^ (f.2.2.2 - 1 - (z : Int)).toNat)).tmod 10 < 10 := digA_in f v z
     obtain ⟨b, hb, hb1⟩ := digB_get (k := f.2.1) hd
     have hwm := wid_mul f.2.1 (z : Int) (by omega)
     have hwp := wid_end hok hk12 (z := z) (by omega)
     refine AW.skip ?_
     refine AX.go ?_
     refine AW.seq ?_
     refine AW.block ?_
     refine sr ?_
     refine st (mvT rfl) rfl ?_
     refine st (mvT rfl) rfl ?_
     refine st (OpT.sub (H rfl) (T1 rfl) (I rfl) (nw (by omega))) rfl ?_
     refine st (mvT rfl) rfl ?_
     refine st (OpT.sub (H rfl) (T1 rfl) (T1 rfl) (nw (by omega))) rfl ?_
     refine st (OpT.c1 (ms := [.flat, .flat]) (c_spec_l01Power _ _ (by omega)) (H rfl) (Af (I rfl) rfl rfl <| Af (T1 rfl) rfl rfl <| An) rfl rfl) rfl ?_
     refine st (OpT.quo (H rfl) (T1 rfl) (T1 rfl) (by omega) (nw (by omega))) rfl ?_
     refine st (OpT.rem (H rfl) (T1 rfl) (I rfl) (by omega)) rfl ?_
     refine st (asT rfl) rfl ?_
     refine ng ?_
     refine dhm [0, 0, 0, 0, 12, 30, 0, 0, 0, 384, 896, 2047, 4095] [] fomo ?_
     refine d1 [7] (fun ve h => OpT.loadB (H rfl) (Root.self (t := 7) (by decide)) ((h _ (List.elem_iff.1 rfl)).trans rfl) ag84 sz84) rfl ?_
     refine d1 [5] (fun ve h => OpT.move (A := .cel _ _) (.inl rfl) rfl (ok' rfl) (D1 h rfl) rfl) rfl ?_
     refine d1 [9] (fun ve h => OpT.move (A := .cel _ _) (.inl rfl) rfl (ok' rfl) (D1 h rfl) rfl) rfl ?_
     refine d1 [10] (fun ve h => OpT.move (A := .cel _ _) (.inl rfl) rfl (ok' rfl) (D1 h rfl) rfl) rfl ?_
     refine d1 [73, 74] (fun ve h => OpT.mul (H rfl) (D1 h rfl) (D1 h rfl) (nw (by omega))) rfl ?_
     refine d1 [72, 75] (fun ve h => OpT.add (H rfl) (D1 h rfl) (D1 h rfl) (nw (by omega))) rfl ?_
     refine d1 [9] (fun ve h => OpT.move (A := .cel _ _) (.inl rfl) rfl (ok' rfl) (D1 h rfl) rfl) rfl ?_
     refine d1 [8] (fun ve h => OpT.move (A := .cel _ _) (.inl rfl) rfl (ok' rfl) (D1 h rfl) rfl) rfl ?_
     refine d1 [11] (fun ve h => OpT.move (A := .cel _ _) (.inl rfl) rfl (ok' rfl) (D1 h rfl) rfl) rfl ?_
     refine d1 [78, 79] (fun ve h => OpT.indexAddr (H rfl) (D1 h rfl) (D1 h rfl) el81 sz2 (by omega) (by assumption)) rfl ?_
     refine d1 [80] (fun ve h => OpT.load (H rfl) (D1 h rfl) ag2 rfl) rfl ?_
     refine d1 [71, 76, 77, 81] (fun ve h => OpT.c1 (ms := [.flat, .flat, .flat, .flat]) (c_spec_l01Notch _ _ _ _ (by omega)) (H rfl) (Af (D1 h rfl) rfl rfl <| Af (D1 h rfl) rfl rfl <| Af (D1 h rfl) rfl rfl <| Af (D1 h rfl) rfl rfl <| An) rfl rfl) rfl ?_
     refine dm (t := 7) [7, 82] (fun ve h => OpT.storeBA rfl rfl (Opd.whole (Root.self (t := 7) (by decide)) ((h _ (List.elem_iff.1 rfl)).trans rfl)) ((h _ (List.elem_iff.1 rfl)).trans rfl) sz84 (by decide) (D1 h rfl)) rfl ?_
     refine dn ⟨by kernel_rfl, by kernel_rfl, ?_⟩
     refine AX.normal_block ?_
     refine AX.go ?_
     refine AW.region ?_
     refine st (mvT rfl) rfl ?_
     refine st (OpT.add (H rfl) (T1 rfl) (I rfl) (nw (by omega))) rfl ?_
     refine st (asT rfl) rfl ?_
     refine nn ?_
     exact AX.again (z + 1) (by omega) (by omega) (Kc 1 _ (Kv rfl rfl) <| Kc 4 _ (Kb rfl rfl) <| Kc 7 _ (Kb rfl (by rw [← upH_next, plH]; exact ntc_dig _ _ hk12 hd hb)) <| Kc 5 _ (Kv rfl rfl) <| Kc 6 _ (Kv rfl rfl) <| Kc 8 _ (Kv rfl rfl) <| Kc 9 _ (Kv rfl rfl) <| Kc 10 _ (Kv rfl (by omega)) <| Kn)
    ·
     obtain ⟨hc6, hc6'⟩ := pF hc6
     refine AW.exit ?_
     refine xT <| xT <| AX.exit_hit ?_
     refine AX.go ?_
     refine sr ?_
     refine st (OpT.loadB (H rfl) (Root.self (t := 7) (by decide)) rfl ag84 sz84) rfl ?_
     refine sk (OpT.storeBA rfl rfl (Opd.whole (Root.self (t := 4) (by decide)) rfl) rfl sz84 (by decide) (T1 rfl)) rfl ?_
     refine AWl.to (kb 4 rfl <| Kn) ?_
     refine ng ?_
     refine AW.ret ?_
     exact AX.rt (rs := [.cell 4 84]) (ts := [none]) (.inl rfl) rfl (ROs.cons (RO.cellA (by decide) (Kb rfl (by first | exact cf_dir hc1' | exact cf_bin0 hc2' hc3' | exact cf_bin1 hc2' hc3' | exact cf_dig hok hk12 (by omega))) ag84 sz84) <| ROs.nil) (by decide) OutsOK.nil

/-- impl.Field).most -/
theorem c_impl_Field_most (f : DField) (hok : fieldOK f) : AC Tryz.prog 91 [.agg kField f] [.cel (Kd.int .i64) (topF f)] [] := by
 refine acI (N := 27) Tryz.func91 (Nat.le_of_ble_eq_true rfl) rfl fun w0 hd s0 ar => ?_
 refine AW.to (ka 0 rfl <| Kn) ?_
 have hsz := size_in hok
 refine sr ?_
 refine st (OpT.frz (OpT.boxA (E := 80) (H rfl) (T1 rfl))) rfl ?_
 refine st (asI rfl) rfl ?_
 refine ng ?_
 refine AW.seq ?_
 refine sr ?_
 refine st (OpT.fieldAddr (H rfl) (T1 rfl) fd80_1 sz68 (by decide) sb80_1) rfl ?_
 refine st (OpT.load (H rfl) (T1 rfl) ag68 rfl) rfl ?_
 refine ng ?_
 refine AW.block ?_
 refine sr ?_
 refine st (OpT.eql (H rfl) (T1 rfl) (I rfl)) rfl ?_
 refine st (asT rfl) rfl ?_
 refine ng ?_
 refine cd rfl (fun hc1 => ?_) fun hc1 => ?_
 ·
  obtain ⟨hc1, hc1'⟩ := pT hc1
  refine sr ?_
  refine st (OpT.fieldAddr (H rfl) (T1 rfl) fd80_3 sz69 (by decide) sb80_3) rfl ?_
  refine st (OpT.load (H rfl) (T1 rfl) ag69 rfl) rfl ?_
  refine st (OpT.conv (H rfl) us69 Tryz.underlying2 (T1 rfl) (nw (by omega))) rfl ?_
  refine st (OpT.sub (H rfl) (T1 rfl) (I rfl) (nw (by omega))) rfl ?_
  refine st (asT rfl) rfl ?_
  refine ng ?_
  refine AW.ret ?_
  refine rK <| rT ?_
  exact rt1 rfl (.inl rfl) (by unfold topF; (repeat' split) <;> first | rfl | omega | (rw [hs2.1]; omega) | (have e : z = f.2.2.2.toNat := (by omega); rw [e]))
 ·
  obtain ⟨hc1, hc1'⟩ := pF hc1
  refine sr ?_
  refine st (OpT.eql (H rfl) (T1 rfl) (I rfl)) rfl ?_
  refine st (asT rfl) rfl ?_
  refine ng ?_
  refine cd rfl (fun hc2 => ?_) fun hc2 => ?_
  ·
   obtain ⟨hc2, hc2'⟩ := pT hc2
   have hs2 := shl_in (n := f.2.2.2) (by omega)
   have hsz2 := hsz.2.2.1 (by omega)
   refine sr ?_
   refine st (OpT.fieldAddr (H rfl) (T1 rfl) fd80_3 sz69 (by decide) sb80_3) rfl ?_
   refine st (OpT.load (H rfl) (T1 rfl) ag69 rfl) rfl ?_
   refine st (OpT.ishl (H rfl) (I rfl) (T1 rfl) (by omega) (wrap_i64 (by have := (shl_in (n := f.2.2.2) (by omega)).2; omega))) rfl ?_
   refine st (OpT.sub (H rfl) (T1 rfl) (I rfl) (nw (by omega))) rfl ?_
   refine st (asT rfl) rfl ?_
   refine AWl.to (kc2 2 1 rfl <| Kn) ?_
   refine ng ?_
   refine AW.ret ?_
   refine rK <| rT ?_
   exact rt1 rfl (.inl rfl) (by unfold topF; (repeat' split) <;> first | rfl | omega | (rw [hs2.1]; omega) | (have e : z = f.2.2.2.toNat := (by omega); rw [e]))
  ·
   obtain ⟨hc2, hc2'⟩ := pF hc2
   refine AW.skip ?_
   refine AX.normal_block ?_
   refine AX.go ?_
   refine sr ?_
   refine st (asI rfl) rfl ?_
   refine ng ?_
   refine AW.seq ?_
   refine sr ?_
   refine st (OpT.fieldAddr (H rfl) (T1 rfl) fd80_3 sz69 (by decide) sb80_3) rfl ?_
   refine st (OpT.load (H rfl) (T1 rfl) ag69 rfl) rfl ?_
   refine st (mvI rfl) rfl ?_
   refine ng ?_
   refine AW.block ?_
   have hsz4 := hsz.2.2.2.1 (by omega) (by omega)
   refine AW.loop (fun z : Nat => (z : Int) ≤ f.2.2.2) (fun z : Nat => keep [(1, .cel (Kd.ptr kField) f), (3, .cel (Kd.int .i64) (10 ^ z)), (19, .cel (Kd.int .i16) f.2.2.2), (20, .cel (Kd.int .i16) (z : Int))]) (fun z : Nat => f.2.2.2.toNat - z) (0) (by omega) (Kc 1 _ (Kv rfl rfl) <| Kc 3 _ (Kv rfl rfl) <| Kc 19 _ (Kv rfl rfl) <| Kc 20 _ (Kv rfl rfl) <| Kn) ?_
   intro z hI
   have hp := pow_mul (b := 10) (by omega) (z := z) (by omega)
   have hp1 := pow_in (b := 10) (by omega) (z := z) (by omega)
   refine sr ?_
   refine st (OpT.lss (H rfl) (T1 rfl) (T1 rfl)) rfl ?_
   refine ng ?_
   refine AW.seq ?_
   refine cd rfl (fun hc3 => ?_) fun hc3 => ?_
   ·
    obtain ⟨hc3, hc3'⟩ := pT hc3
    refine AW.skip ?_
    refine AX.go ?_
    refine AW.seq ?_
    refine AW.block ?_
    refine AW.region ?_
    refine st (mvT rfl) rfl ?_
    refine st (OpT.mul (H rfl) (T1 rfl) (I rfl) (nw (by omega))) rfl ?_
    refine st (asT rfl) rfl ?_
    refine nn ?_
    refine AX.normal_block ?_
    refine AX.go ?_
    refine AW.region ?_
    refine st (OpT.add (H rfl) (T1 rfl) (I rfl) (nw16 (by omega))) rfl ?_
    refine st (mvT rfl) rfl ?_
    refine nn ?_
    exact AX.again (z + 1) (by omega) (by omega) (Kc 1 _ (Kv rfl rfl) <| Kc 3 _ (Kv rfl (pow_next 10 z)) <| Kc 19 _ (Kv rfl rfl) <| Kc 20 _ (Kv rfl (by omega)) <| Kn)
   ·
    obtain ⟨hc3, hc3'⟩ := pF hc3
    refine AW.exit ?_
    refine xT <| xT <| AX.exit_hit ?_
    refine AX.go ?_
    refine sr ?_
    refine st (mvT rfl) rfl ?_
    refine st (OpT.sub (H rfl) (T1 rfl) (I rfl) (nw (by omega))) rfl ?_
    refine st (asT rfl) rfl ?_
    refine ng ?_
    refine AW.ret ?_
    exact rt1 rfl (.inl rfl) (by unfold topF; (repeat' split) <;> first | rfl | omega | (rw [hs2.1]; omega) | (have e : z = f.2.2.2.toNat := (by omega); rw [e]))

/-- impl.Field).digitHoles -/
theorem c_impl_Field_digitHoles (f : DField) (d : Int) (hd : 0 ≤ d ∧ d < 10) : AC Tryz.prog 121 [.agg kField f, .cel (Kd.int .i64) d] [.cel (Kd.slice (Kd.int .i64)) (digH f.2.1 d)] [] := by
 refine acI (N := 34) Tryz.func121 (Nat.le_of_ble_eq_true rfl) rfl fun w0 hd s0 ar => ?_
 refine AW.to (ka 0 rfl <| kc 1 rfl <| Kn) ?_
 refine sr ?_
 refine st (OpT.frz (OpT.boxA (E := 80) (H rfl) (T1 rfl))) rfl ?_
 refine st (OpT.move (A := .cel _ _) (.inr rfl) rfl (ok' rfl) (Opd.nilslice (Kd.int .i64)) rfl) rfl ?_
 refine ng ?_
 refine AW.seq ?_
 refine sr ?_
 refine st (OpT.fieldAddr (H rfl) (T1 rfl) fd80_1 sz68 (by decide) sb80_1) rfl ?_
 refine st (OpT.load (H rfl) (T1 rfl) ag68 rfl) rfl ?_
 refine st (OpT.eql (H rfl) (T1 rfl) (I rfl)) rfl ?_
 refine ng ?_
 refine cd rfl (fun hc1 => ?_) fun hc1 => ?_
 ·
  obtain ⟨hc1, hc1'⟩ := pT hc1
  refine sr ?_
  refine st (OpT.frzO (OpT.buildSlice (H rfl) el81 zr2 sz2 rfl (by decide) zk2 (by decide) (Built.cel (I rfl) rfl rfl (sub_arr (by decide) (0 : Int)) (Built.cel (I rfl) rfl rfl (sub_arr (by decide) (0 : Int)) (Built.nil _))))) rfl ?_
  refine st (OpT.frzO (OpT.buildSlice (H rfl) el81 zr2 sz2 rfl (by decide) zk2 (by decide) (Built.cel (I rfl) rfl rfl (sub_arr (by decide) (0 : Int)) (Built.nil _)))) rfl ?_
  refine st (OpT.frzO (OpT.buildSlice (H rfl) el81 zr2 sz2 rfl (by decide) zk2 (by decide) (Built.cel (I rfl) rfl rfl (sub_arr (by decide) (0 : Int)) (Built.nil _)))) rfl ?_
  refine st (OpT.frzO (OpT.buildSlice (H rfl) el81 zr2 sz2 rfl (by decide) zk2 (by decide) (Built.cel (I rfl) rfl rfl (sub_arr (by decide) (0 : Int)) (Built.cel (I rfl) rfl rfl (sub_arr (by decide) (0 : Int)) (Built.nil _))))) rfl ?_
  refine st (OpT.frzO (OpT.buildSlice (H rfl) el81 zr2 sz2 rfl (by decide) zk2 (by decide) (Built.cel (I rfl) rfl rfl (sub_arr (by decide) (0 : Int)) (Built.nil _)))) rfl ?_
  refine st (OpT.frzO (OpT.buildSlice (H rfl) el81 zr2 sz2 rfl (by decide) zk2 (by decide) (Built.cel (I rfl) rfl rfl (sub_arr (by decide) (0 : Int)) (Built.cel (I rfl) rfl rfl (sub_arr (by decide) (0 : Int)) (Built.nil _))))) rfl ?_
  refine st (OpT.frzO (OpT.buildSlice (H rfl) el81 zr2 sz2 rfl (by decide) zk2 (by decide) (Built.cel (I rfl) rfl rfl (sub_arr (by decide) (0 : Int)) (Built.cel (I rfl) rfl rfl (sub_arr (by decide) (0 : Int)) (Built.nil _))))) rfl ?_
  refine st (OpT.frzO (OpT.buildSlice (H rfl) el81 zr2 sz2 rfl (by decide) zk2 (by decide) (Built.cel (I rfl) rfl rfl (sub_arr (by decide) (0 : Int)) (Built.nil _)))) rfl ?_
  refine st (OpT.frzO (OpT.buildSlice (H rfl) el81 zr2 sz2 rfl (by decide) zk2 (by decide) (Built.cel (I rfl) rfl rfl (sub_arr (by decide) (0 : Int)) (Built.cel (I rfl) rfl rfl (sub_arr (by decide) (0 : Int)) (Built.nil _))))) rfl ?_
  refine st (OpT.frzO (OpT.buildSlice (H rfl) el81 zr2 sz2 rfl (by decide) zk2 (by decide) (Built.cel (I rfl) rfl rfl (sub_arr (by decide) (0 : Int)) (Built.cel (I rfl) rfl rfl (sub_arr (by decide) (0 : Int)) (Built.nil _))))) rfl ?_
  refine st (OpT.buildA (H rfl) ar182 sz81 zr182 zk182 (Built.cel (T1 rfl) rfl rfl (sub_arr (by decide) ([] : List (Int))) (Built.cel (T1 rfl) rfl rfl (sub_arr (by decide) ([] : List (Int))) (Built.cel (T1 rfl) rfl rfl (sub_arr (by decide) ([] : List (Int))) (Built.cel (T1 rfl) rfl rfl (sub_arr (by decide) ([] : List (Int))) (Built.cel (T1 rfl) rfl rfl (sub_arr (by decide) ([] : List (Int))) (Built.cel (T1 rfl) rfl rfl (sub_arr (by decide) ([] : List (Int))) (Built.cel (T1 rfl) rfl rfl (sub_arr (by decide) ([] : List (Int))) (Built.cel (T1 rfl) rfl rfl (sub_arr (by decide) ([] : List (Int))) (Built.cel (T1 rfl) rfl rfl (sub_arr (by decide) ([] : List (Int))) (Built.cel (T1 rfl) rfl rfl (sub_arr (by decide) ([] : List (Int))) (Built.nil _)))))))))))) rfl ?_
  refine st (mvT rfl) rfl ?_
  refine st (OpT.indexC (H rfl) (T1 rfl) (T1 rfl) ar182 ag81 sz81 (by omega) rfl (sub_at (by omega) rfl ([] : List (Int)))) rfl ?_
  refine st (asT rfl) rfl ?_
  refine AWl.to (kc2 4 1 rfl <| Kn) ?_
  refine ng ?_
  refine AW.ret ?_
  refine rT ?_
  exact rt1 rfl (.inl rfl) (by first | exact digH_sum hc1' | exact digH_pair hc1')
 ·
  obtain ⟨hc1, hc1'⟩ := pF hc1
  refine AW.skip ?_
  refine AX.go ?_
  refine sr ?_
  refine st (OpT.frzO (OpT.buildSlice (H rfl) el81 zr2 sz2 rfl (by decide) zk2 (by decide) (Built.cel (I rfl) rfl rfl (sub_arr (by decide) (0 : Int)) (Built.cel (I rfl) rfl rfl (sub_arr (by decide) (0 : Int)) (Built.nil _))))) rfl ?_
  refine st (OpT.frzO (OpT.buildSlice (H rfl) el81 zr2 sz2 rfl (by decide) zk2 (by decide) (Built.cel (I rfl) rfl rfl (sub_arr (by decide) (0 : Int)) (Built.cel (I rfl) rfl rfl (sub_arr (by decide) (0 : Int)) (Built.nil _))))) rfl ?_
  refine st (OpT.frzO (OpT.buildSlice (H rfl) el81 zr2 sz2 rfl (by decide) zk2 (by decide) (Built.cel (I rfl) rfl rfl (sub_arr (by decide) (0 : Int)) (Built.cel (I rfl) rfl rfl (sub_arr (by decide) (0 : Int)) (Built.nil _))))) rfl ?_
  refine st (OpT.frzO (OpT.buildSlice (H rfl) el81 zr2 sz2 rfl (by decide) zk2 (by decide) (Built.cel (I rfl) rfl rfl (sub_arr (by decide) (0 : Int)) (Built.cel (I rfl) rfl rfl (sub_arr (by decide) (0 : Int)) (Built.nil _))))) rfl ?_
  refine st (OpT.frzO (OpT.buildSlice (H rfl) el81 zr2 sz2 rfl (by decide) zk2 (by decide) (Built.cel (I rfl) rfl rfl (sub_arr (by decide) (0 : Int)) (Built.cel (I rfl) rfl rfl (sub_arr (by decide) (0 : Int)) (Built.nil _))))) rfl ?_
  refine st (OpT.frzO (OpT.buildSlice (H rfl) el81 zr2 sz2 rfl (by decide) zk2 (by decide) (Built.cel (I rfl) rfl rfl (sub_arr (by decide) (0 : Int)) (Built.cel (I rfl) rfl rfl (sub_arr (by decide) (0 : Int)) (Built.nil _))))) rfl ?_
  refine st (OpT.frzO (OpT.buildSlice (H rfl) el81 zr2 sz2 rfl (by decide) zk2 (by decide) (Built.cel (I rfl) rfl rfl (sub_arr (by decide) (0 : Int)) (Built.cel (I rfl) rfl rfl (sub_arr (by decide) (0 : Int)) (Built.nil _))))) rfl ?_
  refine st (OpT.frzO (OpT.buildSlice (H rfl) el81 zr2 sz2 rfl (by decide) zk2 (by decide) (Built.cel (I rfl) rfl rfl (sub_arr (by decide) (0 : Int)) (Built.cel (I rfl) rfl rfl (sub_arr (by decide) (0 : Int)) (Built.nil _))))) rfl ?_
  refine st (OpT.frzO (OpT.buildSlice (H rfl) el81 zr2 sz2 rfl (by decide) zk2 (by decide) (Built.cel (I rfl) rfl rfl (sub_arr (by decide) (0 : Int)) (Built.cel (I rfl) rfl rfl (sub_arr (by decide) (0 : Int)) (Built.nil _))))) rfl ?_
  refine st (OpT.frzO (OpT.buildSlice (H rfl) el81 zr2 sz2 rfl (by decide) zk2 (by decide) (Built.cel (I rfl) rfl rfl (sub_arr (by decide) (0 : Int)) (Built.cel (I rfl) rfl rfl (sub_arr (by decide) (0 : Int)) (Built.nil _))))) rfl ?_
  refine st (OpT.buildA (H rfl) ar182 sz81 zr182 zk182 (Built.cel (T1 rfl) rfl rfl (sub_arr (by decide) ([] : List (Int))) (Built.cel (T1 rfl) rfl rfl (sub_arr (by decide) ([] : List (Int))) (Built.cel (T1 rfl) rfl rfl (sub_arr (by decide) ([] : List (Int))) (Built.cel (T1 rfl) rfl rfl (sub_arr (by decide) ([] : List (Int))) (Built.cel (T1 rfl) rfl rfl (sub_arr (by decide) ([] : List (Int))) (Built.cel (T1 rfl) rfl rfl (sub_arr (by decide) ([] : List (Int))) (Built.cel (T1 rfl) rfl rfl (sub_arr (by decide) ([] : List (Int))) (Built.cel (T1 rfl) rfl rfl (sub_arr (by decide) ([] : List (Int))) (Built.cel (T1 rfl) rfl rfl (sub_arr (by decide) ([] : List (Int))) (Built.cel (T1 rfl) rfl rfl (sub_arr (by decide) ([] : List (Int))) (Built.nil _)))))))))))) rfl ?_
  refine st (mvT rfl) rfl ?_
  refine st (OpT.indexC (H rfl) (T1 rfl) (T1 rfl) ar182 ag81 sz81 (by omega) rfl (sub_at (by omega) rfl ([] : List (Int)))) rfl ?_
  refine st (asT rfl) rfl ?_
  refine AWl.to (kc 4 rfl <| Kn) ?_
  refine ng ?_
  refine AW.ret ?_
  exact rt1 rfl (.inl rfl) (by first | exact digH_sum hc1' | exact digH_pair hc1')

set_option maxHeartbeats 4000000 in
/-- impl.Field).encode -/
theorem c_impl_Field_encode (f : DField) (v : Nat) (hok : fieldOK f) (hv : (v : Int) ≤ topF f) : AC Tryz.prog 92 [.agg kField f, .cel (Kd.int .i64) (v : Int)] [.agg kMask (codeF f (v : Int))] [] := by
 refine acI (N := 95) Tryz.func92 (Nat.le_of_ble_eq_true rfl) rfl fun w0 hd s0 ar => ?_
 refine AW.to (ka 0 rfl <| kc 1 rfl <| Kn) ?_
 have hsz := size_in hok
 have hfw := field_width hok
 have htp := top_in hok
 have hw0 := cf_top hok
 refine sr ?_
 refine st (OpT.frz (OpT.boxA (E := 80) (H rfl) (T1 rfl))) rfl ?_
 refine st (OpT.alloc (H rfl) zr84 zk84) rfl ?_
 refine ng ?_
 refine sr ?_
 refine st (OpT.buildA (H rfl) ar84 sz73 zr84 zk84 (Built.nil _)) rfl ?_
 refine st (OpT.alloc (H rfl) zr84 zk84) rfl ?_
 refine sk (OpT.storeBA rfl rfl (Opd.whole (Root.self (t := 5) (by decide)) rfl) rfl sz84 (by decide) (T1 rfl)) rfl ?_
 refine AWl.to (kb 5 rfl <| kb 4 rfl <| kc2 2 1 rfl <| Kn) ?_
 refine ng ?_
 refine AW.seq ?_
 refine dh fomo ?_
 refine d1 [2] (fun ve h => OpT.fieldAddr (H rfl) (D1 h rfl) fd80_2 sz69 (by decide) sb80_2) rfl ?_
 refine d1 [14] (fun ve h => OpT.load (H rfl) (D1 h rfl) ag69 rfl) rfl ?_
 refine d1 [15] (fun ve h => OpT.conv (H rfl) us69 Tryz.underlying2 (D1 h rfl) (nw (by omega))) rfl ?_
 refine d1 [2] (fun ve h => OpT.fieldAddr (H rfl) (D1 h rfl) fd80_3 sz69 (by decide) sb80_3) rfl ?_
 refine d1 [17] (fun ve h => OpT.load (H rfl) (D1 h rfl) ag69 rfl) rfl ?_
 refine d1 [18] (fun ve h => OpT.conv (H rfl) us69 Tryz.underlying2 (D1 h rfl) (nw (by omega))) rfl ?_
 refine d1 [16] (fun ve h => OpT.move (A := .cel _ _) (.inr rfl) rfl (ok' rfl) (D1 h rfl) rfl) rfl ?_
 refine d1 [19] (fun ve h => OpT.move (A := .cel _ _) (.inr rfl) rfl (ok' rfl) (D1 h rfl) rfl) rfl ?_
 refine dn ⟨by kernel_rfl, by kernel_rfl, ?_⟩
 refine AX.go ?_
 refine AW.seq ?_
 refine sr ?_
 refine st (OpT.fieldAddr (H rfl) (T1 rfl) fd80_1 sz68 (by decide) sb80_1) rfl ?_
 refine st (OpT.load (H rfl) (T1 rfl) ag68 rfl) rfl ?_
 refine ng ?_
 refine AW.block ?_
 refine sr ?_
 refine st (OpT.eql (H rfl) (T1 rfl) (I rfl)) rfl ?_
 refine st (asT rfl) rfl ?_
 refine ng ?_
 refine cd rfl (fun hc1 => ?_) fun hc1 => ?_
 ·
  obtain ⟨hc1, hc1'⟩ := pT hc1
  refine sr ?_
  refine st (OpT.loadB (H rfl) (Root.self (t := 5) (by decide)) rfl ag84 sz84) rfl ?_
  refine st (mvT rfl) rfl ?_
  refine st (mvT rfl) rfl ?_
  refine st (OpT.add (H rfl) (T1 rfl) (T1 rfl) (nw (by omega))) rfl ?_
  refine st (OpT.buildSlice (H rfl) el81 zr2 sz2 rfl (by decide) zk2 (by decide) (Built.cel (T1 rfl) rfl rfl (sub_arr (by decide) (0 : Int)) (Built.nil _))) rfl ?_
  refine st (cb1 (ms := [.flat, .bor 28]) (c_impl_Mask_with _ [f.2.2.1 + (v : Int)] (fun u hu => by rw [List.mem_singleton] at hu; subst hu; omega)) (H rfl) (Af (T1 rfl) rfl rfl <| Ab (Root.self (t := 28) (by decide)) rfl <| An) rfl (indA fun _ _ _ _ h => h)) rfl ?_
  refine sk (OpT.storeBA rfl rfl (Opd.whole (Root.self (t := 4) (by decide)) rfl) rfl sz84 (by decide) (T1 rfl)) rfl ?_
  refine AWl.to (kb 4 rfl <| kc2 7 6 rfl <| kb 5 rfl <| kc2 2 1 rfl <| Kn) ?_
  refine ng ?_
  refine AW.ret ?_
  refine rK <| rT ?_
  exact AX.rt (rs := [.cell 4 84]) (ts := [none]) (.inl rfl) rfl (ROs.cons (RO.cellA (by decide) (Kb rfl (by first | exact cf_dir0 hc1' | (rw [show z = f.2.2.2.toNat by omega] at *; first | exact cf_bin0 hc2' hc5' | exact cf_bin1 hc2' hc5') | (have e : z = f.2.2.2.toNat := (by omega); rw [e]; exact cf_dig' hok hk12 (by omega)))) ag84 sz84) <| ROs.nil) (by decide) OutsOK.nil
 ·
  obtain ⟨hc1, hc1'⟩ := pF hc1
  have hk0 := hc1'
  refine sr ?_
  refine st (OpT.eql (H rfl) (T1 rfl) (I rfl)) rfl ?_
  refine st (asT rfl) rfl ?_
  refine AWl.to (kc3 30 7 6 rfl <| kb 5 rfl <| kb 4 rfl <| kc2 2 1 rfl <| Kn) ?_
  refine ng ?_
  refine cd rfl (fun hc2 => ?_) fun hc2 => ?_
  ·
   obtain ⟨hc2, hc2'⟩ := pT hc2
   have hwd : widthF f = f.2.2.2 + 1 := by unfold widthF; rw [hc2']; rfl
   refine AW.seq ?_
   refine sr ?_
   refine st (mvT rfl) rfl ?_
   refine st (mvI rfl) rfl ?_
   refine ng ?_
   refine AW.block ?_
   refine AW.loop (fun z : Nat => (z : Int) ≤ f.2.2.2) (fun z : Nat => keep [(1, .cel (Kd.int .i64) (v : Int)), (4, .box 84 kMask (0#64, 0#64)), (5, .box 84 kMask (ntc zM f.2.2.1 f.2.2.2 (v : Int) z)), (6, .cel (Kd.int .i64) f.2.2.1), (7, .cel (Kd.int .i64) f.2.2.2), (32, .cel (Kd.int .i64) f.2.2.2), (33, .cel (Kd.int .i64) (z : Int))]) (fun z : Nat => f.2.2.2.toNat - z) (0) (by omega) (Kc 1 _ (Kv rfl rfl) <| Kc 4 _ (Kb rfl rfl) <| Kc 5 _ (Kb rfl rfl) <| Kc 6 _ (Kv rfl rfl) <| Kc 7 _ (Kv rfl rfl) <| Kc 32 _ (Kv rfl rfl) <| Kc 33 _ (Kv rfl rfl) <| Kn) ?_
   intro z hI
   refine sr ?_
   refine st (OpT.lss (H rfl) (T1 rfl) (T1 rfl)) rfl ?_
   refine ng ?_
   refine AW.seq ?_
   refine cd rfl (fun hc3 => ?_) fun hc3 => ?_
   ·
    obtain ⟨hc3, hc3'⟩ := pT hc3
    refine AW.skip ?_
    refine AX.go ?_
    refine AW.seq ?_
    refine AW.block ?_
    refine sr ?_
    refine st (mvT rfl) rfl ?_
    refine st (asT rfl) rfl ?_
    refine ng ?_
    refine sr ?_
    refine st (mvT rfl) rfl ?_
    refine st (mvT rfl) rfl ?_
    refine st (OpT.sub (H rfl) (T1 rfl) (I rfl) (nw (by omega))) rfl ?_
    refine st (mvT rfl) rfl ?_
    refine st (OpT.sub (H rfl) (T1 rfl) (T1 rfl) (nw (by omega))) rfl ?_
    refine st (OpT.ishr (H rfl) (T1 rfl) (T1 rfl) (by omega)) rfl ?_
    refine st (OpT.iand (y := 1) (H rfl) (T1 rfl) (I rfl)) rfl ?_
    refine st (OpT.eql (H rfl) (T1 rfl) (I rfl)) rfl ?_
    refine ng ?_
    refine cd rfl (fun hc4 => ?_) fun hc4 => ?_
    ·
     obtain ⟨hc4, hc4'⟩ := pT hc4
     refine AW.region ?_
     refine st (OpT.loadB (H rfl) (Root.self (t := 5) (by decide)) rfl ag84 sz84) rfl ?_
     refine st (mvT rfl) rfl ?_
     refine st (mvT rfl) rfl ?_
     refine st (OpT.add (H rfl) (T1 rfl) (T1 rfl) (nw (by omega))) rfl ?_
     refine st (OpT.buildSlice (H rfl) el81 zr2 sz2 rfl (by decide) zk2 (by decide) (Built.cel (T1 rfl) rfl rfl (sub_arr (by decide) (0 : Int)) (Built.nil _))) rfl ?_
     refine st (cb1 (ms := [.flat, .bor 48]) (c_impl_Mask_with _ [f.2.2.1 + (z : Int)] (fun u hu => by rw [List.mem_singleton] at hu; subst hu; omega)) (H rfl) (Af (T1 rfl) rfl rfl <| Ab (Root.self (t := 48) (by decide)) rfl <| An) rfl (indA fun _ _ _ _ h => h)) rfl ?_
     refine sk (OpT.storeBA rfl rfl (Opd.whole (Root.self (t := 5) (by decide)) rfl) rfl sz84 (by decide) (T1 rfl)) rfl ?_
     refine nn ?_
     refine AX.normal_block ?_
     refine AX.go ?_
     refine AW.region ?_
     refine st (OpT.add (H rfl) (T1 rfl) (I rfl) (nw (by omega))) rfl ?_
     refine st (mvT rfl) rfl ?_
     refine nn ?_
     exact AX.again (z + 1) (by omega) (by omega) (Kc 1 _ (Kv rfl rfl) <| Kc 4 _ (Kb rfl rfl) <| Kc 5 _ (Kb rfl (by rw [ntB_shr (by omega)] at hc4; first | exact ntc_yes hc4 | exact ntc_no hc4)) <| Kc 6 _ (Kv rfl rfl) <| Kc 7 _ (Kv rfl rfl) <| Kc 32 _ (Kv rfl rfl) <| Kc 33 _ (Kv rfl (by omega)) <| Kn)
    ·
     obtain ⟨hc4, hc4'⟩ := pF hc4
     refine AW.skip ?_
     refine AX.normal_block ?_
     refine AX.go ?_
     refine AW.region ?_
     refine st (OpT.add (H rfl) (T1 rfl) (I rfl) (nw (by omega))) rfl ?_
     refine st (mvT rfl) rfl ?_
     refine nn ?_
     exact AX.again (z + 1) (by omega) (by omega) (Kc 1 _ (Kv rfl rfl) <| Kc 4 _ (Kb rfl rfl) <| Kc 5 _ (Kb rfl (by rw [ntB_shr (by omega)] at hc4; first | exact ntc_yes hc4 | exact ntc_no hc4)) <| Kc 6 _ (Kv rfl rfl) <| Kc 7 _ (Kv rfl rfl) <| Kc 32 _ (Kv rfl rfl) <| Kc 33 _ (Kv rfl (by omega)) <| Kn)
   ·
    obtain ⟨hc3, hc3'⟩ := pF hc3
    refine AW.exit ?_
    refine xT <| xT <| AX.exit_hit ?_
    refine AX.go ?_
    refine AW.seq ?_
    refine sr ?_
    refine st (OpT.loadB (H rfl) (Root.self (t := 5) (by decide)) rfl ag84 sz84) rfl ?_
    refine st (OpT.c1 (ms := [.flat]) (c_impl_CountHoles _) (H rfl) (Af (T1 rfl) rfl rfl <| An) rfl rfl) rfl ?_
    refine st (OpT.rem (H rfl) (T1 rfl) (I rfl) (by omega)) rfl ?_
    refine st (OpT.eql (H rfl) (T1 rfl) (I rfl)) rfl ?_
    refine ng ?_
    refine cd rfl (fun hc5 => ?_) fun hc5 => ?_
    ·
     obtain ⟨hc5, hc5'⟩ := pT hc5
     refine AW.region ?_
     refine st (OpT.loadB (H rfl) (Root.self (t := 5) (by decide)) rfl ag84 sz84) rfl ?_
     refine st (mvT rfl) rfl ?_
     refine st (mvT rfl) rfl ?_
     refine st (OpT.add (H rfl) (T1 rfl) (T1 rfl) (nw (by omega))) rfl ?_
     refine st (OpT.buildSlice (H rfl) el81 zr2 sz2 rfl (by decide) zk2 (by decide) (Built.cel (T1 rfl) rfl rfl (sub_arr (by decide) (0 : Int)) (Built.nil _))) rfl ?_
     refine st (cb1 (ms := [.flat, .bor 59]) (c_impl_Mask_with _ [f.2.2.1 + f.2.2.2] (fun u hu => by rw [List.mem_singleton] at hu; subst hu; omega)) (H rfl) (Af (T1 rfl) rfl rfl <| Ab (Root.self (t := 59) (by decide)) rfl <| An) rfl (indA fun _ _ _ _ h => h)) rfl ?_
     refine sk (OpT.storeBA rfl rfl (Opd.whole (Root.self (t := 5) (by decide)) rfl) rfl sz84 (by decide) (T1 rfl)) rfl ?_
     refine AWl.to (kb 5 rfl <| kc 1 rfl <| kb 4 rfl <| kc2 6 7 rfl <| Kn) ?_
     refine ng ?_
     refine sr ?_
     refine st (OpT.loadB (H rfl) (Root.self (t := 5) (by decide)) rfl ag84 sz84) rfl ?_
     refine sk (OpT.storeBA rfl rfl (Opd.whole (Root.self (t := 4) (by decide)) rfl) rfl sz84 (by decide) (T1 rfl)) rfl ?_
     refine ng ?_
     refine AW.ret ?_
     refine rK <| rT ?_
     exact AX.rt (rs := [.cell 4 84]) (ts := [none]) (.inl rfl) rfl (ROs.cons (RO.cellA (by decide) (Kb rfl (by first | exact cf_dir0 hc1' | (rw [show z = f.2.2.2.toNat by omega] at *; first | exact cf_bin0 hc2' hc5' | exact cf_bin1 hc2' hc5') | (have e : z = f.2.2.2.toNat := (by omega); rw [e]; exact cf_dig' hok hk12 (by omega)))) ag84 sz84) <| ROs.nil) (by decide) OutsOK.nil
    ·
     obtain ⟨hc5, hc5'⟩ := pF hc5
     refine AW.skip ?_
     refine AX.go ?_
     refine sr ?_
     refine st (OpT.loadB (H rfl) (Root.self (t := 5) (by decide)) rfl ag84 sz84) rfl ?_
     refine sk (OpT.storeBA rfl rfl (Opd.whole (Root.self (t := 4) (by decide)) rfl) rfl sz84 (by decide) (T1 rfl)) rfl ?_
     refine ng ?_
     refine AW.ret ?_
     refine rK <| rT ?_
     exact AX.rt (rs := [.cell 4 84]) (ts := [none]) (.inl rfl) rfl (ROs.cons (RO.cellA (by decide) (Kb rfl (by first | exact cf_dir0 hc1' | (rw [show z = f.2.2.2.toNat by omega] at *; first | exact cf_bin0 hc2' hc5' | exact cf_bin1 hc2' hc5') | (have e : z = f.2.2.2.toNat := (by omega); rw [e]; exact cf_dig' hok hk12 (by omega)))) ag84 sz84) <| ROs.nil) (by decide) OutsOK.nil
  ·
   obtain ⟨hc2, hc2'⟩ := pF hc2
   have hk12 := kind_12 hok hk0 hc2'
   have hww := wid_in hok hk12
   have hwq := wid_quo hok hk12
   refine AW.skip ?_
   refine AX.normal_block ?_
   refine AX.go ?_
   refine sr ?_
   refine st (OpT.loadA (H rfl) (T1 rfl) ag80 sz80) rfl ?_
   refine st (OpT.c1 (ms := [.flat]) (c_impl_Field_many _) (H rfl) (Af (T1 rfl) rfl rfl <| An) rfl rfl) rfl ?_
   refine st (mvT rfl) rfl ?_
   refine st (OpT.quo (H rfl) (T1 rfl) (T1 rfl) (by omega) (nw (by omega))) rfl ?_
   refine st (asT rfl) rfl ?_
   refine ng ?_
   refine AW.seq ?_
   refine sr ?_
   refine st (mvT rfl) rfl ?_
   refine st (OpT.sub (H rfl) (T1 rfl) (I rfl) (nw (by omega))) rfl ?_
   refine st (asT rfl) rfl ?_
   refine ng ?_
   refine AW.block ?_
   refine AW.loop (fun z : Nat => (z : Int) ≤ f.2.2.2) (fun z : Nat => keep [(1, .cel (Kd.int .i64) ((v / 10 ^ z : Nat) : Int)), (2, .cel (Kd.ptr kField) f), (4, .box 84 kMask (0#64, 0#64)), (5, .box 84 kMask (withM zM (dnH f (v : Int) f.2.2.2.toNat z))), (6, .cel (Kd.int .i64) f.2.2.1), (7, .cel (Kd.int .i64) f.2.2.2), (9, .cel (Kd.int .i64) (wid f.2.1)), (10, .cel (Kd.int .i64) (f.2.2.2 - 1 - (z : Int)))]) (fun z : Nat => f.2.2.2.toNat - z) (0) (by omega) (Kc 1 _ (Kv rfl (by simp)) <| Kc 2 _ (Kv rfl rfl) <| Kc 4 _ (Kb rfl rfl) <| Kc 5 _ (Kb rfl rfl) <| Kc 6 _ (Kv rfl rfl) <| Kc 7 _ (Kv rfl rfl) <| Kc 9 _ (Kv rfl hwq) <| Kc 10 _ (Kv rfl (by omega)) <| Kn) ?_
   intro z hI
   refine AW.seq ?_
   refine sr ?_
   refine st (mvT rfl) rfl ?_
   refine st (OpT.geq (H rfl) (T1 rfl) (I rfl)) rfl ?_
   refine ng ?_
   refine cd rfl (fun hc6 => ?_) fun hc6 => ?_
   ·
    obtain ⟨hc6, hc6'⟩ := pT hc6
    have htm := tmod10 (v / 10 ^ z)
    have hdg := digA_at (f := f) (v := v) (z := z) (by omega)
    have hdl := digH_len f.2.1 (((v / 10 ^ z : Nat) : Int).tmod 10)
    have htd := tdiv10 (v / 10 ^ z)
    have hdv := Nat.div_le_self v (10 ^ z)
    have hdv0 : (0 : Int) ≤ ((v / 10 ^ z : Nat) : Int) := Int.natCast_nonneg _
    have hwm := wid_mul f.2.1 (f.2.2.2 - 1 - (z : Int)) (by omega)
    have hwp := wid_end hok hk12 (z := f.2.2.2.toNat - 1 - z) (by omega)
    have hcs : ((f.2.2.2.toNat - 1 - z : Nat) : Int) = f.2.2.2 - 1 - (z : Int) := by omega
    rw [hcs] at hwp
    refine AW.skip ?_
    refine AX.go ?_
    refine AW.seq ?_
    refine AW.block ?_
    refine AW.seq ?_
    refine sr ?_
    refine st (OpT.loadA (H rfl) (T1 rfl) ag80 sz80) rfl ?_
    refine st (mvT rfl) rfl ?_
    refine st (OpT.rem (H rfl) (T1 rfl) (I rfl) (by omega)) rfl ?_
    refine st (OpT.c1 (ms := [.flat, .flat]) (c_impl_Field_digitHoles _ _ (by omega)) (H rfl) (Af (T1 rfl) rfl rfl <| Af (T1 rfl) rfl rfl <| An) rfl rfl) rfl ?_
    refine st (OpT.len (H rfl) (T1 rfl) el81) rfl ?_
    refine st (mvI rfl) rfl ?_
    refine ng ?_
    refine AW.block ?_
    refine AW.loop (fun y : Nat => y ≤ (digH f.2.1 (((v / 10 ^ z : Nat) : Int).tmod 10)).length) (fun y : Nat => keep [(1, .cel (Kd.int .i64) ((v / 10 ^ z : Nat) : Int)), (2, .cel (Kd.ptr kField) f), (4, .box 84 kMask (0#64, 0#64)), (5, .box 84 kMask (withM (withM zM (dnH f (v : Int) f.2.2.2.toNat z)) (shf (f.2.2.1 + wid f.2.1 * ((f.2.2.2.toNat - 1 - z : Nat) : Int)) ((digH f.2.1 (digA f (v : Int) (f.2.2.2.toNat - 1 - z))).take y)))), (6, .cel (Kd.int .i64) f.2.2.1), (7, .cel (Kd.int .i64) f.2.2.2), (9, .cel (Kd.int .i64) (wid f.2.1)), (10, .cel (Kd.int .i64) (f.2.2.2 - 1 - (z : Int))), (75, .cel (Kd.slice (Kd.int .i64)) (digH f.2.1 (((v / 10 ^ z : Nat) : Int).tmod 10))), (76, .cel (Kd.int .i64) ((digH f.2.1 (((v / 10 ^ z : Nat) : Int).tmod 10)).length : Int)), (77, .cel (Kd.int .i64) (y : Int))]) (fun y : Nat => (digH f.2.1 (((v / 10 ^ z : Nat) : Int).tmod 10)).length - y) (0) (Nat.zero_le _) (Kc 1 _ (Kv rfl rfl) <| Kc 2 _ (Kv rfl rfl) <| Kc 4 _ (Kb rfl rfl) <| Kc 5 _ (Kb rfl rfl) <| Kc 6 _ (Kv rfl rfl) <| Kc 7 _ (Kv rfl rfl) <| Kc 9 _ (Kv rfl rfl) <| Kc 10 _ (Kv rfl rfl) <| Kc 75 _ (Kv rfl rfl) <| Kc 76 _ (Kv rfl rfl) <| Kc 77 _ (Kv rfl rfl) <| Kn) ?_
    intro y hI
    refine sr ?_
    refine st (OpT.lss (H rfl) (T1 rfl) (T1 rfl)) rfl ?_
    refine ng ?_
    refine AW.seq ?_
    refine cd rfl (fun hc7 => ?_) fun hc7 => ?_
    ·
     obtain ⟨hc7, hc7'⟩ := pT hc7
     obtain ⟨h, hh⟩ := getI (x := digH f.2.1 (((v / 10 ^ z : Nat) : Int).tmod 10)) (z := y) (by omega)
     have hhi := digH_lt hk12 (mem_getI hh)
     refine AW.skip ?_
     refine AX.go ?_
     refine AW.seq ?_
     refine AW.block ?_
     refine sr ?_
     refine st (OpT.indexAddr (H rfl) (T1 rfl) (T1 rfl) el81 sz2 (by omega) (by assumption)) rfl ?_
     refine st (OpT.load (H rfl) (T1 rfl) ag2 rfl) rfl ?_
     refine st (asT rfl) rfl ?_
     refine ng ?_
     refine AW.region ?_
     refine st (OpT.loadB (H rfl) (Root.self (t := 5) (by decide)) rfl ag84 sz84) rfl ?_
     refine st (mvT rfl) rfl ?_
     refine st (mvT rfl) rfl ?_
     refine st (mvT rfl) rfl ?_
     refine st (OpT.mul (H rfl) (T1 rfl) (T1 rfl) (nw (by omega))) rfl ?_
     refine st (OpT.add (H rfl) (T1 rfl) (T1 rfl) (nw (by omega))) rfl ?_
     refine st (mvT rfl) rfl ?_
     refine st (OpT.add (H rfl) (T1 rfl) (T1 rfl) (nw (by omega))) rfl ?_
     refine st (OpT.buildSlice (H rfl) el81 zr2 sz2 rfl (by decide) zk2 (by decide) (Built.cel (T1 rfl) rfl rfl (sub_arr (by decide) (0 : Int)) (Built.nil _))) rfl ?_
     refine st (cb1 (ms := [.flat, .bor 89]) (c_impl_Mask_with _ [f.2.2.1 + (f.2.2.2 - 1 - (z : Int)) * wid f.2.1 + h] (fun u hu => by rw [List.mem_singleton] at hu; subst hu; omega)) (H rfl) (Af (T1 rfl) rfl rfl <| Ab (Root.self (t := 89) (by decide)) rfl <| An) rfl (indA fun _ _ _ _ h => h)) rfl ?_
     refine sk (OpT.storeBA rfl rfl (Opd.whole (Root.self (t := 5) (by decide)) rfl) rfl sz84 (by decide) (T1 rfl)) rfl ?_
     refine nn ?_
     refine AX.normal_block ?_
     refine AX.go ?_
     refine AW.region ?_
     refine st (OpT.add (H rfl) (T1 rfl) (I rfl) (nw (by omega))) rfl ?_
     refine st (mvT rfl) rfl ?_
     refine nn ?_
     exact AX.again (y + 1) (by omega) (by omega) (Kc 1 _ (Kv rfl rfl) <| Kc 2 _ (Kv rfl rfl) <| Kc 4 _ (Kb rfl rfl) <| Kc 5 _ (Kb rfl (by rw [hdg] at hh; rw [← shf_next hh, hcs, hwm.2.2])) <| Kc 6 _ (Kv rfl rfl) <| Kc 7 _ (Kv rfl rfl) <| Kc 9 _ (Kv rfl rfl) <| Kc 10 _ (Kv rfl rfl) <| Kc 75 _ (Kv rfl rfl) <| Kc 76 _ (Kv rfl rfl) <| Kc 77 _ (Kv rfl (by omega)) <| Kn)
    ·
     obtain ⟨hc7, hc7'⟩ := pF hc7
     refine AW.exit ?_
     refine xT <| xT <| AX.exit_hit ?_
     refine AX.go ?_
     refine AW.region ?_
     refine st (mvT rfl) rfl ?_
     refine st (OpT.quo (H rfl) (T1 rfl) (I rfl) (by omega) (nw (by omega))) rfl ?_
     refine st (asT rfl) rfl ?_
     refine nn ?_
     refine AX.normal_block ?_
     refine AX.go ?_
     refine AW.region ?_
     refine st (mvT rfl) rfl ?_
     refine st (OpT.sub (H rfl) (T1 rfl) (I rfl) (nw (by omega))) rfl ?_
     refine st (asT rfl) rfl ?_
     refine nn ?_
     exact AX.again (z + 1) (by omega) (by omega) (Kc 1 _ (Kv rfl (by rw [tdiv10, Nat.div_div_eq_div_mul, Nat.pow_succ])) <| Kc 2 _ (Kv rfl rfl) <| Kc 4 _ (Kb rfl rfl) <| Kc 5 _ (Kb rfl (by rw [List.take_of_length_le (by rw [hdg] at *; omega), with_app]; rfl)) <| Kc 6 _ (Kv rfl rfl) <| Kc 7 _ (Kv rfl rfl) <| Kc 9 _ (Kv rfl rfl) <| Kc 10 _ (Kv rfl (by omega)) <| Kn)
   ·
    obtain ⟨hc6, hc6'⟩ := pF hc6
    refine AW.exit ?_
    refine xT <| xT <| AX.exit_hit ?_
    refine AX.go ?_
    refine sr ?_
    refine st (OpT.loadB (H rfl) (Root.self (t := 5) (by decide)) rfl ag84 sz84) rfl ?_
    refine sk (OpT.storeBA rfl rfl (Opd.whole (Root.self (t := 4) (by decide)) rfl) rfl sz84 (by decide) (T1 rfl)) rfl ?_
    refine AWl.to (kb 4 rfl <| Kn) ?_
    refine ng ?_
    refine AW.ret ?_
    exact AX.rt (rs := [.cell 4 84]) (ts := [none]) (.inl rfl) rfl (ROs.cons (RO.cellA (by decide) (Kb rfl (by first | exact cf_dir0 hc1' | (rw [show z = f.2.2.2.toNat by omega] at *; first | exact cf_bin0 hc2' hc5' | exact cf_bin1 hc2' hc5') | (have e : z = f.2.2.2.toNat := (by omega); rw [e]; exact cf_dig' hok hk12 (by omega)))) ag84 sz84) <| ROs.nil) (by decide) OutsOK.nil

/-- spec.l01Value -/
theorem c_spec_l01Value (f : DField) (m : DMask) (hok : fieldOK f) : AC Tryz.prog 81 [.cel (Kd.ptr kField) f, .agg kMask m] [.cel (Kd.int .i64) (valS f m).1, .cel (Kd.int .i64) (valS f m).2] [] := by
 refine acI (N := 27) Tryz.func81 (Nat.le_of_ble_eq_true rfl) rfl fun w0 hd s0 ar => ?_
 refine AW.to (kc 0 rfl <| ka 1 rfl <| Kn) ?_
 have htp := top_in hok
 refine sr ?_
 refine st (OpT.frz (OpT.boxA (E := 84) (H rfl) (T1 rfl))) rfl ?_
 refine st (asI rfl) rfl ?_
 refine st (asI rfl) rfl ?_
 refine AWl.to (kc4 5 4 3 0 rfl <| Kn) ?_
 refine ng ?_
 refine AW.seq ?_
 refine dh fomo ?_
 refine d1 [3] (fun ve h => OpT.loadA (H rfl) (D1 h rfl) ag84 sz84) rfl ?_
 refine d1 [0] (fun ve h => OpT.move (A := .cel _ _) (.inl rfl) rfl (ok' rfl) (D1 h rfl) rfl) rfl ?_
 refine d1 [9] (fun ve h => OpT.c1 (ms := [.flat]) (c_spec_l01Part _ hok) (H rfl) (Af (D1 h rfl) rfl rfl <| An) rfl rfl) rfl ?_
 refine d1 [8, 10] (fun ve h => OpT.c1 (ms := [.flat, .flat]) (c_spec_l01Meet _ _) (H rfl) (Af (D1 h rfl) rfl rfl <| Af (D1 h rfl) rfl rfl <| An) rfl rfl) rfl ?_
 refine d1 [] (fun ve h => OpT.alloc (H rfl) zr84 zk84) rfl ?_
 refine dm (t := 6) [6, 11] (fun ve h => OpT.storeBA rfl rfl (Opd.whole (Root.self (t := 6) (by decide)) ((h _ (List.elem_iff.1 rfl)).trans rfl)) ((h _ (List.elem_iff.1 rfl)).trans rfl) sz84 (by decide) (D1 h rfl)) rfl ?_
 refine dn ⟨by kernel_rfl, by kernel_rfl, ?_⟩
 refine AX.go ?_
 refine AW.seq ?_
 refine sr ?_
 refine st (OpT.loadB (H rfl) (Root.self (t := 6) (by decide)) rfl ag84 sz84) rfl ?_
 refine st (OpT.buildA (H rfl) ar84 sz73 zr84 zk84 (Built.nil _)) rfl ?_
 refine st (OpT.eqA (H rfl) (T1 rfl) (T1 rfl) eq84 ag84 rfl eg84) rfl ?_
 refine ng ?_
 refine cd rfl (fun hc1 => ?_) fun hc1 => ?_
 ·
  obtain ⟨hc1, hc1'⟩ := pT hc1
  have hn : meetM m (partF f) = zM := eqv_iff.1 hc1
  refine sr ?_
  refine st (asI rfl) rfl ?_
  refine st (asI rfl) rfl ?_
  refine AWl.to (kc2 5 4 rfl <| kb 6 rfl <| kc 0 rfl <| Kn) ?_
  refine ng ?_
  refine AW.ret ?_
  refine rT ?_
  exact rt2 rfl (.inl rfl) (by first | (rw [valS_none hn]; done) | (rw [valS_at hn hI.2 (by omega) he]; done) | (rw [valS_end hn hI.2 (by omega)]; done)) (by first | (rw [valS_none hn]; done) | (rw [valS_at hn hI.2 (by omega) he]; done) | (rw [valS_end hn hI.2 (by omega)]; done))
 ·
  obtain ⟨hc1, hc1'⟩ := pF hc1
  have hn : ¬ meetM m (partF f) = zM := eqv_false_iff.1 hc1
  refine AW.skip ?_
  refine AX.go ?_
  refine AW.seq ?_
  refine sr ?_
  refine st (asI rfl) rfl ?_
  refine ng ?_
  refine AW.block ?_
  refine AW.loop (fun z : Nat => z ≤ (topF f + 1).toNat ∧ ∀ i, i < z → ownI f m i) (fun z : Nat => keep [(0, .cel (Kd.ptr kField) f), (6, .box 84 kMask (meetM m (partF f))), (7, .cel (Kd.int .i64) (z : Int))]) (fun z : Nat => (topF f + 1).toNat - z) (0) ⟨Nat.zero_le _, all_none⟩ (Kc 0 _ (Kv rfl rfl) <| Kc 6 _ (Kb rfl rfl) <| Kc 7 _ (Kv rfl rfl) <| Kn) ?_
  intro z hI
  refine AW.seq ?_
  refine sr ?_
  refine st (mvT rfl) rfl ?_
  refine st (mvT rfl) rfl ?_
  refine st (OpT.c1 (ms := [.flat]) (c_spec_l01Most _ hok) (H rfl) (Af (T1 rfl) rfl rfl <| An) rfl rfl) rfl ?_
  refine st (OpT.leq (H rfl) (T1 rfl) (T1 rfl)) rfl ?_
  refine ng ?_
  refine cd rfl (fun hc2 => ?_) fun hc2 => ?_
  ·
   obtain ⟨hc2, hc2'⟩ := pT hc2
   refine AW.skip ?_
   refine AX.go ?_
   refine AW.seq ?_
   refine AW.block ?_
   refine AW.seq ?_
   refine dh fomo ?_
   refine d1 [0] (fun ve h => OpT.move (A := .cel _ _) (.inl rfl) rfl (ok' rfl) (D1 h rfl) rfl) rfl ?_
   refine d1 [7] (fun ve h => OpT.move (A := .cel _ _) (.inl rfl) rfl (ok' rfl) (D1 h rfl) rfl) rfl ?_
   refine d1 [21, 22] (fun ve h => OpT.c1 (ms := [.flat, .flat]) (c_spec_l01Code _ z hok (by omega)) (H rfl) (Af (D1 h rfl) rfl rfl <| Af (D1 h rfl) rfl rfl <| An) rfl rfl) rfl ?_
   refine d1 [6] (fun ve h => OpT.loadB (H rfl) (Root.self (t := 6) (by decide)) ((h _ (List.elem_iff.1 rfl)).trans rfl) ag84 sz84) rfl ?_
   refine d1 [23, 24] (fun ve h => OpT.eqA (H rfl) (D1 h rfl) (D1 h rfl) eq84 ag84 rfl eg84) rfl ?_
   refine dn ⟨by kernel_rfl, by kernel_rfl, ?_⟩
   refine AX.go ?_
   refine cd rfl (fun hc3 => ?_) fun hc3 => ?_
   ·
    obtain ⟨hc3, hc3'⟩ := pT hc3
    have he := eqv_iff.1 hc3
    refine sr ?_
    refine st (mvT rfl) rfl ?_
    refine st (asT rfl) rfl ?_
    refine st (asI rfl) rfl ?_
    refine ng ?_
    refine AW.ret ?_
    refine rK <| rT <| rT <| rK <| rT ?_
    exact rt2 rfl (.inl rfl) (by first | (rw [valS_none hn]; done) | (rw [valS_at hn hI.2 (by omega) he]; done) | (rw [valS_end hn hI.2 (by omega)]; done)) (by first | (rw [valS_none hn]; done) | (rw [valS_at hn hI.2 (by omega) he]; done) | (rw [valS_end hn hI.2 (by omega)]; done))
   ·
    obtain ⟨hc3, hc3'⟩ := pF hc3
    have he := eqv_false_iff.1 hc3
    refine AW.skip ?_
    refine AX.normal_block ?_
    refine AX.go ?_
    refine AW.region ?_
    refine st (mvT rfl) rfl ?_
    refine st (OpT.add (H rfl) (T1 rfl) (I rfl) (nw (by omega))) rfl ?_
    refine st (asT rfl) rfl ?_
    refine nn ?_
    exact AX.again (z + 1) ⟨by omega, all_step hI.2 he⟩ (by omega) (Kc 0 _ (Kv rfl rfl) <| Kc 6 _ (Kb rfl rfl) <| Kc 7 _ (Kv rfl (by omega)) <| Kn)
  ·
   obtain ⟨hc2, hc2'⟩ := pF hc2
   refine AW.exit ?_
   refine xT <| xT <| AX.exit_hit ?_
   refine AX.go ?_
   refine sr ?_
   refine st (asI rfl) rfl ?_
   refine st (asI rfl) rfl ?_
   refine ng ?_
   refine AW.ret ?_
   exact rt2 rfl (.inl rfl) (by first | (rw [valS_none hn]; done) | (rw [valS_at hn hI.2 (by omega) he]; done) | (rw [valS_end hn hI.2 (by omega)]; done)) (by first | (rw [valS_none hn]; done) | (rw [valS_at hn hI.2 (by omega) he]; done) | (rw [valS_end hn hI.2 (by omega)]; done))

/-- impl.Field).decode -/
theorem c_impl_Field_decode (f : DField) (m : DMask) (hok : fieldOK f) : AC Tryz.prog 64 [.agg kField f, .agg kMask m] [.cel (Kd.int .i64) (valS f m).1, .cel (Kd.int .i64) (valS f m).2] [] := by
 refine acI (N := 28) Tryz.func64 (Nat.le_of_ble_eq_true rfl) rfl fun w0 hd s0 ar => ?_
 refine AW.to (ka 0 rfl <| ka 1 rfl <| Kn) ?_
 have htp := top_in hok
 refine sr ?_
 refine st (OpT.frz (OpT.boxA (E := 80) (H rfl) (T1 rfl))) rfl ?_
 refine st (OpT.frz (OpT.boxA (E := 84) (H rfl) (T1 rfl))) rfl ?_
 refine st (asI rfl) rfl ?_
 refine st (asI rfl) rfl ?_
 refine AWl.to (kc4 5 4 3 2 rfl <| Kn) ?_
 refine ng ?_
 refine AW.seq ?_
 refine dh fomo ?_
 refine d1 [3] (fun ve h => OpT.loadA (H rfl) (D1 h rfl) ag84 sz84) rfl ?_
 refine d1 [2] (fun ve h => OpT.loadA (H rfl) (D1 h rfl) ag80 sz80) rfl ?_
 refine d1 [9] (fun ve h => OpT.c1 (ms := [.flat]) (c_impl_Field_part _ hok) (H rfl) (Af (D1 h rfl) rfl rfl <| An) rfl rfl) rfl ?_
 refine d1 [8, 10] (fun ve h => OpT.c1 (ms := [.flat, .flat]) (c_impl_MeetMasks _ _) (H rfl) (Af (D1 h rfl) rfl rfl <| Af (D1 h rfl) rfl rfl <| An) rfl rfl) rfl ?_
 refine d1 [] (fun ve h => OpT.alloc (H rfl) zr84 zk84) rfl ?_
 refine dm (t := 6) [6, 11] (fun ve h => OpT.storeBA rfl rfl (Opd.whole (Root.self (t := 6) (by decide)) ((h _ (List.elem_iff.1 rfl)).trans rfl)) ((h _ (List.elem_iff.1 rfl)).trans rfl) sz84 (by decide) (D1 h rfl)) rfl ?_
 refine dn ⟨by kernel_rfl, by kernel_rfl, ?_⟩
 refine AX.go ?_
 refine AW.seq ?_
 refine sr ?_
 refine st (OpT.loadB (H rfl) (Root.self (t := 6) (by decide)) rfl ag84 sz84) rfl ?_
 refine st (OpT.buildA (H rfl) ar84 sz73 zr84 zk84 (Built.nil _)) rfl ?_
 refine st (OpT.eqA (H rfl) (T1 rfl) (T1 rfl) eq84 ag84 rfl eg84) rfl ?_
 refine ng ?_
 refine cd rfl (fun hc1 => ?_) fun hc1 => ?_
 ·
  obtain ⟨hc1, hc1'⟩ := pT hc1
  have hn : meetM m (partF f) = zM := eqv_iff.1 hc1
  refine sr ?_
  refine st (asI rfl) rfl ?_
  refine st (asI rfl) rfl ?_
  refine AWl.to (kc2 5 4 rfl <| kb 6 rfl <| kc 2 rfl <| Kn) ?_
  refine ng ?_
  refine AW.ret ?_
  refine rT ?_
  exact rt2 rfl (.inl rfl) (by first | (rw [valS_none hn]; done) | (rw [valS_at hn hI.2 (by omega) he]; done) | (rw [valS_end hn hI.2 (by omega)]; done)) (by first | (rw [valS_none hn]; done) | (rw [valS_at hn hI.2 (by omega) he]; done) | (rw [valS_end hn hI.2 (by omega)]; done))
 ·
  obtain ⟨hc1, hc1'⟩ := pF hc1
  have hn : ¬ meetM m (partF f) = zM := eqv_false_iff.1 hc1
  refine AW.skip ?_
  refine AX.go ?_
  refine AW.seq ?_
  refine sr ?_
  refine st (OpT.loadA (H rfl) (T1 rfl) ag80 sz80) rfl ?_
  refine st (OpT.c1 (ms := [.flat]) (c_impl_Field_most _ hok) (H rfl) (Af (T1 rfl) rfl rfl <| An) rfl rfl) rfl ?_
  refine st (OpT.add (H rfl) (T1 rfl) (I rfl) (nw (by omega))) rfl ?_
  refine st (mvI rfl) rfl ?_
  refine AWl.to (kc2 18 17 rfl <| kb 6 rfl <| kc3 5 4 2 rfl <| Kn) ?_
  refine ng ?_
  refine AW.block ?_
  refine AW.loop (fun z : Nat => z ≤ (topF f + 1).toNat ∧ ∀ i, i < z → ownI f m i) (fun z : Nat => keep [(2, .cel (Kd.ptr kField) f), (6, .box 84 kMask (meetM m (partF f))), (17, .cel (Kd.int .i64) (topF f + 1)), (18, .cel (Kd.int .i64) (z : Int))]) (fun z : Nat => (topF f + 1).toNat - z) (0) ⟨Nat.zero_le _, all_none⟩ (Kc 2 _ (Kv rfl rfl) <| Kc 6 _ (Kb rfl rfl) <| Kc 17 _ (Kv rfl rfl) <| Kc 18 _ (Kv rfl rfl) <| Kn) ?_
  intro z hI
  refine sr ?_
  refine st (OpT.lss (H rfl) (T1 rfl) (T1 rfl)) rfl ?_
  refine ng ?_
  refine AW.seq ?_
  refine cd rfl (fun hc2 => ?_) fun hc2 => ?_
  ·
   obtain ⟨hc2, hc2'⟩ := pT hc2
   refine AW.skip ?_
   refine AX.go ?_
   refine AW.seq ?_
   refine AW.block ?_
   refine sr ?_
   refine st (mvT rfl) rfl ?_
   refine st (asT rfl) rfl ?_
   refine ng ?_
   refine AW.seq ?_
   refine dh fomo ?_
   refine d1 [2] (fun ve h => OpT.loadA (H rfl) (D1 h rfl) ag80 sz80) rfl ?_
   refine d1 [7] (fun ve h => OpT.move (A := .cel _ _) (.inl rfl) rfl (ok' rfl) (D1 h rfl) rfl) rfl ?_
   refine d1 [21, 22] (fun ve h => OpT.c1 (ms := [.flat, .flat]) (c_impl_Field_encode _ z hok (by omega)) (H rfl) (Af (D1 h rfl) rfl rfl <| Af (D1 h rfl) rfl rfl <| An) rfl rfl) rfl ?_
   refine d1 [6] (fun ve h => OpT.loadB (H rfl) (Root.self (t := 6) (by decide)) ((h _ (List.elem_iff.1 rfl)).trans rfl) ag84 sz84) rfl ?_
   refine d1 [23, 24] (fun ve h => OpT.eqA (H rfl) (D1 h rfl) (D1 h rfl) eq84 ag84 rfl eg84) rfl ?_
   refine dn ⟨by kernel_rfl, by kernel_rfl, ?_⟩
   refine AX.go ?_
   refine cd rfl (fun hc3 => ?_) fun hc3 => ?_
   ·
    obtain ⟨hc3, hc3'⟩ := pT hc3
    have he := eqv_iff.1 hc3
    refine sr ?_
    refine st (mvT rfl) rfl ?_
    refine st (asT rfl) rfl ?_
    refine st (asI rfl) rfl ?_
    refine ng ?_
    refine AW.ret ?_
    refine rK <| rT <| rT <| rK <| rT ?_
    exact rt2 rfl (.inl rfl) (by first | (rw [valS_none hn]; done) | (rw [valS_at hn hI.2 (by omega) he]; done) | (rw [valS_end hn hI.2 (by omega)]; done)) (by first | (rw [valS_none hn]; done) | (rw [valS_at hn hI.2 (by omega) he]; done) | (rw [valS_end hn hI.2 (by omega)]; done))
   ·
    obtain ⟨hc3, hc3'⟩ := pF hc3
    have he := eqv_false_iff.1 hc3
    refine AW.skip ?_
    refine AX.normal_block ?_
    refine AX.go ?_
    refine AW.region ?_
    refine st (OpT.add (H rfl) (T1 rfl) (I rfl) (nw (by omega))) rfl ?_
    refine st (mvT rfl) rfl ?_
    refine nn ?_
    exact AX.again (z + 1) ⟨by omega, all_step hI.2 he⟩ (by omega) (Kc 2 _ (Kv rfl rfl) <| Kc 6 _ (Kb rfl rfl) <| Kc 17 _ (Kv rfl rfl) <| Kc 18 _ (Kv rfl (by omega)) <| Kn)
  ·
   obtain ⟨hc2, hc2'⟩ := pF hc2
   refine AW.exit ?_
   refine xT <| xT <| AX.exit_hit ?_
   refine AX.go ?_
   refine sr ?_
   refine st (asI rfl) rfl ?_
   refine st (asI rfl) rfl ?_
   refine ng ?_
   refine AW.ret ?_
   exact rt2 rfl (.inl rfl) (by first | (rw [valS_none hn]; done) | (rw [valS_at hn hI.2 (by omega) he]; done) | (rw [valS_end hn hI.2 (by omega)]; done)) (by first | (rw [valS_none hn]; done) | (rw [valS_at hn hI.2 (by omega) he]; done) | (rw [valS_end hn hI.2 (by omega)]; done))

/-- spec.l06In -/
theorem c_spec_l06In (f : DField) (m : DMask) (hok : fieldOK f) : AC Tryz.prog 60 [.cel (Kd.ptr kField) f, .agg kMask m] [.cel (Kd.int .i64) (valIn f m)] [] := by
 refine acI (N := 19) Tryz.func60 (Nat.le_of_ble_eq_true rfl) rfl fun w0 hd s0 ar => ?_
 refine AW.to (kc 0 rfl <| ka 1 rfl <| Kn) ?_
 have hcd := valS_code f m
 refine sr ?_
 refine st (OpT.frz (OpT.boxA (E := 84) (H rfl) (T1 rfl))) rfl ?_
 refine st (asI rfl) rfl ?_
 refine ng ?_
 refine sr ?_
 refine st (mvT rfl) rfl ?_
 refine st (OpT.loadA (H rfl) (T1 rfl) ag84 sz84) rfl ?_
 refine s2 (OpT.c2 (ms := [.flat, .flat]) (c_spec_l01Value _ _ hok) (H rfl) (Af (T1 rfl) rfl rfl <| Af (T1 rfl) rfl rfl <| An) rfl rfl rfl) rfl ?_
 refine st (OpT.alias (H rfl) (by decide) (by decide)) rfl ?_
 refine st (OpT.extractV (m := 10010) (H rfl) rfl rfl rfl rfl rfl rfl rfl) rfl ?_
 refine st (OpT.extractV (m := 20010) (H rfl) rfl rfl rfl rfl rfl rfl rfl) rfl ?_
 refine st (asT rfl) rfl ?_
 refine st (asT rfl) rfl ?_
 refine ng ?_
 refine AW.seq ?_
 refine sr ?_
 refine st (mvT rfl) rfl ?_
 refine AWl.to (kc3 13 5 4 rfl <| Kn) ?_
 refine ng ?_
 refine AW.block ?_
 refine sr ?_
 refine st (OpT.eql (H rfl) (T1 rfl) (I rfl)) rfl ?_
 refine st (asT rfl) rfl ?_
 refine ng ?_
 refine cd rfl (fun hc1 => ?_) fun hc1 => ?_
 ·
  obtain ⟨hc1, hc1'⟩ := pT hc1
  refine sr ?_
  refine st (mvT rfl) rfl ?_
  refine st (asT rfl) rfl ?_
  refine ng ?_
  refine AW.ret ?_
  refine rK <| rT ?_
  exact rt1 rfl (.inl rfl) (by unfold valIn; (repeat' split) <;> first | rfl | omega)
 ·
  obtain ⟨hc1, hc1'⟩ := pF hc1
  refine sr ?_
  refine st (OpT.eql (H rfl) (T1 rfl) (I rfl)) rfl ?_
  refine st (asT rfl) rfl ?_
  refine ng ?_
  refine cd rfl (fun hc2 => ?_) fun hc2 => ?_
  ·
   obtain ⟨hc2, hc2'⟩ := pT hc2
   refine sr ?_
   refine st (asI rfl) rfl ?_
   refine ng ?_
   refine AW.ret ?_
   refine rK <| rT ?_
   exact rt1 rfl (.inl rfl) (by unfold valIn; (repeat' split) <;> first | rfl | omega)
  ·
   obtain ⟨hc2, hc2'⟩ := pF hc2
   refine AW.skip ?_
   refine AX.normal_block ?_
   refine AX.go ?_
   refine sr ?_
   refine st (asI rfl) rfl ?_
   refine ng ?_
   refine AW.ret ?_
   exact rt1 rfl (.inl rfl) (by unfold valIn; (repeat' split) <;> first | rfl | omega)

/-- impl.valueIn -/
theorem c_impl_valueIn (f : DField) (m : DCard) (hok : fieldOK f) : AC Tryz.prog 39 [.agg kField f, .agg kCard m] [.cel (Kd.int .i64) (valIn f m.2)] [] := by
 refine acI (N := 20) Tryz.func39 (Nat.le_of_ble_eq_true rfl) rfl fun w0 hd s0 ar => ?_
 refine AW.to (ka 0 rfl <| ka 1 rfl <| Kn) ?_
 have hcd := valS_code f m.2
 refine sr ?_
 refine st (OpT.frz (OpT.boxA (E := 80) (H rfl) (T1 rfl))) rfl ?_
 refine st (OpT.frz (OpT.boxA (E := 86) (H rfl) (T1 rfl))) rfl ?_
 refine st (asI rfl) rfl ?_
 refine ng ?_
 refine sr ?_
 refine st (OpT.loadA (H rfl) (T1 rfl) ag80 sz80) rfl ?_
 refine st (OpT.fieldAddr (H rfl) (T1 rfl) fd86_1 sz84 (by decide) sb86_1) rfl ?_
 refine st (OpT.loadA (H rfl) (T1 rfl) ag84 sz84) rfl ?_
 refine s2 (OpT.c2 (ms := [.flat, .flat]) (c_impl_Field_decode _ _ hok) (H rfl) (Af (T1 rfl) rfl rfl <| Af (T1 rfl) rfl rfl <| An) rfl rfl rfl) rfl ?_
 refine st (OpT.alias (H rfl) (by decide) (by decide)) rfl ?_
 refine st (OpT.extractV (m := 10011) (H rfl) rfl rfl rfl rfl rfl rfl rfl) rfl ?_
 refine st (OpT.extractV (m := 20011) (H rfl) rfl rfl rfl rfl rfl rfl rfl) rfl ?_
 refine st (asT rfl) rfl ?_
 refine st (asT rfl) rfl ?_
 refine AWl.to (kc3 6 5 4 rfl <| Kn) ?_
 refine ng ?_
 refine AW.seq ?_
 refine sr ?_
 refine st (mvT rfl) rfl ?_
 refine ng ?_
 refine AW.block ?_
 refine sr ?_
 refine st (OpT.eql (H rfl) (T1 rfl) (I rfl)) rfl ?_
 refine st (asT rfl) rfl ?_
 refine ng ?_
 refine cd rfl (fun hc1 => ?_) fun hc1 => ?_
 ·
  obtain ⟨hc1, hc1'⟩ := pT hc1
  refine sr ?_
  refine st (asI rfl) rfl ?_
  refine ng ?_
  refine AW.ret ?_
  refine rK <| rT ?_
  exact rt1 rfl (.inl rfl) (by unfold valIn; (repeat' split) <;> first | rfl | omega)
 ·
  obtain ⟨hc1, hc1'⟩ := pF hc1
  refine sr ?_
  refine st (OpT.eql (H rfl) (T1 rfl) (I rfl)) rfl ?_
  refine st (asT rfl) rfl ?_
  refine ng ?_
  refine cd rfl (fun hc2 => ?_) fun hc2 => ?_
  ·
   obtain ⟨hc2, hc2'⟩ := pT hc2
   refine sr ?_
   refine st (asI rfl) rfl ?_
   refine ng ?_
   refine AW.ret ?_
   refine rK <| rT ?_
   exact rt1 rfl (.inl rfl) (by unfold valIn; (repeat' split) <;> first | rfl | omega)
  ·
   obtain ⟨hc2, hc2'⟩ := pF hc2
   refine AW.skip ?_
   refine AX.normal_block ?_
   refine AX.go ?_
   refine sr ?_
   refine st (mvT rfl) rfl ?_
   refine st (asT rfl) rfl ?_
   refine ng ?_
   refine AW.ret ?_
   exact rt1 rfl (.inl rfl) (by unfold valIn; (repeat' split) <;> first | rfl | omega)

end Go.Proofs.YtkgboidjghcegaaGreatDoor.VL
