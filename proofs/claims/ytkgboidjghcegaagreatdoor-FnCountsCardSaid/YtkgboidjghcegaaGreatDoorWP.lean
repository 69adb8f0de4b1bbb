/- Proved here: what some functions of the program take and give: walks with the words of VA..VQ. Printed by program. -/
import Derived.Test.YtkgboidjghcegaaGreatDoorWT
import Derived.Test.YtkgboidjghcegaaGreatDoorBpa
import Derived.Test.YtkgboidjghcegaaGreatDoorWA
import Derived.Test.YtkgboidjghcegaaGreatDoorWK
import Derived.Test.YtkgboidjghcegaaGreatDoorWN
import Derived.Test.YtkgboidjghcegaaGreatDoorWL
set_option linter.unusedVariables false
set_option linter.unusedSimpArgs false
set_option maxRecDepth 4000
namespace Go.Proofs.YtkgboidjghcegaaGreatDoor.VL
open Go
/-- spec.l01Bit -/
theorem c_spec_l01Bit (i : Int) (h : 0 ≤ i ∧ i < 128) : AC Tryz.prog 72 [.cel (Kd.int .i64) i] [.agg kMask (bitM i)] [] := by
 refine acI (N := 13) Tryz.func72 (Nat.le_of_ble_eq_true rfl) rfl fun w0 hd s0 ar => ?_
 refine AW.to (kc 0 rfl <| Kn) ?_
 have hd64 := div64 h
 have hm64 := mod64 h.1
 refine sr ?_
 refine st (OpT.alloc (H rfl) zr84 zk84) rfl ?_
 refine ng ?_
 refine sr ?_
 refine st (OpT.buildA (H rfl) ar84 sz73 zr84 zk84 (Built.nil _)) rfl ?_
 refine st (OpT.alloc (H rfl) zr84 zk84) rfl ?_
 refine sk (OpT.storeBA rfl rfl (Opd.whole (Root.self (t := 3) (by decide)) rfl) rfl sz84 (by decide) (T1 rfl)) rfl ?_
 refine ng ?_
 refine sr ?_
 refine st (mvT rfl) rfl ?_
 refine st (OpT.quo (H rfl) (T1 rfl) (I rfl) (by omega) (nw (by omega))) rfl ?_
 refine st (mvT rfl) rfl ?_
 refine st (OpT.rem (H rfl) (T1 rfl) (I rfl) (by omega)) rfl ?_
 refine st (OpT.convu (H rfl) us2 Tryz.underlying73 (T1 rfl)) rfl ?_
 refine st (OpT.shl (H rfl) (U2 1 rfl rfl) (Opd.asInt (T1 rfl)) (Int.natCast_nonneg _)) rfl ?_
 refine st (OpT.indexAddrB (H rfl) (Root.self (t := 3) (by decide)) rfl (by decide) (T1 rfl) ar84 sz73 (by omega) (Sub.two (by omega) rfl)) rfl ?_
 refine sk (OpT.storeB rfl rfl (T1 rfl) rfl sz73 rfl (T1 rfl)) rfl ?_
 refine AWl.to (kb 3 rfl <| kb 2 rfl <| Kn) ?_
 refine ng ?_
 refine sr ?_
 refine st (OpT.loadB (H rfl) (Root.self (t := 3) (by decide)) rfl ag84 sz84) rfl ?_
 refine sk (OpT.storeBA rfl rfl (Opd.whole (Root.self (t := 2) (by decide)) rfl) rfl sz84 (by decide) (T1 rfl)) rfl ?_
 refine ng ?_
 refine AW.ret ?_
 exact AX.rt (rs := [.cell 2 84]) (ts := [none]) (.inl rfl) rfl (ROs.cons (RO.cellA (by decide) (Kb rfl (bit_of h.1)) ag84 sz84) <| ROs.nil) (by decide) OutsOK.nil

/-- spec.l01Join -/
theorem c_spec_l01Join (x y : BitVec 64 × BitVec 64) : AC Tryz.prog 70 [.agg kMask x, .agg kMask y] [.agg kMask (joinM x y)] [] := by
 refine acI (N := 16) Tryz.func70 (Nat.le_of_ble_eq_true rfl) rfl fun w0 hd s0 ar => ?_
 refine AW.to (ka 0 rfl <| ka 1 rfl <| Kn) ?_
 refine sr ?_
 refine st (OpT.frz (OpT.boxA (E := 84) (H rfl) (T1 rfl))) rfl ?_
 refine st (OpT.frz (OpT.boxA (E := 84) (H rfl) (T1 rfl))) rfl ?_
 refine st (OpT.alloc (H rfl) zr84 zk84) rfl ?_
 refine ng ?_
 refine sr ?_
 refine st (OpT.indexAddrP (H rfl) (T1 rfl) (I rfl) ar84 sz73 (by decide) sx84_0) rfl ?_
 refine st (OpT.load (H rfl) (T1 rfl) ag73 rfl) rfl ?_
 refine st (OpT.indexAddrP (H rfl) (T1 rfl) (I rfl) ar84 sz73 (by decide) sx84_0) rfl ?_
 refine st (OpT.load (H rfl) (T1 rfl) ag73 rfl) rfl ?_
 refine st (OpT.bor (H rfl) (T1 rfl) (T1 rfl)) rfl ?_
 refine st (OpT.indexAddrP (H rfl) (T1 rfl) (I rfl) ar84 sz73 (by decide) sx84_1) rfl ?_
 refine st (OpT.load (H rfl) (T1 rfl) ag73 rfl) rfl ?_
 refine st (OpT.indexAddrP (H rfl) (T1 rfl) (I rfl) ar84 sz73 (by decide) sx84_1) rfl ?_
 refine st (OpT.load (H rfl) (T1 rfl) ag73 rfl) rfl ?_
 refine st (OpT.bor (H rfl) (T1 rfl) (T1 rfl)) rfl ?_
 refine st (OpT.buildA (H rfl) ar84 sz73 zr84 zk84 (Built.cel (T1 rfl) rfl rfl sx84_0 (Built.cel (T1 rfl) rfl rfl sx84_1 (Built.nil _)))) rfl ?_
 refine sk (OpT.storeBA rfl rfl (Opd.whole (Root.self (t := 4) (by decide)) rfl) rfl sz84 (by decide) (T1 rfl)) rfl ?_
 refine AWl.to (kb 4 rfl <| Kn) ?_
 refine ng ?_
 refine AW.ret ?_
 exact AX.rt (rs := [.cell 4 84]) (ts := [none]) (.inl rfl) rfl (ROs.cons (RO.cellA (by decide) (Kb rfl rfl) ag84 sz84) <| ROs.nil) (by decide) OutsOK.nil

/-- impl.JoinMasks -/
theorem c_impl_JoinMasks (x y : BitVec 64 × BitVec 64) : AC Tryz.prog 85 [.agg kMask x, .agg kMask y] [.agg kMask (joinM x y)] [] := by
 refine acI (N := 16) Tryz.func85 (Nat.le_of_ble_eq_true rfl) rfl fun w0 hd s0 ar => ?_
 refine AW.to (ka 0 rfl <| ka 1 rfl <| Kn) ?_
 refine sr ?_
 refine st (OpT.frz (OpT.boxA (E := 84) (H rfl) (T1 rfl))) rfl ?_
 refine st (OpT.frz (OpT.boxA (E := 84) (H rfl) (T1 rfl))) rfl ?_
 refine st (OpT.alloc (H rfl) zr84 zk84) rfl ?_
 refine ng ?_
 refine sr ?_
 refine st (OpT.indexAddrP (H rfl) (T1 rfl) (I rfl) ar84 sz73 (by decide) sx84_0) rfl ?_
 refine st (OpT.load (H rfl) (T1 rfl) ag73 rfl) rfl ?_
 refine st (OpT.indexAddrP (H rfl) (T1 rfl) (I rfl) ar84 sz73 (by decide) sx84_0) rfl ?_
 refine st (OpT.load (H rfl) (T1 rfl) ag73 rfl) rfl ?_
 refine st (OpT.bor (H rfl) (T1 rfl) (T1 rfl)) rfl ?_
 refine st (OpT.indexAddrP (H rfl) (T1 rfl) (I rfl) ar84 sz73 (by decide) sx84_1) rfl ?_
 refine st (OpT.load (H rfl) (T1 rfl) ag73 rfl) rfl ?_
 refine st (OpT.indexAddrP (H rfl) (T1 rfl) (I rfl) ar84 sz73 (by decide) sx84_1) rfl ?_
 refine st (OpT.load (H rfl) (T1 rfl) ag73 rfl) rfl ?_
 refine st (OpT.bor (H rfl) (T1 rfl) (T1 rfl)) rfl ?_
 refine st (OpT.buildA (H rfl) ar84 sz73 zr84 zk84 (Built.cel (T1 rfl) rfl rfl sx84_0 (Built.cel (T1 rfl) rfl rfl sx84_1 (Built.nil _)))) rfl ?_
 refine sk (OpT.storeBA rfl rfl (Opd.whole (Root.self (t := 4) (by decide)) rfl) rfl sz84 (by decide) (T1 rfl)) rfl ?_
 refine AWl.to (kb 4 rfl <| Kn) ?_
 refine ng ?_
 refine AW.ret ?_
 exact AX.rt (rs := [.cell 4 84]) (ts := [none]) (.inl rfl) rfl (ROs.cons (RO.cellA (by decide) (Kb rfl rfl) ag84 sz84) <| ROs.nil) (by decide) OutsOK.nil

/-- impl.Mask).with -/
theorem c_impl_Mask_with (m : DMask) (l : List Int) (hs : ∀ h ∈ l, 0 ≤ h ∧ h < 128) : AC Tryz.prog 119 [.agg kMask m, .cel (Kd.slice (Kd.int .i64)) l] [.agg kMask (withM m l)] [] := by
 refine acI (N := 24) Tryz.func119 (Nat.le_of_ble_eq_true rfl) rfl fun w0 hd s0 ar => ?_
 refine AW.to (ka 0 rfl <| kc 1 rfl <| Kn) ?_
 refine AW.fact (fun a w hr => (ok_slice (R_ok (t := 1) rfl hr)).2) (fun hl1 => ?_)
 refine sr ?_
 refine st (OpT.boxA (E := 84) (H rfl) (T1 rfl)) rfl ?_
 refine st (OpT.alloc (H rfl) zr84 zk84) rfl ?_
 refine ng ?_
 refine AW.seq ?_
 refine sr ?_
 refine st (mvT rfl) rfl ?_
 refine st (OpT.len (H rfl) (T1 rfl) el81) rfl ?_
 refine st (mvI rfl) rfl ?_
 refine ng ?_
 refine AW.block ?_
 refine AW.loop (fun z : Nat => z ≤ l.length) (fun z : Nat => keep [(2, .box 84 kMask (withM m (l.take z))), (4, .box 84 kMask (0#64, 0#64)), (7, .cel (Kd.slice (Kd.int .i64)) l), (8, .cel (Kd.int .i64) (l.length : Int)), (9, .cel (Kd.int .i64) (z : Int))]) (fun z : Nat => l.length - z) (0) (Nat.zero_le _) (Kc 2 _ (Kb rfl rfl) <| Kc 4 _ (Kb rfl rfl) <| Kc 7 _ (Kv rfl rfl) <| Kc 8 _ (Kv rfl rfl) <| Kc 9 _ (Kv rfl rfl) <| Kn) ?_
 intro z hI
 refine sr ?_
 refine st (OpT.lss (H rfl) (T1 rfl) (T1 rfl)) rfl ?_
 refine ng ?_
 refine AW.seq ?_
 refine cd rfl (fun hc1 => ?_) fun hc1 => ?_
 ·
  obtain ⟨hc1, hc1'⟩ := pT hc1
  obtain ⟨h, hh⟩ := getI (x := l) (z := z) (by omega)
  have h128 := hs h (mem_getI hh)
  have hd64 := div64 h128
  have hm64 := mod64 h128.1
  refine AW.skip ?_
  refine AX.go ?_
  refine AW.seq ?_
  refine AW.block ?_
  refine sr ?_
  refine st (OpT.indexAddr (H rfl) (T1 rfl) (T1 rfl) el81 sz2 (by omega) (by assumption)) rfl ?_
  refine st (OpT.load (H rfl) (T1 rfl) ag2 rfl) rfl ?_
  refine st (asT rfl) rfl ?_
  refine ng ?_
  refine dh fomo ?_
  refine d1 [6] (fun ve h => OpT.move (A := .cel _ _) (.inl rfl) rfl (ok' rfl) (D1 h rfl) rfl) rfl ?_
  refine d1 [13] (fun ve h => OpT.quo (H rfl) (D1 h rfl) (I rfl) (by omega) (nw (by omega))) rfl ?_
  refine d1 [2, 14] (fun ve h => OpT.indexAddrB (H rfl) (Root.self (t := 2) (by decide)) ((h _ (List.elem_iff.1 rfl)).trans rfl) (by decide) (D1 h rfl) ar84 sz73 (by omega) (Sub.two (by omega) rfl)) rfl ?_
  refine d1 [2, 15] (fun ve h => OpT.loadP (H rfl) (D1 h rfl) (.inl ⟨_, ((h _ (List.elem_iff.1 rfl)).trans rfl), rfl⟩) ag73 rfl) rfl ?_
  refine d1 [6] (fun ve h => OpT.move (A := .cel _ _) (.inl rfl) rfl (ok' rfl) (D1 h rfl) rfl) rfl ?_
  refine d1 [17] (fun ve h => OpT.rem (H rfl) (D1 h rfl) (I rfl) (by omega)) rfl ?_
  refine d1 [18] (fun ve h => OpT.shl (H rfl) (U2 1 rfl rfl) (D1 h rfl) (by omega)) rfl ?_
  refine d1 [16, 19] (fun ve h => OpT.bor (H rfl) (D1 h rfl) (D1 h rfl)) rfl ?_
  refine d1 [2, 14] (fun ve h => OpT.indexAddrB (H rfl) (Root.self (t := 2) (by decide)) ((h _ (List.elem_iff.1 rfl)).trans rfl) (by decide) (D1 h rfl) ar84 sz73 (by omega) (Sub.two (by omega) rfl)) rfl ?_
  refine dm (t := 2) [2, 20, 21] (fun ve h => OpT.storeB rfl rfl (D1 h rfl) ((h _ (List.elem_iff.1 rfl)).trans rfl) sz73 rfl (D1 h rfl)) rfl ?_
  refine dn ⟨by kernel_rfl, by kernel_rfl, ?_⟩
  refine AX.normal_block ?_
  refine AX.go ?_
  refine AW.region ?_
  refine st (OpT.add (H rfl) (T1 rfl) (I rfl) (nw (by omega))) rfl ?_
  refine st (mvT rfl) rfl ?_
  refine nn ?_
  exact AX.again (z + 1) (by omega) (by omega) (Kc 2 _ (Kb rfl (with_step hh)) <| Kc 4 _ (Kb rfl rfl) <| Kc 7 _ (Kv rfl rfl) <| Kc 8 _ (Kv rfl rfl) <| Kc 9 _ (Kv rfl (by omega)) <| Kn)
 ·
  obtain ⟨hc1, hc1'⟩ := pF hc1
  refine AW.exit ?_
  refine xT <| xT <| AX.exit_hit ?_
  refine AX.go ?_
  refine sr ?_
  refine st (OpT.loadB (H rfl) (Root.self (t := 2) (by decide)) rfl ag84 sz84) rfl ?_
  refine sk (OpT.storeBA rfl rfl (Opd.whole (Root.self (t := 4) (by decide)) rfl) rfl sz84 (by decide) (T1 rfl)) rfl ?_
  refine ng ?_
  refine AW.ret ?_
  exact AX.rt (rs := [.cell 4 84]) (ts := [none]) (.inl rfl) rfl (ROs.cons (RO.cellA (by decide) (Kb rfl (by rw [List.take_of_length_le (by omega)])) ag84 sz84) <| ROs.nil) (by decide) OutsOK.nil

/-- impl.rangeMask -/
theorem c_impl_rangeMask (a n : Int) (h : 0 ≤ a ∧ 0 ≤ n ∧ a + n ≤ 128) : AC Tryz.prog 115 [.cel (Kd.int .i64) a, .cel (Kd.int .i64) n] [.agg kMask (rngM a (Int.toNat n))] [] := by
 refine acI (N := 21) Tryz.func115 (Nat.le_of_ble_eq_true rfl) rfl fun w0 hd s0 ar => ?_
 refine AW.to (kc2 0 1 rfl <| Kn) ?_
 refine sr ?_
 refine st (OpT.alloc (H rfl) zr84 zk84) rfl ?_
 refine ng ?_
 refine sr ?_
 refine st (OpT.buildA (H rfl) ar84 sz73 zr84 zk84 (Built.nil _)) rfl ?_
 refine st (OpT.alloc (H rfl) zr84 zk84) rfl ?_
 refine sk (OpT.storeBA rfl rfl (Opd.whole (Root.self (t := 5) (by decide)) rfl) rfl sz84 (by decide) (T1 rfl)) rfl ?_
 refine ng ?_
 refine AW.seq ?_
 refine sr ?_
 refine st (mvT rfl) rfl ?_
 refine st (asT rfl) rfl ?_
 refine ng ?_
 refine AW.block ?_
 refine AW.loop (fun z : Nat => z ≤ Int.toNat n) (fun z : Nat => keep [(0, .cel (Kd.int .i64) a), (1, .cel (Kd.int .i64) n), (4, .box 84 kMask (0#64, 0#64)), (5, .box 84 kMask (rngM a z)), (6, .cel (Kd.int .i64) (a + z))]) (fun z : Nat => Int.toNat n - z) (0) (Nat.zero_le _) (Kc 0 _ (Kv rfl rfl) <| Kc 1 _ (Kv rfl rfl) <| Kc 4 _ (Kb rfl rfl) <| Kc 5 _ (Kb rfl rfl) <| Kc 6 _ (Kv rfl (by omega)) <| Kn) ?_
 intro z hI
 refine AW.seq ?_
 refine sr ?_
 refine st (mvT rfl) rfl ?_
 refine st (mvT rfl) rfl ?_
 refine st (mvT rfl) rfl ?_
 refine st (OpT.add (H rfl) (T1 rfl) (T1 rfl) (nw (by omega))) rfl ?_
 refine st (OpT.lss (H rfl) (T1 rfl) (T1 rfl)) rfl ?_
 refine ng ?_
 refine cd rfl (fun hc1 => ?_) fun hc1 => ?_
 ·
  obtain ⟨hc1, hc1'⟩ := pT hc1
  refine AW.skip ?_
  refine AX.go ?_
  refine AW.seq ?_
  refine AW.block ?_
  refine AW.region ?_
  refine st (OpT.loadB (H rfl) (Root.self (t := 5) (by decide)) rfl ag84 sz84) rfl ?_
  refine st (mvT rfl) rfl ?_
  refine st (OpT.buildSlice (H rfl) el81 zr2 sz2 rfl (by decide) zk2 (by decide) (Built.cel (T1 rfl) rfl rfl (sub_arr (by decide) (0 : Int)) (Built.nil _))) rfl ?_
  refine st (cb1 (ms := [.flat, .bor 18]) (c_impl_Mask_with _ [a + z] (fun u hu => by rw [List.mem_singleton] at hu; subst hu; omega)) (H rfl) (Af (T1 rfl) rfl rfl <| Ab (Root.self (t := 18) (by decide)) rfl <| An) rfl (indA fun _ _ _ _ h => h)) rfl ?_
  refine sk (OpT.storeBA rfl rfl (Opd.whole (Root.self (t := 5) (by decide)) rfl) rfl sz84 (by decide) (T1 rfl)) rfl ?_
  refine nn ?_
  refine AX.normal_block ?_
  refine AX.go ?_
  refine AW.region ?_
  refine st (mvT rfl) rfl ?_
  refine st (OpT.add (H rfl) (T1 rfl) (I rfl) (nw (by omega))) rfl ?_
  refine st (asT rfl) rfl ?_
  refine nn ?_
  exact AX.again (z + 1) (by omega) (by omega) (Kc 0 _ (Kv rfl rfl) <| Kc 1 _ (Kv rfl rfl) <| Kc 4 _ (Kb rfl rfl) <| Kc 5 _ (Kb rfl rfl) <| Kc 6 _ (Kv rfl (by omega)) <| Kn)
 ·
  obtain ⟨hc1, hc1'⟩ := pF hc1
  refine AW.exit ?_
  refine xT <| xT <| AX.exit_hit ?_
  refine AX.go ?_
  refine sr ?_
  refine st (OpT.loadB (H rfl) (Root.self (t := 5) (by decide)) rfl ag84 sz84) rfl ?_
  refine sk (OpT.storeBA rfl rfl (Opd.whole (Root.self (t := 4) (by decide)) rfl) rfl sz84 (by decide) (T1 rfl)) rfl ?_
  refine AWl.to (kb 4 rfl <| Kn) ?_
  refine ng ?_
  refine AW.ret ?_
  exact AX.rt (rs := [.cell 4 84]) (ts := [none]) (.inl rfl) rfl (ROs.cons (RO.cellA (by decide) (Kb rfl (by rw [show z = Int.toNat n by omega])) ag84 sz84) <| ROs.nil) (by decide) OutsOK.nil

/-- spec.l01Width -/
theorem c_spec_l01Width (f : DField) : AC Tryz.prog 110 [.cel (Kd.ptr kField) f] [.cel (Kd.int .i64) (widthF f)] [] := by
 refine acI (N := 26) Tryz.func110 (Nat.le_of_ble_eq_true rfl) rfl fun w0 hd s0 ar => ?_
 refine AW.to (kc 0 rfl <| Kn) ?_
 refine AW.fact (fun a w hr => okField (ok_ptr (R_ok (t := 0) rfl hr))) (fun hf => ?_)
 refine sr ?_
 refine st (asI rfl) rfl ?_
 refine ng ?_
 refine sr ?_
 refine st (mvT rfl) rfl ?_
 refine st (OpT.nilCheck (H rfl) (T1 rfl)) rfl ?_
 refine st (OpT.fieldAddr (H rfl) (T1 rfl) fd80_3 sz69 (by decide) sb80_3) rfl ?_
 refine st (OpT.load (H rfl) (T1 rfl) ag69 rfl) rfl ?_
 refine st (OpT.conv (H rfl) us69 Tryz.underlying2 (T1 rfl) (nw (by omega))) rfl ?_
 refine st (asT rfl) rfl ?_
 refine ng ?_
 refine AW.seq ?_
 refine sr ?_
 refine st (mvT rfl) rfl ?_
 refine st (OpT.nilCheck (H rfl) (T1 rfl)) rfl ?_
 refine st (OpT.fieldAddr (H rfl) (T1 rfl) fd80_1 sz68 (by decide) sb80_1) rfl ?_
 refine st (OpT.load (H rfl) (T1 rfl) ag68 rfl) rfl ?_
 refine ng ?_
 refine AW.block ?_
 refine sr ?_
 refine st (OpT.eql (H rfl) (T1 rfl) (I rfl)) rfl ?_
 refine st (asT rfl) rfl ?_
 refine ng ?_
 refine cd rfl (fun hc1 => ?_) fun hc1 => ?_
 ·
  obtain ⟨hc1, hc1'⟩ := pT hc1
  refine sr ?_
  refine st (mvT rfl) rfl ?_
  refine st (OpT.mul (H rfl) (I rfl) (T1 rfl) (nw (by omega))) rfl ?_
  refine st (asT rfl) rfl ?_
  refine AWl.to (kc2 2 3 rfl <| Kn) ?_
  refine ng ?_
  refine AW.ret ?_
  refine rK <| rT ?_
  exact rt1 rfl (.inl rfl) (by unfold widthF; (repeat' split) <;> first | rfl | omega)
 ·
  obtain ⟨hc1, hc1'⟩ := pF hc1
  refine sr ?_
  refine st (OpT.eql (H rfl) (T1 rfl) (I rfl)) rfl ?_
  refine st (asT rfl) rfl ?_
  refine AWl.to (kc4 17 12 3 2 rfl <| Kn) ?_
  refine ng ?_
  refine cd rfl (fun hc2 => ?_) fun hc2 => ?_
  ·
   obtain ⟨hc2, hc2'⟩ := pT hc2
   refine sr ?_
   refine st (mvT rfl) rfl ?_
   refine st (OpT.mul (H rfl) (I rfl) (T1 rfl) (nw (by omega))) rfl ?_
   refine st (asT rfl) rfl ?_
   refine ng ?_
   refine AW.ret ?_
   refine rK <| rT ?_
   exact rt1 rfl (.inl rfl) (by unfold widthF; (repeat' split) <;> first | rfl | omega)
  ·
   obtain ⟨hc2, hc2'⟩ := pF hc2
   refine sr ?_
   refine st (OpT.eql (H rfl) (T1 rfl) (I rfl)) rfl ?_
   refine st (asT rfl) rfl ?_
   refine ng ?_
   refine cd rfl (fun hc3 => ?_) fun hc3 => ?_
   ·
    obtain ⟨hc3, hc3'⟩ := pT hc3
    refine sr ?_
    refine st (mvT rfl) rfl ?_
    refine st (OpT.add (H rfl) (T1 rfl) (I rfl) (nw (by omega))) rfl ?_
    refine st (asT rfl) rfl ?_
    refine ng ?_
    refine AW.ret ?_
    refine rK <| rT ?_
    exact rt1 rfl (.inl rfl) (by unfold widthF; (repeat' split) <;> first | rfl | omega)
   ·
    obtain ⟨hc3, hc3'⟩ := pF hc3
    refine AW.skip ?_
    refine AX.normal_block ?_
    refine AX.go ?_
    refine sr ?_
    refine st (mvT rfl) rfl ?_
    refine st (asT rfl) rfl ?_
    refine ng ?_
    refine AW.ret ?_
    exact rt1 rfl (.inl rfl) (by unfold widthF; (repeat' split) <;> first | rfl | omega)

/-- impl.Field).many -/
theorem c_impl_Field_many (f : DField) : AC Tryz.prog 114 [.agg kField f] [.cel (Kd.int .i64) (widthF f)] [] := by
 refine acI (N := 22) Tryz.func114 (Nat.le_of_ble_eq_true rfl) rfl fun w0 hd s0 ar => ?_
 refine AW.to (ka 0 rfl <| Kn) ?_
 refine AW.fact (fun a w hr => okField (R_okA (t := 0) rfl hr)) (fun hf => ?_)
 refine sr ?_
 refine st (OpT.frz (OpT.boxA (E := 80) (H rfl) (T1 rfl))) rfl ?_
 refine st (asI rfl) rfl ?_
 refine ng ?_
 refine sr ?_
 refine st (OpT.fieldAddr (H rfl) (T1 rfl) fd80_3 sz69 (by decide) sb80_3) rfl ?_
 refine st (OpT.load (H rfl) (T1 rfl) ag69 rfl) rfl ?_
 refine st (OpT.conv (H rfl) us69 Tryz.underlying2 (T1 rfl) (nw (by omega))) rfl ?_
 refine st (asT rfl) rfl ?_
 refine ng ?_
 refine AW.seq ?_
 refine sr ?_
 refine st (OpT.fieldAddr (H rfl) (T1 rfl) fd80_1 sz68 (by decide) sb80_1) rfl ?_
 refine st (OpT.load (H rfl) (T1 rfl) ag68 rfl) rfl ?_
 refine ng ?_
 refine AW.block ?_
 refine sr ?_
 refine st (OpT.eql (H rfl) (T1 rfl) (I rfl)) rfl ?_
 refine st (asT rfl) rfl ?_
 refine ng ?_
 refine cd rfl (fun hc1 => ?_) fun hc1 => ?_
 ·
  obtain ⟨hc1, hc1'⟩ := pT hc1
  refine sr ?_
  refine st (mvT rfl) rfl ?_
  refine st (OpT.mul (H rfl) (I rfl) (T1 rfl) (nw (by omega))) rfl ?_
  refine st (asT rfl) rfl ?_
  refine AWl.to (kc2 2 3 rfl <| Kn) ?_
  refine ng ?_
  refine AW.ret ?_
  refine rK <| rT ?_
  exact rt1 rfl (.inl rfl) (by unfold widthF; (repeat' split) <;> first | rfl | omega)
 ·
  obtain ⟨hc1, hc1'⟩ := pF hc1
  refine sr ?_
  refine st (OpT.eql (H rfl) (T1 rfl) (I rfl)) rfl ?_
  refine st (asT rfl) rfl ?_
  refine ng ?_
  refine cd rfl (fun hc2 => ?_) fun hc2 => ?_
  ·
   obtain ⟨hc2, hc2'⟩ := pT hc2
   refine sr ?_
   refine st (mvT rfl) rfl ?_
   refine st (OpT.mul (H rfl) (I rfl) (T1 rfl) (nw (by omega))) rfl ?_
   refine st (asT rfl) rfl ?_
   refine AWl.to (kc2 2 3 rfl <| Kn) ?_
   refine ng ?_
   refine AW.ret ?_
   refine rK <| rT ?_
   exact rt1 rfl (.inl rfl) (by unfold widthF; (repeat' split) <;> first | rfl | omega)
  ·
   obtain ⟨hc2, hc2'⟩ := pF hc2
   refine sr ?_
   refine st (OpT.eql (H rfl) (T1 rfl) (I rfl)) rfl ?_
   refine st (asT rfl) rfl ?_
   refine AWl.to (kc3 17 3 2 rfl <| Kn) ?_
   refine ng ?_
   refine cd rfl (fun hc3 => ?_) fun hc3 => ?_
   ·
    obtain ⟨hc3, hc3'⟩ := pT hc3
    refine sr ?_
    refine st (mvT rfl) rfl ?_
    refine st (OpT.add (H rfl) (T1 rfl) (I rfl) (nw (by omega))) rfl ?_
    refine st (asT rfl) rfl ?_
    refine ng ?_
    refine AW.ret ?_
    refine rK <| rT ?_
    exact rt1 rfl (.inl rfl) (by unfold widthF; (repeat' split) <;> first | rfl | omega)
   ·
    obtain ⟨hc3, hc3'⟩ := pF hc3
    refine AW.skip ?_
    refine AX.normal_block ?_
    refine AX.go ?_
    refine sr ?_
    refine st (mvT rfl) rfl ?_
    refine st (asT rfl) rfl ?_
    refine ng ?_
    refine AW.ret ?_
    exact rt1 rfl (.inl rfl) (by unfold widthF; (repeat' split) <;> first | rfl | omega)

/-- spec.l01Part -/
theorem c_spec_l01Part (f : DField) (hok : fieldOK f) : AC Tryz.prog 77 [.cel (Kd.ptr kField) f] [.agg kMask (partF f)] [] := by
 refine acI (N := 23) Tryz.func77 (Nat.le_of_ble_eq_true rfl) rfl fun w0 hd s0 ar => ?_
 refine AW.to (kc 0 rfl <| Kn) ?_
 have hw := field_width hok
 have hlo := hok.2.2.2.2.2
 refine sr ?_
 refine st (OpT.alloc (H rfl) zr84 zk84) rfl ?_
 refine ng ?_
 refine sr ?_
 refine st (OpT.buildA (H rfl) ar84 sz73 zr84 zk84 (Built.nil _)) rfl ?_
 refine st (OpT.alloc (H rfl) zr84 zk84) rfl ?_
 refine sk (OpT.storeBA rfl rfl (Opd.whole (Root.self (t := 3) (by decide)) rfl) rfl sz84 (by decide) (T1 rfl)) rfl ?_
 refine ng ?_
 refine AW.seq ?_
 refine sr ?_
 refine st (asI rfl) rfl ?_
 refine ng ?_
 refine AW.block ?_
 refine AW.loop (fun z : Nat => z ≤ Int.toNat (widthF f)) (fun z : Nat => keep [(0, .cel (Kd.ptr kField) f), (2, .box 84 kMask (0#64, 0#64)), (3, .box 84 kMask (rngM f.2.2.1 z)), (4, .cel (Kd.int .i64) (z : Int))]) (fun z : Nat => Int.toNat (widthF f) - z) (0) (Nat.zero_le _) (Kc 0 _ (Kv rfl rfl) <| Kc 2 _ (Kb rfl rfl) <| Kc 3 _ (Kb rfl rfl) <| Kc 4 _ (Kv rfl rfl) <| Kn) ?_
 intro z hI
 refine AW.seq ?_
 refine sr ?_
 refine st (mvT rfl) rfl ?_
 refine st (mvT rfl) rfl ?_
 refine st (OpT.c1 (ms := [.flat]) (c_spec_l01Width _) (H rfl) (Af (T1 rfl) rfl rfl <| An) rfl rfl) rfl ?_
 refine st (OpT.lss (H rfl) (T1 rfl) (T1 rfl)) rfl ?_
 refine ng ?_
 refine cd rfl (fun hc1 => ?_) fun hc1 => ?_
 ·
  obtain ⟨hc1, hc1'⟩ := pT hc1
  refine AW.skip ?_
  refine AX.go ?_
  refine AW.seq ?_
  refine AW.block ?_
  refine dh fomo ?_
  refine d1 [3] (fun ve h => OpT.loadB (H rfl) (Root.self (t := 3) (by decide)) ((h _ (List.elem_iff.1 rfl)).trans rfl) ag84 sz84) rfl ?_
  refine d1 [0] (fun ve h => OpT.move (A := .cel _ _) (.inl rfl) rfl (ok' rfl) (D1 h rfl) rfl) rfl ?_
  refine d1 [13] (fun ve h => OpT.nilCheck (H rfl) (D1 h rfl)) rfl ?_
  refine d1 [14] (fun ve h => OpT.fieldAddr (H rfl) (D1 h rfl) fd80_2 sz69 (by decide) sb80_2) rfl ?_
  refine d1 [15] (fun ve h => OpT.load (H rfl) (D1 h rfl) ag69 rfl) rfl ?_
  refine d1 [16] (fun ve h => OpT.conv (H rfl) us69 Tryz.underlying2 (D1 h rfl) (nw (by omega))) rfl ?_
  refine d1 [4] (fun ve h => OpT.move (A := .cel _ _) (.inl rfl) rfl (ok' rfl) (D1 h rfl) rfl) rfl ?_
  refine d1 [17, 18] (fun ve h => OpT.add (H rfl) (D1 h rfl) (D1 h rfl) (nw (by omega))) rfl ?_
  refine d1 [19] (fun ve h => OpT.c1 (ms := [.flat]) (c_spec_l01Bit _ (by omega)) (H rfl) (Af (D1 h rfl) rfl rfl <| An) rfl rfl) rfl ?_
  refine d1 [12, 20] (fun ve h => OpT.c1 (ms := [.flat, .flat]) (c_spec_l01Join _ _) (H rfl) (Af (D1 h rfl) rfl rfl <| Af (D1 h rfl) rfl rfl <| An) rfl rfl) rfl ?_
  refine dm (t := 3) [3, 21] (fun ve h => OpT.storeBA rfl rfl (Opd.whole (Root.self (t := 3) (by decide)) ((h _ (List.elem_iff.1 rfl)).trans rfl)) ((h _ (List.elem_iff.1 rfl)).trans rfl) sz84 (by decide) (D1 h rfl)) rfl ?_
  refine dn ⟨by kernel_rfl, by kernel_rfl, ?_⟩
  refine AX.normal_block ?_
  refine AX.go ?_
  refine AW.region ?_
  refine st (mvT rfl) rfl ?_
  refine st (OpT.add (H rfl) (T1 rfl) (I rfl) (nw (by omega))) rfl ?_
  refine st (asT rfl) rfl ?_
  refine nn ?_
  exact AX.again (z + 1) (by omega) (by omega) (Kc 0 _ (Kv rfl rfl) <| Kc 2 _ (Kb rfl rfl) <| Kc 3 _ (Kb rfl rfl) <| Kc 4 _ (Kv rfl (by omega)) <| Kn)
 ·
  obtain ⟨hc1, hc1'⟩ := pF hc1
  refine AW.exit ?_
  refine xT <| xT <| AX.exit_hit ?_
  refine AX.go ?_
  refine sr ?_
  refine st (OpT.loadB (H rfl) (Root.self (t := 3) (by decide)) rfl ag84 sz84) rfl ?_
  refine sk (OpT.storeBA rfl rfl (Opd.whole (Root.self (t := 2) (by decide)) rfl) rfl sz84 (by decide) (T1 rfl)) rfl ?_
  refine ng ?_
  refine AW.ret ?_
  exact AX.rt (rs := [.cell 2 84]) (ts := [none]) (.inl rfl) rfl (ROs.cons (RO.cellA (by decide) (Kb rfl (by rw [show z = Int.toNat (widthF f) by omega]; rfl)) ag84 sz84) <| ROs.nil) (by decide) OutsOK.nil

/-- impl.Field).part -/
theorem c_impl_Field_part (f : DField) (hok : fieldOK f) : AC Tryz.prog 84 [.agg kField f] [.agg kMask (partF f)] [] := by
 refine acI (N := 9) Tryz.func84 (Nat.le_of_ble_eq_true rfl) rfl fun w0 hd s0 ar => ?_
 refine AW.to (ka 0 rfl <| Kn) ?_
 have hw := field_width hok
 have hlo := hok.2.2.2.2.2
 refine sr ?_
 refine st (OpT.frz (OpT.boxA (E := 80) (H rfl) (T1 rfl))) rfl ?_
 refine st (OpT.alloc (H rfl) zr84 zk84) rfl ?_
 refine AWl.to (kb 2 rfl <| kc 1 rfl <| Kn) ?_
 refine ng ?_
 refine AW.seq ?_
 refine dh fomo ?_
 refine d1 [1] (fun ve h => OpT.fieldAddr (H rfl) (D1 h rfl) fd80_2 sz69 (by decide) sb80_2) rfl ?_
 refine d1 [3] (fun ve h => OpT.load (H rfl) (D1 h rfl) ag69 rfl) rfl ?_
 refine d1 [4] (fun ve h => OpT.conv (H rfl) us69 Tryz.underlying2 (D1 h rfl) (nw (by omega))) rfl ?_
 refine d1 [1] (fun ve h => OpT.loadA (H rfl) (D1 h rfl) ag80 sz80) rfl ?_
 refine d1 [6] (fun ve h => OpT.c1 (ms := [.flat]) (c_impl_Field_many _) (H rfl) (Af (D1 h rfl) rfl rfl <| An) rfl rfl) rfl ?_
 refine d1 [5, 7] (fun ve h => OpT.c1 (ms := [.flat, .flat]) (c_impl_rangeMask _ _ (by omega)) (H rfl) (Af (D1 h rfl) rfl rfl <| Af (D1 h rfl) rfl rfl <| An) rfl rfl) rfl ?_
 refine dm (t := 2) [2, 8] (fun ve h => OpT.storeBA rfl rfl (Opd.whole (Root.self (t := 2) (by decide)) ((h _ (List.elem_iff.1 rfl)).trans rfl)) ((h _ (List.elem_iff.1 rfl)).trans rfl) sz84 (by decide) (D1 h rfl)) rfl ?_
 refine dn ⟨by kernel_rfl, by kernel_rfl, ?_⟩
 refine AX.go ?_
 refine AW.ret ?_
 exact AX.rt (rs := [.cell 2 84]) (ts := [none]) (.inl rfl) rfl (ROs.cons (RO.cellA (by decide) (Kb rfl rfl) ag84 sz84) <| ROs.nil) (by decide) OutsOK.nil

set_option maxHeartbeats 4000000 in
/-- spec.l01Field -/
theorem c_spec_l01Field (f : DField) : AC Tryz.prog 76 [.cel (Kd.ptr kField) f] [.cel Kd.bool (tt (fieldOK f))] [] := by
 refine acI (N := 40) Tryz.func76 (Nat.le_of_ble_eq_true rfl) rfl fun w0 hd s0 ar => ?_
 refine AW.to (kc 0 rfl <| Kn) ?_
 refine AW.fact (fun a w hr => okField (ok_ptr (R_ok (t := 0) rfl hr))) (fun hf => ?_)
 have hwi := width_in hf
 refine sr ?_
 refine st (asB rfl) rfl ?_
 refine ng ?_
 refine sr ?_
 refine st (asI rfl) rfl ?_
 refine ng ?_
 refine AW.seq ?_
 refine sr ?_
 refine st (mvT rfl) rfl ?_
 refine st (OpT.nilCheck (H rfl) (T1 rfl)) rfl ?_
 refine st (OpT.fieldAddr (H rfl) (T1 rfl) fd80_1 sz68 (by decide) sb80_1) rfl ?_
 refine st (OpT.load (H rfl) (T1 rfl) ag68 rfl) rfl ?_
 refine ng ?_
 refine AW.block ?_
 refine sr ?_
 refine st (OpT.eql (H rfl) (T1 rfl) (I rfl)) rfl ?_
 refine st (asT rfl) rfl ?_
 refine ng ?_
 refine cd rfl (fun hc1 => ?_) fun hc1 => ?_
 ·
  obtain ⟨hc1, hc1'⟩ := pT hc1
  refine AW.region ?_
  refine st (asI rfl) rfl ?_
  refine nn ?_
  refine AX.normal_block ?_
  refine AX.pr (kc3 3 2 0 rfl <| Kn) ?_
  refine AX.go ?_
  refine AW.seq ?_
  rcases Bool.eq_false_or_eq_true (tt (nameOK f.1)) with hd1 | hd1
  ·
   have hd1' := lT hd1
   rcases Bool.eq_false_or_eq_true (inb f.2.2.2 (1 : Int) (24 : Int)) with hd2 | hd2
   ·
    have hd2' := lT hd2
    refine dhm [0, 1, 3, 7, 15, 31, 63, 127, 255, 511, 1023, 63, 4095, 8191, 16383, 32767, 65535, 131071, 262143, 524287, 32767, 1081343, 3178495, 8388607, 16777215, 33554431] [] fomo ?_
    refine d1 [0] (fun ve h => OpT.move (A := .cel _ _) (.inl rfl) rfl (ok' rfl) (D1 h rfl) rfl) rfl ?_
    refine d1 [15] (fun ve h => OpT.nilCheck (H rfl) (D1 h rfl)) rfl ?_
    refine d1 [16] (fun ve h => OpT.fieldAddr (H rfl) (D1 h rfl) fd80_0 sz9 (by decide) sb80_0) rfl ?_
    refine d1 [17] (fun ve h => OpT.load (H rfl) (D1 h rfl) ag9 rfl) rfl ?_
    refine d1 [18] (fun ve h => OpT.c1 (ms := [.flat]) (c_spec_l01Name _) (H rfl) (Af (D1 h rfl) rfl rfl <| An) rfl rfl) rfl ?_
    refine d1 [19] (fun ve h => OpT.move (A := .cel _ _) (.inl rfl) rfl (ok' rfl) (D1 h rfl) rfl) rfl ?_
    refine dr [0, 20] hd1 (fun ve h => OpT.move (A := .cel _ _) (.inl rfl) rfl (ok' rfl) (D1 h rfl) rfl) rfl ?_
    refine dr [20, 21] hd1 (fun ve h => OpT.nilCheck (H rfl) (D1 h rfl)) rfl ?_
    refine dr [20, 22] hd1 (fun ve h => OpT.fieldAddr (H rfl) (D1 h rfl) fd80_3 sz69 (by decide) sb80_3) rfl ?_
    refine dr [20, 23] hd1 (fun ve h => OpT.load (H rfl) (D1 h rfl) ag69 rfl) rfl ?_
    refine dr [20, 24] hd1 (fun ve h => OpT.conv (H rfl) us69 Tryz.underlying2 (D1 h rfl) (nw (by omega))) rfl ?_
    refine dr [3, 20] hd1 (fun ve h => OpT.move (A := .cel _ _) (.inl rfl) rfl (ok' rfl) (D1 h rfl) rfl) rfl ?_
    refine dr [20, 25, 26] hd1 (fun ve h => OpT.c1 (ms := [.flat, .flat, .flat]) (c_spec_l00In _ _ _) (H rfl) (Af (D1 h rfl) rfl rfl <| Af (I rfl) rfl rfl <| Af (D1 h rfl) rfl rfl <| An) rfl rfl) rfl ?_
    refine d1 [20, 27] (fun ve h => OpT.pickT (A := .cel _ _) (H rfl) (D1 h rfl) hd1 (D1 h rfl) rfl) rfl ?_
    refine d1 [28] (fun ve h => OpT.move (A := .cel _ _) (.inl rfl) rfl (ok' rfl) (D1 h rfl) rfl) rfl ?_
    refine dr [0, 29] hd2 (fun ve h => OpT.move (A := .cel _ _) (.inl rfl) rfl (ok' rfl) (D1 h rfl) rfl) rfl ?_
    refine dr [29, 30] hd2 (fun ve h => OpT.nilCheck (H rfl) (D1 h rfl)) rfl ?_
    refine dr [29, 31] hd2 (fun ve h => OpT.fieldAddr (H rfl) (D1 h rfl) fd80_2 sz69 (by decide) sb80_2) rfl ?_
    refine dr [29, 32] hd2 (fun ve h => OpT.load (H rfl) (D1 h rfl) ag69 rfl) rfl ?_
    refine dr [29, 33] hd2 (fun ve h => OpT.conv (H rfl) us69 Tryz.underlying2 (D1 h rfl) (nw (by omega))) rfl ?_
    refine dr [0, 29] hd2 (fun ve h => OpT.move (A := .cel _ _) (.inl rfl) rfl (ok' rfl) (D1 h rfl) rfl) rfl ?_
    refine dr [29, 35] hd2 (fun ve h => OpT.c1 (ms := [.flat]) (c_spec_l01Width _) (H rfl) (Af (D1 h rfl) rfl rfl <| An) rfl rfl) rfl ?_
    refine dr [29, 36] hd2 (fun ve h => OpT.sub (H rfl) (I rfl) (D1 h rfl) (nw (by omega))) rfl ?_
    refine dr [29, 34, 37] hd2 (fun ve h => OpT.c1 (ms := [.flat, .flat, .flat]) (c_spec_l00In _ _ _) (H rfl) (Af (D1 h rfl) rfl rfl <| Af (I rfl) rfl rfl <| Af (D1 h rfl) rfl rfl <| An) rfl rfl) rfl ?_
    refine d1 [29, 38] (fun ve h => OpT.pickT (A := .cel _ _) (H rfl) (D1 h rfl) hd2 (D1 h rfl) rfl) rfl ?_
    refine d1 [39] (fun ve h => OpT.move (A := .cel _ _) (.inr rfl) rfl (ok' rfl) (D1 h rfl) rfl) rfl ?_
    refine dn ⟨by kernel_rfl, by kernel_rfl, ?_⟩
    refine AX.pr (kc 2 rfl <| Kn) ?_
    refine AX.go ?_
    refine AW.ret ?_
    exact rt1 rfl (.inl rfl) (by first | exact field_name (by assumption) | exact field_last (f := f) (by assumption) (by assumption) (by unfold mostF; (repeat' split) <;> first | rfl | omega) | exact field_most (f := f) (by assumption) (by unfold mostF; (repeat' split) <;> first | rfl | omega))
   ·
    have hd2' := lF hd2
    refine dhm [0, 1, 3, 7, 15, 31, 63, 127, 255, 511, 1023, 63, 4095, 8191, 16383, 32767, 65535, 131071, 262143, 524287, 32767, 1081343, 3178495, 8388607, 16777215, 33554431] [] fomo ?_
    refine d1 [0] (fun ve h => OpT.move (A := .cel _ _) (.inl rfl) rfl (ok' rfl) (D1 h rfl) rfl) rfl ?_
    refine d1 [15] (fun ve h => OpT.nilCheck (H rfl) (D1 h rfl)) rfl ?_
    refine d1 [16] (fun ve h => OpT.fieldAddr (H rfl) (D1 h rfl) fd80_0 sz9 (by decide) sb80_0) rfl ?_
    refine d1 [17] (fun ve h => OpT.load (H rfl) (D1 h rfl) ag9 rfl) rfl ?_
    refine d1 [18] (fun ve h => OpT.c1 (ms := [.flat]) (c_spec_l01Name _) (H rfl) (Af (D1 h rfl) rfl rfl <| An) rfl rfl) rfl ?_
    refine d1 [19] (fun ve h => OpT.move (A := .cel _ _) (.inl rfl) rfl (ok' rfl) (D1 h rfl) rfl) rfl ?_
    refine dr [0, 20] hd1 (fun ve h => OpT.move (A := .cel _ _) (.inl rfl) rfl (ok' rfl) (D1 h rfl) rfl) rfl ?_
    refine dr [20, 21] hd1 (fun ve h => OpT.nilCheck (H rfl) (D1 h rfl)) rfl ?_
    refine dr [20, 22] hd1 (fun ve h => OpT.fieldAddr (H rfl) (D1 h rfl) fd80_3 sz69 (by decide) sb80_3) rfl ?_
    refine dr [20, 23] hd1 (fun ve h => OpT.load (H rfl) (D1 h rfl) ag69 rfl) rfl ?_
    refine dr [20, 24] hd1 (fun ve h => OpT.conv (H rfl) us69 Tryz.underlying2 (D1 h rfl) (nw (by omega))) rfl ?_
    refine dr [3, 20] hd1 (fun ve h => OpT.move (A := .cel _ _) (.inl rfl) rfl (ok' rfl) (D1 h rfl) rfl) rfl ?_
    refine dr [20, 25, 26] hd1 (fun ve h => OpT.c1 (ms := [.flat, .flat, .flat]) (c_spec_l00In _ _ _) (H rfl) (Af (D1 h rfl) rfl rfl <| Af (I rfl) rfl rfl <| Af (D1 h rfl) rfl rfl <| An) rfl rfl) rfl ?_
    refine d1 [20, 27] (fun ve h => OpT.pickT (A := .cel _ _) (H rfl) (D1 h rfl) hd1 (D1 h rfl) rfl) rfl ?_
    refine d1 [28] (fun ve h => OpT.move (A := .cel _ _) (.inl rfl) rfl (ok' rfl) (D1 h rfl) rfl) rfl ?_
    refine dp hd2 rfl ?_
    refine dp hd2 rfl ?_
    refine dp hd2 rfl ?_
    refine dp hd2 rfl ?_
    refine dp hd2 rfl ?_
    refine dp hd2 rfl ?_
    refine dp hd2 rfl ?_
    refine dp hd2 rfl ?_
    refine dp hd2 rfl ?_
    refine d1 [29] (fun ve h => OpT.pickF (A := .cel _ _) (H rfl) (D1 h rfl) hd2 Opd.bool rfl) rfl ?_
    refine d1 [39] (fun ve h => OpT.move (A := .cel _ _) (.inr rfl) rfl (ok' rfl) (D1 h rfl) rfl) rfl ?_
    refine dn ⟨by kernel_rfl, by kernel_rfl, ?_⟩
    refine AX.pr (kc 2 rfl <| Kn) ?_
    refine AX.go ?_
    refine AW.ret ?_
    exact rt1 rfl (.inl rfl) (by first | exact field_name (by assumption) | exact field_last (f := f) (by assumption) (by assumption) (by unfold mostF; (repeat' split) <;> first | rfl | omega) | exact field_most (f := f) (by assumption) (by unfold mostF; (repeat' split) <;> first | rfl | omega))
  ·
   have hd1' := lF hd1
   refine dhm [0, 1, 3, 7, 15, 31, 63, 127, 255, 511, 1023, 63, 4095, 8191, 16383, 32767, 65535, 131071, 262143, 524287, 32767, 1081343, 3178495, 8388607, 16777215, 33554431] [] fomo ?_
   refine d1 [0] (fun ve h => OpT.move (A := .cel _ _) (.inl rfl) rfl (ok' rfl) (D1 h rfl) rfl) rfl ?_
   refine d1 [15] (fun ve h => OpT.nilCheck (H rfl) (D1 h rfl)) rfl ?_
   refine d1 [16] (fun ve h => OpT.fieldAddr (H rfl) (D1 h rfl) fd80_0 sz9 (by decide) sb80_0) rfl ?_
   refine d1 [17] (fun ve h => OpT.load (H rfl) (D1 h rfl) ag9 rfl) rfl ?_
   refine d1 [18] (fun ve h => OpT.c1 (ms := [.flat]) (c_spec_l01Name _) (H rfl) (Af (D1 h rfl) rfl rfl <| An) rfl rfl) rfl ?_
   refine d1 [19] (fun ve h => OpT.move (A := .cel _ _) (.inl rfl) rfl (ok' rfl) (D1 h rfl) rfl) rfl ?_
   refine dp hd1 rfl ?_
   refine dp hd1 rfl ?_
   refine dp hd1 rfl ?_
   refine dp hd1 rfl ?_
   refine dp hd1 rfl ?_
   refine dp hd1 rfl ?_
   refine dp hd1 rfl ?_
   refine d1 [20] (fun ve h => OpT.pickF (A := .cel _ _) (H rfl) (D1 h rfl) hd1 Opd.bool rfl) rfl ?_
   refine d1 [28] (fun ve h => OpT.move (A := .cel _ _) (.inl rfl) rfl (ok' rfl) (D1 h rfl) rfl) rfl ?_
   refine dp rfl rfl ?_
   refine dp rfl rfl ?_
   refine dp rfl rfl ?_
   refine dp rfl rfl ?_
   refine dp rfl rfl ?_
   refine dp rfl rfl ?_
   refine dp rfl rfl ?_
   refine dp rfl rfl ?_
   refine dp rfl rfl ?_
   refine d1 [29] (fun ve h => OpT.pickF (A := .cel _ _) (H rfl) (D1 h rfl) rfl Opd.bool rfl) rfl ?_
   refine d1 [39] (fun ve h => OpT.move (A := .cel _ _) (.inr rfl) rfl (ok' rfl) (D1 h rfl) rfl) rfl ?_
   refine dn ⟨by kernel_rfl, by kernel_rfl, ?_⟩
   refine AX.pr (kc 2 rfl <| Kn) ?_
   refine AX.go ?_
   refine AW.ret ?_
   exact rt1 rfl (.inl rfl) (by first | exact field_name (by assumption) | exact field_last (f := f) (by assumption) (by assumption) (by unfold mostF; (repeat' split) <;> first | rfl | omega) | exact field_most (f := f) (by assumption) (by unfold mostF; (repeat' split) <;> first | rfl | omega))
 ·
  obtain ⟨hc1, hc1'⟩ := pF hc1
  refine AW.seq ?_
  refine sr ?_
  refine st (OpT.eql (H rfl) (T1 rfl) (I rfl)) rfl ?_
  refine st (asT rfl) rfl ?_
  refine ng ?_
  refine cd rfl (fun hc2 => ?_) fun hc2 => ?_
  ·
   obtain ⟨hc2, hc2'⟩ := pT hc2
   refine AW.skip ?_
   refine AX.go ?_
   refine cd rfl (fun hc3 => ?_) fun hc3 => ?_
   ·
    obtain ⟨hc3, hc3'⟩ := pT hc3
    refine AW.region ?_
    refine st (asI rfl) rfl ?_
    refine nn ?_
    refine AX.normal_block ?_
    refine AX.pr (kc3 3 2 0 rfl <| Kn) ?_
    refine AX.go ?_
    refine AW.seq ?_
    rcases Bool.eq_false_or_eq_true (tt (nameOK f.1)) with hd3 | hd3
    ·
     have hd3' := lT hd3
     rcases Bool.eq_false_or_eq_true (inb f.2.2.2 (1 : Int) (4 : Int)) with hd4 | hd4
     ·
      have hd4' := lT hd4
      refine dhm [0, 1, 3, 7, 15, 31, 63, 127, 255, 511, 1023, 63, 4095, 8191, 16383, 32767, 65535, 131071, 262143, 524287, 32767, 1081343, 3178495, 8388607, 16777215, 33554431] [] fomo ?_
      refine d1 [0] (fun ve h => OpT.move (A := .cel _ _) (.inl rfl) rfl (ok' rfl) (D1 h rfl) rfl) rfl ?_
      refine d1 [15] (fun ve h => OpT.nilCheck (H rfl) (D1 h rfl)) rfl ?_
      refine d1 [16] (fun ve h => OpT.fieldAddr (H rfl) (D1 h rfl) fd80_0 sz9 (by decide) sb80_0) rfl ?_
      refine d1 [17] (fun ve h => OpT.load (H rfl) (D1 h rfl) ag9 rfl) rfl ?_
      refine d1 [18] (fun ve h => OpT.c1 (ms := [.flat]) (c_spec_l01Name _) (H rfl) (Af (D1 h rfl) rfl rfl <| An) rfl rfl) rfl ?_
      refine d1 [19] (fun ve h => OpT.move (A := .cel _ _) (.inl rfl) rfl (ok' rfl) (D1 h rfl) rfl) rfl ?_
      refine dr [0, 20] hd3 (fun ve h => OpT.move (A := .cel _ _) (.inl rfl) rfl (ok' rfl) (D1 h rfl) rfl) rfl ?_
      refine dr [20, 21] hd3 (fun ve h => OpT.nilCheck (H rfl) (D1 h rfl)) rfl ?_
      refine dr [20, 22] hd3 (fun ve h => OpT.fieldAddr (H rfl) (D1 h rfl) fd80_3 sz69 (by decide) sb80_3) rfl ?_
      refine dr [20, 23] hd3 (fun ve h => OpT.load (H rfl) (D1 h rfl) ag69 rfl) rfl ?_
      refine dr [20, 24] hd3 (fun ve h => OpT.conv (H rfl) us69 Tryz.underlying2 (D1 h rfl) (nw (by omega))) rfl ?_
      refine dr [3, 20] hd3 (fun ve h => OpT.move (A := .cel _ _) (.inl rfl) rfl (ok' rfl) (D1 h rfl) rfl) rfl ?_
      refine dr [20, 25, 26] hd3 (fun ve h => OpT.c1 (ms := [.flat, .flat, .flat]) (c_spec_l00In _ _ _) (H rfl) (Af (D1 h rfl) rfl rfl <| Af (I rfl) rfl rfl <| Af (D1 h rfl) rfl rfl <| An) rfl rfl) rfl ?_
      refine d1 [20, 27] (fun ve h => OpT.pickT (A := .cel _ _) (H rfl) (D1 h rfl) hd3 (D1 h rfl) rfl) rfl ?_
      refine d1 [28] (fun ve h => OpT.move (A := .cel _ _) (.inl rfl) rfl (ok' rfl) (D1 h rfl) rfl) rfl ?_
      refine dr [0, 29] hd4 (fun ve h => OpT.move (A := .cel _ _) (.inl rfl) rfl (ok' rfl) (D1 h rfl) rfl) rfl ?_
      refine dr [29, 30] hd4 (fun ve h => OpT.nilCheck (H rfl) (D1 h rfl)) rfl ?_
      refine dr [29, 31] hd4 (fun ve h => OpT.fieldAddr (H rfl) (D1 h rfl) fd80_2 sz69 (by decide) sb80_2) rfl ?_
      refine dr [29, 32] hd4 (fun ve h => OpT.load (H rfl) (D1 h rfl) ag69 rfl) rfl ?_
      refine dr [29, 33] hd4 (fun ve h => OpT.conv (H rfl) us69 Tryz.underlying2 (D1 h rfl) (nw (by omega))) rfl ?_
      refine dr [0, 29] hd4 (fun ve h => OpT.move (A := .cel _ _) (.inl rfl) rfl (ok' rfl) (D1 h rfl) rfl) rfl ?_
      refine dr [29, 35] hd4 (fun ve h => OpT.c1 (ms := [.flat]) (c_spec_l01Width _) (H rfl) (Af (D1 h rfl) rfl rfl <| An) rfl rfl) rfl ?_
      refine dr [29, 36] hd4 (fun ve h => OpT.sub (H rfl) (I rfl) (D1 h rfl) (nw (by omega))) rfl ?_
      refine dr [29, 34, 37] hd4 (fun ve h => OpT.c1 (ms := [.flat, .flat, .flat]) (c_spec_l00In _ _ _) (H rfl) (Af (D1 h rfl) rfl rfl <| Af (I rfl) rfl rfl <| Af (D1 h rfl) rfl rfl <| An) rfl rfl) rfl ?_
      refine d1 [29, 38] (fun ve h => OpT.pickT (A := .cel _ _) (H rfl) (D1 h rfl) hd4 (D1 h rfl) rfl) rfl ?_
      refine d1 [39] (fun ve h => OpT.move (A := .cel _ _) (.inr rfl) rfl (ok' rfl) (D1 h rfl) rfl) rfl ?_
      refine dn ⟨by kernel_rfl, by kernel_rfl, ?_⟩
      refine AX.pr (kc 2 rfl <| Kn) ?_
      refine AX.go ?_
      refine AW.ret ?_
      exact rt1 rfl (.inl rfl) (by first | exact field_name (by assumption) | exact field_last (f := f) (by assumption) (by assumption) (by unfold mostF; (repeat' split) <;> first | rfl | omega) | exact field_most (f := f) (by assumption) (by unfold mostF; (repeat' split) <;> first | rfl | omega))
     ·
      have hd4' := lF hd4
      refine dhm [0, 1, 3, 7, 15, 31, 63, 127, 255, 511, 1023, 63, 4095, 8191, 16383, 32767, 65535, 131071, 262143, 524287, 32767, 1081343, 3178495, 8388607, 16777215, 33554431] [] fomo ?_
      refine d1 [0] (fun ve h => OpT.move (A := .cel _ _) (.inl rfl) rfl (ok' rfl) (D1 h rfl) rfl) rfl ?_
      refine d1 [15] (fun ve h => OpT.nilCheck (H rfl) (D1 h rfl)) rfl ?_
      refine d1 [16] (fun ve h => OpT.fieldAddr (H rfl) (D1 h rfl) fd80_0 sz9 (by decide) sb80_0) rfl ?_
      refine d1 [17] (fun ve h => OpT.load (H rfl) (D1 h rfl) ag9 rfl) rfl ?_
      refine d1 [18] (fun ve h => OpT.c1 (ms := [.flat]) (c_spec_l01Name _) (H rfl) (Af (D1 h rfl) rfl rfl <| An) rfl rfl) rfl ?_
      refine d1 [19] (fun ve h => OpT.move (A := .cel _ _) (.inl rfl) rfl (ok' rfl) (D1 h rfl) rfl) rfl ?_
      refine dr [0, 20] hd3 (fun ve h => OpT.move (A := .cel _ _) (.inl rfl) rfl (ok' rfl) (D1 h rfl) rfl) rfl ?_
      refine dr [20, 21] hd3 (fun ve h => OpT.nilCheck (H rfl) (D1 h rfl)) rfl ?_
      refine dr [20, 22] hd3 (fun ve h => OpT.fieldAddr (H rfl) (D1 h rfl) fd80_3 sz69 (by decide) sb80_3) rfl ?_
      refine dr [20, 23] hd3 (fun ve h => OpT.load (H rfl) (D1 h rfl) ag69 rfl) rfl ?_
      refine dr [20, 24] hd3 (fun ve h => OpT.conv (H rfl) us69 Tryz.underlying2 (D1 h rfl) (nw (by omega))) rfl ?_
      refine dr [3, 20] hd3 (fun ve h => OpT.move (A := .cel _ _) (.inl rfl) rfl (ok' rfl) (D1 h rfl) rfl) rfl ?_
      refine dr [20, 25, 26] hd3 (fun ve h => OpT.c1 (ms := [.flat, .flat, .flat]) (c_spec_l00In _ _ _) (H rfl) (Af (D1 h rfl) rfl rfl <| Af (I rfl) rfl rfl <| Af (D1 h rfl) rfl rfl <| An) rfl rfl) rfl ?_
      refine d1 [20, 27] (fun ve h => OpT.pickT (A := .cel _ _) (H rfl) (D1 h rfl) hd3 (D1 h rfl) rfl) rfl ?_
      refine d1 [28] (fun ve h => OpT.move (A := .cel _ _) (.inl rfl) rfl (ok' rfl) (D1 h rfl) rfl) rfl ?_
      refine dp hd4 rfl ?_
      refine dp hd4 rfl ?_
      refine dp hd4 rfl ?_
      refine dp hd4 rfl ?_
      refine dp hd4 rfl ?_
      refine dp hd4 rfl ?_
      refine dp hd4 rfl ?_
      refine dp hd4 rfl ?_
      refine dp hd4 rfl ?_
      refine d1 [29] (fun ve h => OpT.pickF (A := .cel _ _) (H rfl) (D1 h rfl) hd4 Opd.bool rfl) rfl ?_
      refine d1 [39] (fun ve h => OpT.move (A := .cel _ _) (.inr rfl) rfl (ok' rfl) (D1 h rfl) rfl) rfl ?_
      refine dn ⟨by kernel_rfl, by kernel_rfl, ?_⟩
      refine AX.pr (kc 2 rfl <| Kn) ?_
      refine AX.go ?_
      refine AW.ret ?_
      exact rt1 rfl (.inl rfl) (by first | exact field_name (by assumption) | exact field_last (f := f) (by assumption) (by assumption) (by unfold mostF; (repeat' split) <;> first | rfl | omega) | exact field_most (f := f) (by assumption) (by unfold mostF; (repeat' split) <;> first | rfl | omega))
    ·
     have hd3' := lF hd3
     refine dhm [0, 1, 3, 7, 15, 31, 63, 127, 255, 511, 1023, 63, 4095, 8191, 16383, 32767, 65535, 131071, 262143, 524287, 32767, 1081343, 3178495, 8388607, 16777215, 33554431] [] fomo ?_
     refine d1 [0] (fun ve h => OpT.move (A := .cel _ _) (.inl rfl) rfl (ok' rfl) (D1 h rfl) rfl) rfl ?_
     refine d1 [15] (fun ve h => OpT.nilCheck (H rfl) (D1 h rfl)) rfl ?_
     refine d1 [16] (fun ve h => OpT.fieldAddr (H rfl) (D1 h rfl) fd80_0 sz9 (by decide) sb80_0) rfl ?_
     refine d1 [17] (fun ve h => OpT.load (H rfl) (D1 h rfl) ag9 rfl) rfl ?_
     refine d1 [18] (fun ve h => OpT.c1 (ms := [.flat]) (c_spec_l01Name _) (H rfl) (Af (D1 h rfl) rfl rfl <| An) rfl rfl) rfl ?_
     refine d1 [19] (fun ve h => OpT.move (A := .cel _ _) (.inl rfl) rfl (ok' rfl) (D1 h rfl) rfl) rfl ?_
     refine dp hd3 rfl ?_
     refine dp hd3 rfl ?_
     refine dp hd3 rfl ?_
     refine dp hd3 rfl ?_
     refine dp hd3 rfl ?_
     refine dp hd3 rfl ?_
     refine dp hd3 rfl ?_
     refine d1 [20] (fun ve h => OpT.pickF (A := .cel _ _) (H rfl) (D1 h rfl) hd3 Opd.bool rfl) rfl ?_
     refine d1 [28] (fun ve h => OpT.move (A := .cel _ _) (.inl rfl) rfl (ok' rfl) (D1 h rfl) rfl) rfl ?_
     refine dp rfl rfl ?_
     refine dp rfl rfl ?_
     refine dp rfl rfl ?_
     refine dp rfl rfl ?_
     refine dp rfl rfl ?_
     refine dp rfl rfl ?_
     refine dp rfl rfl ?_
     refine dp rfl rfl ?_
     refine dp rfl rfl ?_
     refine d1 [29] (fun ve h => OpT.pickF (A := .cel _ _) (H rfl) (D1 h rfl) rfl Opd.bool rfl) rfl ?_
     refine d1 [39] (fun ve h => OpT.move (A := .cel _ _) (.inr rfl) rfl (ok' rfl) (D1 h rfl) rfl) rfl ?_
     refine dn ⟨by kernel_rfl, by kernel_rfl, ?_⟩
     refine AX.pr (kc 2 rfl <| Kn) ?_
     refine AX.go ?_
     refine AW.ret ?_
     exact rt1 rfl (.inl rfl) (by first | exact field_name (by assumption) | exact field_last (f := f) (by assumption) (by assumption) (by unfold mostF; (repeat' split) <;> first | rfl | omega) | exact field_most (f := f) (by assumption) (by unfold mostF; (repeat' split) <;> first | rfl | omega))
   ·
    obtain ⟨hc3, hc3'⟩ := pF hc3
    refine sr ?_
    refine st (OpT.eql (H rfl) (T1 rfl) (I rfl)) rfl ?_
    refine st (asT rfl) rfl ?_
    refine ng ?_
    refine cd rfl (fun hc4 => ?_) fun hc4 => ?_
    ·
     obtain ⟨hc4, hc4'⟩ := pT hc4
     refine AW.region ?_
     refine st (asI rfl) rfl ?_
     refine nn ?_
     refine AX.normal_block ?_
     refine AX.pr (kc3 3 2 0 rfl <| Kn) ?_
     refine AX.go ?_
     refine AW.seq ?_
     rcases Bool.eq_false_or_eq_true (tt (nameOK f.1)) with hd5 | hd5
     ·
      have hd5' := lT hd5
      rcases Bool.eq_false_or_eq_true (inb f.2.2.2 (1 : Int) (12 : Int)) with hd6 | hd6
      ·
       have hd6' := lT hd6
       refine dhm [0, 1, 3, 7, 15, 31, 63, 127, 255, 511, 1023, 63, 4095, 8191, 16383, 32767, 65535, 131071, 262143, 524287, 32767, 1081343, 3178495, 8388607, 16777215, 33554431] [] fomo ?_
       refine d1 [0] (fun ve h => OpT.move (A := .cel _ _) (.inl rfl) rfl (ok' rfl) (D1 h rfl) rfl) rfl ?_
       refine d1 [15] (fun ve h => OpT.nilCheck (H rfl) (D1 h rfl)) rfl ?_
       refine d1 [16] (fun ve h => OpT.fieldAddr (H rfl) (D1 h rfl) fd80_0 sz9 (by decide) sb80_0) rfl ?_
       refine d1 [17] (fun ve h => OpT.load (H rfl) (D1 h rfl) ag9 rfl) rfl ?_
       refine d1 [18] (fun ve h => OpT.c1 (ms := [.flat]) (c_spec_l01Name _) (H rfl) (Af (D1 h rfl) rfl rfl <| An) rfl rfl) rfl ?_
       refine d1 [19] (fun ve h => OpT.move (A := .cel _ _) (.inl rfl) rfl (ok' rfl) (D1 h rfl) rfl) rfl ?_
       refine dr [0, 20] hd5 (fun ve h => OpT.move (A := .cel _ _) (.inl rfl) rfl (ok' rfl) (D1 h rfl) rfl) rfl ?_
       refine dr [20, 21] hd5 (fun ve h => OpT.nilCheck (H rfl) (D1 h rfl)) rfl ?_
       refine dr [20, 22] hd5 (fun ve h => OpT.fieldAddr (H rfl) (D1 h rfl) fd80_3 sz69 (by decide) sb80_3) rfl ?_
       refine dr [20, 23] hd5 (fun ve h => OpT.load (H rfl) (D1 h rfl) ag69 rfl) rfl ?_
       refine dr [20, 24] hd5 (fun ve h => OpT.conv (H rfl) us69 Tryz.underlying2 (D1 h rfl) (nw (by omega))) rfl ?_
       refine dr [3, 20] hd5 (fun ve h => OpT.move (A := .cel _ _) (.inl rfl) rfl (ok' rfl) (D1 h rfl) rfl) rfl ?_
       refine dr [20, 25, 26] hd5 (fun ve h => OpT.c1 (ms := [.flat, .flat, .flat]) (c_spec_l00In _ _ _) (H rfl) (Af (D1 h rfl) rfl rfl <| Af (I rfl) rfl rfl <| Af (D1 h rfl) rfl rfl <| An) rfl rfl) rfl ?_
       refine d1 [20, 27] (fun ve h => OpT.pickT (A := .cel _ _) (H rfl) (D1 h rfl) hd5 (D1 h rfl) rfl) rfl ?_
       refine d1 [28] (fun ve h => OpT.move (A := .cel _ _) (.inl rfl) rfl (ok' rfl) (D1 h rfl) rfl) rfl ?_
       refine dr [0, 29] hd6 (fun ve h => OpT.move (A := .cel _ _) (.inl rfl) rfl (ok' rfl) (D1 h rfl) rfl) rfl ?_
       refine dr [29, 30] hd6 (fun ve h => OpT.nilCheck (H rfl) (D1 h rfl)) rfl ?_
       refine dr [29, 31] hd6 (fun ve h => OpT.fieldAddr (H rfl) (D1 h rfl) fd80_2 sz69 (by decide) sb80_2) rfl ?_
       refine dr [29, 32] hd6 (fun ve h => OpT.load (H rfl) (D1 h rfl) ag69 rfl) rfl ?_
       refine dr [29, 33] hd6 (fun ve h => OpT.conv (H rfl) us69 Tryz.underlying2 (D1 h rfl) (nw (by omega))) rfl ?_
       refine dr [0, 29] hd6 (fun ve h => OpT.move (A := .cel _ _) (.inl rfl) rfl (ok' rfl) (D1 h rfl) rfl) rfl ?_
       refine dr [29, 35] hd6 (fun ve h => OpT.c1 (ms := [.flat]) (c_spec_l01Width _) (H rfl) (Af (D1 h rfl) rfl rfl <| An) rfl rfl) rfl ?_
       refine dr [29, 36] hd6 (fun ve h => OpT.sub (H rfl) (I rfl) (D1 h rfl) (nw (by omega))) rfl ?_
       refine dr [29, 34, 37] hd6 (fun ve h => OpT.c1 (ms := [.flat, .flat, .flat]) (c_spec_l00In _ _ _) (H rfl) (Af (D1 h rfl) rfl rfl <| Af (I rfl) rfl rfl <| Af (D1 h rfl) rfl rfl <| An) rfl rfl) rfl ?_
       refine d1 [29, 38] (fun ve h => OpT.pickT (A := .cel _ _) (H rfl) (D1 h rfl) hd6 (D1 h rfl) rfl) rfl ?_
       refine d1 [39] (fun ve h => OpT.move (A := .cel _ _) (.inr rfl) rfl (ok' rfl) (D1 h rfl) rfl) rfl ?_
       refine dn ⟨by kernel_rfl, by kernel_rfl, ?_⟩
       refine AX.pr (kc 2 rfl <| Kn) ?_
       refine AX.go ?_
       refine AW.ret ?_
       exact rt1 rfl (.inl rfl) (by first | exact field_name (by assumption) | exact field_last (f := f) (by assumption) (by assumption) (by unfold mostF; (repeat' split) <;> first | rfl | omega) | exact field_most (f := f) (by assumption) (by unfold mostF; (repeat' split) <;> first | rfl | omega))
      ·
       have hd6' := lF hd6
       refine dhm [0, 1, 3, 7, 15, 31, 63, 127, 255, 511, 1023, 63, 4095, 8191, 16383, 32767, 65535, 131071, 262143, 524287, 32767, 1081343, 3178495, 8388607, 16777215, 33554431] [] fomo ?_
       refine d1 [0] (fun ve h => OpT.move (A := .cel _ _) (.inl rfl) rfl (ok' rfl) (D1 h rfl) rfl) rfl ?_
       refine d1 [15] (fun ve h => OpT.nilCheck (H rfl) (D1 h rfl)) rfl ?_
       refine d1 [16] (fun ve h => OpT.fieldAddr (H rfl) (D1 h rfl) fd80_0 sz9 (by decide) sb80_0) rfl ?_
       refine d1 [17] (fun ve h => OpT.load (H rfl) (D1 h rfl) ag9 rfl) rfl ?_
       refine d1 [18] (fun ve h => OpT.c1 (ms := [.flat]) (c_spec_l01Name _) (H rfl) (Af (D1 h rfl) rfl rfl <| An) rfl rfl) rfl ?_
       refine d1 [19] (fun ve h => OpT.move (A := .cel _ _) (.inl rfl) rfl (ok' rfl) (D1 h rfl) rfl) rfl ?_
       refine dr [0, 20] hd5 (fun ve h => OpT.move (A := .cel _ _) (.inl rfl) rfl (ok' rfl) (D1 h rfl) rfl) rfl ?_
       refine dr [20, 21] hd5 (fun ve h => OpT.nilCheck (H rfl) (D1 h rfl)) rfl ?_
       refine dr [20, 22] hd5 (fun ve h => OpT.fieldAddr (H rfl) (D1 h rfl) fd80_3 sz69 (by decide) sb80_3) rfl ?_
       refine dr [20, 23] hd5 (fun ve h => OpT.load (H rfl) (D1 h rfl) ag69 rfl) rfl ?_
       refine dr [20, 24] hd5 (fun ve h => OpT.conv (H rfl) us69 Tryz.underlying2 (D1 h rfl) (nw (by omega))) rfl ?_
       refine dr [3, 20] hd5 (fun ve h => OpT.move (A := .cel _ _) (.inl rfl) rfl (ok' rfl) (D1 h rfl) rfl) rfl ?_
       refine dr [20, 25, 26] hd5 (fun ve h => OpT.c1 (ms := [.flat, .flat, .flat]) (c_spec_l00In _ _ _) (H rfl) (Af (D1 h rfl) rfl rfl <| Af (I rfl) rfl rfl <| Af (D1 h rfl) rfl rfl <| An) rfl rfl) rfl ?_
       refine d1 [20, 27] (fun ve h => OpT.pickT (A := .cel _ _) (H rfl) (D1 h rfl) hd5 (D1 h rfl) rfl) rfl ?_
       refine d1 [28] (fun ve h => OpT.move (A := .cel _ _) (.inl rfl) rfl (ok' rfl) (D1 h rfl) rfl) rfl ?_
       refine dp hd6 rfl ?_
       refine dp hd6 rfl ?_
       refine dp hd6 rfl ?_
       refine dp hd6 rfl ?_
       refine dp hd6 rfl ?_
       refine dp hd6 rfl ?_
       refine dp hd6 rfl ?_
       refine dp hd6 rfl ?_
       refine dp hd6 rfl ?_
       refine d1 [29] (fun ve h => OpT.pickF (A := .cel _ _) (H rfl) (D1 h rfl) hd6 Opd.bool rfl) rfl ?_
       refine d1 [39] (fun ve h => OpT.move (A := .cel _ _) (.inr rfl) rfl (ok' rfl) (D1 h rfl) rfl) rfl ?_
       refine dn ⟨by kernel_rfl, by kernel_rfl, ?_⟩
       refine AX.pr (kc 2 rfl <| Kn) ?_
       refine AX.go ?_
       refine AW.ret ?_
       exact rt1 rfl (.inl rfl) (by first | exact field_name (by assumption) | exact field_last (f := f) (by assumption) (by assumption) (by unfold mostF; (repeat' split) <;> first | rfl | omega) | exact field_most (f := f) (by assumption) (by unfold mostF; (repeat' split) <;> first | rfl | omega))
     ·
      have hd5' := lF hd5
      refine dhm [0, 1, 3, 7, 15, 31, 63, 127, 255, 511, 1023, 63, 4095, 8191, 16383, 32767, 65535, 131071, 262143, 524287, 32767, 1081343, 3178495, 8388607, 16777215, 33554431] [] fomo ?_
      refine d1 [0] (fun ve h => OpT.move (A := .cel _ _) (.inl rfl) rfl (ok' rfl) (D1 h rfl) rfl) rfl ?_
      refine d1 [15] (fun ve h => OpT.nilCheck (H rfl) (D1 h rfl)) rfl ?_
      refine d1 [16] (fun ve h => OpT.fieldAddr (H rfl) (D1 h rfl) fd80_0 sz9 (by decide) sb80_0) rfl ?_
      refine d1 [17] (fun ve h => OpT.load (H rfl) (D1 h rfl) ag9 rfl) rfl ?_
      refine d1 [18] (fun ve h => OpT.c1 (ms := [.flat]) (c_spec_l01Name _) (H rfl) (Af (D1 h rfl) rfl rfl <| An) rfl rfl) rfl ?_
      refine d1 [19] (fun ve h => OpT.move (A := .cel _ _) (.inl rfl) rfl (ok' rfl) (D1 h rfl) rfl) rfl ?_
      refine dp hd5 rfl ?_
      refine dp hd5 rfl ?_
      refine dp hd5 rfl ?_
      refine dp hd5 rfl ?_
      refine dp hd5 rfl ?_
      refine dp hd5 rfl ?_
      refine dp hd5 rfl ?_
      refine d1 [20] (fun ve h => OpT.pickF (A := .cel _ _) (H rfl) (D1 h rfl) hd5 Opd.bool rfl) rfl ?_
      refine d1 [28] (fun ve h => OpT.move (A := .cel _ _) (.inl rfl) rfl (ok' rfl) (D1 h rfl) rfl) rfl ?_
      refine dp rfl rfl ?_
      refine dp rfl rfl ?_
      refine dp rfl rfl ?_
      refine dp rfl rfl ?_
      refine dp rfl rfl ?_
      refine dp rfl rfl ?_
      refine dp rfl rfl ?_
      refine dp rfl rfl ?_
      refine dp rfl rfl ?_
      refine d1 [29] (fun ve h => OpT.pickF (A := .cel _ _) (H rfl) (D1 h rfl) rfl Opd.bool rfl) rfl ?_
      refine d1 [39] (fun ve h => OpT.move (A := .cel _ _) (.inr rfl) rfl (ok' rfl) (D1 h rfl) rfl) rfl ?_
      refine dn ⟨by kernel_rfl, by kernel_rfl, ?_⟩
      refine AX.pr (kc 2 rfl <| Kn) ?_
      refine AX.go ?_
      refine AW.ret ?_
      exact rt1 rfl (.inl rfl) (by first | exact field_name (by assumption) | exact field_last (f := f) (by assumption) (by assumption) (by unfold mostF; (repeat' split) <;> first | rfl | omega) | exact field_most (f := f) (by assumption) (by unfold mostF; (repeat' split) <;> first | rfl | omega))
    ·
     obtain ⟨hc4, hc4'⟩ := pF hc4
     refine AW.skip ?_
     refine AX.normal_block ?_
     refine AX.pr (kc3 3 2 0 rfl <| Kn) ?_
     refine AX.go ?_
     refine AW.seq ?_
     rcases Bool.eq_false_or_eq_true (tt (nameOK f.1)) with hd7 | hd7
     ·
      have hd7' := lT hd7
      rcases Bool.eq_false_or_eq_true (inb f.2.2.2 (1 : Int) (0 : Int)) with hd8 | hd8
      ·
       have hd8' := lT hd8
       refine dhm [0, 1, 3, 7, 15, 31, 63, 127, 255, 511, 1023, 63, 4095, 8191, 16383, 32767, 65535, 131071, 262143, 524287, 32767, 1081343, 3178495, 8388607, 16777215, 33554431] [] fomo ?_
       refine d1 [0] (fun ve h => OpT.move (A := .cel _ _) (.inl rfl) rfl (ok' rfl) (D1 h rfl) rfl) rfl ?_
       refine d1 [15] (fun ve h => OpT.nilCheck (H rfl) (D1 h rfl)) rfl ?_
       refine d1 [16] (fun ve h => OpT.fieldAddr (H rfl) (D1 h rfl) fd80_0 sz9 (by decide) sb80_0) rfl ?_
       refine d1 [17] (fun ve h => OpT.load (H rfl) (D1 h rfl) ag9 rfl) rfl ?_
       refine d1 [18] (fun ve h => OpT.c1 (ms := [.flat]) (c_spec_l01Name _) (H rfl) (Af (D1 h rfl) rfl rfl <| An) rfl rfl) rfl ?_
       refine d1 [19] (fun ve h => OpT.move (A := .cel _ _) (.inl rfl) rfl (ok' rfl) (D1 h rfl) rfl) rfl ?_
       refine dr [0, 20] hd7 (fun ve h => OpT.move (A := .cel _ _) (.inl rfl) rfl (ok' rfl) (D1 h rfl) rfl) rfl ?_
       refine dr [20, 21] hd7 (fun ve h => OpT.nilCheck (H rfl) (D1 h rfl)) rfl ?_
       refine dr [20, 22] hd7 (fun ve h => OpT.fieldAddr (H rfl) (D1 h rfl) fd80_3 sz69 (by decide) sb80_3) rfl ?_
       refine dr [20, 23] hd7 (fun ve h => OpT.load (H rfl) (D1 h rfl) ag69 rfl) rfl ?_
       refine dr [20, 24] hd7 (fun ve h => OpT.conv (H rfl) us69 Tryz.underlying2 (D1 h rfl) (nw (by omega))) rfl ?_
       refine dr [3, 20] hd7 (fun ve h => OpT.move (A := .cel _ _) (.inl rfl) rfl (ok' rfl) (D1 h rfl) rfl) rfl ?_
       refine dr [20, 25, 26] hd7 (fun ve h => OpT.c1 (ms := [.flat, .flat, .flat]) (c_spec_l00In _ _ _) (H rfl) (Af (D1 h rfl) rfl rfl <| Af (I rfl) rfl rfl <| Af (D1 h rfl) rfl rfl <| An) rfl rfl) rfl ?_
       refine d1 [20, 27] (fun ve h => OpT.pickT (A := .cel _ _) (H rfl) (D1 h rfl) hd7 (D1 h rfl) rfl) rfl ?_
       refine d1 [28] (fun ve h => OpT.move (A := .cel _ _) (.inl rfl) rfl (ok' rfl) (D1 h rfl) rfl) rfl ?_
       refine dr [0, 29] hd8 (fun ve h => OpT.move (A := .cel _ _) (.inl rfl) rfl (ok' rfl) (D1 h rfl) rfl) rfl ?_
       refine dr [29, 30] hd8 (fun ve h => OpT.nilCheck (H rfl) (D1 h rfl)) rfl ?_
       refine dr [29, 31] hd8 (fun ve h => OpT.fieldAddr (H rfl) (D1 h rfl) fd80_2 sz69 (by decide) sb80_2) rfl ?_
       refine dr [29, 32] hd8 (fun ve h => OpT.load (H rfl) (D1 h rfl) ag69 rfl) rfl ?_
       refine dr [29, 33] hd8 (fun ve h => OpT.conv (H rfl) us69 Tryz.underlying2 (D1 h rfl) (nw (by omega))) rfl ?_
       refine dr [0, 29] hd8 (fun ve h => OpT.move (A := .cel _ _) (.inl rfl) rfl (ok' rfl) (D1 h rfl) rfl) rfl ?_
       refine dr [29, 35] hd8 (fun ve h => OpT.c1 (ms := [.flat]) (c_spec_l01Width _) (H rfl) (Af (D1 h rfl) rfl rfl <| An) rfl rfl) rfl ?_
       refine dr [29, 36] hd8 (fun ve h => OpT.sub (H rfl) (I rfl) (D1 h rfl) (nw (by omega))) rfl ?_
       refine dr [29, 34, 37] hd8 (fun ve h => OpT.c1 (ms := [.flat, .flat, .flat]) (c_spec_l00In _ _ _) (H rfl) (Af (D1 h rfl) rfl rfl <| Af (I rfl) rfl rfl <| Af (D1 h rfl) rfl rfl <| An) rfl rfl) rfl ?_
       refine d1 [29, 38] (fun ve h => OpT.pickT (A := .cel _ _) (H rfl) (D1 h rfl) hd8 (D1 h rfl) rfl) rfl ?_
       refine d1 [39] (fun ve h => OpT.move (A := .cel _ _) (.inr rfl) rfl (ok' rfl) (D1 h rfl) rfl) rfl ?_
       refine dn ⟨by kernel_rfl, by kernel_rfl, ?_⟩
       refine AX.pr (kc 2 rfl <| Kn) ?_
       refine AX.go ?_
       refine AW.ret ?_
       exact rt1 rfl (.inl rfl) (by first | exact field_name (by assumption) | exact field_last (f := f) (by assumption) (by assumption) (by unfold mostF; (repeat' split) <;> first | rfl | omega) | exact field_most (f := f) (by assumption) (by unfold mostF; (repeat' split) <;> first | rfl | omega))
      ·
       have hd8' := lF hd8
       refine dhm [0, 1, 3, 7, 15, 31, 63, 127, 255, 511, 1023, 63, 4095, 8191, 16383, 32767, 65535, 131071, 262143, 524287, 32767, 1081343, 3178495, 8388607, 16777215, 33554431] [] fomo ?_
       refine d1 [0] (fun ve h => OpT.move (A := .cel _ _) (.inl rfl) rfl (ok' rfl) (D1 h rfl) rfl) rfl ?_
       refine d1 [15] (fun ve h => OpT.nilCheck (H rfl) (D1 h rfl)) rfl ?_
       refine d1 [16] (fun ve h => OpT.fieldAddr (H rfl) (D1 h rfl) fd80_0 sz9 (by decide) sb80_0) rfl ?_
       refine d1 [17] (fun ve h => OpT.load (H rfl) (D1 h rfl) ag9 rfl) rfl ?_
       refine d1 [18] (fun ve h => OpT.c1 (ms := [.flat]) (c_spec_l01Name _) (H rfl) (Af (D1 h rfl) rfl rfl <| An) rfl rfl) rfl ?_
       refine d1 [19] (fun ve h => OpT.move (A := .cel _ _) (.inl rfl) rfl (ok' rfl) (D1 h rfl) rfl) rfl ?_
       refine dr [0, 20] hd7 (fun ve h => OpT.move (A := .cel _ _) (.inl rfl) rfl (ok' rfl) (D1 h rfl) rfl) rfl ?_
       refine dr [20, 21] hd7 (fun ve h => OpT.nilCheck (H rfl) (D1 h rfl)) rfl ?_
       refine dr [20, 22] hd7 (fun ve h => OpT.fieldAddr (H rfl) (D1 h rfl) fd80_3 sz69 (by decide) sb80_3) rfl ?_
       refine dr [20, 23] hd7 (fun ve h => OpT.load (H rfl) (D1 h rfl) ag69 rfl) rfl ?_
       refine dr [20, 24] hd7 (fun ve h => OpT.conv (H rfl) us69 Tryz.underlying2 (D1 h rfl) (nw (by omega))) rfl ?_
       refine dr [3, 20] hd7 (fun ve h => OpT.move (A := .cel _ _) (.inl rfl) rfl (ok' rfl) (D1 h rfl) rfl) rfl ?_
       refine dr [20, 25, 26] hd7 (fun ve h => OpT.c1 (ms := [.flat, .flat, .flat]) (c_spec_l00In _ _ _) (H rfl) (Af (D1 h rfl) rfl rfl <| Af (I rfl) rfl rfl <| Af (D1 h rfl) rfl rfl <| An) rfl rfl) rfl ?_
       refine d1 [20, 27] (fun ve h => OpT.pickT (A := .cel _ _) (H rfl) (D1 h rfl) hd7 (D1 h rfl) rfl) rfl ?_
       refine d1 [28] (fun ve h => OpT.move (A := .cel _ _) (.inl rfl) rfl (ok' rfl) (D1 h rfl) rfl) rfl ?_
       refine dp hd8 rfl ?_
       refine dp hd8 rfl ?_
       refine dp hd8 rfl ?_
       refine dp hd8 rfl ?_
       refine dp hd8 rfl ?_
       refine dp hd8 rfl ?_
       refine dp hd8 rfl ?_
       refine dp hd8 rfl ?_
       refine dp hd8 rfl ?_
       refine d1 [29] (fun ve h => OpT.pickF (A := .cel _ _) (H rfl) (D1 h rfl) hd8 Opd.bool rfl) rfl ?_
       refine d1 [39] (fun ve h => OpT.move (A := .cel _ _) (.inr rfl) rfl (ok' rfl) (D1 h rfl) rfl) rfl ?_
       refine dn ⟨by kernel_rfl, by kernel_rfl, ?_⟩
       refine AX.pr (kc 2 rfl <| Kn) ?_
       refine AX.go ?_
       refine AW.ret ?_
       exact rt1 rfl (.inl rfl) (by first | exact field_name (by assumption) | exact field_last (f := f) (by assumption) (by assumption) (by unfold mostF; (repeat' split) <;> first | rfl | omega) | exact field_most (f := f) (by assumption) (by unfold mostF; (repeat' split) <;> first | rfl | omega))
     ·
      have hd7' := lF hd7
      refine dhm [0, 1, 3, 7, 15, 31, 63, 127, 255, 511, 1023, 63, 4095, 8191, 16383, 32767, 65535, 131071, 262143, 524287, 32767, 1081343, 3178495, 8388607, 16777215, 33554431] [] fomo ?_
      refine d1 [0] (fun ve h => OpT.move (A := .cel _ _) (.inl rfl) rfl (ok' rfl) (D1 h rfl) rfl) rfl ?_
      refine d1 [15] (fun ve h => OpT.nilCheck (H rfl) (D1 h rfl)) rfl ?_
      refine d1 [16] (fun ve h => OpT.fieldAddr (H rfl) (D1 h rfl) fd80_0 sz9 (by decide) sb80_0) rfl ?_
      refine d1 [17] (fun ve h => OpT.load (H rfl) (D1 h rfl) ag9 rfl) rfl ?_
      refine d1 [18] (fun ve h => OpT.c1 (ms := [.flat]) (c_spec_l01Name _) (H rfl) (Af (D1 h rfl) rfl rfl <| An) rfl rfl) rfl ?_
      refine d1 [19] (fun ve h => OpT.move (A := .cel _ _) (.inl rfl) rfl (ok' rfl) (D1 h rfl) rfl) rfl ?_
      refine dp hd7 rfl ?_
      refine dp hd7 rfl ?_
      refine dp hd7 rfl ?_
      refine dp hd7 rfl ?_
      refine dp hd7 rfl ?_
      refine dp hd7 rfl ?_
      refine dp hd7 rfl ?_
      refine d1 [20] (fun ve h => OpT.pickF (A := .cel _ _) (H rfl) (D1 h rfl) hd7 Opd.bool rfl) rfl ?_
      refine d1 [28] (fun ve h => OpT.move (A := .cel _ _) (.inl rfl) rfl (ok' rfl) (D1 h rfl) rfl) rfl ?_
      refine dp rfl rfl ?_
      refine dp rfl rfl ?_
      refine dp rfl rfl ?_
      refine dp rfl rfl ?_
      refine dp rfl rfl ?_
      refine dp rfl rfl ?_
      refine dp rfl rfl ?_
      refine dp rfl rfl ?_
      refine dp rfl rfl ?_
      refine d1 [29] (fun ve h => OpT.pickF (A := .cel _ _) (H rfl) (D1 h rfl) rfl Opd.bool rfl) rfl ?_
      refine d1 [39] (fun ve h => OpT.move (A := .cel _ _) (.inr rfl) rfl (ok' rfl) (D1 h rfl) rfl) rfl ?_
      refine dn ⟨by kernel_rfl, by kernel_rfl, ?_⟩
      refine AX.pr (kc 2 rfl <| Kn) ?_
      refine AX.go ?_
      refine AW.ret ?_
      exact rt1 rfl (.inl rfl) (by first | exact field_name (by assumption) | exact field_last (f := f) (by assumption) (by assumption) (by unfold mostF; (repeat' split) <;> first | rfl | omega) | exact field_most (f := f) (by assumption) (by unfold mostF; (repeat' split) <;> first | rfl | omega))
  ·
   obtain ⟨hc2, hc2'⟩ := pF hc2
   refine AW.region ?_
   refine st (OpT.eql (H rfl) (T1 rfl) (I rfl)) rfl ?_
   refine st (asT rfl) rfl ?_
   refine ng ?_
   refine cd rfl (fun hc5 => ?_) fun hc5 => ?_
   ·
    obtain ⟨hc5, hc5'⟩ := pT hc5
    refine AW.region ?_
    refine st (asI rfl) rfl ?_
    refine nn ?_
    refine AX.normal_block ?_
    refine AX.pr (kc3 3 2 0 rfl <| Kn) ?_
    refine AX.go ?_
    refine AW.seq ?_
    rcases Bool.eq_false_or_eq_true (tt (nameOK f.1)) with hd9 | hd9
    ·
     have hd9' := lT hd9
     rcases Bool.eq_false_or_eq_true (inb f.2.2.2 (1 : Int) (4 : Int)) with hd10 | hd10
     ·
      have hd10' := lT hd10
      refine dhm [0, 1, 3, 7, 15, 31, 63, 127, 255, 511, 1023, 63, 4095, 8191, 16383, 32767, 65535, 131071, 262143, 524287, 32767, 1081343, 3178495, 8388607, 16777215, 33554431] [] fomo ?_
      refine d1 [0] (fun ve h => OpT.move (A := .cel _ _) (.inl rfl) rfl (ok' rfl) (D1 h rfl) rfl) rfl ?_
      refine d1 [15] (fun ve h => OpT.nilCheck (H rfl) (D1 h rfl)) rfl ?_
      refine d1 [16] (fun ve h => OpT.fieldAddr (H rfl) (D1 h rfl) fd80_0 sz9 (by decide) sb80_0) rfl ?_
      refine d1 [17] (fun ve h => OpT.load (H rfl) (D1 h rfl) ag9 rfl) rfl ?_
      refine d1 [18] (fun ve h => OpT.c1 (ms := [.flat]) (c_spec_l01Name _) (H rfl) (Af (D1 h rfl) rfl rfl <| An) rfl rfl) rfl ?_
      refine d1 [19] (fun ve h => OpT.move (A := .cel _ _) (.inl rfl) rfl (ok' rfl) (D1 h rfl) rfl) rfl ?_
      refine dr [0, 20] hd9 (fun ve h => OpT.move (A := .cel _ _) (.inl rfl) rfl (ok' rfl) (D1 h rfl) rfl) rfl ?_
      refine dr [20, 21] hd9 (fun ve h => OpT.nilCheck (H rfl) (D1 h rfl)) rfl ?_
      refine dr [20, 22] hd9 (fun ve h => OpT.fieldAddr (H rfl) (D1 h rfl) fd80_3 sz69 (by decide) sb80_3) rfl ?_
      refine dr [20, 23] hd9 (fun ve h => OpT.load (H rfl) (D1 h rfl) ag69 rfl) rfl ?_
      refine dr [20, 24] hd9 (fun ve h => OpT.conv (H rfl) us69 Tryz.underlying2 (D1 h rfl) (nw (by omega))) rfl ?_
      refine dr [3, 20] hd9 (fun ve h => OpT.move (A := .cel _ _) (.inl rfl) rfl (ok' rfl) (D1 h rfl) rfl) rfl ?_
      refine dr [20, 25, 26] hd9 (fun ve h => OpT.c1 (ms := [.flat, .flat, .flat]) (c_spec_l00In _ _ _) (H rfl) (Af (D1 h rfl) rfl rfl <| Af (I rfl) rfl rfl <| Af (D1 h rfl) rfl rfl <| An) rfl rfl) rfl ?_
      refine d1 [20, 27] (fun ve h => OpT.pickT (A := .cel _ _) (H rfl) (D1 h rfl) hd9 (D1 h rfl) rfl) rfl ?_
      refine d1 [28] (fun ve h => OpT.move (A := .cel _ _) (.inl rfl) rfl (ok' rfl) (D1 h rfl) rfl) rfl ?_
      refine dr [0, 29] hd10 (fun ve h => OpT.move (A := .cel _ _) (.inl rfl) rfl (ok' rfl) (D1 h rfl) rfl) rfl ?_
      refine dr [29, 30] hd10 (fun ve h => OpT.nilCheck (H rfl) (D1 h rfl)) rfl ?_
      refine dr [29, 31] hd10 (fun ve h => OpT.fieldAddr (H rfl) (D1 h rfl) fd80_2 sz69 (by decide) sb80_2) rfl ?_
      refine dr [29, 32] hd10 (fun ve h => OpT.load (H rfl) (D1 h rfl) ag69 rfl) rfl ?_
      refine dr [29, 33] hd10 (fun ve h => OpT.conv (H rfl) us69 Tryz.underlying2 (D1 h rfl) (nw (by omega))) rfl ?_
      refine dr [0, 29] hd10 (fun ve h => OpT.move (A := .cel _ _) (.inl rfl) rfl (ok' rfl) (D1 h rfl) rfl) rfl ?_
      refine dr [29, 35] hd10 (fun ve h => OpT.c1 (ms := [.flat]) (c_spec_l01Width _) (H rfl) (Af (D1 h rfl) rfl rfl <| An) rfl rfl) rfl ?_
      refine dr [29, 36] hd10 (fun ve h => OpT.sub (H rfl) (I rfl) (D1 h rfl) (nw (by omega))) rfl ?_
      refine dr [29, 34, 37] hd10 (fun ve h => OpT.c1 (ms := [.flat, .flat, .flat]) (c_spec_l00In _ _ _) (H rfl) (Af (D1 h rfl) rfl rfl <| Af (I rfl) rfl rfl <| Af (D1 h rfl) rfl rfl <| An) rfl rfl) rfl ?_
      refine d1 [29, 38] (fun ve h => OpT.pickT (A := .cel _ _) (H rfl) (D1 h rfl) hd10 (D1 h rfl) rfl) rfl ?_
      refine d1 [39] (fun ve h => OpT.move (A := .cel _ _) (.inr rfl) rfl (ok' rfl) (D1 h rfl) rfl) rfl ?_
      refine dn ⟨by kernel_rfl, by kernel_rfl, ?_⟩
      refine AX.pr (kc 2 rfl <| Kn) ?_
      refine AX.go ?_
      refine AW.ret ?_
      exact rt1 rfl (.inl rfl) (by first | exact field_name (by assumption) | exact field_last (f := f) (by assumption) (by assumption) (by unfold mostF; (repeat' split) <;> first | rfl | omega) | exact field_most (f := f) (by assumption) (by unfold mostF; (repeat' split) <;> first | rfl | omega))
     ·
      have hd10' := lF hd10
      refine dhm [0, 1, 3, 7, 15, 31, 63, 127, 255, 511, 1023, 63, 4095, 8191, 16383, 32767, 65535, 131071, 262143, 524287, 32767, 1081343, 3178495, 8388607, 16777215, 33554431] [] fomo ?_
      refine d1 [0] (fun ve h => OpT.move (A := .cel _ _) (.inl rfl) rfl (ok' rfl) (D1 h rfl) rfl) rfl ?_
      refine d1 [15] (fun ve h => OpT.nilCheck (H rfl) (D1 h rfl)) rfl ?_
      refine d1 [16] (fun ve h => OpT.fieldAddr (H rfl) (D1 h rfl) fd80_0 sz9 (by decide) sb80_0) rfl ?_
      refine d1 [17] (fun ve h => OpT.load (H rfl) (D1 h rfl) ag9 rfl) rfl ?_
      refine d1 [18] (fun ve h => OpT.c1 (ms := [.flat]) (c_spec_l01Name _) (H rfl) (Af (D1 h rfl) rfl rfl <| An) rfl rfl) rfl ?_
      refine d1 [19] (fun ve h => OpT.move (A := .cel _ _) (.inl rfl) rfl (ok' rfl) (D1 h rfl) rfl) rfl ?_
      refine dr [0, 20] hd9 (fun ve h => OpT.move (A := .cel _ _) (.inl rfl) rfl (ok' rfl) (D1 h rfl) rfl) rfl ?_
      refine dr [20, 21] hd9 (fun ve h => OpT.nilCheck (H rfl) (D1 h rfl)) rfl ?_
      refine dr [20, 22] hd9 (fun ve h => OpT.fieldAddr (H rfl) (D1 h rfl) fd80_3 sz69 (by decide) sb80_3) rfl ?_
      refine dr [20, 23] hd9 (fun ve h => OpT.load (H rfl) (D1 h rfl) ag69 rfl) rfl ?_
      refine dr [20, 24] hd9 (fun ve h => OpT.conv (H rfl) us69 Tryz.underlying2 (D1 h rfl) (nw (by omega))) rfl ?_
      refine dr [3, 20] hd9 (fun ve h => OpT.move (A := .cel _ _) (.inl rfl) rfl (ok' rfl) (D1 h rfl) rfl) rfl ?_
      refine dr [20, 25, 26] hd9 (fun ve h => OpT.c1 (ms := [.flat, .flat, .flat]) (c_spec_l00In _ _ _) (H rfl) (Af (D1 h rfl) rfl rfl <| Af (I rfl) rfl rfl <| Af (D1 h rfl) rfl rfl <| An) rfl rfl) rfl ?_
      refine d1 [20, 27] (fun ve h => OpT.pickT (A := .cel _ _) (H rfl) (D1 h rfl) hd9 (D1 h rfl) rfl) rfl ?_
      refine d1 [28] (fun ve h => OpT.move (A := .cel _ _) (.inl rfl) rfl (ok' rfl) (D1 h rfl) rfl) rfl ?_
      refine dp hd10 rfl ?_
      refine dp hd10 rfl ?_
      refine dp hd10 rfl ?_
      refine dp hd10 rfl ?_
      refine dp hd10 rfl ?_
      refine dp hd10 rfl ?_
      refine dp hd10 rfl ?_
      refine dp hd10 rfl ?_
      refine dp hd10 rfl ?_
      refine d1 [29] (fun ve h => OpT.pickF (A := .cel _ _) (H rfl) (D1 h rfl) hd10 Opd.bool rfl) rfl ?_
      refine d1 [39] (fun ve h => OpT.move (A := .cel _ _) (.inr rfl) rfl (ok' rfl) (D1 h rfl) rfl) rfl ?_
      refine dn ⟨by kernel_rfl, by kernel_rfl, ?_⟩
      refine AX.pr (kc 2 rfl <| Kn) ?_
      refine AX.go ?_
      refine AW.ret ?_
      exact rt1 rfl (.inl rfl) (by first | exact field_name (by assumption) | exact field_last (f := f) (by assumption) (by assumption) (by unfold mostF; (repeat' split) <;> first | rfl | omega) | exact field_most (f := f) (by assumption) (by unfold mostF; (repeat' split) <;> first | rfl | omega))
    ·
     have hd9' := lF hd9
     refine dhm [0, 1, 3, 7, 15, 31, 63, 127, 255, 511, 1023, 63, 4095, 8191, 16383, 32767, 65535, 131071, 262143, 524287, 32767, 1081343, 3178495, 8388607, 16777215, 33554431] [] fomo ?_
     refine d1 [0] (fun ve h => OpT.move (A := .cel _ _) (.inl rfl) rfl (ok' rfl) (D1 h rfl) rfl) rfl ?_
     refine d1 [15] (fun ve h => OpT.nilCheck (H rfl) (D1 h rfl)) rfl ?_
     refine d1 [16] (fun ve h => OpT.fieldAddr (H rfl) (D1 h rfl) fd80_0 sz9 (by decide) sb80_0) rfl ?_
     refine d1 [17] (fun ve h => OpT.load (H rfl) (D1 h rfl) ag9 rfl) rfl ?_
     refine d1 [18] (fun ve h => OpT.c1 (ms := [.flat]) (c_spec_l01Name _) (H rfl) (Af (D1 h rfl) rfl rfl <| An) rfl rfl) rfl ?_
     refine d1 [19] (fun ve h => OpT.move (A := .cel _ _) (.inl rfl) rfl (ok' rfl) (D1 h rfl) rfl) rfl ?_
     refine dp hd9 rfl ?_
     refine dp hd9 rfl ?_
     refine dp hd9 rfl ?_
     refine dp hd9 rfl ?_
     refine dp hd9 rfl ?_
     refine dp hd9 rfl ?_
     refine dp hd9 rfl ?_
     refine d1 [20] (fun ve h => OpT.pickF (A := .cel _ _) (H rfl) (D1 h rfl) hd9 Opd.bool rfl) rfl ?_
     refine d1 [28] (fun ve h => OpT.move (A := .cel _ _) (.inl rfl) rfl (ok' rfl) (D1 h rfl) rfl) rfl ?_
     refine dp rfl rfl ?_
     refine dp rfl rfl ?_
     refine dp rfl rfl ?_
     refine dp rfl rfl ?_
     refine dp rfl rfl ?_
     refine dp rfl rfl ?_
     refine dp rfl rfl ?_
     refine dp rfl rfl ?_
     refine dp rfl rfl ?_
     refine d1 [29] (fun ve h => OpT.pickF (A := .cel _ _) (H rfl) (D1 h rfl) rfl Opd.bool rfl) rfl ?_
     refine d1 [39] (fun ve h => OpT.move (A := .cel _ _) (.inr rfl) rfl (ok' rfl) (D1 h rfl) rfl) rfl ?_
     refine dn ⟨by kernel_rfl, by kernel_rfl, ?_⟩
     refine AX.pr (kc 2 rfl <| Kn) ?_
     refine AX.go ?_
     refine AW.ret ?_
     exact rt1 rfl (.inl rfl) (by first | exact field_name (by assumption) | exact field_last (f := f) (by assumption) (by assumption) (by unfold mostF; (repeat' split) <;> first | rfl | omega) | exact field_most (f := f) (by assumption) (by unfold mostF; (repeat' split) <;> first | rfl | omega))
   ·
    obtain ⟨hc5, hc5'⟩ := pF hc5
    refine sr ?_
    refine st (OpT.eql (H rfl) (T1 rfl) (I rfl)) rfl ?_
    refine st (asT rfl) rfl ?_
    refine AWl.to (kc4 13 3 2 0 rfl <| Kn) ?_
    refine ng ?_
    refine cd rfl (fun hc6 => ?_) fun hc6 => ?_
    ·
     obtain ⟨hc6, hc6'⟩ := pT hc6
     refine AW.region ?_
     refine st (asI rfl) rfl ?_
     refine nn ?_
     refine AX.normal_block ?_
     refine AX.pr (kc3 3 2 0 rfl <| Kn) ?_
     refine AX.go ?_
     refine AW.seq ?_
     rcases Bool.eq_false_or_eq_true (tt (nameOK f.1)) with hd11 | hd11
     ·
      have hd11' := lT hd11
      rcases Bool.eq_false_or_eq_true (inb f.2.2.2 (1 : Int) (12 : Int)) with hd12 | hd12
      ·
       have hd12' := lT hd12
       refine dhm [0, 1, 3, 7, 15, 31, 63, 127, 255, 511, 1023, 63, 4095, 8191, 16383, 32767, 65535, 131071, 262143, 524287, 32767, 1081343, 3178495, 8388607, 16777215, 33554431] [] fomo ?_
       refine d1 [0] (fun ve h => OpT.move (A := .cel _ _) (.inl rfl) rfl (ok' rfl) (D1 h rfl) rfl) rfl ?_
       refine d1 [15] (fun ve h => OpT.nilCheck (H rfl) (D1 h rfl)) rfl ?_
       refine d1 [16] (fun ve h => OpT.fieldAddr (H rfl) (D1 h rfl) fd80_0 sz9 (by decide) sb80_0) rfl ?_
       refine d1 [17] (fun ve h => OpT.load (H rfl) (D1 h rfl) ag9 rfl) rfl ?_
       refine d1 [18] (fun ve h => OpT.c1 (ms := [.flat]) (c_spec_l01Name _) (H rfl) (Af (D1 h rfl) rfl rfl <| An) rfl rfl) rfl ?_
       refine d1 [19] (fun ve h => OpT.move (A := .cel _ _) (.inl rfl) rfl (ok' rfl) (D1 h rfl) rfl) rfl ?_
       refine dr [0, 20] hd11 (fun ve h => OpT.move (A := .cel _ _) (.inl rfl) rfl (ok' rfl) (D1 h rfl) rfl) rfl ?_
       refine dr [20, 21] hd11 (fun ve h => OpT.nilCheck (H rfl) (D1 h rfl)) rfl ?_
       refine dr [20, 22] hd11 (fun ve h => OpT.fieldAddr (H rfl) (D1 h rfl) fd80_3 sz69 (by decide) sb80_3) rfl ?_
       refine dr [20, 23] hd11 (fun ve h => OpT.load (H rfl) (D1 h rfl) ag69 rfl) rfl ?_
       refine dr [20, 24] hd11 (fun ve h => OpT.conv (H rfl) us69 Tryz.underlying2 (D1 h rfl) (nw (by omega))) rfl ?_
       refine dr [3, 20] hd11 (fun ve h => OpT.move (A := .cel _ _) (.inl rfl) rfl (ok' rfl) (D1 h rfl) rfl) rfl ?_
       refine dr [20, 25, 26] hd11 (fun ve h => OpT.c1 (ms := [.flat, .flat, .flat]) (c_spec_l00In _ _ _) (H rfl) (Af (D1 h rfl) rfl rfl <| Af (I rfl) rfl rfl <| Af (D1 h rfl) rfl rfl <| An) rfl rfl) rfl ?_
       refine d1 [20, 27] (fun ve h => OpT.pickT (A := .cel _ _) (H rfl) (D1 h rfl) hd11 (D1 h rfl) rfl) rfl ?_
       refine d1 [28] (fun ve h => OpT.move (A := .cel _ _) (.inl rfl) rfl (ok' rfl) (D1 h rfl) rfl) rfl ?_
       refine dr [0, 29] hd12 (fun ve h => OpT.move (A := .cel _ _) (.inl rfl) rfl (ok' rfl) (D1 h rfl) rfl) rfl ?_
       refine dr [29, 30] hd12 (fun ve h => OpT.nilCheck (H rfl) (D1 h rfl)) rfl ?_
       refine dr [29, 31] hd12 (fun ve h => OpT.fieldAddr (H rfl) (D1 h rfl) fd80_2 sz69 (by decide) sb80_2) rfl ?_
       refine dr [29, 32] hd12 (fun ve h => OpT.load (H rfl) (D1 h rfl) ag69 rfl) rfl ?_
       refine dr [29, 33] hd12 (fun ve h => OpT.conv (H rfl) us69 Tryz.underlying2 (D1 h rfl) (nw (by omega))) rfl ?_
       refine dr [0, 29] hd12 (fun ve h => OpT.move (A := .cel _ _) (.inl rfl) rfl (ok' rfl) (D1 h rfl) rfl) rfl ?_
       refine dr [29, 35] hd12 (fun ve h => OpT.c1 (ms := [.flat]) (c_spec_l01Width _) (H rfl) (Af (D1 h rfl) rfl rfl <| An) rfl rfl) rfl ?_
       refine dr [29, 36] hd12 (fun ve h => OpT.sub (H rfl) (I rfl) (D1 h rfl) (nw (by omega))) rfl ?_
       refine dr [29, 34, 37] hd12 (fun ve h => OpT.c1 (ms := [.flat, .flat, .flat]) (c_spec_l00In _ _ _) (H rfl) (Af (D1 h rfl) rfl rfl <| Af (I rfl) rfl rfl <| Af (D1 h rfl) rfl rfl <| An) rfl rfl) rfl ?_
       refine d1 [29, 38] (fun ve h => OpT.pickT (A := .cel _ _) (H rfl) (D1 h rfl) hd12 (D1 h rfl) rfl) rfl ?_
       refine d1 [39] (fun ve h => OpT.move (A := .cel _ _) (.inr rfl) rfl (ok' rfl) (D1 h rfl) rfl) rfl ?_
       refine dn ⟨by kernel_rfl, by kernel_rfl, ?_⟩
       refine AX.pr (kc 2 rfl <| Kn) ?_
       refine AX.go ?_
       refine AW.ret ?_
       exact rt1 rfl (.inl rfl) (by first | exact field_name (by assumption) | exact field_last (f := f) (by assumption) (by assumption) (by unfold mostF; (repeat' split) <;> first | rfl | omega) | exact field_most (f := f) (by assumption) (by unfold mostF; (repeat' split) <;> first | rfl | omega))
      ·
       have hd12' := lF hd12
       refine dhm [0, 1, 3, 7, 15, 31, 63, 127, 255, 511, 1023, 63, 4095, 8191, 16383, 32767, 65535, 131071, 262143, 524287, 32767, 1081343, 3178495, 8388607, 16777215, 33554431] [] fomo ?_
       refine d1 [0] (fun ve h => OpT.move (A := .cel _ _) (.inl rfl) rfl (ok' rfl) (D1 h rfl) rfl) rfl ?_
       refine d1 [15] (fun ve h => OpT.nilCheck (H rfl) (D1 h rfl)) rfl ?_
       refine d1 [16] (fun ve h => OpT.fieldAddr (H rfl) (D1 h rfl) fd80_0 sz9 (by decide) sb80_0) rfl ?_
       refine d1 [17] (fun ve h => OpT.load (H rfl) (D1 h rfl) ag9 rfl) rfl ?_
       refine d1 [18] (fun ve h => OpT.c1 (ms := [.flat]) (c_spec_l01Name _) (H rfl) (Af (D1 h rfl) rfl rfl <| An) rfl rfl) rfl ?_
       refine d1 [19] (fun ve h => OpT.move (A := .cel _ _) (.inl rfl) rfl (ok' rfl) (D1 h rfl) rfl) rfl ?_
       refine dr [0, 20] hd11 (fun ve h => OpT.move (A := .cel _ _) (.inl rfl) rfl (ok' rfl) (D1 h rfl) rfl) rfl ?_
       refine dr [20, 21] hd11 (fun ve h => OpT.nilCheck (H rfl) (D1 h rfl)) rfl ?_
       refine dr [20, 22] hd11 (fun ve h => OpT.fieldAddr (H rfl) (D1 h rfl) fd80_3 sz69 (by decide) sb80_3) rfl ?_
       refine dr [20, 23] hd11 (fun ve h => OpT.load (H rfl) (D1 h rfl) ag69 rfl) rfl ?_
       refine dr [20, 24] hd11 (fun ve h => OpT.conv (H rfl) us69 Tryz.underlying2 (D1 h rfl) (nw (by omega))) rfl ?_
       refine dr [3, 20] hd11 (fun ve h => OpT.move (A := .cel _ _) (.inl rfl) rfl (ok' rfl) (D1 h rfl) rfl) rfl ?_
       refine dr [20, 25, 26] hd11 (fun ve h => OpT.c1 (ms := [.flat, .flat, .flat]) (c_spec_l00In _ _ _) (H rfl) (Af (D1 h rfl) rfl rfl <| Af (I rfl) rfl rfl <| Af (D1 h rfl) rfl rfl <| An) rfl rfl) rfl ?_
       refine d1 [20, 27] (fun ve h => OpT.pickT (A := .cel _ _) (H rfl) (D1 h rfl) hd11 (D1 h rfl) rfl) rfl ?_
       refine d1 [28] (fun ve h => OpT.move (A := .cel _ _) (.inl rfl) rfl (ok' rfl) (D1 h rfl) rfl) rfl ?_
       refine dp hd12 rfl ?_
       refine dp hd12 rfl ?_
       refine dp hd12 rfl ?_
       refine dp hd12 rfl ?_
       refine dp hd12 rfl ?_
       refine dp hd12 rfl ?_
       refine dp hd12 rfl ?_
       refine dp hd12 rfl ?_
       refine dp hd12 rfl ?_
       refine d1 [29] (fun ve h => OpT.pickF (A := .cel _ _) (H rfl) (D1 h rfl) hd12 Opd.bool rfl) rfl ?_
       refine d1 [39] (fun ve h => OpT.move (A := .cel _ _) (.inr rfl) rfl (ok' rfl) (D1 h rfl) rfl) rfl ?_
       refine dn ⟨by kernel_rfl, by kernel_rfl, ?_⟩
       refine AX.pr (kc 2 rfl <| Kn) ?_
       refine AX.go ?_
       refine AW.ret ?_
       exact rt1 rfl (.inl rfl) (by first | exact field_name (by assumption) | exact field_last (f := f) (by assumption) (by assumption) (by unfold mostF; (repeat' split) <;> first | rfl | omega) | exact field_most (f := f) (by assumption) (by unfold mostF; (repeat' split) <;> first | rfl | omega))
     ·
      have hd11' := lF hd11
      refine dhm [0, 1, 3, 7, 15, 31, 63, 127, 255, 511, 1023, 63, 4095, 8191, 16383, 32767, 65535, 131071, 262143, 524287, 32767, 1081343, 3178495, 8388607, 16777215, 33554431] [] fomo ?_
      refine d1 [0] (fun ve h => OpT.move (A := .cel _ _) (.inl rfl) rfl (ok' rfl) (D1 h rfl) rfl) rfl ?_
      refine d1 [15] (fun ve h => OpT.nilCheck (H rfl) (D1 h rfl)) rfl ?_
      refine d1 [16] (fun ve h => OpT.fieldAddr (H rfl) (D1 h rfl) fd80_0 sz9 (by decide) sb80_0) rfl ?_
      refine d1 [17] (fun ve h => OpT.load (H rfl) (D1 h rfl) ag9 rfl) rfl ?_
      refine d1 [18] (fun ve h => OpT.c1 (ms := [.flat]) (c_spec_l01Name _) (H rfl) (Af (D1 h rfl) rfl rfl <| An) rfl rfl) rfl ?_
      refine d1 [19] (fun ve h => OpT.move (A := .cel _ _) (.inl rfl) rfl (ok' rfl) (D1 h rfl) rfl) rfl ?_
      refine dp hd11 rfl ?_
      refine dp hd11 rfl ?_
      refine dp hd11 rfl ?_
      refine dp hd11 rfl ?_
      refine dp hd11 rfl ?_
      refine dp hd11 rfl ?_
      refine dp hd11 rfl ?_
      refine d1 [20] (fun ve h => OpT.pickF (A := .cel _ _) (H rfl) (D1 h rfl) hd11 Opd.bool rfl) rfl ?_
      refine d1 [28] (fun ve h => OpT.move (A := .cel _ _) (.inl rfl) rfl (ok' rfl) (D1 h rfl) rfl) rfl ?_
      refine dp rfl rfl ?_
      refine dp rfl rfl ?_
      refine dp rfl rfl ?_
      refine dp rfl rfl ?_
      refine dp rfl rfl ?_
      refine dp rfl rfl ?_
      refine dp rfl rfl ?_
      refine dp rfl rfl ?_
      refine dp rfl rfl ?_
      refine d1 [29] (fun ve h => OpT.pickF (A := .cel _ _) (H rfl) (D1 h rfl) rfl Opd.bool rfl) rfl ?_
      refine d1 [39] (fun ve h => OpT.move (A := .cel _ _) (.inr rfl) rfl (ok' rfl) (D1 h rfl) rfl) rfl ?_
      refine dn ⟨by kernel_rfl, by kernel_rfl, ?_⟩
      refine AX.pr (kc 2 rfl <| Kn) ?_
      refine AX.go ?_
      refine AW.ret ?_
      exact rt1 rfl (.inl rfl) (by first | exact field_name (by assumption) | exact field_last (f := f) (by assumption) (by assumption) (by unfold mostF; (repeat' split) <;> first | rfl | omega) | exact field_most (f := f) (by assumption) (by unfold mostF; (repeat' split) <;> first | rfl | omega))
    ·
     obtain ⟨hc6, hc6'⟩ := pF hc6
     refine AW.skip ?_
     refine AX.normal_block ?_
     refine AX.pr (kc3 3 2 0 rfl <| Kn) ?_
     refine AX.go ?_
     refine AW.seq ?_
     rcases Bool.eq_false_or_eq_true (tt (nameOK f.1)) with hd13 | hd13
     ·
      have hd13' := lT hd13
      rcases Bool.eq_false_or_eq_true (inb f.2.2.2 (1 : Int) (0 : Int)) with hd14 | hd14
      ·
       have hd14' := lT hd14
       refine dhm [0, 1, 3, 7, 15, 31, 63, 127, 255, 511, 1023, 63, 4095, 8191, 16383, 32767, 65535, 131071, 262143, 524287, 32767, 1081343, 3178495, 8388607, 16777215, 33554431] [] fomo ?_
       refine d1 [0] (fun ve h => OpT.move (A := .cel _ _) (.inl rfl) rfl (ok' rfl) (D1 h rfl) rfl) rfl ?_
       refine d1 [15] (fun ve h => OpT.nilCheck (H rfl) (D1 h rfl)) rfl ?_
       refine d1 [16] (fun ve h => OpT.fieldAddr (H rfl) (D1 h rfl) fd80_0 sz9 (by decide) sb80_0) rfl ?_
       refine d1 [17] (fun ve h => OpT.load (H rfl) (D1 h rfl) ag9 rfl) rfl ?_
       refine d1 [18] (fun ve h => OpT.c1 (ms := [.flat]) (c_spec_l01Name _) (H rfl) (Af (D1 h rfl) rfl rfl <| An) rfl rfl) rfl ?_
       refine d1 [19] (fun ve h => OpT.move (A := .cel _ _) (.inl rfl) rfl (ok' rfl) (D1 h rfl) rfl) rfl ?_
       refine dr [0, 20] hd13 (fun ve h => OpT.move (A := .cel _ _) (.inl rfl) rfl (ok' rfl) (D1 h rfl) rfl) rfl ?_
       refine dr [20, 21] hd13 (fun ve h => OpT.nilCheck (H rfl) (D1 h rfl)) rfl ?_
       refine dr [20, 22] hd13 (fun ve h => OpT.fieldAddr (H rfl) (D1 h rfl) fd80_3 sz69 (by decide) sb80_3) rfl ?_
       refine dr [20, 23] hd13 (fun ve h => OpT.load (H rfl) (D1 h rfl) ag69 rfl) rfl ?_
       refine dr [20, 24] hd13 (fun ve h => OpT.conv (H rfl) us69 Tryz.underlying2 (D1 h rfl) (nw (by omega))) rfl ?_
       refine dr [3, 20] hd13 (fun ve h => OpT.move (A := .cel _ _) (.inl rfl) rfl (ok' rfl) (D1 h rfl) rfl) rfl ?_
       refine dr [20, 25, 26] hd13 (fun ve h => OpT.c1 (ms := [.flat, .flat, .flat]) (c_spec_l00In _ _ _) (H rfl) (Af (D1 h rfl) rfl rfl <| Af (I rfl) rfl rfl <| Af (D1 h rfl) rfl rfl <| An) rfl rfl) rfl ?_
       refine d1 [20, 27] (fun ve h => OpT.pickT (A := .cel _ _) (H rfl) (D1 h rfl) hd13 (D1 h rfl) rfl) rfl ?_
       refine d1 [28] (fun ve h => OpT.move (A := .cel _ _) (.inl rfl) rfl (ok' rfl) (D1 h rfl) rfl) rfl ?_
       refine dr [0, 29] hd14 (fun ve h => OpT.move (A := .cel _ _) (.inl rfl) rfl (ok' rfl) (D1 h rfl) rfl) rfl ?_
       refine dr [29, 30] hd14 (fun ve h => OpT.nilCheck (H rfl) (D1 h rfl)) rfl ?_
       refine dr [29, 31] hd14 (fun ve h => OpT.fieldAddr (H rfl) (D1 h rfl) fd80_2 sz69 (by decide) sb80_2) rfl ?_
       refine dr [29, 32] hd14 (fun ve h => OpT.load (H rfl) (D1 h rfl) ag69 rfl) rfl ?_
       refine dr [29, 33] hd14 (fun ve h => OpT.conv (H rfl) us69 Tryz.underlying2 (D1 h rfl) (nw (by omega))) rfl ?_
       refine dr [0, 29] hd14 (fun ve h => OpT.move (A := .cel _ _) (.inl rfl) rfl (ok' rfl) (D1 h rfl) rfl) rfl ?_
       refine dr [29, 35] hd14 (fun ve h => OpT.c1 (ms := [.flat]) (c_spec_l01Width _) (H rfl) (Af (D1 h rfl) rfl rfl <| An) rfl rfl) rfl ?_
       refine dr [29, 36] hd14 (fun ve h => OpT.sub (H rfl) (I rfl) (D1 h rfl) (nw (by omega))) rfl ?_
       refine dr [29, 34, 37] hd14 (fun ve h => OpT.c1 (ms := [.flat, .flat, .flat]) (c_spec_l00In _ _ _) (H rfl) (Af (D1 h rfl) rfl rfl <| Af (I rfl) rfl rfl <| Af (D1 h rfl) rfl rfl <| An) rfl rfl) rfl ?_
       refine d1 [29, 38] (fun ve h => OpT.pickT (A := .cel _ _) (H rfl) (D1 h rfl) hd14 (D1 h rfl) rfl) rfl ?_
       refine d1 [39] (fun ve h => OpT.move (A := .cel _ _) (.inr rfl) rfl (ok' rfl) (D1 h rfl) rfl) rfl ?_
       refine dn ⟨by kernel_rfl, by kernel_rfl, ?_⟩
       refine AX.pr (kc 2 rfl <| Kn) ?_
       refine AX.go ?_
       refine AW.ret ?_
       exact rt1 rfl (.inl rfl) (by first | exact field_name (by assumption) | exact field_last (f := f) (by assumption) (by assumption) (by unfold mostF; (repeat' split) <;> first | rfl | omega) | exact field_most (f := f) (by assumption) (by unfold mostF; (repeat' split) <;> first | rfl | omega))
      ·
       have hd14' := lF hd14
       refine dhm [0, 1, 3, 7, 15, 31, 63, 127, 255, 511, 1023, 63, 4095, 8191, 16383, 32767, 65535, 131071, 262143, 524287, 32767, 1081343, 3178495, 8388607, 16777215, 33554431] [] fomo ?_
       refine d1 [0] (fun ve h => OpT.move (A := .cel _ _) (.inl rfl) rfl (ok' rfl) (D1 h rfl) rfl) rfl ?_
       refine d1 [15] (fun ve h => OpT.nilCheck (H rfl) (D1 h rfl)) rfl ?_
       refine d1 [16] (fun ve h => OpT.fieldAddr (H rfl) (D1 h rfl) fd80_0 sz9 (by decide) sb80_0) rfl ?_
       refine d1 [17] (fun ve h => OpT.load (H rfl) (D1 h rfl) ag9 rfl) rfl ?_
       refine d1 [18] (fun ve h => OpT.c1 (ms := [.flat]) (c_spec_l01Name _) (H rfl) (Af (D1 h rfl) rfl rfl <| An) rfl rfl) rfl ?_
       refine d1 [19] (fun ve h => OpT.move (A := .cel _ _) (.inl rfl) rfl (ok' rfl) (D1 h rfl) rfl) rfl ?_
       refine dr [0, 20] hd13 (fun ve h => OpT.move (A := .cel _ _) (.inl rfl) rfl (ok' rfl) (D1 h rfl) rfl) rfl ?_
       refine dr [20, 21] hd13 (fun ve h => OpT.nilCheck (H rfl) (D1 h rfl)) rfl ?_
       refine dr [20, 22] hd13 (fun ve h => OpT.fieldAddr (H rfl) (D1 h rfl) fd80_3 sz69 (by decide) sb80_3) rfl ?_
       refine dr [20, 23] hd13 (fun ve h => OpT.load (H rfl) (D1 h rfl) ag69 rfl) rfl ?_
       refine dr [20, 24] hd13 (fun ve h => OpT.conv (H rfl) us69 Tryz.underlying2 (D1 h rfl) (nw (by omega))) rfl ?_
       refine dr [3, 20] hd13 (fun ve h => OpT.move (A := .cel _ _) (.inl rfl) rfl (ok' rfl) (D1 h rfl) rfl) rfl ?_
       refine dr [20, 25, 26] hd13 (fun ve h => OpT.c1 (ms := [.flat, .flat, .flat]) (c_spec_l00In _ _ _) (H rfl) (Af (D1 h rfl) rfl rfl <| Af (I rfl) rfl rfl <| Af (D1 h rfl) rfl rfl <| An) rfl rfl) rfl ?_
       refine d1 [20, 27] (fun ve h => OpT.pickT (A := .cel _ _) (H rfl) (D1 h rfl) hd13 (D1 h rfl) rfl) rfl ?_
       refine d1 [28] (fun ve h => OpT.move (A := .cel _ _) (.inl rfl) rfl (ok' rfl) (D1 h rfl) rfl) rfl ?_
       refine dp hd14 rfl ?_
       refine dp hd14 rfl ?_
       refine dp hd14 rfl ?_
       refine dp hd14 rfl ?_
       refine dp hd14 rfl ?_
       refine dp hd14 rfl ?_
       refine dp hd14 rfl ?_
       refine dp hd14 rfl ?_
       refine dp hd14 rfl ?_
       refine d1 [29] (fun ve h => OpT.pickF (A := .cel _ _) (H rfl) (D1 h rfl) hd14 Opd.bool rfl) rfl ?_
       refine d1 [39] (fun ve h => OpT.move (A := .cel _ _) (.inr rfl) rfl (ok' rfl) (D1 h rfl) rfl) rfl ?_
       refine dn ⟨by kernel_rfl, by kernel_rfl, ?_⟩
       refine AX.pr (kc 2 rfl <| Kn) ?_
       refine AX.go ?_
       refine AW.ret ?_
       exact rt1 rfl (.inl rfl) (by first | exact field_name (by assumption) | exact field_last (f := f) (by assumption) (by assumption) (by unfold mostF; (repeat' split) <;> first | rfl | omega) | exact field_most (f := f) (by assumption) (by unfold mostF; (repeat' split) <;> first | rfl | omega))
     ·
      have hd13' := lF hd13
      refine dhm [0, 1, 3, 7, 15, 31, 63, 127, 255, 511, 1023, 63, 4095, 8191, 16383, 32767, 65535, 131071, 262143, 524287, 32767, 1081343, 3178495, 8388607, 16777215, 33554431] [] fomo ?_
      refine d1 [0] (fun ve h => OpT.move (A := .cel _ _) (.inl rfl) rfl (ok' rfl) (D1 h rfl) rfl) rfl ?_
      refine d1 [15] (fun ve h => OpT.nilCheck (H rfl) (D1 h rfl)) rfl ?_
      refine d1 [16] (fun ve h => OpT.fieldAddr (H rfl) (D1 h rfl) fd80_0 sz9 (by decide) sb80_0) rfl ?_
      refine d1 [17] (fun ve h => OpT.load (H rfl) (D1 h rfl) ag9 rfl) rfl ?_
      refine d1 [18] (fun ve h => OpT.c1 (ms := [.flat]) (c_spec_l01Name _) (H rfl) (Af (D1 h rfl) rfl rfl <| An) rfl rfl) rfl ?_
      refine d1 [19] (fun ve h => OpT.move (A := .cel _ _) (.inl rfl) rfl (ok' rfl) (D1 h rfl) rfl) rfl ?_
      refine dp hd13 rfl ?_
      refine dp hd13 rfl ?_
      refine dp hd13 rfl ?_
      refine dp hd13 rfl ?_
      refine dp hd13 rfl ?_
      refine dp hd13 rfl ?_
      refine dp hd13 rfl ?_
      refine d1 [20] (fun ve h => OpT.pickF (A := .cel _ _) (H rfl) (D1 h rfl) hd13 Opd.bool rfl) rfl ?_
      refine d1 [28] (fun ve h => OpT.move (A := .cel _ _) (.inl rfl) rfl (ok' rfl) (D1 h rfl) rfl) rfl ?_
      refine dp rfl rfl ?_
      refine dp rfl rfl ?_
      refine dp rfl rfl ?_
      refine dp rfl rfl ?_
      refine dp rfl rfl ?_
      refine dp rfl rfl ?_
      refine dp rfl rfl ?_
      refine dp rfl rfl ?_
      refine dp rfl rfl ?_
      refine d1 [29] (fun ve h => OpT.pickF (A := .cel _ _) (H rfl) (D1 h rfl) rfl Opd.bool rfl) rfl ?_
      refine d1 [39] (fun ve h => OpT.move (A := .cel _ _) (.inr rfl) rfl (ok' rfl) (D1 h rfl) rfl) rfl ?_
      refine dn ⟨by kernel_rfl, by kernel_rfl, ?_⟩
      refine AX.pr (kc 2 rfl <| Kn) ?_
      refine AX.go ?_
      refine AW.ret ?_
      exact rt1 rfl (.inl rfl) (by first | exact field_name (by assumption) | exact field_last (f := f) (by assumption) (by assumption) (by unfold mostF; (repeat' split) <;> first | rfl | omega) | exact field_most (f := f) (by assumption) (by unfold mostF; (repeat' split) <;> first | rfl | omega))

/-- impl.isField -/
theorem c_impl_isField (f : DField) : AC Tryz.prog 82 [.agg kField f] [.cel Kd.bool (tt (fieldOK f))] [] := by
 refine acI (N := 45) Tryz.func82 (Nat.le_of_ble_eq_true rfl) rfl fun w0 hd s0 ar => ?_
 refine AW.to (ka 0 rfl <| Kn) ?_
 refine AW.fact (fun a w hr => okField (R_okA (t := 0) rfl hr)) (fun hf => ?_)
 have hwi := width_in hf
 refine sr ?_
 refine st (OpT.frz (OpT.boxA (E := 80) (H rfl) (T1 rfl))) rfl ?_
 refine st (asB rfl) rfl ?_
 refine ng ?_
 refine AW.seq ?_
 refine sr ?_
 refine st (OpT.fieldAddr (H rfl) (T1 rfl) fd80_0 sz9 (by decide) sb80_0) rfl ?_
 refine st (OpT.load (H rfl) (T1 rfl) ag9 rfl) rfl ?_
 refine st (OpT.c1 (ms := [.flat]) (c_impl_isName _) (H rfl) (Af (T1 rfl) rfl rfl <| An) rfl rfl) rfl ?_
 refine st (OpT.not (H rfl) (T1 rfl)) rfl ?_
 refine st (mvT rfl) rfl ?_
 apply AWl.or (d := 12) (t := 8) rfl
 ·
  intro hb1 Q1 k1
  have hb1' := lF hb1
  refine rs hb1 (OpT.fieldAddr (H rfl) (T1 rfl) fd80_1 sz68 (by decide) sb80_1) rfl ?_
  refine rs hb1 (OpT.load (H rfl) (T1 rfl) ag68 rfl) rfl ?_
  refine rs hb1 (OpT.lss (H rfl) (T1 rfl) (I rfl)) rfl ?_
  refine st (OpT.pickF (A := .cel _ _) (H rfl) (T1 rfl) hb1 (T1 rfl) rfl) rfl ?_
  exact AWl.to (junk 3 rfl) k1
 ·
  intro hb1 Q1 k1
  refine ps hb1 rfl ?_
  refine ps hb1 rfl ?_
  refine ps hb1 rfl ?_
  refine st (OpT.pickT (A := .cel _ _) (H rfl) (T1 rfl) hb1 Opd.bool rfl) rfl ?_
  exact k1
 refine st (mvT rfl) rfl ?_
 apply AWl.or (d := 17) (t := 13) rfl
 ·
  intro hb2 Q1 k1
  have hb2' := lF hb2
  refine rs hb2 (OpT.fieldAddr (H rfl) (T1 rfl) fd80_1 sz68 (by decide) sb80_1) rfl ?_
  refine rs hb2 (OpT.load (H rfl) (T1 rfl) ag68 rfl) rfl ?_
  refine rs hb2 (OpT.gtr (H rfl) (T1 rfl) (I rfl)) rfl ?_
  refine st (OpT.pickF (A := .cel _ _) (H rfl) (T1 rfl) hb2 (T1 rfl) rfl) rfl ?_
  exact AWl.to (junk 3 rfl) k1
 ·
  intro hb2 Q1 k1
  refine ps hb2 rfl ?_
  refine ps hb2 rfl ?_
  refine ps hb2 rfl ?_
  refine st (OpT.pickT (A := .cel _ _) (H rfl) (T1 rfl) hb2 Opd.bool rfl) rfl ?_
  exact k1
 refine st (mvT rfl) rfl ?_
 apply AWl.or (d := 22) (t := 18) rfl
 ·
  intro hb3 Q1 k1
  have hb3' := lF hb3
  refine rs hb3 (OpT.fieldAddr (H rfl) (T1 rfl) fd80_2 sz69 (by decide) sb80_2) rfl ?_
  refine rs hb3 (OpT.load (H rfl) (T1 rfl) ag69 rfl) rfl ?_
  refine rs hb3 (OpT.lss (H rfl) (T1 rfl) (I rfl)) rfl ?_
  refine st (OpT.pickF (A := .cel _ _) (H rfl) (T1 rfl) hb3 (T1 rfl) rfl) rfl ?_
  exact AWl.to (junk 3 rfl) k1
 ·
  intro hb3 Q1 k1
  refine ps hb3 rfl ?_
  refine ps hb3 rfl ?_
  refine ps hb3 rfl ?_
  refine st (OpT.pickT (A := .cel _ _) (H rfl) (T1 rfl) hb3 Opd.bool rfl) rfl ?_
  exact k1
 refine st (mvT rfl) rfl ?_
 apply AWl.or (d := 27) (t := 23) rfl
 ·
  intro hb4 Q1 k1
  have hb4' := lF hb4
  refine rs hb4 (OpT.fieldAddr (H rfl) (T1 rfl) fd80_3 sz69 (by decide) sb80_3) rfl ?_
  refine rs hb4 (OpT.load (H rfl) (T1 rfl) ag69 rfl) rfl ?_
  refine rs hb4 (OpT.lss (H rfl) (T1 rfl) (I rfl)) rfl ?_
  refine st (OpT.pickF (A := .cel _ _) (H rfl) (T1 rfl) hb4 (T1 rfl) rfl) rfl ?_
  exact AWl.to (junk 3 rfl) k1
 ·
  intro hb4 Q1 k1
  refine ps hb4 rfl ?_
  refine ps hb4 rfl ?_
  refine ps hb4 rfl ?_
  refine st (OpT.pickT (A := .cel _ _) (H rfl) (T1 rfl) hb4 Opd.bool rfl) rfl ?_
  exact k1
 refine AWl.to (kc3 27 2 1 rfl <| Kn) ?_
 refine ng ?_
 refine cd rfl (fun hc1 => ?_) fun hc1 => ?_
 ·
  obtain ⟨hc1, hc1'⟩ := pT hc1
  refine sr ?_
  refine st (asB rfl) rfl ?_
  refine ng ?_
  refine AW.ret ?_
  refine rT ?_
  exact rt1 rfl (.inl rfl) (by first | exact fieldI_no hc1 | exact fieldI_last hy (by assumption) | exact fieldI_most hy (by assumption))
 ·
  obtain ⟨hc1, hc1'⟩ := pF hc1
  have hy := fieldI_yes hc1
  refine AW.skip ?_
  refine AX.go ?_
  refine sr ?_
  refine st (OpT.buildA (H rfl) ar163 sz69 zr163 zk163 (Built.cel (I rfl) rfl rfl (sub_arr (by decide) (0 : Int)) (Built.cel (I rfl) rfl rfl (sub_arr (by decide) (0 : Int)) (Built.cel (I rfl) rfl rfl (sub_arr (by decide) (0 : Int)) (Built.cel (I rfl) rfl rfl (sub_arr (by decide) (0 : Int)) (Built.nil _)))))) rfl ?_
  refine st (OpT.alloc (H rfl) zr163 zk163) rfl ?_
  refine sk (OpT.storeBA rfl rfl (Opd.whole (Root.self (t := 3) (by decide)) rfl) rfl sz163 (by decide) (T1 rfl)) rfl ?_
  refine AWl.to (kb 3 rfl <| kc2 2 1 rfl <| Kn) ?_
  refine ng ?_
  refine AW.seq ?_
  rcases Bool.eq_false_or_eq_true (decide (f.2.2.2 ≤ (mostL.getD (Int.toNat f.2.1) 0))) with hd1 | hd1
  ·
   have hd1' := lT hd1
   refine dhm [0, 1, 0, 4, 12, 28, 63, 127, 255, 511, 1023, 255, 2303, 8191, 16383, 32767, 65535] [(33, 3)] fomo ?_
   refine d1 [1] (fun ve h => OpT.fieldAddr (H rfl) (D1 h rfl) fd80_3 sz69 (by decide) sb80_3) rfl ?_
   refine d1 [29] (fun ve h => OpT.load (H rfl) (D1 h rfl) ag69 rfl) rfl ?_
   refine d1 [1] (fun ve h => OpT.fieldAddr (H rfl) (D1 h rfl) fd80_1 sz68 (by decide) sb80_1) rfl ?_
   refine d1 [31] (fun ve h => OpT.load (H rfl) (D1 h rfl) ag68 rfl) rfl ?_
   refine d1 [3, 32] (fun ve h => OpT.indexAddrB (H rfl) (Root.self (t := 3) (by decide)) ((h _ (List.elem_iff.1 rfl)).trans rfl) (by decide) (D1 h rfl) ar163 sz69 (by omega) (sub_arr (by omega) (0 : Int))) rfl ?_
   refine d1 [3, 33] (fun ve h => OpT.loadP (H rfl) (D1 h rfl) (.inl ⟨_, ((h _ (List.elem_iff.1 rfl)).trans rfl), rfl⟩) ag69 rfl) rfl ?_
   refine d1 [30, 34] (fun ve h => OpT.leq (H rfl) (D1 h rfl) (D1 h rfl)) rfl ?_
   refine d1 [35] (fun ve h => OpT.move (A := .cel _ _) (.inl rfl) rfl (ok' rfl) (D1 h rfl) rfl) rfl ?_
   refine dr [1, 36] hd1 (fun ve h => OpT.fieldAddr (H rfl) (D1 h rfl) fd80_2 sz69 (by decide) sb80_2) rfl ?_
   refine dr [36, 37] hd1 (fun ve h => OpT.load (H rfl) (D1 h rfl) ag69 rfl) rfl ?_
   refine dr [36, 38] hd1 (fun ve h => OpT.conv (H rfl) us69 Tryz.underlying2 (D1 h rfl) (nw (by omega))) rfl ?_
   refine dr [1, 36] hd1 (fun ve h => OpT.loadA (H rfl) (D1 h rfl) ag80 sz80) rfl ?_
   refine dr [36, 40] hd1 (fun ve h => OpT.c1 (ms := [.flat]) (c_impl_Field_many _) (H rfl) (Af (D1 h rfl) rfl rfl <| An) rfl rfl) rfl ?_
   refine dr [36, 39, 41] hd1 (fun ve h => OpT.add (H rfl) (D1 h rfl) (D1 h rfl) (nw (by omega))) rfl ?_
   refine dr [36, 42] hd1 (fun ve h => OpT.leq (H rfl) (D1 h rfl) (I rfl)) rfl ?_
   refine d1 [36, 43] (fun ve h => OpT.pickT (A := .cel _ _) (H rfl) (D1 h rfl) hd1 (D1 h rfl) rfl) rfl ?_
   refine d1 [44] (fun ve h => OpT.move (A := .cel _ _) (.inr rfl) rfl (ok' rfl) (D1 h rfl) rfl) rfl ?_
   refine dn ⟨by kernel_rfl, by kernel_rfl, ?_⟩
   refine AX.pr (kc 2 rfl <| Kn) ?_
   refine AX.go ?_
   refine AW.ret ?_
   exact rt1 rfl (.inl rfl) (by first | exact fieldI_no hc1 | exact fieldI_last hy (by assumption) | exact fieldI_most hy (by assumption))
  ·
   have hd1' := lF hd1
   refine dhm [0, 1, 0, 4, 12, 28, 63, 127, 255, 511, 1023, 255, 2303, 8191, 16383, 32767, 65535] [(33, 3)] fomo ?_
   refine d1 [1] (fun ve h => OpT.fieldAddr (H rfl) (D1 h rfl) fd80_3 sz69 (by decide) sb80_3) rfl ?_
   refine d1 [29] (fun ve h => OpT.load (H rfl) (D1 h rfl) ag69 rfl) rfl ?_
   refine d1 [1] (fun ve h => OpT.fieldAddr (H rfl) (D1 h rfl) fd80_1 sz68 (by decide) sb80_1) rfl ?_
   refine d1 [31] (fun ve h => OpT.load (H rfl) (D1 h rfl) ag68 rfl) rfl ?_
   refine d1 [3, 32] (fun ve h => OpT.indexAddrB (H rfl) (Root.self (t := 3) (by decide)) ((h _ (List.elem_iff.1 rfl)).trans rfl) (by decide) (D1 h rfl) ar163 sz69 (by omega) (sub_arr (by omega) (0 : Int))) rfl ?_
   refine d1 [3, 33] (fun ve h => OpT.loadP (H rfl) (D1 h rfl) (.inl ⟨_, ((h _ (List.elem_iff.1 rfl)).trans rfl), rfl⟩) ag69 rfl) rfl ?_
   refine d1 [30, 34] (fun ve h => OpT.leq (H rfl) (D1 h rfl) (D1 h rfl)) rfl ?_
   refine d1 [35] (fun ve h => OpT.move (A := .cel _ _) (.inl rfl) rfl (ok' rfl) (D1 h rfl) rfl) rfl ?_
   refine dp hd1 rfl ?_
   refine dp hd1 rfl ?_
   refine dp hd1 rfl ?_
   refine dp hd1 rfl ?_
   refine dp hd1 rfl ?_
   refine dp hd1 rfl ?_
   refine dp hd1 rfl ?_
   refine d1 [36] (fun ve h => OpT.pickF (A := .cel _ _) (H rfl) (D1 h rfl) hd1 Opd.bool rfl) rfl ?_
   refine d1 [44] (fun ve h => OpT.move (A := .cel _ _) (.inr rfl) rfl (ok' rfl) (D1 h rfl) rfl) rfl ?_
   refine dn ⟨by kernel_rfl, by kernel_rfl, ?_⟩
   refine AX.pr (kc 2 rfl <| Kn) ?_
   refine AX.go ?_
   refine AW.ret ?_
   exact rt1 rfl (.inl rfl) (by first | exact fieldI_no hc1 | exact fieldI_last hy (by assumption) | exact fieldI_most hy (by assumption))

/-- impl.isScheme$1 -/
theorem c_impl_isScheme_1 (b a : DField) : AC Tryz.prog 87 [.agg kField b, .cel (Kd.ptr kField) a] [.cel Kd.bool (eqv b.1 a.1)] [] := by
 refine acI (N := 9) Tryz.func87 (Nat.le_of_ble_eq_true rfl) rfl fun w0 hd s0 ar => ?_
 refine AW.to (ka 0 rfl <| kc 1 rfl <| Kn) ?_
 refine sr ?_
 refine st (OpT.frz (OpT.boxA (E := 80) (H rfl) (T1 rfl))) rfl ?_
 refine st (asB rfl) rfl ?_
 refine ng ?_
 refine sr ?_
 refine st (OpT.fieldAddr (H rfl) (T1 rfl) fd80_0 sz9 (by decide) sb80_0) rfl ?_
 refine st (OpT.load (H rfl) (T1 rfl) ag9 rfl) rfl ?_
 refine st (OpT.fieldAddr (H rfl) (T1 rfl) fd80_0 sz9 (by decide) sb80_0) rfl ?_
 refine st (OpT.load (H rfl) (T1 rfl) ag9 rfl) rfl ?_
 refine st (OpT.seqv (H rfl) (T1 rfl) (T1 rfl)) rfl ?_
 refine st (asT rfl) rfl ?_
 refine ng ?_
 refine AW.ret ?_
 exact rt1 rfl (.inl rfl) rfl

/-- impl.Field] -/
theorem c_slices_IndexFunc_impl_Field_impl_Field {γ : Type} {g : FuncId} {kg : Kd γ} {y : γ} {cs : List As} (q : (ByteArray × Int × Int × Int) → Bool) (hcs : CloArgs kg y cs) (hg : ∀ a, AC Tryz.prog g ([.agg kField a] ++ cs) [.cel Kd.bool (q a)] []) (x : List (ByteArray × Int × Int × Int)) : AC Tryz.prog 116 [.cel (Kd.slice kField) x, .clo g kg y] [.cel (Kd.int .i64) (idxQ q x)] [] := by
 refine acI (N := 19) Tryz.func116 (Nat.le_of_ble_eq_true rfl) rfl fun w0 hd s0 ar => ?_
 refine AW.to (kc 0 rfl <| Kc 1 (.clo _ _ _) rfl <| Kn) ?_
 refine AW.fact (fun a w hr => (ok_slice (R_ok (t := 0) rfl hr)).2) (fun hl0 => ?_)
 refine sr ?_
 refine st (asI rfl) rfl ?_
 refine ng ?_
 refine AW.seq ?_
 refine sr ?_
 refine st (mvT rfl) rfl ?_
 refine st (OpT.len (H rfl) (T1 rfl) el29) rfl ?_
 refine st (mvI rfl) rfl ?_
 refine ng ?_
 refine AW.block ?_
 refine AW.loop (fun z : Nat => z ≤ x.length ∧ ∀ i, i < z → nI q x i) (fun z : Nat => keep [(0, .cel (Kd.slice kField) x), (1, .clo g kg y), (7, .cel (Kd.int .i64) ((x.length : Nat) : Int)), (8, .cel (Kd.int .i64) (z : Int))]) (fun z : Nat => x.length - z) (0) ⟨Nat.zero_le _, all_none⟩ (Kc 0 _ (Kv rfl rfl) <| Kc 1 _ (rfl) <| Kc 7 _ (Kv rfl rfl) <| Kc 8 _ (Kv rfl rfl) <| Kn) ?_
 intro z hI
 refine sr ?_
 refine st (OpT.lss (H rfl) (T1 rfl) (T1 rfl)) rfl ?_
 refine ng ?_
 refine AW.seq ?_
 refine cd rfl (fun hc1 => ?_) fun hc1 => ?_
 ·
  replace hc1 := oT hc1
  obtain ⟨a, ha⟩ := getI (x := x) (z := z) (by omega)
  refine AW.skip ?_
  refine AX.go ?_
  refine AW.seq ?_
  refine AW.block ?_
  refine sr ?_
  refine st (mvT rfl) rfl ?_
  refine st (asT rfl) rfl ?_
  refine ng ?_
  refine sr ?_
  refine st (OpT.move (A := .clo _ _ _) (.inl rfl) rfl (ok' rfl) (T1 rfl) rfl) rfl ?_
  refine st (mvT rfl) rfl ?_
  refine st (mvT rfl) rfl ?_
  refine st (OpT.indexAddr (H rfl) (T1 rfl) (T1 rfl) el29 sz80 (by omega) (by assumption)) rfl ?_
  refine st (OpT.loadA (H rfl) (T1 rfl) ag80 sz80) rfl ?_
  refine st (OpT.vg (ms := [.flat]) (T1 rfl) hcs ((hg _)) (H rfl) (Af (T1 rfl) rfl rfl <| An) rfl rfl) rfl ?_
  refine ng ?_
  refine cd rfl (fun hc2 => ?_) fun hc2 => ?_
  ·
   replace hc2 := oT hc2
   refine sr ?_
   refine st (mvT rfl) rfl ?_
   refine st (asT rfl) rfl ?_
   refine ng ?_
   refine AW.ret ?_
   refine rK <| rT <| rT <| rK <| rT ?_
   exact rt1 rfl (.inl rfl) (by first | exact idxQ_at hI.2 ha hc2 | exact idxQ_end hI.2 (by omega))
  ·
   replace hc2 := oF hc2
   refine AW.skip ?_
   refine AX.normal_block ?_
   refine AX.go ?_
   refine AW.region ?_
   refine st (OpT.add (H rfl) (T1 rfl) (I rfl) (nw (by omega))) rfl ?_
   refine st (mvT rfl) rfl ?_
   refine nn ?_
   exact AX.again (z + 1) ⟨by omega, all_step hI.2 ((nI_iff ha).2 (by simpa using hc2))⟩ (by omega) (Kc 0 _ (Kv rfl rfl) <| Kc 1 _ (rfl) <| Kc 7 _ (Kv rfl rfl) <| Kc 8 _ (Kv rfl (by omega)) <| Kn)
 ·
  replace hc1 := oF hc1
  refine AW.exit ?_
  refine xT <| xT <| AX.exit_hit ?_
  refine AX.go ?_
  refine sr ?_
  refine st (asI rfl) rfl ?_
  refine ng ?_
  refine AW.ret ?_
  exact rt1 rfl (.inl rfl) (by first | exact idxQ_at hI.2 ha hc2 | exact idxQ_end hI.2 (by omega))

/-- impl.Field] -/
theorem c_slices_ContainsFunc_impl_Field_impl_Field {γ : Type} {g : FuncId} {kg : Kd γ} {y : γ} {cs : List As} (q : (ByteArray × Int × Int × Int) → Bool) (hcs : CloArgs kg y cs) (hg : ∀ a, AC Tryz.prog g ([.agg kField a] ++ cs) [.cel Kd.bool (q a)] []) (x : List (ByteArray × Int × Int × Int)) : AC Tryz.prog 86 [.cel (Kd.slice kField) x, .clo g kg y] [.cel Kd.bool (x.any q)] [] := by
 refine acI (N := 9) Tryz.func86 (Nat.le_of_ble_eq_true rfl) rfl fun w0 hd s0 ar => ?_
 refine AW.to (kc 0 rfl <| Kc 1 (.clo _ _ _) rfl <| Kn) ?_
 refine sr ?_
 refine st (asB rfl) rfl ?_
 refine ng ?_
 refine sr ?_
 refine st (mvT rfl) rfl ?_
 refine st (OpT.move (A := .clo _ _ _) (.inl rfl) rfl (ok' rfl) (T1 rfl) rfl) rfl ?_
 refine st (OpT.c1 (ms := [.flat, .flat]) (c_slices_IndexFunc_impl_Field_impl_Field q hcs hg x) (H rfl) (Af (T1 rfl) rfl rfl <| Af (T1 rfl) rfl rfl <| An) rfl rfl) rfl ?_
 refine st (OpT.geq (H rfl) (T1 rfl) (I rfl)) rfl ?_
 refine st (asT rfl) rfl ?_
 refine ng ?_
 refine AW.ret ?_
 exact rt1 rfl (.inl rfl) idxQ_any

/-- spec.l01Scheme -/
theorem c_spec_l01Scheme (x : List DField) : AC Tryz.prog 56 [.cel (Kd.slice kField) x] [.cel Kd.bool (tt (schemeOK x))] [] := by
 refine acI (N := 50) Tryz.func56 (Nat.le_of_ble_eq_true rfl) rfl fun w0 hd s0 ar => ?_
 refine AW.to (kc 0 rfl <| Kn) ?_
 refine AW.fact (fun a w hr => (ok_slice (R_ok (t := 0) rfl hr)).2) (fun hl0 => ?_)
 refine sr ?_
 refine st (asB rfl) rfl ?_
 refine ng ?_
 refine AW.seq ?_
 refine sr ?_
 refine st (mvT rfl) rfl ?_
 refine st (OpT.len (H rfl) (T1 rfl) el29) rfl ?_
 refine st (OpT.gtr (H rfl) (T1 rfl) (I rfl)) rfl ?_
 refine ng ?_
 refine cd rfl (fun hc1 => ?_) fun hc1 => ?_
 ·
  obtain ⟨hc1, hc1'⟩ := pT hc1
  refine sr ?_
  refine st (asB rfl) rfl ?_
  refine ng ?_
  refine AW.ret ?_
  refine rT ?_
  exact rt1 rfl (.inl rfl) (by first | exact sch_len (by omega) | exact sch_no (z := z) (by omega) (fun h => hnf ((schI_iff hf).1 h).1) | exact sch_no (z := z) (by omega) (fun h => hnm ((schI_iff hf).1 h).2.1) | exact sch_no (z := z) (by omega) (fun h => Bool.false_ne_true (((nI_iff hb).1 (((schI_iff hf).1 h).2.2 y (by omega))).symm.trans hne)) | exact sch_yes (by omega) hI.2 (by omega))
 ·
  obtain ⟨hc1, hc1'⟩ := pF hc1
  refine AW.skip ?_
  refine AX.go ?_
  refine sr ?_
  refine st (OpT.buildA (H rfl) ar84 sz73 zr84 zk84 (Built.nil _)) rfl ?_
  refine st (OpT.alloc (H rfl) zr84 zk84) rfl ?_
  refine sk (OpT.storeBA rfl rfl (Opd.whole (Root.self (t := 3) (by decide)) rfl) rfl sz84 (by decide) (T1 rfl)) rfl ?_
  refine ng ?_
  refine AW.seq ?_
  refine sr ?_
  refine st (asI rfl) rfl ?_
  refine ng ?_
  refine AW.block ?_
  refine AW.loop (fun z : Nat => z ≤ x.length ∧ ∀ i, i < z → schI x i) (fun z : Nat => keep [(0, .cel (Kd.slice kField) x), (3, .box 84 kMask (jp (x.take z))), (4, .cel (Kd.int .i64) (z : Int))]) (fun z : Nat => x.length - z) (0) ⟨Nat.zero_le _, all_none⟩ (Kc 0 _ (Kv rfl rfl) <| Kc 3 _ (Kb rfl rfl) <| Kc 4 _ (Kv rfl rfl) <| Kn) ?_
  intro z hI
  refine AW.seq ?_
  refine sr ?_
  refine st (mvT rfl) rfl ?_
  refine st (mvT rfl) rfl ?_
  refine st (OpT.len (H rfl) (T1 rfl) el29) rfl ?_
  refine st (OpT.lss (H rfl) (T1 rfl) (T1 rfl)) rfl ?_
  refine ng ?_
  refine cd rfl (fun hc2 => ?_) fun hc2 => ?_
  ·
   obtain ⟨hc2, hc2'⟩ := pT hc2
   obtain ⟨f, hf⟩ := getI (x := x) (z := z) (by omega)
   refine AW.skip ?_
   refine AX.go ?_
   refine AW.seq ?_
   refine AW.block ?_
   refine AW.seq ?_
   refine sr ?_
   refine st (mvT rfl) rfl ?_
   refine st (mvT rfl) rfl ?_
   refine st (OpT.indexAddr (H rfl) (T1 rfl) (T1 rfl) el29 sz80 (by omega) (by assumption)) rfl ?_
   refine st (OpT.c1 (ms := [.flat]) (c_spec_l01Field _) (H rfl) (Af (T1 rfl) rfl rfl <| An) rfl rfl) rfl ?_
   refine st (OpT.not (H rfl) (T1 rfl)) rfl ?_
   refine ng ?_
   refine cd rfl (fun hc3 => ?_) fun hc3 => ?_
   ·
    obtain ⟨hc3, hc3'⟩ := pT hc3
    have hnf : ¬ fieldOK f := tt_false.1 (by simpa using hc3)
    refine sr ?_
    refine st (asB rfl) rfl ?_
    refine ng ?_
    refine AW.ret ?_
    refine rT <| rK <| rT <| rT <| rK <| rT ?_
    exact rt1 rfl (.inl rfl) (by first | exact sch_len (by omega) | exact sch_no (z := z) (by omega) (fun h => hnf ((schI_iff hf).1 h).1) | exact sch_no (z := z) (by omega) (fun h => hnm ((schI_iff hf).1 h).2.1) | exact sch_no (z := z) (by omega) (fun h => Bool.false_ne_true (((nI_iff hb).1 (((schI_iff hf).1 h).2.2 y (by omega))).symm.trans hne)) | exact sch_yes (by omega) hI.2 (by omega))
   ·
    obtain ⟨hc3, hc3'⟩ := pF hc3
    have hfo : fieldOK f := tt_iff.1 (by simpa using hc3)
    refine AW.skip ?_
    refine AX.go ?_
    refine sr ?_
    refine st (mvT rfl) rfl ?_
    refine st (mvT rfl) rfl ?_
    refine st (OpT.indexAddr (H rfl) (T1 rfl) (T1 rfl) el29 sz80 (by omega) (by assumption)) rfl ?_
    refine st (OpT.c1 (ms := [.flat]) (c_spec_l01Part _ hfo) (H rfl) (Af (T1 rfl) rfl rfl <| An) rfl rfl) rfl ?_
    refine st (OpT.alloc (H rfl) zr84 zk84) rfl ?_
    refine sk (OpT.storeBA rfl rfl (Opd.whole (Root.self (t := 5) (by decide)) rfl) rfl sz84 (by decide) (T1 rfl)) rfl ?_
    refine ng ?_
    refine AW.seq ?_
    refine sr ?_
    refine st (OpT.loadB (H rfl) (Root.self (t := 3) (by decide)) rfl ag84 sz84) rfl ?_
    refine st (OpT.loadB (H rfl) (Root.self (t := 5) (by decide)) rfl ag84 sz84) rfl ?_
    refine st (OpT.c1 (ms := [.flat, .flat]) (c_spec_l01Meet _ _) (H rfl) (Af (T1 rfl) rfl rfl <| Af (T1 rfl) rfl rfl <| An) rfl rfl) rfl ?_
    refine st (OpT.buildA (H rfl) ar84 sz73 zr84 zk84 (Built.nil _)) rfl ?_
    refine st (OpT.neA (H rfl) (T1 rfl) (T1 rfl) eq84 ag84 rfl eg84) rfl ?_
    refine ng ?_
    refine cd rfl (fun hc4 => ?_) fun hc4 => ?_
    ·
     obtain ⟨hc4, hc4'⟩ := pT hc4
     have hnm : meetM (jp (x.take z)) (partF f) ≠ zM := eqv_false_iff.1 hc4
     refine sr ?_
     refine st (asB rfl) rfl ?_
     refine ng ?_
     refine AW.ret ?_
     refine rT <| rK <| rT <| rT <| rK <| rT ?_
     exact rt1 rfl (.inl rfl) (by first | exact sch_len (by omega) | exact sch_no (z := z) (by omega) (fun h => hnf ((schI_iff hf).1 h).1) | exact sch_no (z := z) (by omega) (fun h => hnm ((schI_iff hf).1 h).2.1) | exact sch_no (z := z) (by omega) (fun h => Bool.false_ne_true (((nI_iff hb).1 (((schI_iff hf).1 h).2.2 y (by omega))).symm.trans hne)) | exact sch_yes (by omega) hI.2 (by omega))
    ·
     obtain ⟨hc4, hc4'⟩ := pF hc4
     have hme : meetM (jp (x.take z)) (partF f) = zM := eqv_iff.1 hc4
     refine AW.skip ?_
     refine AX.go ?_
     refine sr ?_
     refine st (OpT.loadB (H rfl) (Root.self (t := 3) (by decide)) rfl ag84 sz84) rfl ?_
     refine st (OpT.loadB (H rfl) (Root.self (t := 5) (by decide)) rfl ag84 sz84) rfl ?_
     refine st (OpT.c1 (ms := [.flat, .flat]) (c_spec_l01Join _ _) (H rfl) (Af (T1 rfl) rfl rfl <| Af (T1 rfl) rfl rfl <| An) rfl rfl) rfl ?_
     refine sk (OpT.storeBA rfl rfl (Opd.whole (Root.self (t := 3) (by decide)) rfl) rfl sz84 (by decide) (T1 rfl)) rfl ?_
     refine ng ?_
     refine sr ?_
     refine st (asI rfl) rfl ?_
     refine ng ?_
     refine AW.block ?_
     have hI0 := hI
     refine AW.loop (fun y : Nat => y ≤ z ∧ ∀ k, k < y → nI (fun b => eqv b.1 f.1) x k) (fun y : Nat => keep [(0, .cel (Kd.slice kField) x), (3, .box 84 kMask (jp (x.take (z + 1)))), (4, .cel (Kd.int .i64) (z : Int)), (6, .cel (Kd.int .i64) (y : Int))]) (fun y : Nat => z - y) (0) ⟨Nat.zero_le _, all_none⟩ (Kc 0 _ (Kv rfl rfl) <| Kc 3 _ (Kb rfl (jp_next hf)) <| Kc 4 _ (Kv rfl rfl) <| Kc 6 _ (Kv rfl rfl) <| Kn) ?_
     intro y hI
     refine AW.seq ?_
     refine sr ?_
     refine st (mvT rfl) rfl ?_
     refine st (mvT rfl) rfl ?_
     refine st (OpT.lss (H rfl) (T1 rfl) (T1 rfl)) rfl ?_
     refine ng ?_
     refine cd rfl (fun hc5 => ?_) fun hc5 => ?_
     ·
      obtain ⟨hc5, hc5'⟩ := pT hc5
      obtain ⟨b, hb⟩ := getI (x := x) (z := y) (by omega)
      refine AW.skip ?_
      refine AX.go ?_
      refine AW.seq ?_
      refine AW.block ?_
      refine AW.seq ?_
      refine dh fomo ?_
      refine d1 [0] (fun ve h => OpT.move (A := .cel _ _) (.inl rfl) rfl (ok' rfl) (D1 h rfl) rfl) rfl ?_
      refine d1 [6] (fun ve h => OpT.move (A := .cel _ _) (.inl rfl) rfl (ok' rfl) (D1 h rfl) rfl) rfl ?_
      refine d1 [39, 40] (fun ve h => OpT.indexAddr (H rfl) (D1 h rfl) (D1 h rfl) el29 sz80 (by omega) (by assumption)) rfl ?_
      refine d1 [41] (fun ve h => OpT.fieldAddr (H rfl) (D1 h rfl) fd80_0 sz9 (by decide) sb80_0) rfl ?_
      refine d1 [42] (fun ve h => OpT.load (H rfl) (D1 h rfl) ag9 rfl) rfl ?_
      refine d1 [0] (fun ve h => OpT.move (A := .cel _ _) (.inl rfl) rfl (ok' rfl) (D1 h rfl) rfl) rfl ?_
      refine d1 [4] (fun ve h => OpT.move (A := .cel _ _) (.inl rfl) rfl (ok' rfl) (D1 h rfl) rfl) rfl ?_
      refine d1 [44, 45] (fun ve h => OpT.indexAddr (H rfl) (D1 h rfl) (D1 h rfl) el29 sz80 (by omega) (by assumption)) rfl ?_
      refine d1 [46] (fun ve h => OpT.fieldAddr (H rfl) (D1 h rfl) fd80_0 sz9 (by decide) sb80_0) rfl ?_
      refine d1 [47] (fun ve h => OpT.load (H rfl) (D1 h rfl) ag9 rfl) rfl ?_
      refine d1 [43, 48] (fun ve h => OpT.seqv (H rfl) (D1 h rfl) (D1 h rfl)) rfl ?_
      refine dn ⟨by kernel_rfl, by kernel_rfl, ?_⟩
      refine AX.go ?_
      refine cd rfl (fun hc6 => ?_) fun hc6 => ?_
      ·
       obtain ⟨hc6, hc6'⟩ := pT hc6
       have hne : eqv b.1 f.1 = true := by simpa using hc6
       refine sr ?_
       refine st (asB rfl) rfl ?_
       refine ng ?_
       refine AW.ret ?_
       refine rK <| rT <| rT <| rK <| rK <| rT <| rT <| rK <| rT ?_
       exact rt1 rfl (.inl rfl) (by first | exact sch_len (by omega) | exact sch_no (z := z) (by omega) (fun h => hnf ((schI_iff hf).1 h).1) | exact sch_no (z := z) (by omega) (fun h => hnm ((schI_iff hf).1 h).2.1) | exact sch_no (z := z) (by omega) (fun h => Bool.false_ne_true (((nI_iff hb).1 (((schI_iff hf).1 h).2.2 y (by omega))).symm.trans hne)) | exact sch_yes (by omega) hI.2 (by omega))
      ·
       obtain ⟨hc6, hc6'⟩ := pF hc6
       have hne : eqv b.1 f.1 = false := by simpa using hc6
       refine AW.skip ?_
       refine AX.normal_block ?_
       refine AX.go ?_
       refine AW.region ?_
       refine st (mvT rfl) rfl ?_
       refine st (OpT.add (H rfl) (T1 rfl) (I rfl) (nw (by omega))) rfl ?_
       refine st (asT rfl) rfl ?_
       refine nn ?_
       exact AX.again (y + 1) ⟨by omega, all_step hI.2 ((nI_iff hb).2 hne)⟩ (by omega) (Kc 0 _ (Kv rfl rfl) <| Kc 3 _ (Kb rfl rfl) <| Kc 4 _ (Kv rfl rfl) <| Kc 6 _ (Kv rfl (by omega)) <| Kn)
     ·
      obtain ⟨hc5, hc5'⟩ := pF hc5
      refine AW.exit ?_
      refine xT <| xT <| AX.exit_hit ?_
      refine AX.normal_block ?_
      refine AX.go ?_
      refine AW.region ?_
      refine st (mvT rfl) rfl ?_
      refine st (OpT.add (H rfl) (T1 rfl) (I rfl) (nw (by omega))) rfl ?_
      refine st (asT rfl) rfl ?_
      refine nn ?_
      exact AX.again (z + 1) ⟨by omega, all_step hI0.2 ((schI_iff hf).2 ⟨hfo, hme, all_end hI.2 (by omega)⟩)⟩ (by omega) (Kc 0 _ (Kv rfl rfl) <| Kc 3 _ (Kb rfl rfl) <| Kc 4 _ (Kv rfl (by omega)) <| Kn)
  ·
   obtain ⟨hc2, hc2'⟩ := pF hc2
   refine AW.exit ?_
   refine xT <| xT <| AX.exit_hit ?_
   refine AX.go ?_
   refine sr ?_
   refine st (asB rfl) rfl ?_
   refine ng ?_
   refine AW.ret ?_
   exact rt1 rfl (.inl rfl) (by first | exact sch_len (by omega) | exact sch_no (z := z) (by omega) (fun h => hnf ((schI_iff hf).1 h).1) | exact sch_no (z := z) (by omega) (fun h => hnm ((schI_iff hf).1 h).2.1) | exact sch_no (z := z) (by omega) (fun h => Bool.false_ne_true (((nI_iff hb).1 (((schI_iff hf).1 h).2.2 y (by omega))).symm.trans hne)) | exact sch_yes (by omega) hI.2 (by omega))

/-- impl.isScheme -/
theorem c_impl_isScheme (x : List DField) : AC Tryz.prog 62 [.cel (Kd.slice kField) x] [.cel Kd.bool (tt (schemeOK x))] [] := by
 refine acI (N := 38) Tryz.func62 (Nat.le_of_ble_eq_true rfl) rfl fun w0 hd s0 ar => ?_
 refine AW.to (kc 0 rfl <| Kn) ?_
 refine AW.fact (fun a w hr => (ok_slice (R_ok (t := 0) rfl hr)).2) (fun hl0 => ?_)
 refine sr ?_
 refine st (asB rfl) rfl ?_
 refine ng ?_
 refine AW.seq ?_
 refine sr ?_
 refine st (mvT rfl) rfl ?_
 refine st (OpT.len (H rfl) (T1 rfl) el29) rfl ?_
 refine st (OpT.gtr (H rfl) (T1 rfl) (I rfl)) rfl ?_
 refine ng ?_
 refine cd rfl (fun hc1 => ?_) fun hc1 => ?_
 ·
  obtain ⟨hc1, hc1'⟩ := pT hc1
  refine sr ?_
  refine st (asB rfl) rfl ?_
  refine ng ?_
  refine AW.ret ?_
  refine rT ?_
  exact rt1 rfl (.inl rfl) (by first | exact sch_len (by omega) | exact sch_no (z := z) (by omega) (fun h => hnf ((schI_iff hf).1 h).1) | exact sch_no (z := z) (by omega) (fun h => hnm ((schI_iff hf).1 h).2.1) | exact sch_no (z := z) (by omega) (fun h => hne ((schI_iff hf).1 h).2.2) | exact sch_yes (by omega) hI.2 (by omega))
 ·
  obtain ⟨hc1, hc1'⟩ := pF hc1
  refine AW.skip ?_
  refine AX.go ?_
  refine sr ?_
  refine st (OpT.buildA (H rfl) ar84 sz73 zr84 zk84 (Built.nil _)) rfl ?_
  refine st (OpT.alloc (H rfl) zr84 zk84) rfl ?_
  refine sk (OpT.storeBA rfl rfl (Opd.whole (Root.self (t := 3) (by decide)) rfl) rfl sz84 (by decide) (T1 rfl)) rfl ?_
  refine ng ?_
  refine AW.seq ?_
  refine sr ?_
  refine st (mvT rfl) rfl ?_
  refine st (OpT.len (H rfl) (T1 rfl) el29) rfl ?_
  refine st (mvI rfl) rfl ?_
  refine ng ?_
  refine AW.block ?_
  refine AW.loop (fun z : Nat => z ≤ x.length ∧ ∀ i, i < z → schI x i) (fun z : Nat => keep [(0, .cel (Kd.slice kField) x), (3, .box 84 kMask (jp (x.take z))), (10, .cel (Kd.slice kField) x), (11, .cel (Kd.int .i64) (x.length : Int)), (12, .cel (Kd.int .i64) (z : Int))]) (fun z : Nat => x.length - z) (0) ⟨Nat.zero_le _, all_none⟩ (Kc 0 _ (Kv rfl rfl) <| Kc 3 _ (Kb rfl rfl) <| Kc 10 _ (Kv rfl rfl) <| Kc 11 _ (Kv rfl rfl) <| Kc 12 _ (Kv rfl rfl) <| Kn) ?_
  intro z hI
  refine sr ?_
  refine st (OpT.lss (H rfl) (T1 rfl) (T1 rfl)) rfl ?_
  refine ng ?_
  refine AW.seq ?_
  refine cd rfl (fun hc2 => ?_) fun hc2 => ?_
  ·
   obtain ⟨hc2, hc2'⟩ := pT hc2
   obtain ⟨f, hf⟩ := getI (x := x) (z := z) (by omega)
   refine AW.skip ?_
   refine AX.go ?_
   refine AW.seq ?_
   refine AW.block ?_
   refine sr ?_
   refine st (mvT rfl) rfl ?_
   refine st (OpT.indexAddr (H rfl) (T1 rfl) (T1 rfl) el29 sz80 (by omega) (by assumption)) rfl ?_
   refine st (OpT.loadA (H rfl) (T1 rfl) ag80 sz80) rfl ?_
   refine st (OpT.alloc (H rfl) zr80 zk80) rfl ?_
   refine st (asT rfl) rfl ?_
   refine sk (OpT.storeBA rfl rfl (Opd.whole (Root.self (t := 5) (by decide)) rfl) rfl sz80 (by decide) (T1 rfl)) rfl ?_
   refine AWl.to (kb 5 rfl <| kc 4 rfl <| ka 16 rfl <| kc4 15 14 13 0 rfl <| kb 3 rfl <| kc3 10 11 12 rfl <| Kn) ?_
   refine ng ?_
   refine AW.seq ?_
   refine AW.seq ?_
   rcases Bool.eq_false_or_eq_true (!(tt (fieldOK f))) with hd1 | hd1
   ·
    have hd1' := lT hd1
    have hnf : ¬ fieldOK f := tt_false.1 (by simpa using hd1)
    refine dh fomo ?_
    refine d1 [5] (fun ve h => OpT.loadB (H rfl) (Root.self (t := 5) (by decide)) ((h _ (List.elem_iff.1 rfl)).trans rfl) ag80 sz80) rfl ?_
    refine d1 [17] (fun ve h => OpT.c1 (ms := [.flat]) (c_impl_isField _) (H rfl) (Af (D1 h rfl) rfl rfl <| An) rfl rfl) rfl ?_
    refine d1 [18] (fun ve h => OpT.not (H rfl) (D1 h rfl)) rfl ?_
    refine d1 [19] (fun ve h => OpT.move (A := .cel _ _) (.inl rfl) rfl (ok' rfl) (D1 h rfl) rfl) rfl ?_
    refine dp hd1 rfl ?_
    refine dp hd1 rfl ?_
    refine dp hd1 rfl ?_
    refine dp hd1 rfl ?_
    refine dp hd1 rfl ?_
    refine dp hd1 rfl ?_
    refine d1 [20] (fun ve h => OpT.pickT (A := .cel _ _) (H rfl) (D1 h rfl) hd1 Opd.bool rfl) rfl ?_
    refine dn ⟨by kernel_rfl, by kernel_rfl, ?_⟩
    refine AX.go ?_
    refine cd rfl (fun hc3 => ?_) fun hc3 => ?_
    ·
     obtain ⟨hc3, hc3'⟩ := pT hc3
     try have hnm : meetM (jp (x.take z)) (partF f) ≠ zM := eqv_false_iff.1 hc3
     refine sr ?_
     refine st (asB rfl) rfl ?_
     refine ng ?_
     refine AW.ret ?_
     refine rT <| rK <| rT <| rT <| rK <| rT ?_
     exact rt1 rfl (.inl rfl) (by first | exact sch_len (by omega) | exact sch_no (z := z) (by omega) (fun h => hnf ((schI_iff hf).1 h).1) | exact sch_no (z := z) (by omega) (fun h => hnm ((schI_iff hf).1 h).2.1) | exact sch_no (z := z) (by omega) (fun h => hne ((schI_iff hf).1 h).2.2) | exact sch_yes (by omega) hI.2 (by omega))
    ·
     obtain ⟨hc3, hc3'⟩ := pF hc3
     exact absurd hc3 (by decide)
   ·
    have hd1' := lF hd1
    have hfo : fieldOK f := tt_iff.1 (by simpa using hd1)
    refine dh fomo ?_
    refine d1 [5] (fun ve h => OpT.loadB (H rfl) (Root.self (t := 5) (by decide)) ((h _ (List.elem_iff.1 rfl)).trans rfl) ag80 sz80) rfl ?_
    refine d1 [17] (fun ve h => OpT.c1 (ms := [.flat]) (c_impl_isField _) (H rfl) (Af (D1 h rfl) rfl rfl <| An) rfl rfl) rfl ?_
    refine d1 [18] (fun ve h => OpT.not (H rfl) (D1 h rfl)) rfl ?_
    refine d1 [19] (fun ve h => OpT.move (A := .cel _ _) (.inl rfl) rfl (ok' rfl) (D1 h rfl) rfl) rfl ?_
    refine dr [3, 20] hd1 (fun ve h => OpT.loadB (H rfl) (Root.self (t := 3) (by decide)) ((h _ (List.elem_iff.1 rfl)).trans rfl) ag84 sz84) rfl ?_
    refine dr [5, 20] hd1 (fun ve h => OpT.loadB (H rfl) (Root.self (t := 5) (by decide)) ((h _ (List.elem_iff.1 rfl)).trans rfl) ag80 sz80) rfl ?_
    refine dr [20, 22] hd1 (fun ve h => OpT.c1 (ms := [.flat]) (c_impl_Field_part _ hfo) (H rfl) (Af (D1 h rfl) rfl rfl <| An) rfl rfl) rfl ?_
    refine dr [20, 21, 23] hd1 (fun ve h => OpT.c1 (ms := [.flat, .flat]) (c_impl_MeetMasks _ _) (H rfl) (Af (D1 h rfl) rfl rfl <| Af (D1 h rfl) rfl rfl <| An) rfl rfl) rfl ?_
    refine dr [20] hd1 (fun ve h => OpT.buildA (H rfl) ar84 sz73 zr84 zk84 (Built.nil _)) rfl ?_
    refine dr [20, 24, 25] hd1 (fun ve h => OpT.neA (H rfl) (D1 h rfl) (D1 h rfl) eq84 ag84 rfl eg84) rfl ?_
    refine d1 [20, 26] (fun ve h => OpT.pickF (A := .cel _ _) (H rfl) (D1 h rfl) hd1 (D1 h rfl) rfl) rfl ?_
    refine dn ⟨by kernel_rfl, by kernel_rfl, ?_⟩
    refine AX.go ?_
    refine cd rfl (fun hc4 => ?_) fun hc4 => ?_
    ·
     obtain ⟨hc4, hc4'⟩ := pT hc4
     try have hnm : meetM (jp (x.take z)) (partF f) ≠ zM := eqv_false_iff.1 hc4
     refine sr ?_
     refine st (asB rfl) rfl ?_
     refine ng ?_
     refine AW.ret ?_
     refine rT <| rK <| rT <| rT <| rK <| rT ?_
     exact rt1 rfl (.inl rfl) (by first | exact sch_len (by omega) | exact sch_no (z := z) (by omega) (fun h => hnf ((schI_iff hf).1 h).1) | exact sch_no (z := z) (by omega) (fun h => hnm ((schI_iff hf).1 h).2.1) | exact sch_no (z := z) (by omega) (fun h => hne ((schI_iff hf).1 h).2.2) | exact sch_yes (by omega) hI.2 (by omega))
    ·
     obtain ⟨hc4, hc4'⟩ := pF hc4
     have hme : meetM (jp (x.take z)) (partF f) = zM := eqv_iff.1 hc4
     refine AW.skip ?_
     refine AX.go ?_
     refine AW.seq ?_
     refine dh fomo ?_
     refine d1 [3] (fun ve h => OpT.loadB (H rfl) (Root.self (t := 3) (by decide)) ((h _ (List.elem_iff.1 rfl)).trans rfl) ag84 sz84) rfl ?_
     refine d1 [5] (fun ve h => OpT.loadB (H rfl) (Root.self (t := 5) (by decide)) ((h _ (List.elem_iff.1 rfl)).trans rfl) ag80 sz80) rfl ?_
     refine d1 [29] (fun ve h => OpT.c1 (ms := [.flat]) (c_impl_Field_part _ hfo) (H rfl) (Af (D1 h rfl) rfl rfl <| An) rfl rfl) rfl ?_
     refine d1 [28, 30] (fun ve h => OpT.c1 (ms := [.flat, .flat]) (c_impl_JoinMasks _ _) (H rfl) (Af (D1 h rfl) rfl rfl <| Af (D1 h rfl) rfl rfl <| An) rfl rfl) rfl ?_
     refine dm (t := 3) [3, 31] (fun ve h => OpT.storeBA rfl rfl (Opd.whole (Root.self (t := 3) (by decide)) ((h _ (List.elem_iff.1 rfl)).trans rfl)) ((h _ (List.elem_iff.1 rfl)).trans rfl) sz84 (by decide) (D1 h rfl)) rfl ?_
     refine dn ⟨by kernel_rfl, by kernel_rfl, ?_⟩
     refine AX.go ?_
     refine sr ?_
     refine st (mvT rfl) rfl ?_
     refine st (mvT rfl) rfl ?_
     refine st (OpT.cutH (H rfl) (T1 rfl) (T1 rfl) el29 sz80 (by omega)) rfl ?_
     refine AWl.freezeB (t := 5) rfl ?_
     refine AWl.to (kc3 34 33 32 rfl <| kb 3 rfl <| ka 31 rfl <| ka 30 rfl <| ka 29 rfl <| ka 28 rfl <| kc2 27 26 rfl <| ka 25 rfl <| ka 24 rfl <| ka 23 rfl <| ka 22 rfl <| ka 21 rfl <| kc3 20 19 18 rfl <| ka 17 rfl <| kc2 5 4 rfl <| ka 16 rfl <| kc4 15 14 13 0 rfl <| kb 3 rfl <| kc3 10 11 12 rfl <| Kn) ?_
     refine st (OpT.mkF1 (H rfl) (T1 rfl)) rfl ?_
     refine st (OpT.c1 (ms := [.flat, .flat]) (c_slices_ContainsFunc_impl_Field_impl_Field (fun b => eqv b.1 f.1) (CloArgs.ptr _ _) (fun b => c_impl_isScheme_1 b f) _) (H rfl) (Af (T1 rfl) rfl rfl <| Af (T1 rfl) rfl rfl <| An) rfl rfl) rfl ?_
     refine ng ?_
     refine cd rfl (fun hc5 => ?_) fun hc5 => ?_
     ·
      obtain ⟨hc5, hc5'⟩ := pT hc5
      have hne : ¬ ∀ k, k < z → nI (fun b => eqv b.1 f.1) x k := fun h => Bool.false_ne_true (((take_any (by omega)).2 h).symm.trans hc5)
      refine sr ?_
      refine st (asB rfl) rfl ?_
      refine ng ?_
      refine AW.ret ?_
      refine rK <| rT <| rT <| rK <| rT ?_
      exact rt1 rfl (.inl rfl) (by first | exact sch_len (by omega) | exact sch_no (z := z) (by omega) (fun h => hnf ((schI_iff hf).1 h).1) | exact sch_no (z := z) (by omega) (fun h => hnm ((schI_iff hf).1 h).2.1) | exact sch_no (z := z) (by omega) (fun h => hne ((schI_iff hf).1 h).2.2) | exact sch_yes (by omega) hI.2 (by omega))
     ·
      obtain ⟨hc5, hc5'⟩ := pF hc5
      have hne := (take_any (q := fun b : DField => eqv b.1 f.1) (x := x) (z := z) (by omega)).1 (by simpa using hc5)
      refine AW.skip ?_
      refine AX.normal_block ?_
      refine AX.go ?_
      refine AW.region ?_
      refine st (OpT.add (H rfl) (T1 rfl) (I rfl) (nw (by omega))) rfl ?_
      refine st (mvT rfl) rfl ?_
      refine nn ?_
      exact AX.again (z + 1) ⟨by omega, all_step hI.2 ((schI_iff hf).2 ⟨hfo, hme, hne⟩)⟩ (by omega) (Kc 0 _ (Kv rfl rfl) <| Kc 3 _ (Kb rfl (jp_next hf)) <| Kc 10 _ (Kv rfl rfl) <| Kc 11 _ (Kv rfl rfl) <| Kc 12 _ (Kv rfl (by omega)) <| Kn)
  ·
   obtain ⟨hc2, hc2'⟩ := pF hc2
   refine AW.exit ?_
   refine xT <| xT <| AX.exit_hit ?_
   refine AX.go ?_
   refine sr ?_
   refine st (asB rfl) rfl ?_
   refine ng ?_
   refine AW.ret ?_
   exact rt1 rfl (.inl rfl) (by first | exact sch_len (by omega) | exact sch_no (z := z) (by omega) (fun h => hnf ((schI_iff hf).1 h).1) | exact sch_no (z := z) (by omega) (fun h => hnm ((schI_iff hf).1 h).2.1) | exact sch_no (z := z) (by omega) (fun h => hne ((schI_iff hf).1 h).2.2) | exact sch_yes (by omega) hI.2 (by omega))

/-- spec.l04Cards -/
theorem c_spec_l04Cards (x : List DCard) : AC Tryz.prog 57 [.cel (Kd.slice kCard) x] [.cel Kd.bool (tt (allL cardOK x))] [] := by
 refine acI (N := 15) Tryz.func57 (Nat.le_of_ble_eq_true rfl) rfl fun w0 hd s0 ar => ?_
 refine AW.to (kc 0 rfl <| Kn) ?_
 refine AW.fact (fun a w hr => (ok_slice (R_ok (t := 0) rfl hr)).2) (fun hl0 => ?_)
 refine sr ?_
 refine st (asB rfl) rfl ?_
 refine ng ?_
 refine AW.seq ?_
 refine sr ?_
 refine st (asI rfl) rfl ?_
 refine ng ?_
 refine AW.block ?_
 refine AW.loop (fun z : Nat => z ≤ x.length ∧ ∀ i, i < z → allI cardOK x i) (fun z : Nat => keep [(0, .cel (Kd.slice kCard) x), (3, .cel (Kd.int .i64) (z : Int))]) (fun z : Nat => x.length - z) (0) ⟨Nat.zero_le _, all_none⟩ (Kc 0 _ (Kv rfl rfl) <| Kc 3 _ (Kv rfl rfl) <| Kn) ?_
 intro z hI
 refine AW.seq ?_
 refine sr ?_
 refine st (mvT rfl) rfl ?_
 refine st (mvT rfl) rfl ?_
 refine st (OpT.len (H rfl) (T1 rfl) el31) rfl ?_
 refine st (OpT.lss (H rfl) (T1 rfl) (T1 rfl)) rfl ?_
 refine ng ?_
 refine cd rfl (fun hc1 => ?_) fun hc1 => ?_
 ·
  obtain ⟨hc1, hc1'⟩ := pT hc1
  obtain ⟨a, ha⟩ := getI (x := x) (z := z) (by omega)
  refine AW.skip ?_
  refine AX.go ?_
  refine AW.seq ?_
  refine AW.block ?_
  refine sr ?_
  refine st (mvT rfl) rfl ?_
  refine st (mvT rfl) rfl ?_
  refine st (OpT.indexAddr (H rfl) (T1 rfl) (T1 rfl) el31 sz86 (by omega) (by assumption)) rfl ?_
  refine st (OpT.c1 (ms := [.flat]) (c_spec_l01Ok _) (H rfl) (Af (T1 rfl) rfl rfl <| An) rfl rfl) rfl ?_
  refine st (OpT.not (H rfl) (T1 rfl)) rfl ?_
  refine ng ?_
  refine cd rfl (fun hc2 => ?_) fun hc2 => ?_
  ·
   obtain ⟨hc2, hc2'⟩ := pT hc2
   have hna : ¬ cardOK a := tt_false.1 (by simpa using hc2)
   refine sr ?_
   refine st (asB rfl) rfl ?_
   refine ng ?_
   refine AW.ret ?_
   refine rK <| rT <| rT <| rK <| rT ?_
   exact rt1 rfl (.inl rfl) (by first | exact tt_no (fun h => hna ((allI_iff ha).1 (h z (by omega)))) | exact tt_yes (all_end hI.2 (by omega)))
  ·
   obtain ⟨hc2, hc2'⟩ := pF hc2
   refine AW.skip ?_
   refine AX.normal_block ?_
   refine AX.go ?_
   refine AW.region ?_
   refine st (mvT rfl) rfl ?_
   refine st (OpT.add (H rfl) (T1 rfl) (I rfl) (nw (by omega))) rfl ?_
   refine st (asT rfl) rfl ?_
   refine nn ?_
   exact AX.again (z + 1) ⟨by omega, all_step hI.2 ((allI_iff ha).2 (tt_iff.1 (by simpa using hc2)))⟩ (by omega) (Kc 0 _ (Kv rfl rfl) <| Kc 3 _ (Kv rfl (by omega)) <| Kn)
 ·
  obtain ⟨hc1, hc1'⟩ := pF hc1
  refine AW.exit ?_
  refine xT <| xT <| AX.exit_hit ?_
  refine AX.go ?_
  refine sr ?_
  refine st (asB rfl) rfl ?_
  refine ng ?_
  refine AW.ret ?_
  exact rt1 rfl (.inl rfl) (by first | exact tt_no (fun h => hna ((allI_iff ha).1 (h z (by omega)))) | exact tt_yes (all_end hI.2 (by omega)))

/-- impl.areCards$1 -/
theorem c_impl_areCards_1 (a : DCard) : AC Tryz.prog 89 [.agg kCard a] [.cel Kd.bool (!(tt (cardOK a)))] [] := by
 refine acI (N := 6) Tryz.func89 (Nat.le_of_ble_eq_true rfl) rfl fun w0 hd s0 ar => ?_
 refine AW.to (ka 0 rfl <| Kn) ?_
 refine sr ?_
 refine st (OpT.frz (OpT.boxA (E := 86) (H rfl) (T1 rfl))) rfl ?_
 refine st (asB rfl) rfl ?_
 refine ng ?_
 refine sr ?_
 refine st (OpT.loadA (H rfl) (T1 rfl) ag86 sz86) rfl ?_
 refine st (OpT.c1 (ms := [.flat]) (c_impl_isCard _) (H rfl) (Af (T1 rfl) rfl rfl <| An) rfl rfl) rfl ?_
 refine st (OpT.not (H rfl) (T1 rfl)) rfl ?_
 refine st (asT rfl) rfl ?_
 refine ng ?_
 refine AW.ret ?_
 exact rt1 rfl (.inl rfl) rfl

/-- impl.areCards -/
theorem c_impl_areCards (x : List DCard) : AC Tryz.prog 63 [.cel (Kd.slice kCard) x] [.cel Kd.bool (tt (allL cardOK x))] [] := by
 refine acI (N := 6) Tryz.func63 (Nat.le_of_ble_eq_true rfl) rfl fun w0 hd s0 ar => ?_
 refine AW.to (kc 0 rfl <| Kn) ?_
 refine AW.fact (fun a w hr => (ok_slice (R_ok (t := 0) rfl hr)).2) (fun hl0 => ?_)
 refine sr ?_
 refine st (asB rfl) rfl ?_
 refine ng ?_
 refine sr ?_
 refine st (mvT rfl) rfl ?_
 refine st (OpT.c1 (ms := [.flat, .flat]) (c_slices_ContainsFunc_impl_Card_impl_Card (fun a => !(tt (cardOK a))) CloArgs.unit (fun a => c_impl_areCards_1 a) _) (H rfl) (Af (T1 rfl) rfl rfl <| Af Opd.func rfl rfl <| An) rfl rfl) rfl ?_
 refine st (OpT.not (H rfl) (T1 rfl)) rfl ?_
 refine st (asT rfl) rfl ?_
 refine ng ?_
 refine AW.ret ?_
 exact rt1 rfl (.inl rfl) allL_any

/-- impl.checkTable -/
theorem c_impl_checkTable (s : List DField) (x : List DCard) (l : List Int) : AC Tryz.prog 38 [.cel (Kd.slice kField) s, .cel (Kd.slice kCard) x, .cel (Kd.slice (Kd.int .i64)) l] [.cel (Kd.int .i64) (tabF s x l)] [] := by
 refine acI (N := 35) Tryz.func38 (Nat.le_of_ble_eq_true rfl) rfl fun w0 hd s0 ar => ?_
 refine AW.to (kc3 0 1 2 rfl <| Kn) ?_
 refine AW.fact (fun a w hr => (ok_slice (R_ok (t := 0) rfl hr)).2) (fun hl0 => ?_)
 refine AW.fact (fun a w hr => (ok_slice (R_ok (t := 1) rfl hr)).2) (fun hl1 => ?_)
 refine AW.fact (fun a w hr => (ok_slice (R_ok (t := 2) rfl hr)).2) (fun hl2 => ?_)
 refine sr ?_
 refine st (asI rfl) rfl ?_
 refine ng ?_
 refine AW.seq ?_
 refine sr ?_
 refine st (mvT rfl) rfl ?_
 refine st (OpT.c1 (ms := [.flat]) (c_impl_isScheme _) (H rfl) (Af (T1 rfl) rfl rfl <| An) rfl rfl) rfl ?_
 refine st (OpT.not (H rfl) (T1 rfl)) rfl ?_
 refine st (mvT rfl) rfl ?_
 apply AWl.or (d := 16) (t := 12) rfl
 ·
  intro hb1 Q1 k1
  have hb1' := lF hb1
  refine rs hb1 (mvT rfl) rfl ?_
  refine rs hb1 (OpT.c1 (ms := [.flat]) (c_impl_areCards _) (H rfl) (Af (T1 rfl) rfl rfl <| An) rfl rfl) rfl ?_
  refine rs hb1 (OpT.not (H rfl) (T1 rfl)) rfl ?_
  refine st (OpT.pickF (A := .cel _ _) (H rfl) (T1 rfl) hb1 (T1 rfl) rfl) rfl ?_
  exact AWl.to (junk 3 rfl) k1
 ·
  intro hb1 Q1 k1
  refine ps hb1 rfl ?_
  refine ps hb1 rfl ?_
  refine ps hb1 rfl ?_
  refine st (OpT.pickT (A := .cel _ _) (H rfl) (T1 rfl) hb1 Opd.bool rfl) rfl ?_
  exact k1
 refine ng ?_
 refine cd rfl (fun hc1 => ?_) fun hc1 => ?_
 ·
  obtain ⟨hc1, hc1'⟩ := pT hc1
  refine sr ?_
  refine st (asI rfl) rfl ?_
  refine ng ?_
  refine AW.ret ?_
  refine rT ?_
  exact rt1 rfl (.inl rfl) (by first | exact tabF_not (tabE_one hc1) (by decide) | exact tabF_not (tabE_two hc1 (by omega)) (by decide) | exact (err2_no (fun h9 => by have h8 := (allI_iff hh).1 (h9 z (by omega)); unfold inI at h8; omega)).trans (tabF_of hz0).symm | exact (err2_yes (all_end hI.2 (by omega))).trans (tabF_of hz0).symm)
 ·
  obtain ⟨hc1, hc1'⟩ := pF hc1
  refine AW.skip ?_
  refine AX.go ?_
  refine AW.seq ?_
  refine sr ?_
  refine st (mvT rfl) rfl ?_
  refine st (OpT.len (H rfl) (T1 rfl) el31) rfl ?_
  refine st (OpT.gtr (H rfl) (T1 rfl) (I rfl)) rfl ?_
  refine ng ?_
  refine cd rfl (fun hc2 => ?_) fun hc2 => ?_
  ·
   obtain ⟨hc2, hc2'⟩ := pT hc2
   refine sr ?_
   refine st (asI rfl) rfl ?_
   refine ng ?_
   refine AW.ret ?_
   refine rT ?_
   exact rt1 rfl (.inl rfl) (by first | exact tabF_not (tabE_one hc1) (by decide) | exact tabF_not (tabE_two hc1 (by omega)) (by decide) | exact (err2_no (fun h9 => by have h8 := (allI_iff hh).1 (h9 z (by omega)); unfold inI at h8; omega)).trans (tabF_of hz0).symm | exact (err2_yes (all_end hI.2 (by omega))).trans (tabF_of hz0).symm)
  ·
   obtain ⟨hc2, hc2'⟩ := pF hc2
   have hz0 := tabE_zero hc1 (by omega)
   refine AW.skip ?_
   refine AX.go ?_
   refine AW.seq ?_
   refine sr ?_
   refine st (mvT rfl) rfl ?_
   refine st (OpT.len (H rfl) (T1 rfl) el81) rfl ?_
   refine st (mvI rfl) rfl ?_
   refine ng ?_
   refine AW.block ?_
   refine AW.loop (fun z : Nat => z ≤ l.length ∧ ∀ i, i < z → allI (inI s.length) l i) (fun z : Nat => keep [(0, .cel (Kd.slice kField) s), (20, .cel (Kd.slice (Kd.int .i64)) l), (21, .cel (Kd.int .i64) (l.length : Int)), (22, .cel (Kd.int .i64) (z : Int))]) (fun z : Nat => l.length - z) (0) ⟨Nat.zero_le _, all_none⟩ (Kc 0 _ (Kv rfl rfl) <| Kc 20 _ (Kv rfl rfl) <| Kc 21 _ (Kv rfl rfl) <| Kc 22 _ (Kv rfl rfl) <| Kn) ?_
   intro z hI
   refine sr ?_
   refine st (OpT.lss (H rfl) (T1 rfl) (T1 rfl)) rfl ?_
   refine ng ?_
   refine AW.seq ?_
   refine cd rfl (fun hc3 => ?_) fun hc3 => ?_
   ·
    obtain ⟨hc3, hc3'⟩ := pT hc3
    obtain ⟨h, hh⟩ := getI (x := l) (z := z) (by omega)
    refine AW.skip ?_
    refine AX.go ?_
    refine AW.seq ?_
    refine AW.block ?_
    refine sr ?_
    refine st (OpT.indexAddr (H rfl) (T1 rfl) (T1 rfl) el81 sz2 (by omega) (by assumption)) rfl ?_
    refine st (OpT.load (H rfl) (T1 rfl) ag2 rfl) rfl ?_
    refine st (asT rfl) rfl ?_
    refine ng ?_
    refine sr ?_
    refine st (mvT rfl) rfl ?_
    refine st (OpT.lss (H rfl) (T1 rfl) (I rfl)) rfl ?_
    refine st (mvT rfl) rfl ?_
    apply AWl.or (d := 33) (t := 28) rfl
    ·
     intro hb2 Q1 k1
     have hb2' := lF hb2
     refine rs hb2 (mvT rfl) rfl ?_
     refine rs hb2 (mvT rfl) rfl ?_
     refine rs hb2 (OpT.len (H rfl) (T1 rfl) el29) rfl ?_
     refine rs hb2 (OpT.geq (H rfl) (T1 rfl) (T1 rfl)) rfl ?_
     refine st (OpT.pickF (A := .cel _ _) (H rfl) (T1 rfl) hb2 (T1 rfl) rfl) rfl ?_
     exact AWl.to (junk 4 rfl) k1
    ·
     intro hb2 Q1 k1
     refine ps hb2 rfl ?_
     refine ps hb2 rfl ?_
     refine ps hb2 rfl ?_
     refine ps hb2 rfl ?_
     refine st (OpT.pickT (A := .cel _ _) (H rfl) (T1 rfl) hb2 Opd.bool rfl) rfl ?_
     exact k1
    refine ng ?_
    refine cd rfl (fun hc4 => ?_) fun hc4 => ?_
    ·
     obtain ⟨hc4, hc4'⟩ := pT hc4
     refine sr ?_
     refine st (asI rfl) rfl ?_
     refine ng ?_
     refine AW.ret ?_
     refine rK <| rT <| rT <| rK <| rT ?_
     exact rt1 rfl (.inl rfl) (by first | exact tabF_not (tabE_one hc1) (by decide) | exact tabF_not (tabE_two hc1 (by omega)) (by decide) | exact (err2_no (fun h9 => by have h8 := (allI_iff hh).1 (h9 z (by omega)); unfold inI at h8; omega)).trans (tabF_of hz0).symm | exact (err2_yes (all_end hI.2 (by omega))).trans (tabF_of hz0).symm)
    ·
     obtain ⟨hc4, hc4'⟩ := pF hc4
     refine AW.skip ?_
     refine AX.normal_block ?_
     refine AX.go ?_
     refine AW.region ?_
     refine st (OpT.add (H rfl) (T1 rfl) (I rfl) (nw (by omega))) rfl ?_
     refine st (mvT rfl) rfl ?_
     refine nn ?_
     exact AX.again (z + 1) ⟨by omega, all_step hI.2 ((allI_iff hh).2 (by unfold inI; omega))⟩ (by omega) (Kc 0 _ (Kv rfl rfl) <| Kc 20 _ (Kv rfl rfl) <| Kc 21 _ (Kv rfl rfl) <| Kc 22 _ (Kv rfl (by omega)) <| Kn)
   ·
    obtain ⟨hc3, hc3'⟩ := pF hc3
    refine AW.exit ?_
    refine xT <| xT <| AX.exit_hit ?_
    refine AX.go ?_
    refine sr ?_
    refine st (asI rfl) rfl ?_
    refine ng ?_
    refine AW.ret ?_
    exact rt1 rfl (.inl rfl) (by first | exact tabF_not (tabE_one hc1) (by decide) | exact tabF_not (tabE_two hc1 (by omega)) (by decide) | exact (err2_no (fun h9 => by have h8 := (allI_iff hh).1 (h9 z (by omega)); unfold inI at h8; omega)).trans (tabF_of hz0).symm | exact (err2_yes (all_end hI.2 (by omega))).trans (tabF_of hz0).symm)
end Go.Proofs.YtkgboidjghcegaaGreatDoor.VL
