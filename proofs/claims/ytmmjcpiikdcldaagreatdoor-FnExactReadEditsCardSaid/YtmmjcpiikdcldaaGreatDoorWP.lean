/- Proved here: what some functions of the program take and give: walks with the words of VA..VQ. Printed by program. -/
import Derived.Test.YtmmjcpiikdcldaaGreatDoorWT
import Derived.Test.YtmmjcpiikdcldaaGreatDoorBpa
set_option linter.unusedVariables false
set_option linter.unusedSimpArgs false
set_option maxRecDepth 4000
namespace Go.Proofs.YtmmjcpiikdcldaaGreatDoor.VL
open Go
/-- spec.l01Bit -/
theorem c_spec_l01Bit (i : Int) (h : 0 ≤ i ∧ i < 128) : AC Tryz.prog 86 [.cel (Kd.int .i64) i] [.agg kMask (bitM i)] [] := by
 refine acI (N := 13) Tryz.func86 (Nat.le_of_ble_eq_true rfl) rfl fun w0 hd s0 ar => ?_
 refine AW.to (kc 0 rfl <| Kn) ?_
 have hd64 := div64 h
 have hm64 := mod64 h.1
 refine sr ?_
 refine st (OpT.alloc (H rfl) zr38 zk38) rfl ?_
 refine ng ?_
 refine sr ?_
 refine st (OpT.buildA (H rfl) ar38 sz36 zr38 zk38 (Built.nil _)) rfl ?_
 refine st (OpT.alloc (H rfl) zr38 zk38) rfl ?_
 refine sk (OpT.storeBA rfl rfl (Opd.whole (Root.self (t := 3) (by decide)) rfl) rfl sz38 (by decide) (T1 rfl)) rfl ?_
 refine ng ?_
 refine sr ?_
 refine st (mvT rfl) rfl ?_
 refine st (OpT.quo (H rfl) (T1 rfl) (I rfl) (by omega) (nw (by omega))) rfl ?_
 refine st (mvT rfl) rfl ?_
 refine st (OpT.rem (H rfl) (T1 rfl) (I rfl) (by omega)) rfl ?_
 refine st (OpT.convu (H rfl) us2 Tryz.underlying36 (T1 rfl)) rfl ?_
 refine st (OpT.shl (H rfl) (U2 1 rfl rfl) (Opd.asInt (T1 rfl)) (Int.natCast_nonneg _)) rfl ?_
 refine st (OpT.indexAddrB (H rfl) (Root.self (t := 3) (by decide)) rfl (by decide) (T1 rfl) ar38 sz36 (by omega) (Sub.two (by omega) rfl)) rfl ?_
 refine sk (OpT.storeB rfl rfl (T1 rfl) rfl sz36 rfl (T1 rfl)) rfl ?_
 refine AWl.to (kb 3 rfl <| kb 2 rfl <| Kn) ?_
 refine ng ?_
 refine sr ?_
 refine st (OpT.loadB (H rfl) (Root.self (t := 3) (by decide)) rfl ag38 sz38) rfl ?_
 refine sk (OpT.storeBA rfl rfl (Opd.whole (Root.self (t := 2) (by decide)) rfl) rfl sz38 (by decide) (T1 rfl)) rfl ?_
 refine ng ?_
 refine AW.ret ?_
 exact AX.rt (rs := [.cell 2 38]) (ts := [none]) (.inl rfl) rfl (ROs.cons (RO.cellA (by decide) (Kb rfl (bit_of h.1)) ag38 sz38) <| ROs.nil) (by decide) OutsOK.nil

/-- spec.l01Join -/
theorem c_spec_l01Join (x y : BitVec 64 × BitVec 64) : AC Tryz.prog 83 [.agg kMask x, .agg kMask y] [.agg kMask (joinM x y)] [] := by
 refine acI (N := 16) Tryz.func83 (Nat.le_of_ble_eq_true rfl) rfl fun w0 hd s0 ar => ?_
 refine AW.to (ka 0 rfl <| ka 1 rfl <| Kn) ?_
 refine sr ?_
 refine st (OpT.frz (OpT.boxA (E := 38) (H rfl) (T1 rfl))) rfl ?_
 refine st (OpT.frz (OpT.boxA (E := 38) (H rfl) (T1 rfl))) rfl ?_
 refine st (OpT.alloc (H rfl) zr38 zk38) rfl ?_
 refine ng ?_
 refine sr ?_
 refine st (OpT.indexAddrP (H rfl) (T1 rfl) (I rfl) ar38 sz36 (by decide) sx38_0) rfl ?_
 refine st (OpT.load (H rfl) (T1 rfl) ag36 rfl) rfl ?_
 refine st (OpT.indexAddrP (H rfl) (T1 rfl) (I rfl) ar38 sz36 (by decide) sx38_0) rfl ?_
 refine st (OpT.load (H rfl) (T1 rfl) ag36 rfl) rfl ?_
 refine st (OpT.bor (H rfl) (T1 rfl) (T1 rfl)) rfl ?_
 refine st (OpT.indexAddrP (H rfl) (T1 rfl) (I rfl) ar38 sz36 (by decide) sx38_1) rfl ?_
 refine st (OpT.load (H rfl) (T1 rfl) ag36 rfl) rfl ?_
 refine st (OpT.indexAddrP (H rfl) (T1 rfl) (I rfl) ar38 sz36 (by decide) sx38_1) rfl ?_
 refine st (OpT.load (H rfl) (T1 rfl) ag36 rfl) rfl ?_
 refine st (OpT.bor (H rfl) (T1 rfl) (T1 rfl)) rfl ?_
 refine st (OpT.buildA (H rfl) ar38 sz36 zr38 zk38 (Built.cel (T1 rfl) rfl rfl sx38_0 (Built.cel (T1 rfl) rfl rfl sx38_1 (Built.nil _)))) rfl ?_
 refine sk (OpT.storeBA rfl rfl (Opd.whole (Root.self (t := 4) (by decide)) rfl) rfl sz38 (by decide) (T1 rfl)) rfl ?_
 refine AWl.to (kb 4 rfl <| Kn) ?_
 refine ng ?_
 refine AW.ret ?_
 exact AX.rt (rs := [.cell 4 38]) (ts := [none]) (.inl rfl) rfl (ROs.cons (RO.cellA (by decide) (Kb rfl rfl) ag38 sz38) <| ROs.nil) (by decide) OutsOK.nil

/-- impl.Mask).with -/
theorem c_impl_Mask_with (m : DMask) (l : List Int) (hs : ∀ h ∈ l, 0 ≤ h ∧ h < 128) : AC Tryz.prog 97 [.agg kMask m, .cel (Kd.slice (Kd.int .i64)) l] [.agg kMask (withM m l)] [] := by
 refine acI (N := 24) Tryz.func97 (Nat.le_of_ble_eq_true rfl) rfl fun w0 hd s0 ar => ?_
 refine AW.to (ka 0 rfl <| kc 1 rfl <| Kn) ?_
 refine AW.fact (fun a w hr => (ok_slice (R_ok (t := 1) rfl hr)).2) (fun hl1 => ?_)
 refine sr ?_
 refine st (OpT.boxA (E := 38) (H rfl) (T1 rfl)) rfl ?_
 refine st (OpT.alloc (H rfl) zr38 zk38) rfl ?_
 refine ng ?_
 refine AW.seq ?_
 refine sr ?_
 refine st (mvT rfl) rfl ?_
 refine st (OpT.len (H rfl) (T1 rfl) el43) rfl ?_
 refine st (mvI rfl) rfl ?_
 refine ng ?_
 refine AW.block ?_
 refine AW.loop (fun z : Nat => z ≤ l.length) (fun z : Nat => keep [(2, .box 38 kMask (withM m (l.take z))), (4, .box 38 kMask (0#64, 0#64)), (7, .cel (Kd.slice (Kd.int .i64)) l), (8, .cel (Kd.int .i64) (l.length : Int)), (9, .cel (Kd.int .i64) (z : Int))]) (fun z : Nat => l.length - z) (0) (Nat.zero_le _) (Kc 2 _ (Kb rfl rfl) <| Kc 4 _ (Kb rfl rfl) <| Kc 7 _ (Kv rfl rfl) <| Kc 8 _ (Kv rfl rfl) <| Kc 9 _ (Kv rfl rfl) <| Kn) ?_
 intro z hI
 refine sr ?_
 refine st (OpT.lss (H rfl) (T1 rfl) (T1 rfl)) rfl ?_
 refine ng ?_
 refine AW.seq ?_
 refine cd rfl (fun hc1 => ?_) fun hc1 => ?_
 ·
  obtain ⟨hc1, hc1'⟩ := pT hc1
  obtain ⟨h, hh⟩ := getI (x := l) (z := z) (by omega)
  have h128 := hs h (mem_getI hh)
  have hd64 := div64 h128
  have hm64 := mod64 h128.1
  refine AW.skip ?_
  refine AX.go ?_
  refine AW.seq ?_
  refine AW.block ?_
  refine sr ?_
  refine st (OpT.indexAddr (H rfl) (T1 rfl) (T1 rfl) el43 sz2 (by omega) (by assumption)) rfl ?_
  refine st (OpT.load (H rfl) (T1 rfl) ag2 rfl) rfl ?_
  refine st (asT rfl) rfl ?_
  refine ng ?_
  refine dh fomo ?_
  refine d1 [6] (fun ve h => OpT.move (A := .cel _ _) (.inl rfl) rfl (ok' rfl) (D1 h rfl) rfl) rfl ?_
  refine d1 [13] (fun ve h => OpT.quo (H rfl) (D1 h rfl) (I rfl) (by omega) (nw (by omega))) rfl ?_
  refine d1 [2, 14] (fun ve h => OpT.indexAddrB (H rfl) (Root.self (t := 2) (by decide)) ((h _ (List.elem_iff.1 rfl)).trans rfl) (by decide) (D1 h rfl) ar38 sz36 (by omega) (Sub.two (by omega) rfl)) rfl ?_
  refine d1 [2, 15] (fun ve h => OpT.loadP (H rfl) (D1 h rfl) (.inl ⟨_, ((h _ (List.elem_iff.1 rfl)).trans rfl), rfl⟩) ag36 rfl) rfl ?_
  refine d1 [6] (fun ve h => OpT.move (A := .cel _ _) (.inl rfl) rfl (ok' rfl) (D1 h rfl) rfl) rfl ?_
  refine d1 [17] (fun ve h => OpT.rem (H rfl) (D1 h rfl) (I rfl) (by omega)) rfl ?_
  refine d1 [18] (fun ve h => OpT.shl (H rfl) (U2 1 rfl rfl) (D1 h rfl) (by omega)) rfl ?_
  refine d1 [16, 19] (fun ve h => OpT.bor (H rfl) (D1 h rfl) (D1 h rfl)) rfl ?_
  refine d1 [2, 14] (fun ve h => OpT.indexAddrB (H rfl) (Root.self (t := 2) (by decide)) ((h _ (List.elem_iff.1 rfl)).trans rfl) (by decide) (D1 h rfl) ar38 sz36 (by omega) (Sub.two (by omega) rfl)) rfl ?_
  refine dm (t := 2) [2, 20, 21] (fun ve h => OpT.storeB rfl rfl (D1 h rfl) ((h _ (List.elem_iff.1 rfl)).trans rfl) sz36 rfl (D1 h rfl)) rfl ?_
  refine dn ⟨by kernel_rfl, by kernel_rfl, ?_⟩
  refine AX.normal_block ?_
  refine AX.go ?_
  refine AW.region ?_
  refine st (OpT.add (H rfl) (T1 rfl) (I rfl) (nw (by omega))) rfl ?_
  refine st (mvT rfl) rfl ?_
  refine nn ?_
  exact AX.again (z + 1) (by omega) (by omega) (Kc 2 _ (Kb rfl (with_step hh)) <| Kc 4 _ (Kb rfl rfl) <| Kc 7 _ (Kv rfl rfl) <| Kc 8 _ (Kv rfl rfl) <| Kc 9 _ (Kv rfl (by omega)) <| Kn)
 ·
  obtain ⟨hc1, hc1'⟩ := pF hc1
  refine AW.exit ?_
  refine xT <| xT <| AX.exit_hit ?_
  refine AX.go ?_
  refine sr ?_
  refine st (OpT.loadB (H rfl) (Root.self (t := 2) (by decide)) rfl ag38 sz38) rfl ?_
  refine sk (OpT.storeBA rfl rfl (Opd.whole (Root.self (t := 4) (by decide)) rfl) rfl sz38 (by decide) (T1 rfl)) rfl ?_
  refine ng ?_
  refine AW.ret ?_
  exact AX.rt (rs := [.cell 4 38]) (ts := [none]) (.inl rfl) rfl (ROs.cons (RO.cellA (by decide) (Kb rfl (by rw [List.take_of_length_le (by omega)])) ag38 sz38) <| ROs.nil) (by decide) OutsOK.nil

end Go.Proofs.YtmmjcpiikdcldaaGreatDoor.VL
