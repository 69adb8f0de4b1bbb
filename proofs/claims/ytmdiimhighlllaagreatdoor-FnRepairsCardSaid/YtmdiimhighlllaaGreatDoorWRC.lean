/- Proved here: what some functions of the program take and give: walks with the words of VA..VQ. Printed by program. -/
import Derived.Test.YtmdiimhighlllaaGreatDoorWT
import Derived.Test.YtmdiimhighlllaaGreatDoorPZR
import Derived.Test.YtmdiimhighlllaaGreatDoorBpa
import Derived.Test.YtmdiimhighlllaaGreatDoorWB
import Derived.Test.YtmdiimhighlllaaGreatDoorWP
import Derived.Test.YtmdiimhighlllaaGreatDoorWRN
import Derived.Test.YtmdiimhighlllaaGreatDoorWK
import Derived.Test.YtmdiimhighlllaaGreatDoorWV
set_option linter.unusedVariables false
set_option linter.unusedSimpArgs false
set_option maxRecDepth 4000
namespace Go.Proofs.YtmdiimhighlllaaGreatDoor.VL
open Go
/-- spec.l04Masks -/
theorem c_spec_l04Masks (x : List DMask) : AC Tryz.prog 69 [.cel (Kd.slice kMask) x] [.cel (Kd.int .i64) (mskE x)] [] := by
 refine acI (N := 19) Tryz.func69 (Nat.le_of_ble_eq_true rfl) rfl fun w0 hd s0 ar => ?_
 refine AW.to (kc 0 rfl <| Kn) ?_
 refine AW.fact (fun a w hr => (ok_slice (R_ok (t := 0) rfl hr)).2) (fun hl0 => ?_)
 refine sr ?_
 refine st (asI rfl) rfl ?_
 refine ng ?_
 refine AW.seq ?_
 refine sr ?_
 refine st (asI rfl) rfl ?_
 refine ng ?_
 refine AW.block ?_
 refine AW.loop (fun z : Nat => z ≤ x.length ∧ ∀ i, i < z → allI okMP x i) (fun z : Nat => keep [(0, .cel (Kd.slice kMask) x), (3, .cel (Kd.int .i64) (z : Int))]) (fun z : Nat => x.length - z) (0) ⟨Nat.zero_le _, all_none⟩ (Kc 0 _ (Kv rfl rfl) <| Kc 3 _ (Kv rfl rfl) <| Kn) ?_
 intro z hI
 refine AW.seq ?_
 refine sr ?_
 refine st (mvT rfl) rfl ?_
 refine st (mvT rfl) rfl ?_
 refine st (OpT.len (H rfl) (T1 rfl) el55) rfl ?_
 refine st (OpT.lss (H rfl) (T1 rfl) (T1 rfl)) rfl ?_
 refine ng ?_
 refine cd rfl (fun hc1 => ?_) fun hc1 => ?_
 ·
  obtain ⟨hc1, hc1'⟩ := pT hc1
  obtain ⟨a, ha⟩ := getI (x := x) (z := z) (by omega)
  refine AW.skip ?_
  refine AX.go ?_
  refine AW.seq ?_
  refine AW.block ?_
  refine sr ?_
  refine st (mvT rfl) rfl ?_
  refine st (mvT rfl) rfl ?_
  refine st (OpT.indexAddr (H rfl) (T1 rfl) (T1 rfl) el55 sz34 (by omega) (by assumption)) rfl ?_
  refine st (OpT.loadA (H rfl) (T1 rfl) ag34 sz34) rfl ?_
  refine st (OpT.c1 (ms := [.flat]) (c_spec_l01Mask _) (H rfl) (Af (T1 rfl) rfl rfl <| An) rfl rfl) rfl ?_
  refine st (OpT.not (H rfl) (T1 rfl)) rfl ?_
  refine ng ?_
  refine cd rfl (fun hc2 => ?_) fun hc2 => ?_
  ·
   obtain ⟨hc2, hc2'⟩ := pT hc2
   have hna : okM a = false := by simpa using hc2
   refine sr ?_
   refine st (asI rfl) rfl ?_
   refine ng ?_
   refine AW.ret ?_
   refine rK <| rT <| rT <| rK <| rT ?_
   exact rt1 rfl (.inl rfl) (by first | exact msk_one (fun h9 => by rw [(okP_iff ha).1 (h9 z (by omega))] at hna; cases hna) | exact msk_two hal (by omega) | exact msk_zero hal (by omega))
  ·
   obtain ⟨hc2, hc2'⟩ := pF hc2
   have hya : okM a = true := by simpa using hc2
   refine AW.skip ?_
   refine AX.normal_block ?_
   refine AX.go ?_
   refine AW.region ?_
   refine st (mvT rfl) rfl ?_
   refine st (OpT.add (H rfl) (T1 rfl) (I rfl) (nw (by omega))) rfl ?_
   refine st (asT rfl) rfl ?_
   refine nn ?_
   exact AX.again (z + 1) ⟨by omega, all_step hI.2 ((okP_iff ha).2 hya)⟩ (by omega) (Kc 0 _ (Kv rfl rfl) <| Kc 3 _ (Kv rfl (by omega)) <| Kn)
 ·
  obtain ⟨hc1, hc1'⟩ := pF hc1
  have hal : allL okMP x := all_end hI.2 (by omega)
  refine AW.exit ?_
  refine xT <| xT <| AX.exit_hit ?_
  refine AX.go ?_
  refine AW.seq ?_
  refine sr ?_
  refine st (mvT rfl) rfl ?_
  refine st (OpT.len (H rfl) (T1 rfl) el55) rfl ?_
  refine st (OpT.gtr (H rfl) (T1 rfl) (I rfl)) rfl ?_
  refine ng ?_
  refine cd rfl (fun hc3 => ?_) fun hc3 => ?_
  ·
   obtain ⟨hc3, hc3'⟩ := pT hc3
   refine sr ?_
   refine st (asI rfl) rfl ?_
   refine ng ?_
   refine AW.ret ?_
   refine rT ?_
   exact rt1 rfl (.inl rfl) (by first | exact msk_one (fun h9 => by rw [(okP_iff ha).1 (h9 z (by omega))] at hna; cases hna) | exact msk_two hal (by omega) | exact msk_zero hal (by omega))
  ·
   obtain ⟨hc3, hc3'⟩ := pF hc3
   refine AW.skip ?_
   refine AX.go ?_
   refine sr ?_
   refine st (asI rfl) rfl ?_
   refine ng ?_
   refine AW.ret ?_
   exact rt1 rfl (.inl rfl) (by first | exact msk_one (fun h9 => by rw [(okP_iff ha).1 (h9 z (by omega))] at hna; cases hna) | exact msk_two hal (by omega) | exact msk_zero hal (by omega))

/-- impl.Mask] -/
theorem c_slices_IndexFunc_impl_Mask_impl_Mask {γ : Type} {g : FuncId} {kg : Kd γ} {y : γ} {cs : List As} (q : (BitVec 64 × BitVec 64) → Bool) (hcs : CloArgs kg y cs) (hg : ∀ a, AC Tryz.prog g ([.agg kMask a] ++ cs) [.cel Kd.bool (q a)] []) (x : List (BitVec 64 × BitVec 64)) : AC Tryz.prog 164 [.cel (Kd.slice kMask) x, .clo g kg y] [.cel (Kd.int .i64) (idxQ q x)] [] := by
 refine acI (N := 19) Tryz.func164 (Nat.le_of_ble_eq_true rfl) rfl fun w0 hd s0 ar => ?_
 refine AW.to (kc 0 rfl <| Kc 1 (.clo _ _ _) rfl <| Kn) ?_
 refine AW.fact (fun a w hr => (ok_slice (R_ok (t := 0) rfl hr)).2) (fun hl0 => ?_)
 refine sr ?_
 refine st (asI rfl) rfl ?_
 refine ng ?_
 refine AW.seq ?_
 refine sr ?_
 refine st (mvT rfl) rfl ?_
 refine st (OpT.len (H rfl) (T1 rfl) el55) rfl ?_
 refine st (mvI rfl) rfl ?_
 refine ng ?_
 refine AW.block ?_
 refine AW.loop (fun z : Nat => z ≤ x.length ∧ ∀ i, i < z → nI q x i) (fun z : Nat => keep [(0, .cel (Kd.slice kMask) x), (1, .clo g kg y), (7, .cel (Kd.int .i64) ((x.length : Nat) : Int)), (8, .cel (Kd.int .i64) (z : Int))]) (fun z : Nat => x.length - z) (0) ⟨Nat.zero_le _, all_none⟩ (Kc 0 _ (Kv rfl rfl) <| Kc 1 _ (rfl) <| Kc 7 _ (Kv rfl rfl) <| Kc 8 _ (Kv rfl rfl) <| Kn) ?_
 intro z hI
 refine sr ?_
 refine st (OpT.lss (H rfl) (T1 rfl) (T1 rfl)) rfl ?_
 refine ng ?_
 refine AW.seq ?_
 refine cd rfl (fun hc1 => ?_) fun hc1 => ?_
 ·
  replace hc1 := oT hc1
  obtain ⟨a, ha⟩ := getI (x := x) (z := z) (by omega)
  refine AW.skip ?_
  refine AX.go ?_
  refine AW.seq ?_
  refine AW.block ?_
  refine sr ?_
  refine st (mvT rfl) rfl ?_
  refine st (asT rfl) rfl ?_
  refine ng ?_
  refine sr ?_
  refine st (OpT.move (A := .clo _ _ _) (.inl rfl) rfl (ok' rfl) (T1 rfl) rfl) rfl ?_
  refine st (mvT rfl) rfl ?_
  refine st (mvT rfl) rfl ?_
  refine st (OpT.indexAddr (H rfl) (T1 rfl) (T1 rfl) el55 sz34 (by omega) (by assumption)) rfl ?_
  refine st (OpT.loadA (H rfl) (T1 rfl) ag34 sz34) rfl ?_
  refine st (OpT.vg (ms := [.flat]) (T1 rfl) hcs ((hg _)) (H rfl) (Af (T1 rfl) rfl rfl <| An) rfl rfl) rfl ?_
  refine ng ?_
  refine cd rfl (fun hc2 => ?_) fun hc2 => ?_
  ·
   replace hc2 := oT hc2
   refine sr ?_
   refine st (mvT rfl) rfl ?_
   refine st (asT rfl) rfl ?_
   refine ng ?_
   refine AW.ret ?_
   refine rK <| rT <| rT <| rK <| rT ?_
   exact rt1 rfl (.inl rfl) (by first | exact idxQ_at hI.2 ha hc2 | exact idxQ_end hI.2 (by omega))
  ·
   replace hc2 := oF hc2
   refine AW.skip ?_
   refine AX.normal_block ?_
   refine AX.go ?_
   refine AW.region ?_
   refine st (OpT.add (H rfl) (T1 rfl) (I rfl) (nw (by omega))) rfl ?_
   refine st (mvT rfl) rfl ?_
   refine nn ?_
   exact AX.again (z + 1) ⟨by omega, all_step hI.2 ((nI_iff ha).2 (by simpa using hc2))⟩ (by omega) (Kc 0 _ (Kv rfl rfl) <| Kc 1 _ (rfl) <| Kc 7 _ (Kv rfl rfl) <| Kc 8 _ (Kv rfl (by omega)) <| Kn)
 ·
  replace hc1 := oF hc1
  refine AW.exit ?_
  refine xT <| xT <| AX.exit_hit ?_
  refine AX.go ?_
  refine sr ?_
  refine st (asI rfl) rfl ?_
  refine ng ?_
  refine AW.ret ?_
  exact rt1 rfl (.inl rfl) (by first | exact idxQ_at hI.2 ha hc2 | exact idxQ_end hI.2 (by omega))

/-- impl.Mask] -/
theorem c_slices_ContainsFunc_impl_Mask_impl_Mask {γ : Type} {g : FuncId} {kg : Kd γ} {y : γ} {cs : List As} (q : (BitVec 64 × BitVec 64) → Bool) (hcs : CloArgs kg y cs) (hg : ∀ a, AC Tryz.prog g ([.agg kMask a] ++ cs) [.cel Kd.bool (q a)] []) (x : List (BitVec 64 × BitVec 64)) : AC Tryz.prog 124 [.cel (Kd.slice kMask) x, .clo g kg y] [.cel Kd.bool (x.any q)] [] := by
 refine acI (N := 9) Tryz.func124 (Nat.le_of_ble_eq_true rfl) rfl fun w0 hd s0 ar => ?_
 refine AW.to (kc 0 rfl <| Kc 1 (.clo _ _ _) rfl <| Kn) ?_
 refine sr ?_
 refine st (asB rfl) rfl ?_
 refine ng ?_
 refine sr ?_
 refine st (mvT rfl) rfl ?_
 refine st (OpT.move (A := .clo _ _ _) (.inl rfl) rfl (ok' rfl) (T1 rfl) rfl) rfl ?_
 refine st (OpT.c1 (ms := [.flat, .flat]) (c_slices_IndexFunc_impl_Mask_impl_Mask q hcs hg x) (H rfl) (Af (T1 rfl) rfl rfl <| Af (T1 rfl) rfl rfl <| An) rfl rfl) rfl ?_
 refine st (OpT.geq (H rfl) (T1 rfl) (I rfl)) rfl ?_
 refine st (asT rfl) rfl ?_
 refine ng ?_
 refine AW.ret ?_
 exact rt1 rfl (.inl rfl) idxQ_any

/-- impl.areMasks$1 -/
theorem c_impl_areMasks_1 (a : DMask) : AC Tryz.prog 125 [.agg kMask a] [.cel Kd.bool (!(tt (okMP a)))] [] := by
 refine acI (N := 6) Tryz.func125 (Nat.le_of_ble_eq_true rfl) rfl fun w0 hd s0 ar => ?_
 refine AW.to (ka 0 rfl <| Kn) ?_
 refine sr ?_
 refine st (OpT.frz (OpT.boxA (E := 34) (H rfl) (T1 rfl))) rfl ?_
 refine st (asB rfl) rfl ?_
 refine ng ?_
 refine sr ?_
 refine st (OpT.loadA (H rfl) (T1 rfl) ag34 sz34) rfl ?_
 refine st (OpT.c1 (ms := [.flat]) (c_impl_isMask _) (H rfl) (Af (T1 rfl) rfl rfl <| An) rfl rfl) rfl ?_
 refine st (OpT.not (H rfl) (T1 rfl)) rfl ?_
 refine st (asT rfl) rfl ?_
 refine ng ?_
 refine AW.ret ?_
 exact rt1 rfl (.inl rfl) tt_okMP

/-- impl.areMasks -/
theorem c_impl_areMasks (x : List DMask) : AC Tryz.prog 67 [.cel (Kd.slice kMask) x] [.cel Kd.bool (tt (allL okMP x))] [] := by
 refine acI (N := 6) Tryz.func67 (Nat.le_of_ble_eq_true rfl) rfl fun w0 hd s0 ar => ?_
 refine AW.to (kc 0 rfl <| Kn) ?_
 refine AW.fact (fun a w hr => (ok_slice (R_ok (t := 0) rfl hr)).2) (fun hl0 => ?_)
 refine sr ?_
 refine st (asB rfl) rfl ?_
 refine ng ?_
 refine sr ?_
 refine st (mvT rfl) rfl ?_
 refine st (OpT.c1 (ms := [.flat, .flat]) (c_slices_ContainsFunc_impl_Mask_impl_Mask (fun a => !(tt (okMP a))) CloArgs.unit (fun a => c_impl_areMasks_1 a) _) (H rfl) (Af (T1 rfl) rfl rfl <| Af Opd.func rfl rfl <| An) rfl rfl) rfl ?_
 refine st (OpT.not (H rfl) (T1 rfl)) rfl ?_
 refine st (asT rfl) rfl ?_
 refine ng ?_
 refine AW.ret ?_
 exact rt1 rfl (.inl rfl) allL_any

/-- spec.RepairField -/
theorem c_spec_RepairField (f : DField) (m : DMask) (x : List DMask) : AC Tryz.prog 19 [.agg kField f, .agg kMask m, .cel (Kd.slice kMask) x] [.agg kMask (repFS f m x).1, .cel (Kd.int .i64) (repFS f m x).2.1, .cel (Kd.int .i64) (repFS f m x).2.2] [] := by
 refine acI (N := 37) Tryz.func19 (Nat.le_of_ble_eq_true rfl) rfl fun w0 hd s0 ar => ?_
 refine AW.to (ka 0 rfl <| ka 1 rfl <| kc 2 rfl <| Kn) ?_
 refine AW.fact (fun a w hr => (ok_slice (R_ok (t := 2) rfl hr)).2) (fun hl2 => ?_)
 refine sr ?_
 refine st (OpT.frz (OpT.boxA (E := 52) (H rfl) (T1 rfl))) rfl ?_
 refine st (OpT.frz (OpT.boxA (E := 34) (H rfl) (T1 rfl))) rfl ?_
 refine st (OpT.alloc (H rfl) zr34 zk34) rfl ?_
 refine st (asI rfl) rfl ?_
 refine st (asI rfl) rfl ?_
 refine ng ?_
 refine AW.seq ?_
 refine sr ?_
 refine st (OpT.c1 (ms := [.flat]) (c_spec_l01Field _) (H rfl) (Af (T1 rfl) rfl rfl <| An) rfl rfl) rfl ?_
 refine st (OpT.not (H rfl) (T1 rfl)) rfl ?_
 refine st (mvT rfl) rfl ?_
 apply AWl.or (d := 18) (t := 14) rfl
 ·
  intro hb1 Q1 k1
  have hb1' := lF hb1
  refine rs hb1 (OpT.loadA (H rfl) (T1 rfl) ag34 sz34) rfl ?_
  refine rs hb1 (OpT.c1 (ms := [.flat]) (c_spec_l01Mask _) (H rfl) (Af (T1 rfl) rfl rfl <| An) rfl rfl) rfl ?_
  refine rs hb1 (OpT.not (H rfl) (T1 rfl)) rfl ?_
  refine st (OpT.pickF (A := .cel _ _) (H rfl) (T1 rfl) hb1 (T1 rfl) rfl) rfl ?_
  exact AWl.to (junk 3 rfl) k1
 ·
  intro hb1 Q1 k1
  refine ps hb1 rfl ?_
  refine ps hb1 rfl ?_
  refine ps hb1 rfl ?_
  refine st (OpT.pickT (A := .cel _ _) (H rfl) (T1 rfl) hb1 Opd.bool rfl) rfl ?_
  exact k1
 refine ng ?_
 refine cd rfl (fun hc1 => ?_) fun hc1 => ?_
 ·
  obtain ⟨hc1, hc1'⟩ := pT hc1
  have hb1 := hc1
  refine sr ?_
  refine st (OpT.buildA (H rfl) ar34 sz32 zr34 zk34 (Built.nil _)) rfl ?_
  refine sk (OpT.storeBA rfl rfl (Opd.whole (Root.self (t := 6) (by decide)) rfl) rfl sz34 (by decide) (T1 rfl)) rfl ?_
  refine st (asI rfl) rfl ?_
  refine st (asI rfl) rfl ?_
  refine ng ?_
  refine AW.ret ?_
  refine rT ?_
  exact AX.rt (rs := [.cell 6 34, .tmp 7, .tmp 8]) (ts := [none, some 7, some 8]) (.inl rfl) rfl (ROs.cons (RO.cellA (by decide) (Kb rfl (by first | (rw [repF_bad hb1]; first | done | rfl) | (rw [repF_msk hb1 rfl (by omega)]; first | done | rfl) | (rw [repF_no hb1 (by omega) (by omega)]; first | done | rfl) | (rw [repF_yes hb1 (by omega) (by omega)]; first | done | rfl))) ag34 sz34) <| ROs.cons (RO.tmp (At.self (by decide)) (Kv rfl (by first | (rw [repF_bad hb1]; first | done | rfl) | (rw [repF_msk hb1 rfl (by omega)]; first | done | rfl) | (rw [repF_no hb1 (by omega) (by omega)]; first | done | rfl) | (rw [repF_yes hb1 (by omega) (by omega)]; first | done | rfl))) rfl) <| ROs.cons (RO.tmp (At.self (by decide)) (Kv rfl (by first | (rw [repF_bad hb1]; first | done | rfl) | (rw [repF_msk hb1 rfl (by omega)]; first | done | rfl) | (rw [repF_no hb1 (by omega) (by omega)]; first | done | rfl) | (rw [repF_yes hb1 (by omega) (by omega)]; first | done | rfl))) rfl) <| ROs.nil) (by decide) OutsOK.nil
 ·
  obtain ⟨hc1, hc1'⟩ := pF hc1
  have hb1 := hc1
  have hfo := repF_field hb1
  refine AW.skip ?_
  refine AX.go ?_
  refine AW.seq ?_
  refine sr ?_
  refine st (mvT rfl) rfl ?_
  refine st (OpT.c1 (ms := [.flat]) (c_spec_l04Masks _) (H rfl) (Af (T1 rfl) rfl rfl <| An) rfl rfl) rfl ?_
  refine st (asT rfl) rfl ?_
  refine ng ?_
  refine sr ?_
  refine st (mvT rfl) rfl ?_
  refine st (OpT.neq (H rfl) (T1 rfl) (I rfl)) rfl ?_
  refine ng ?_
  refine cd rfl (fun hc2 => ?_) fun hc2 => ?_
  ·
   obtain ⟨hc2, hc2'⟩ := pT hc2
   refine sr ?_
   refine st (OpT.buildA (H rfl) ar34 sz32 zr34 zk34 (Built.nil _)) rfl ?_
   refine st (mvT rfl) rfl ?_
   refine sk (OpT.storeBA rfl rfl (Opd.whole (Root.self (t := 6) (by decide)) rfl) rfl sz34 (by decide) (T1 rfl)) rfl ?_
   refine st (asI rfl) rfl ?_
   refine st (asT rfl) rfl ?_
   refine AWl.to (kc2 8 7 rfl <| kb 6 rfl <| kc3 4 3 2 rfl <| Kn) ?_
   refine ng ?_
   refine AW.ret ?_
   refine rT ?_
   exact AX.rt (rs := [.cell 6 34, .tmp 7, .tmp 8]) (ts := [none, some 7, some 8]) (.inl rfl) rfl (ROs.cons (RO.cellA (by decide) (Kb rfl (by first | (rw [repF_bad hb1]; first | done | rfl) | (rw [repF_msk hb1 rfl (by omega)]; first | done | rfl) | (rw [repF_no hb1 (by omega) (by omega)]; first | done | rfl) | (rw [repF_yes hb1 (by omega) (by omega)]; first | done | rfl))) ag34 sz34) <| ROs.cons (RO.tmp (At.self (by decide)) (Kv rfl (by first | (rw [repF_bad hb1]; first | done | rfl) | (rw [repF_msk hb1 rfl (by omega)]; first | done | rfl) | (rw [repF_no hb1 (by omega) (by omega)]; first | done | rfl) | (rw [repF_yes hb1 (by omega) (by omega)]; first | done | rfl))) rfl) <| ROs.cons (RO.tmp (At.self (by decide)) (Kv rfl (by first | (rw [repF_bad hb1]; first | done | rfl) | (rw [repF_msk hb1 rfl (by omega)]; first | done | rfl) | (rw [repF_no hb1 (by omega) (by omega)]; first | done | rfl) | (rw [repF_yes hb1 (by omega) (by omega)]; first | done | rfl))) rfl) <| ROs.nil) (by decide) OutsOK.nil
  ·
   obtain ⟨hc2, hc2'⟩ := pF hc2
   refine AW.skip ?_
   refine AX.pr (kc2 8 7 rfl <| kb 6 rfl <| kc3 4 3 2 rfl <| Kn) ?_
   refine AX.go ?_
   refine sr ?_
   refine st (OpT.loadA (H rfl) (T1 rfl) ag34 sz34) rfl ?_
   refine st (mvT rfl) rfl ?_
   refine s2 (OpT.c2 (ms := [.flat, .flat, .flat]) (c_spec_l04Repair _ _ _ hfo (by have := msk_len (x := x) (by omega); omega)) (H rfl) (Af (T1 rfl) rfl rfl <| Af (T1 rfl) rfl rfl <| Af (T1 rfl) rfl rfl <| An) rfl rfl rfl) rfl ?_
   refine st (OpT.alias (H rfl) (by decide) (by decide)) rfl ?_
   refine st (OpT.extractV (m := 10029) (H rfl) rfl rfl rfl rfl rfl rfl rfl) rfl ?_
   refine st (OpT.extractV (m := 20029) (H rfl) rfl rfl rfl rfl rfl rfl rfl) rfl ?_
   refine st (OpT.alloc (H rfl) zr34 zk34) rfl ?_
   refine sk (OpT.storeBA rfl rfl (Opd.whole (Root.self (t := 10) (by decide)) rfl) rfl sz34 (by decide) (T1 rfl)) rfl ?_
   refine st (asT rfl) rfl ?_
   refine AWl.to (kc 11 rfl <| kb 10 rfl <| kc2 8 7 rfl <| kb 6 rfl <| Kn) ?_
   refine ng ?_
   refine AW.seq ?_
   refine sr ?_
   refine st (mvT rfl) rfl ?_
   refine st (OpT.lss (H rfl) (T1 rfl) (I rfl)) rfl ?_
   refine ng ?_
   refine cd rfl (fun hc3 => ?_) fun hc3 => ?_
   ·
    obtain ⟨hc3, hc3'⟩ := pT hc3
    refine sr ?_
    refine st (OpT.buildA (H rfl) ar34 sz32 zr34 zk34 (Built.nil _)) rfl ?_
    refine sk (OpT.storeBA rfl rfl (Opd.whole (Root.self (t := 6) (by decide)) rfl) rfl sz34 (by decide) (T1 rfl)) rfl ?_
    refine st (asI rfl) rfl ?_
    refine st (asI rfl) rfl ?_
    refine ng ?_
    refine AW.ret ?_
    refine rT ?_
    exact AX.rt (rs := [.cell 6 34, .tmp 7, .tmp 8]) (ts := [none, some 7, some 8]) (.inl rfl) rfl (ROs.cons (RO.cellA (by decide) (Kb rfl (by first | (rw [repF_bad hb1]; first | done | rfl) | (rw [repF_msk hb1 rfl (by omega)]; first | done | rfl) | (rw [repF_no hb1 (by omega) (by omega)]; first | done | rfl) | (rw [repF_yes hb1 (by omega) (by omega)]; first | done | rfl))) ag34 sz34) <| ROs.cons (RO.tmp (At.self (by decide)) (Kv rfl (by first | (rw [repF_bad hb1]; first | done | rfl) | (rw [repF_msk hb1 rfl (by omega)]; first | done | rfl) | (rw [repF_no hb1 (by omega) (by omega)]; first | done | rfl) | (rw [repF_yes hb1 (by omega) (by omega)]; first | done | rfl))) rfl) <| ROs.cons (RO.tmp (At.self (by decide)) (Kv rfl (by first | (rw [repF_bad hb1]; first | done | rfl) | (rw [repF_msk hb1 rfl (by omega)]; first | done | rfl) | (rw [repF_no hb1 (by omega) (by omega)]; first | done | rfl) | (rw [repF_yes hb1 (by omega) (by omega)]; first | done | rfl))) rfl) <| ROs.nil) (by decide) OutsOK.nil
   ·
    obtain ⟨hc3, hc3'⟩ := pF hc3
    refine AW.skip ?_
    refine AX.go ?_
    refine sr ?_
    refine st (OpT.loadB (H rfl) (Root.self (t := 10) (by decide)) rfl ag34 sz34) rfl ?_
    refine st (mvT rfl) rfl ?_
    refine sk (OpT.storeBA rfl rfl (Opd.whole (Root.self (t := 6) (by decide)) rfl) rfl sz34 (by decide) (T1 rfl)) rfl ?_
    refine st (asT rfl) rfl ?_
    refine st (asI rfl) rfl ?_
    refine ng ?_
    refine AW.ret ?_
    exact AX.rt (rs := [.cell 6 34, .tmp 7, .tmp 8]) (ts := [none, some 7, some 8]) (.inl rfl) rfl (ROs.cons (RO.cellA (by decide) (Kb rfl (by first | (rw [repF_bad hb1]; first | done | rfl) | (rw [repF_msk hb1 rfl (by omega)]; first | done | rfl) | (rw [repF_no hb1 (by omega) (by omega)]; first | done | rfl) | (rw [repF_yes hb1 (by omega) (by omega)]; first | done | rfl))) ag34 sz34) <| ROs.cons (RO.tmp (At.self (by decide)) (Kv rfl (by first | (rw [repF_bad hb1]; first | done | rfl) | (rw [repF_msk hb1 rfl (by omega)]; first | done | rfl) | (rw [repF_no hb1 (by omega) (by omega)]; first | done | rfl) | (rw [repF_yes hb1 (by omega) (by omega)]; first | done | rfl))) rfl) <| ROs.cons (RO.tmp (At.self (by decide)) (Kv rfl (by first | (rw [repF_bad hb1]; first | done | rfl) | (rw [repF_msk hb1 rfl (by omega)]; first | done | rfl) | (rw [repF_no hb1 (by omega) (by omega)]; first | done | rfl) | (rw [repF_yes hb1 (by omega) (by omega)]; first | done | rfl))) rfl) <| ROs.nil) (by decide) OutsOK.nil

/-- impl.RepairField -/
theorem c_impl_RepairField (f : DField) (m : DMask) (x : List DMask) : AC Tryz.prog 18 [.agg kField f, .agg kMask m, .cel (Kd.slice kMask) x] [.agg kMask (repFS f m x).1, .cel (Kd.int .i64) (repFS f m x).2.1, .cel (Kd.int .i64) (repFS f m x).2.2] [] := by
 refine acI (N := 41) Tryz.func18 (Nat.le_of_ble_eq_true rfl) rfl fun w0 hd s0 ar => ?_
 refine AW.to (ka 0 rfl <| ka 1 rfl <| kc 2 rfl <| Kn) ?_
 refine AW.fact (fun a w hr => (ok_slice (R_ok (t := 2) rfl hr)).2) (fun hl2 => ?_)
 refine sr ?_
 refine st (OpT.frz (OpT.boxA (E := 52) (H rfl) (T1 rfl))) rfl ?_
 refine st (OpT.frz (OpT.boxA (E := 34) (H rfl) (T1 rfl))) rfl ?_
 refine st (OpT.alloc (H rfl) zr34 zk34) rfl ?_
 refine st (asI rfl) rfl ?_
 refine st (asI rfl) rfl ?_
 refine ng ?_
 refine AW.seq ?_
 refine sr ?_
 refine st (OpT.loadA (H rfl) (T1 rfl) ag52 sz52) rfl ?_
 refine st (OpT.c1 (ms := [.flat]) (c_impl_isField _) (H rfl) (Af (T1 rfl) rfl rfl <| An) rfl rfl) rfl ?_
 refine st (OpT.not (H rfl) (T1 rfl)) rfl ?_
 refine st (mvT rfl) rfl ?_
 apply AWl.or (d := 18) (t := 14) rfl
 ·
  intro hb1 Q1 k1
  have hb1' := lF hb1
  refine rs hb1 (OpT.loadA (H rfl) (T1 rfl) ag34 sz34) rfl ?_
  refine rs hb1 (OpT.c1 (ms := [.flat]) (c_impl_isMask _) (H rfl) (Af (T1 rfl) rfl rfl <| An) rfl rfl) rfl ?_
  refine rs hb1 (OpT.not (H rfl) (T1 rfl)) rfl ?_
  refine st (OpT.pickF (A := .cel _ _) (H rfl) (T1 rfl) hb1 (T1 rfl) rfl) rfl ?_
  exact AWl.to (junk 3 rfl) k1
 ·
  intro hb1 Q1 k1
  refine ps hb1 rfl ?_
  refine ps hb1 rfl ?_
  refine ps hb1 rfl ?_
  refine st (OpT.pickT (A := .cel _ _) (H rfl) (T1 rfl) hb1 Opd.bool rfl) rfl ?_
  exact k1
 refine st (mvT rfl) rfl ?_
 apply AWl.or (d := 23) (t := 19) rfl
 ·
  intro hb2 Q1 k1
  have hb2' := lF hb2
  refine rs hb2 (mvT rfl) rfl ?_
  refine rs hb2 (OpT.c1 (ms := [.flat]) (c_impl_areMasks _) (H rfl) (Af (T1 rfl) rfl rfl <| An) rfl rfl) rfl ?_
  refine rs hb2 (OpT.not (H rfl) (T1 rfl)) rfl ?_
  refine st (OpT.pickF (A := .cel _ _) (H rfl) (T1 rfl) hb2 (T1 rfl) rfl) rfl ?_
  exact AWl.to (junk 3 rfl) k1
 ·
  intro hb2 Q1 k1
  refine ps hb2 rfl ?_
  refine ps hb2 rfl ?_
  refine ps hb2 rfl ?_
  refine st (OpT.pickT (A := .cel _ _) (H rfl) (T1 rfl) hb2 Opd.bool rfl) rfl ?_
  exact k1
 refine ng ?_
 refine cd rfl (fun hc1 => ?_) fun hc1 => ?_
 ·
  obtain ⟨hc1, hc1'⟩ := pT hc1
  have hb0 := repF_one (f := f) (m := m) (x := x) hc1
  refine sr ?_
  refine st (OpT.buildA (H rfl) ar34 sz32 zr34 zk34 (Built.nil _)) rfl ?_
  refine sk (OpT.storeBA rfl rfl (Opd.whole (Root.self (t := 6) (by decide)) rfl) rfl sz34 (by decide) (T1 rfl)) rfl ?_
  refine st (asI rfl) rfl ?_
  refine st (asI rfl) rfl ?_
  refine AWl.to (kc2 8 7 rfl <| kb 6 rfl <| kc3 4 3 2 rfl <| Kn) ?_
  refine ng ?_
  refine AW.ret ?_
  refine rT ?_
  exact AX.rt (rs := [.cell 6 34, .tmp 7, .tmp 8]) (ts := [none, some 7, some 8]) (.inl rfl) rfl (ROs.cons (RO.cellA (by decide) (Kb rfl (by first | (rw [hb0]; first | done | rfl) | (rw [repF_msk hb1.1 he2 (by omega)]; first | done | rfl) | (rw [repF_no hb1.1 he0 (by omega)]; first | done | rfl) | (rw [repF_yes hb1.1 he0 (by omega)]; first | done | rfl))) ag34 sz34) <| ROs.cons (RO.tmp (At.self (by decide)) (Kv rfl (by first | (rw [hb0]; first | done | rfl) | (rw [repF_msk hb1.1 he2 (by omega)]; first | done | rfl) | (rw [repF_no hb1.1 he0 (by omega)]; first | done | rfl) | (rw [repF_yes hb1.1 he0 (by omega)]; first | done | rfl))) rfl) <| ROs.cons (RO.tmp (At.self (by decide)) (Kv rfl (by first | (rw [hb0]; first | done | rfl) | (rw [repF_msk hb1.1 he2 (by omega)]; first | done | rfl) | (rw [repF_no hb1.1 he0 (by omega)]; first | done | rfl) | (rw [repF_yes hb1.1 he0 (by omega)]; first | done | rfl))) rfl) <| ROs.nil) (by decide) OutsOK.nil
 ·
  obtain ⟨hc1, hc1'⟩ := pF hc1
  have hb1 := repF_parts (f := f) (m := m) (x := x) hc1
  have hfo := hb1.2.1
  refine AW.skip ?_
  refine AX.go ?_
  refine AW.seq ?_
  refine sr ?_
  refine st (mvT rfl) rfl ?_
  refine st (OpT.len (H rfl) (T1 rfl) el55) rfl ?_
  refine st (OpT.gtr (H rfl) (T1 rfl) (I rfl)) rfl ?_
  refine AWl.to (kc3 27 8 7 rfl <| kb 6 rfl <| kc3 4 3 2 rfl <| Kn) ?_
  refine ng ?_
  refine cd rfl (fun hc2 => ?_) fun hc2 => ?_
  ·
   obtain ⟨hc2, hc2'⟩ := pT hc2
   have he2 := msk_two hb1.2.2 (by omega)
   refine sr ?_
   refine st (OpT.buildA (H rfl) ar34 sz32 zr34 zk34 (Built.nil _)) rfl ?_
   refine sk (OpT.storeBA rfl rfl (Opd.whole (Root.self (t := 6) (by decide)) rfl) rfl sz34 (by decide) (T1 rfl)) rfl ?_
   refine st (asI rfl) rfl ?_
   refine st (asI rfl) rfl ?_
   refine ng ?_
   refine AW.ret ?_
   refine rT ?_
   exact AX.rt (rs := [.cell 6 34, .tmp 7, .tmp 8]) (ts := [none, some 7, some 8]) (.inl rfl) rfl (ROs.cons (RO.cellA (by decide) (Kb rfl (by first | (rw [hb0]; first | done | rfl) | (rw [repF_msk hb1.1 he2 (by omega)]; first | done | rfl) | (rw [repF_no hb1.1 he0 (by omega)]; first | done | rfl) | (rw [repF_yes hb1.1 he0 (by omega)]; first | done | rfl))) ag34 sz34) <| ROs.cons (RO.tmp (At.self (by decide)) (Kv rfl (by first | (rw [hb0]; first | done | rfl) | (rw [repF_msk hb1.1 he2 (by omega)]; first | done | rfl) | (rw [repF_no hb1.1 he0 (by omega)]; first | done | rfl) | (rw [repF_yes hb1.1 he0 (by omega)]; first | done | rfl))) rfl) <| ROs.cons (RO.tmp (At.self (by decide)) (Kv rfl (by first | (rw [hb0]; first | done | rfl) | (rw [repF_msk hb1.1 he2 (by omega)]; first | done | rfl) | (rw [repF_no hb1.1 he0 (by omega)]; first | done | rfl) | (rw [repF_yes hb1.1 he0 (by omega)]; first | done | rfl))) rfl) <| ROs.nil) (by decide) OutsOK.nil
  ·
   obtain ⟨hc2, hc2'⟩ := pF hc2
   have he0 := msk_zero hb1.2.2 (by omega)
   refine AW.skip ?_
   refine AX.go ?_
   refine sr ?_
   refine st (OpT.loadA (H rfl) (T1 rfl) ag52 sz52) rfl ?_
   refine st (OpT.loadA (H rfl) (T1 rfl) ag34 sz34) rfl ?_
   refine st (mvT rfl) rfl ?_
   refine s2 (OpT.c2 (ms := [.flat, .flat, .flat]) (c_impl_Field_repaired _ _ _ hfo (by omega)) (H rfl) (Af (T1 rfl) rfl rfl <| Af (T1 rfl) rfl rfl <| Af (T1 rfl) rfl rfl <| An) rfl rfl rfl) rfl ?_
   refine st (OpT.alias (H rfl) (by decide) (by decide)) rfl ?_
   refine st (OpT.extractV (m := 10033) (H rfl) rfl rfl rfl rfl rfl rfl rfl) rfl ?_
   refine st (OpT.extractV (m := 20033) (H rfl) rfl rfl rfl rfl rfl rfl rfl) rfl ?_
   refine st (OpT.alloc (H rfl) zr34 zk34) rfl ?_
   refine sk (OpT.storeBA rfl rfl (Opd.whole (Root.self (t := 9) (by decide)) rfl) rfl sz34 (by decide) (T1 rfl)) rfl ?_
   refine st (asT rfl) rfl ?_
   refine AWl.to (kc 10 rfl <| kb 9 rfl <| kc2 8 7 rfl <| kb 6 rfl <| Kn) ?_
   refine ng ?_
   refine AW.seq ?_
   refine sr ?_
   refine st (mvT rfl) rfl ?_
   refine st (OpT.lss (H rfl) (T1 rfl) (I rfl)) rfl ?_
   refine ng ?_
   refine cd rfl (fun hc3 => ?_) fun hc3 => ?_
   ·
    obtain ⟨hc3, hc3'⟩ := pT hc3
    refine sr ?_
    refine st (OpT.buildA (H rfl) ar34 sz32 zr34 zk34 (Built.nil _)) rfl ?_
    refine sk (OpT.storeBA rfl rfl (Opd.whole (Root.self (t := 6) (by decide)) rfl) rfl sz34 (by decide) (T1 rfl)) rfl ?_
    refine st (asI rfl) rfl ?_
    refine st (asI rfl) rfl ?_
    refine ng ?_
    refine AW.ret ?_
    refine rT ?_
    exact AX.rt (rs := [.cell 6 34, .tmp 7, .tmp 8]) (ts := [none, some 7, some 8]) (.inl rfl) rfl (ROs.cons (RO.cellA (by decide) (Kb rfl (by first | (rw [hb0]; first | done | rfl) | (rw [repF_msk hb1.1 he2 (by omega)]; first | done | rfl) | (rw [repF_no hb1.1 he0 (by omega)]; first | done | rfl) | (rw [repF_yes hb1.1 he0 (by omega)]; first | done | rfl))) ag34 sz34) <| ROs.cons (RO.tmp (At.self (by decide)) (Kv rfl (by first | (rw [hb0]; first | done | rfl) | (rw [repF_msk hb1.1 he2 (by omega)]; first | done | rfl) | (rw [repF_no hb1.1 he0 (by omega)]; first | done | rfl) | (rw [repF_yes hb1.1 he0 (by omega)]; first | done | rfl))) rfl) <| ROs.cons (RO.tmp (At.self (by decide)) (Kv rfl (by first | (rw [hb0]; first | done | rfl) | (rw [repF_msk hb1.1 he2 (by omega)]; first | done | rfl) | (rw [repF_no hb1.1 he0 (by omega)]; first | done | rfl) | (rw [repF_yes hb1.1 he0 (by omega)]; first | done | rfl))) rfl) <| ROs.nil) (by decide) OutsOK.nil
   ·
    obtain ⟨hc3, hc3'⟩ := pF hc3
    refine AW.skip ?_
    refine AX.go ?_
    refine sr ?_
    refine st (OpT.loadB (H rfl) (Root.self (t := 9) (by decide)) rfl ag34 sz34) rfl ?_
    refine st (mvT rfl) rfl ?_
    refine sk (OpT.storeBA rfl rfl (Opd.whole (Root.self (t := 6) (by decide)) rfl) rfl sz34 (by decide) (T1 rfl)) rfl ?_
    refine st (asT rfl) rfl ?_
    refine st (asI rfl) rfl ?_
    refine ng ?_
    refine AW.ret ?_
    exact AX.rt (rs := [.cell 6 34, .tmp 7, .tmp 8]) (ts := [none, some 7, some 8]) (.inl rfl) rfl (ROs.cons (RO.cellA (by decide) (Kb rfl (by first | (rw [hb0]; first | done | rfl) | (rw [repF_msk hb1.1 he2 (by omega)]; first | done | rfl) | (rw [repF_no hb1.1 he0 (by omega)]; first | done | rfl) | (rw [repF_yes hb1.1 he0 (by omega)]; first | done | rfl))) ag34 sz34) <| ROs.cons (RO.tmp (At.self (by decide)) (Kv rfl (by first | (rw [hb0]; first | done | rfl) | (rw [repF_msk hb1.1 he2 (by omega)]; first | done | rfl) | (rw [repF_no hb1.1 he0 (by omega)]; first | done | rfl) | (rw [repF_yes hb1.1 he0 (by omega)]; first | done | rfl))) rfl) <| ROs.cons (RO.tmp (At.self (by decide)) (Kv rfl (by first | (rw [hb0]; first | done | rfl) | (rw [repF_msk hb1.1 he2 (by omega)]; first | done | rfl) | (rw [repF_no hb1.1 he0 (by omega)]; first | done | rfl) | (rw [repF_yes hb1.1 he0 (by omega)]; first | done | rfl))) rfl) <| ROs.nil) (by decide) OutsOK.nil

set_option maxHeartbeats 4000000 in
/-- spec.RepairCard -/
theorem c_spec_RepairCard_o (s : List DField) (e : DCard) (x : List DCard) : AC Tryz.prog 14 [.cel (Kd.slice kField) s, .agg kCard e, .cel (Kd.slice kCard) x] [.agg kCard (repCS s e x).1, .own 2 (Kd.int .i64) (repCS s e x).2.1, .cel (Kd.int .i64) (repCS s e x).2.2] [] := by
 refine acI (N := 74) Tryz.func14 (Nat.le_of_ble_eq_true rfl) rfl fun w0 hd s0 ar => ?_
 refine AW.to (kc 0 rfl <| ka 1 rfl <| kc 2 rfl <| Kn) ?_
 refine AW.fact (fun a w hr => (ok_slice (R_ok (t := 0) rfl hr)).2) (fun hl0 => ?_)
 refine AW.fact (fun a w hr => (ok_slice (R_ok (t := 2) rfl hr)).2) (fun hl2 => ?_)
 refine sr ?_
 refine st (OpT.boxA (E := 36) (H rfl) (T1 rfl)) rfl ?_
 refine st (OpT.alloc (H rfl) zr36 zk36) rfl ?_
 refine st (nilO (E := 2) (Kd.int .i64) rfl (.inl rfl)) rfl ?_
 refine st (asI rfl) rfl ?_
 refine ng ?_
 refine AW.seq ?_
 refine sr ?_
 refine st (mvT rfl) rfl ?_
 refine st (OpT.c1 (ms := [.flat]) (c_spec_l01Scheme _) (H rfl) (Af (T1 rfl) rfl rfl <| An) rfl rfl) rfl ?_
 refine st (OpT.not (H rfl) (T1 rfl)) rfl ?_
 refine st (mvT rfl) rfl ?_
 apply AWl.or (d := 21) (t := 18) rfl
 ·
  intro hb1 Q1 k1
  have hb1' := lF hb1
  refine rs hb1 (cb1 (ms := [.bor 4]) (c_spec_l01Ok _) (H rfl) (Abx (Root.self (t := 4) (by decide)) rfl <| An) rfl (indC fun _ _ _ _ h => h)) rfl ?_
  refine rs hb1 (OpT.not (H rfl) (T1 rfl)) rfl ?_
  refine st (OpT.pickF (A := .cel _ _) (H rfl) (T1 rfl) hb1 (T1 rfl) rfl) rfl ?_
  exact AWl.to (junk 2 rfl) k1
 ·
  intro hb1 Q1 k1
  refine ps hb1 rfl ?_
  refine ps hb1 rfl ?_
  refine st (OpT.pickT (A := .cel _ _) (H rfl) (T1 rfl) hb1 Opd.bool rfl) rfl ?_
  exact k1
 refine st (mvT rfl) rfl ?_
 apply AWl.or (d := 26) (t := 22) rfl
 ·
  intro hb2 Q1 k1
  have hb2' := lF hb2
  refine rs hb2 (mvT rfl) rfl ?_
  refine rs hb2 (OpT.c1 (ms := [.flat]) (c_spec_l04Cards _) (H rfl) (Af (T1 rfl) rfl rfl <| An) rfl rfl) rfl ?_
  refine rs hb2 (OpT.not (H rfl) (T1 rfl)) rfl ?_
  refine st (OpT.pickF (A := .cel _ _) (H rfl) (T1 rfl) hb2 (T1 rfl) rfl) rfl ?_
  exact AWl.to (junk 3 rfl) k1
 ·
  intro hb2 Q1 k1
  refine ps hb2 rfl ?_
  refine ps hb2 rfl ?_
  refine ps hb2 rfl ?_
  refine st (OpT.pickT (A := .cel _ _) (H rfl) (T1 rfl) hb2 Opd.bool rfl) rfl ?_
  exact k1
 refine ng ?_
 refine cd rfl (fun hc1 => ?_) fun hc1 => ?_
 ·
  obtain ⟨hc1, hc1'⟩ := pT hc1
  refine sr ?_
  refine st (OpT.build (H rfl) pl36 zr36 zk36 (Built.nil _)) rfl ?_
  refine st (OpT.buildSlice0 (m := 0) (z := .bool false) (Kd.int .i64) (H rfl) el43 sz2 (by decide)) rfl ?_
  refine sk (OpT.storeBA rfl rfl (Opd.whole (Root.self (t := 6) (by decide)) rfl) rfl sz36 (by decide) (T1 rfl)) rfl ?_
  refine sg (OpT.take (.inl rfl) rfl (ok' rfl) (Root.self (by decide)) rfl rfl (by decide)) (ko 7 rfl <| kb 6 rfl <| ka 27 rfl <| kc4 26 22 21 18 rfl <| kc4 17 16 15 8 rfl <| kb 4 rfl <| kc 0 rfl <| ka 1 rfl <| kc 2 rfl <| Kn) rfl ?_
  refine st (asI rfl) rfl ?_
  refine ng ?_
  refine AW.ret ?_
  refine rT ?_
  exact AX.rt (rs := [.cell 6 36, .tmp 7, .tmp 8]) (ts := [none, some 7, some 8]) (.inl rfl) rfl (ROs.cons (RO.cellA (by decide) (Kb rfl (by first | (rw [repC_bad hc1]; first | done | rfl) | (rw [repC_long hc1 (by omega)]; first | done | rfl) | (rw [repC_ok hc1 (by omega) (z := y) (by omega) (by omega)]; first | done | rfl))) ag36 sz36) <| ROs.cons (RO.tmp (At.self (by decide)) (Ko rfl (by first | (rw [repC_bad hc1]; first | done | rfl) | (rw [repC_long hc1 (by omega)]; first | done | rfl) | (rw [repC_ok hc1 (by omega) (z := y) (by omega) (by omega)]; first | done | rfl))) rfl) <| ROs.cons (RO.tmp (At.self (by decide)) (Kv rfl (by first | (rw [repC_bad hc1]; first | done | rfl) | (rw [repC_long hc1 (by omega)]; first | done | rfl) | (rw [repC_ok hc1 (by omega) (z := y) (by omega) (by omega)]; first | done | rfl))) rfl) <| ROs.nil) (by decide) OutsOK.nil
 ·
  obtain ⟨hc1, hc1'⟩ := pF hc1
  have hcp := repC_parts hc1
  have hsl : s.length ≤ 12 := hcp.1.1
  refine AW.skip ?_
  refine AX.go ?_
  refine AW.seq ?_
  refine sr ?_
  refine st (mvT rfl) rfl ?_
  refine st (OpT.len (H rfl) (T1 rfl) el25) rfl ?_
  refine st (OpT.gtr (H rfl) (T1 rfl) (I rfl)) rfl ?_
  refine ng ?_
  refine cd rfl (fun hc2 => ?_) fun hc2 => ?_
  ·
   obtain ⟨hc2, hc2'⟩ := pT hc2
   refine sr ?_
   refine st (OpT.build (H rfl) pl36 zr36 zk36 (Built.nil _)) rfl ?_
   refine st (OpT.buildSlice0 (m := 0) (z := .bool false) (Kd.int .i64) (H rfl) el43 sz2 (by decide)) rfl ?_
   refine sk (OpT.storeBA rfl rfl (Opd.whole (Root.self (t := 6) (by decide)) rfl) rfl sz36 (by decide) (T1 rfl)) rfl ?_
   refine sg (OpT.take (.inl rfl) rfl (ok' rfl) (Root.self (by decide)) rfl rfl (by decide)) (ko 7 rfl <| kb 6 rfl <| ka 32 rfl <| kc4 31 30 29 26 rfl <| kc4 22 21 18 17 rfl <| kc3 16 15 8 rfl <| kb 4 rfl <| kc 0 rfl <| ka 1 rfl <| kc 2 rfl <| Kn) rfl ?_
   refine st (asI rfl) rfl ?_
   refine AWl.to (kc 8 rfl <| ko 7 rfl <| kb 6 rfl <| kb 4 rfl <| kc2 0 2 rfl <| Kn) ?_
   refine ng ?_
   refine AW.ret ?_
   refine rT ?_
   exact AX.rt (rs := [.cell 6 36, .tmp 7, .tmp 8]) (ts := [none, some 7, some 8]) (.inl rfl) rfl (ROs.cons (RO.cellA (by decide) (Kb rfl (by first | (rw [repC_bad hc1]; first | done | rfl) | (rw [repC_long hc1 (by omega)]; first | done | rfl) | (rw [repC_ok hc1 (by omega) (z := y) (by omega) (by omega)]; first | done | rfl))) ag36 sz36) <| ROs.cons (RO.tmp (At.self (by decide)) (Ko rfl (by first | (rw [repC_bad hc1]; first | done | rfl) | (rw [repC_long hc1 (by omega)]; first | done | rfl) | (rw [repC_ok hc1 (by omega) (z := y) (by omega) (by omega)]; first | done | rfl))) rfl) <| ROs.cons (RO.tmp (At.self (by decide)) (Kv rfl (by first | (rw [repC_bad hc1]; first | done | rfl) | (rw [repC_long hc1 (by omega)]; first | done | rfl) | (rw [repC_ok hc1 (by omega) (z := y) (by omega) (by omega)]; first | done | rfl))) rfl) <| ROs.nil) (by decide) OutsOK.nil
  ·
   obtain ⟨hc2, hc2'⟩ := pF hc2
   refine AW.skip ?_
   refine AX.pr (kc 8 rfl <| ko 7 rfl <| kb 6 rfl <| kb 4 rfl <| kc2 0 2 rfl <| Kn) ?_
   refine AX.go ?_
   refine sr ?_
   refine st (OpT.buildSlice0 (m := 0) (z := .bool false) kMask (H rfl) el55 sz34 (by decide)) rfl ?_
   refine sg (OpT.take (.inl rfl) rfl (ok' rfl) (Root.self (by decide)) rfl rfl (by decide)) (ko 9 rfl <| kc 8 rfl <| ko 7 rfl <| kb 6 rfl <| kb 4 rfl <| kc2 0 2 rfl <| Kn) rfl ?_
   refine ng ?_
   refine AW.seq ?_
   refine sr ?_
   refine st (asI rfl) rfl ?_
   refine ng ?_
   refine AW.block ?_
   refine AW.loop (fun z : Nat => z ≤ x.length) (fun z : Nat => keep [(0, .cel (Kd.slice kField) s), (2, .cel (Kd.slice kCard) x), (4, .box 36 kCard e), (6, .box 36 kCard (ByteArray.empty, (0#64, 0#64))), (9, .own 34 kMask ((x.take z).map (·.2))), (10, .cel (Kd.int .i64) (z : Int))]) (fun z : Nat => x.length - z) (0) (Nat.zero_le _) (Kc 0 _ (Kv rfl rfl) <| Kc 2 _ (Kv rfl rfl) <| Kc 4 _ (Kb rfl rfl) <| Kc 6 _ (Kb rfl rfl) <| Kc 9 _ (Ko rfl rfl) <| Kc 10 _ (Kv rfl rfl) <| Kn) ?_
   intro z hI
   refine AW.seq ?_
   refine sr ?_
   refine st (mvT rfl) rfl ?_
   refine st (mvT rfl) rfl ?_
   refine st (OpT.len (H rfl) (T1 rfl) el25) rfl ?_
   refine st (OpT.lss (H rfl) (T1 rfl) (T1 rfl)) rfl ?_
   refine ng ?_
   refine cd rfl (fun hc3 => ?_) fun hc3 => ?_
   ·
    obtain ⟨hc3, hc3'⟩ := pT hc3
    obtain ⟨a, ha⟩ := getI (x := x) (z := z) (by omega)
    refine AW.skip ?_
    refine AX.go ?_
    refine AW.seq ?_
    refine AW.block ?_
    refine AW.region ?_
    refine st (OpT.alias (H rfl) (by decide) (by decide)) rfl ?_
    refine st (mvT rfl) rfl ?_
    refine st (mvT rfl) rfl ?_
    refine st (OpT.indexAddr (H rfl) (T1 rfl) (T1 rfl) el25 sz36 (by omega) (by assumption)) rfl ?_
    refine st (OpT.fieldAddr (H rfl) (T1 rfl) fd36_1 sz34 (by decide) sb36_1) rfl ?_
    refine st (OpT.loadA (H rfl) (T1 rfl) ag34 sz34) rfl ?_
    refine st (OpT.buildSlice (H rfl) el55 zr34 sz34 rfl (by decide) zk34 (by decide) (Built.agg (T1 rfl) rfl (by decide) (sub_arr (by decide) ((0, 0) : BitVec 64 × BitVec 64)) (Built.nil _))) rfl ?_
    refine sg (OpT.append (H rfl) (Root.ali rfl (by decide) (by decide)) rfl (Src.own (Root.self (t := 47) (by decide)) rfl) (by decide) el55 zr34 rfl sz34 by34 (by decide) (by first | (simp only [List.length_map, List.length_take, List.length_set, List.length_replicate]; omega) | (have h70 := repW_len (s := s) (m := e.2) (x := (x.map (·.2))) (z := y); simp only [List.length_set, List.length_replicate]; omega))) (ko 48 rfl <| ko 47 rfl <| ka 46 rfl <| kc4 45 44 43 42 rfl <| kc4 38 37 36 35 rfl <| kc2 0 2 rfl <| kb 4 rfl <| kb 6 rfl <| kc 10 rfl <| Kn) rfl ?_
    refine sg (OpT.take (.inl rfl) rfl (ok' rfl) (Root.self (by decide)) rfl rfl (by decide)) (ko 9 rfl <| ko 47 rfl <| ka 46 rfl <| kc4 45 44 43 42 rfl <| kc4 38 37 36 35 rfl <| kc2 0 2 rfl <| kb 4 rfl <| kb 6 rfl <| kc 10 rfl <| Kn) rfl ?_
    refine nn ?_
    refine AX.normal_block ?_
    refine AX.go ?_
    refine AW.region ?_
    refine st (mvT rfl) rfl ?_
    refine st (OpT.add (H rfl) (T1 rfl) (I rfl) (nw (by omega))) rfl ?_
    refine st (asT rfl) rfl ?_
    refine nn ?_
    exact AX.again (z + 1) (by omega) (by omega) (Kc 0 _ (Kv rfl rfl) <| Kc 2 _ (Kv rfl rfl) <| Kc 4 _ (Kb rfl rfl) <| Kc 6 _ (Kb rfl rfl) <| Kc 9 _ (Ko rfl (map_more (f := fun d : DCard => d.2) ha)) <| Kc 10 _ (Kv rfl (by omega)) <| Kn)
   ·
    obtain ⟨hc3, hc3'⟩ := pF hc3
    refine AW.exit ?_
    refine AX.freeze (t := 9) rfl ?_
    refine AX.pr (kc4 38 37 36 35 rfl <| kc2 0 2 rfl <| kb 4 rfl <| kb 6 rfl <| kc2 9 10 rfl <| Kn) ?_
    refine xT <| xT <| AX.exit_hit ?_
    refine AX.go ?_
    refine sr ?_
    refine st (OpT.buildSlice0 (m := 0) (z := .bool false) (Kd.int .i64) (H rfl) el43 sz2 (by decide)) rfl ?_
    refine sg (OpT.take (.inl rfl) rfl (ok' rfl) (Root.self (by decide)) rfl rfl (by decide)) (ko 11 rfl <| kc4 38 37 36 35 rfl <| kc2 0 2 rfl <| kb 4 rfl <| kb 6 rfl <| kc2 9 10 rfl <| Kn) rfl ?_
    refine ng ?_
    refine AW.seq ?_
    refine sr ?_
    refine st (asI rfl) rfl ?_
    refine ng ?_
    refine AW.block ?_
    refine AW.loop (fun y : Nat => y ≤ s.length) (fun y : Nat => keep [(0, .cel (Kd.slice kField) s), (4, .box 36 kCard (e.1, repM s e.2 (x.map (·.2)) y)), (6, .box 36 kCard (ByteArray.empty, (0#64, 0#64))), (9, .cel (Kd.slice kMask) (x.map (·.2))), (11, .own 2 (Kd.int .i64) (repW s e.2 (x.map (·.2)) y)), (12, .cel (Kd.int .i64) (y : Int))]) (fun y : Nat => s.length - y) (0) (Nat.zero_le _) (Kc 0 _ (Kv rfl rfl) <| Kc 4 _ (Kb rfl rfl) <| Kc 6 _ (Kb rfl rfl) <| Kc 9 _ (Kv rfl (by rw [List.take_of_length_le (by omega)])) <| Kc 11 _ (Ko rfl rfl) <| Kc 12 _ (Kv rfl rfl) <| Kn) ?_
    intro y hI
    refine AW.seq ?_
    refine sr ?_
    refine st (mvT rfl) rfl ?_
    refine st (mvT rfl) rfl ?_
    refine st (OpT.len (H rfl) (T1 rfl) el24) rfl ?_
    refine st (OpT.lss (H rfl) (T1 rfl) (T1 rfl)) rfl ?_
    refine ng ?_
    refine cd rfl (fun hc4 => ?_) fun hc4 => ?_
    ·
     obtain ⟨hc4, hc4'⟩ := pT hc4
     obtain ⟨f, hf⟩ := getI (x := s) (z := y) (by omega)
     have hfo := sch_field hcp.1 hf
     refine AW.skip ?_
     refine AX.go ?_
     refine AW.seq ?_
     refine AW.block ?_
     refine AW.seq ?_
     refine dh fomo ?_
     refine d1 [0] (fun ve h => OpT.move (A := .cel _ _) (.inl rfl) rfl (ok' rfl) (D1 h rfl) rfl) rfl ?_
     refine d1 [12] (fun ve h => OpT.move (A := .cel _ _) (.inl rfl) rfl (ok' rfl) (D1 h rfl) rfl) rfl ?_
     refine d1 [57, 58] (fun ve h => OpT.indexAddr (H rfl) (D1 h rfl) (D1 h rfl) el24 sz52 (by omega) (by assumption)) rfl ?_
     refine d1 [4] (fun ve h => OpT.fieldAddrB (H rfl) (Root.self (t := 4) (by decide)) ((h _ (List.elem_iff.1 rfl)).trans rfl) (by decide) fd36_1 sz34 (by decide) sb36_1) rfl ?_
     refine d1 [4, 60] (fun ve h => OpT.loadPA (H rfl) (D1 h rfl) (.inl ⟨_, ((h _ (List.elem_iff.1 rfl)).trans rfl), rfl⟩) ag34 sz34) rfl ?_
     refine d1 [9] (fun ve h => OpT.move (A := .cel _ _) (.inl rfl) rfl (ok' rfl) (D1 h rfl) rfl) rfl ?_
     refine d2 [59, 61, 62] (fun ve h => OpT.c2 (ms := [.flat, .flat, .flat]) (c_spec_l04Repair _ _ _ hfo (by rw [List.length_map]; omega)) (H rfl) (Af (D1 h rfl) rfl rfl <| Af (D1 h rfl) rfl rfl <| Af (D1 h rfl) rfl rfl <| An) rfl rfl rfl) rfl ?_
     refine d1 [] (fun ve h => OpT.alias (H rfl) (by decide) (by decide)) rfl ?_
     refine d1 [56, 10063] (fun ve h => OpT.extractV (m := 10063) (H rfl) ((h _ (List.elem_iff.1 rfl)).trans rfl) rfl rfl rfl ((h _ (List.elem_iff.1 rfl)).trans rfl) rfl rfl) rfl ?_
     refine d1 [56, 20063] (fun ve h => OpT.extractV (m := 20063) (H rfl) ((h _ (List.elem_iff.1 rfl)).trans rfl) rfl rfl rfl ((h _ (List.elem_iff.1 rfl)).trans rfl) rfl rfl) rfl ?_
     refine d1 [] (fun ve h => OpT.alloc (H rfl) zr34 zk34) rfl ?_
     refine dm (t := 13) [13, 64] (fun ve h => OpT.storeBA rfl rfl (Opd.whole (Root.self (t := 13) (by decide)) ((h _ (List.elem_iff.1 rfl)).trans rfl)) ((h _ (List.elem_iff.1 rfl)).trans rfl) sz34 (by decide) (D1 h rfl)) rfl ?_
     refine d1 [65] (fun ve h => OpT.move (A := .cel _ _) (.inr rfl) rfl (ok' rfl) (D1 h rfl) rfl) rfl ?_
     refine dn ⟨by kernel_rfl, by kernel_rfl, ?_⟩
     refine AX.go ?_
     refine sr ?_
     refine st (OpT.loadB (H rfl) (Root.self (t := 13) (by decide)) rfl ag34 sz34) rfl ?_
     refine st (OpT.fieldAddrB (H rfl) (Root.self (t := 4) (by decide)) rfl (by decide) fd36_1 sz34 (by decide) sb36_1) rfl ?_
     refine sk (OpT.storeBA rfl rfl (T1 rfl) rfl sz34 (by decide) (T1 rfl)) rfl ?_
     refine ng ?_
     refine AW.region ?_
     refine st (OpT.alias (H rfl) (by decide) (by decide)) rfl ?_
     refine st (mvT rfl) rfl ?_
     refine st (OpT.buildSlice (H rfl) el43 zr2 sz2 rfl (by decide) zk2 (by decide) (Built.cel (T1 rfl) rfl rfl (sub_arr (by decide) (0 : Int)) (Built.nil _))) rfl ?_
     refine sg (OpT.append (H rfl) (Root.ali rfl (by decide) (by decide)) rfl (Src.own (Root.self (t := 70) (by decide)) rfl) (by decide) el43 zr2 rfl sz2 by2 (by decide) (by first | (simp only [List.length_map, List.length_take, List.length_set, List.length_replicate]; omega) | (have h70 := repW_len (s := s) (m := e.2) (x := (x.map (·.2))) (z := y); simp only [List.length_set, List.length_replicate]; omega))) (ko 71 rfl <| ko 70 rfl <| kc 69 rfl <| kb 4 rfl <| Kc 67 (.pel _ _ _ _ _ _ _) rfl <| ka 66 rfl <| kc 14 rfl <| kb 13 rfl <| kc 65 rfl <| ka 64 rfl <| Kc 56 (.ali _) rfl <| ka 10063 rfl <| kc2 20063 62 rfl <| ka 61 rfl <| Kc 60 (.pel _ _ _ _ _ _ _) rfl <| kc4 59 58 57 53 rfl <| kc4 52 51 50 0 rfl <| kb 6 rfl <| kc2 9 12 rfl <| Kn) rfl ?_
     refine sg (OpT.take (.inl rfl) rfl (ok' rfl) (Root.self (by decide)) rfl rfl (by decide)) (ko 11 rfl <| ko 70 rfl <| kc 69 rfl <| kb 4 rfl <| Kc 67 (.pel _ _ _ _ _ _ _) rfl <| ka 66 rfl <| kc 14 rfl <| kb 13 rfl <| kc 65 rfl <| ka 64 rfl <| Kc 56 (.ali _) rfl <| ka 10063 rfl <| kc2 20063 62 rfl <| ka 61 rfl <| Kc 60 (.pel _ _ _ _ _ _ _) rfl <| kc4 59 58 57 53 rfl <| kc4 52 51 50 0 rfl <| kb 6 rfl <| kc2 9 12 rfl <| Kn) rfl ?_
     refine nn ?_
     refine AX.normal_block ?_
     refine AX.go ?_
     refine AW.region ?_
     refine st (mvT rfl) rfl ?_
     refine st (OpT.add (H rfl) (T1 rfl) (I rfl) (nw (by omega))) rfl ?_
     refine st (asT rfl) rfl ?_
     refine nn ?_
     exact AX.again (y + 1) (by omega) (by omega) (Kc 0 _ (Kv rfl rfl) <| Kc 4 _ (Kb rfl (by rw [← repM_next hf])) <| Kc 6 _ (Kb rfl rfl) <| Kc 9 _ (Kv rfl rfl) <| Kc 11 _ (Ko rfl (repW_next hf)) <| Kc 12 _ (Kv rfl (by omega)) <| Kn)
    ·
     obtain ⟨hc4, hc4'⟩ := pF hc4
     refine AW.exit ?_
     refine xT <| xT <| AX.exit_hit ?_
     refine AX.go ?_
     refine sr ?_
     refine st (OpT.loadB (H rfl) (Root.self (t := 4) (by decide)) rfl ag36 sz36) rfl ?_
     refine st (OpT.alias (H rfl) (by decide) (by decide)) rfl ?_
     refine sk (OpT.storeBA rfl rfl (Opd.whole (Root.self (t := 6) (by decide)) rfl) rfl sz36 (by decide) (T1 rfl)) rfl ?_
     refine sg (OpT.take (.inl rfl) rfl (ok' rfl) (Root.ali rfl (by decide) (by decide)) rfl rfl (by decide)) (ko 7 rfl <| kb 6 rfl <| ka 72 rfl <| kc4 53 52 51 50 rfl <| kc 0 rfl <| kb 4 rfl <| kc2 9 12 rfl <| Kn) rfl ?_
     refine st (asI rfl) rfl ?_
     refine ng ?_
     refine AW.ret ?_
     exact AX.rt (rs := [.cell 6 36, .tmp 7, .tmp 8]) (ts := [none, some 7, some 8]) (.inl rfl) rfl (ROs.cons (RO.cellA (by decide) (Kb rfl (by first | (rw [repC_bad hc1]; first | done | rfl) | (rw [repC_long hc1 (by omega)]; first | done | rfl) | (rw [repC_ok hc1 (by omega) (z := y) (by omega) (by omega)]; first | done | rfl))) ag36 sz36) <| ROs.cons (RO.tmp (At.self (by decide)) (Ko rfl (by first | (rw [repC_bad hc1]; first | done | rfl) | (rw [repC_long hc1 (by omega)]; first | done | rfl) | (rw [repC_ok hc1 (by omega) (z := y) (by omega) (by omega)]; first | done | rfl))) rfl) <| ROs.cons (RO.tmp (At.self (by decide)) (Kv rfl (by first | (rw [repC_bad hc1]; first | done | rfl) | (rw [repC_long hc1 (by omega)]; first | done | rfl) | (rw [repC_ok hc1 (by omega) (z := y) (by omega) (by omega)]; first | done | rfl))) rfl) <| ROs.nil) (by decide) OutsOK.nil
theorem c_spec_RepairCard (s : List DField) (e : DCard) (x : List DCard) : AC Tryz.prog 14 [.cel (Kd.slice kField) s, .agg kCard e, .cel (Kd.slice kCard) x] [.agg kCard (repCS s e x).1, .cel (Kd.slice (Kd.int .i64)) (repCS s e x).2.1, .cel (Kd.int .i64) (repCS s e x).2.2] [] := (c_spec_RepairCard_o s e x).frz rfl

set_option maxHeartbeats 4000000 in
/-- impl.RepairCard -/
theorem c_impl_RepairCard_o (s : List DField) (e : DCard) (x : List DCard) : AC Tryz.prog 13 [.cel (Kd.slice kField) s, .agg kCard e, .cel (Kd.slice kCard) x] [.agg kCard (repCS s e x).1, .own 2 (Kd.int .i64) (repCS s e x).2.1, .cel (Kd.int .i64) (repCS s e x).2.2] [] := by
 refine acI (N := 72) Tryz.func13 (Nat.le_of_ble_eq_true rfl) rfl fun w0 hd s0 ar => ?_
 refine AW.to (kc 0 rfl <| ka 1 rfl <| kc 2 rfl <| Kn) ?_
 refine AW.fact (fun a w hr => (ok_slice (R_ok (t := 0) rfl hr)).2) (fun hl0 => ?_)
 refine AW.fact (fun a w hr => (ok_slice (R_ok (t := 2) rfl hr)).2) (fun hl2 => ?_)
 refine sr ?_
 refine st (OpT.boxA (E := 36) (H rfl) (T1 rfl)) rfl ?_
 refine st (OpT.alloc (H rfl) zr36 zk36) rfl ?_
 refine st (nilO (E := 2) (Kd.int .i64) rfl (.inl rfl)) rfl ?_
 refine st (asI rfl) rfl ?_
 refine ng ?_
 refine AW.seq ?_
 refine sr ?_
 refine st (mvT rfl) rfl ?_
 refine st (OpT.c1 (ms := [.flat]) (c_impl_isScheme _) (H rfl) (Af (T1 rfl) rfl rfl <| An) rfl rfl) rfl ?_
 refine st (OpT.not (H rfl) (T1 rfl)) rfl ?_
 refine st (mvT rfl) rfl ?_
 apply AWl.or (d := 24) (t := 20) rfl
 ·
  intro hb1 Q1 k1
  have hb1' := lF hb1
  refine rs hb1 (OpT.loadB (H rfl) (Root.self (t := 4) (by decide)) rfl ag36 sz36) rfl ?_
  refine rs hb1 (OpT.c1 (ms := [.flat]) (c_impl_isCard _) (H rfl) (Af (T1 rfl) rfl rfl <| An) rfl rfl) rfl ?_
  refine rs hb1 (OpT.not (H rfl) (T1 rfl)) rfl ?_
  refine st (OpT.pickF (A := .cel _ _) (H rfl) (T1 rfl) hb1 (T1 rfl) rfl) rfl ?_
  exact AWl.to (junk 3 rfl) k1
 ·
  intro hb1 Q1 k1
  refine ps hb1 rfl ?_
  refine ps hb1 rfl ?_
  refine ps hb1 rfl ?_
  refine st (OpT.pickT (A := .cel _ _) (H rfl) (T1 rfl) hb1 Opd.bool rfl) rfl ?_
  exact k1
 refine st (mvT rfl) rfl ?_
 apply AWl.or (d := 29) (t := 25) rfl
 ·
  intro hb2 Q1 k1
  have hb2' := lF hb2
  refine rs hb2 (mvT rfl) rfl ?_
  refine rs hb2 (OpT.c1 (ms := [.flat]) (c_impl_areCards _) (H rfl) (Af (T1 rfl) rfl rfl <| An) rfl rfl) rfl ?_
  refine rs hb2 (OpT.not (H rfl) (T1 rfl)) rfl ?_
  refine st (OpT.pickF (A := .cel _ _) (H rfl) (T1 rfl) hb2 (T1 rfl) rfl) rfl ?_
  exact AWl.to (junk 3 rfl) k1
 ·
  intro hb2 Q1 k1
  refine ps hb2 rfl ?_
  refine ps hb2 rfl ?_
  refine ps hb2 rfl ?_
  refine st (OpT.pickT (A := .cel _ _) (H rfl) (T1 rfl) hb2 Opd.bool rfl) rfl ?_
  exact k1
 refine ng ?_
 refine cd rfl (fun hc1 => ?_) fun hc1 => ?_
 ·
  obtain ⟨hc1, hc1'⟩ := pT hc1
  refine sr ?_
  refine st (OpT.build (H rfl) pl36 zr36 zk36 (Built.nil _)) rfl ?_
  refine sk (OpT.storeBA rfl rfl (Opd.whole (Root.self (t := 6) (by decide)) rfl) rfl sz36 (by decide) (T1 rfl)) rfl ?_
  refine st (nilO (E := 2) (Kd.int .i64) rfl (.inl rfl)) rfl ?_
  refine st (asI rfl) rfl ?_
  refine AWl.to (kc 8 rfl <| ko 7 rfl <| kb 6 rfl <| kb 4 rfl <| kc2 0 2 rfl <| Kn) ?_
  refine ng ?_
  refine AW.ret ?_
  refine rT ?_
  exact AX.rt (rs := [.cell 6 36, .tmp 7, .tmp 8]) (ts := [none, some 7, some 8]) (.inl rfl) rfl (ROs.cons (RO.cellA (by decide) (Kb rfl (by first | (rw [repC_bad hc1]; first | done | rfl) | (rw [repC_long hc1 (by omega)]; first | done | rfl) | (rw [repC_ok hc1 (by omega) (z := y) (by omega) (by omega)]; first | done | rfl))) ag36 sz36) <| ROs.cons (RO.tmp (At.self (by decide)) (Ko rfl (by first | (rw [repC_bad hc1]; first | done | rfl) | (rw [repC_long hc1 (by omega)]; first | done | rfl) | (rw [repC_ok hc1 (by omega) (z := y) (by omega) (by omega)]; first | done | rfl))) rfl) <| ROs.cons (RO.tmp (At.self (by decide)) (Kv rfl (by first | (rw [repC_bad hc1]; first | done | rfl) | (rw [repC_long hc1 (by omega)]; first | done | rfl) | (rw [repC_ok hc1 (by omega) (z := y) (by omega) (by omega)]; first | done | rfl))) rfl) <| ROs.nil) (by decide) OutsOK.nil
 ·
  obtain ⟨hc1, hc1'⟩ := pF hc1
  have hcp := repC_parts hc1
  have hsl : s.length ≤ 12 := hcp.1.1
  refine AW.skip ?_
  refine AX.go ?_
  refine AW.seq ?_
  refine sr ?_
  refine st (mvT rfl) rfl ?_
  refine st (OpT.len (H rfl) (T1 rfl) el25) rfl ?_
  refine st (OpT.gtr (H rfl) (T1 rfl) (I rfl)) rfl ?_
  refine ng ?_
  refine cd rfl (fun hc2 => ?_) fun hc2 => ?_
  ·
   obtain ⟨hc2, hc2'⟩ := pT hc2
   refine sr ?_
   refine st (OpT.build (H rfl) pl36 zr36 zk36 (Built.nil _)) rfl ?_
   refine sk (OpT.storeBA rfl rfl (Opd.whole (Root.self (t := 6) (by decide)) rfl) rfl sz36 (by decide) (T1 rfl)) rfl ?_
   refine st (nilO (E := 2) (Kd.int .i64) rfl (.inl rfl)) rfl ?_
   refine st (asI rfl) rfl ?_
   refine AWl.to (kc 8 rfl <| ko 7 rfl <| kb 6 rfl <| kb 4 rfl <| kc2 0 2 rfl <| Kn) ?_
   refine ng ?_
   refine AW.ret ?_
   refine rT ?_
   exact AX.rt (rs := [.cell 6 36, .tmp 7, .tmp 8]) (ts := [none, some 7, some 8]) (.inl rfl) rfl (ROs.cons (RO.cellA (by decide) (Kb rfl (by first | (rw [repC_bad hc1]; first | done | rfl) | (rw [repC_long hc1 (by omega)]; first | done | rfl) | (rw [repC_ok hc1 (by omega) (z := y) (by omega) (by omega)]; first | done | rfl))) ag36 sz36) <| ROs.cons (RO.tmp (At.self (by decide)) (Ko rfl (by first | (rw [repC_bad hc1]; first | done | rfl) | (rw [repC_long hc1 (by omega)]; first | done | rfl) | (rw [repC_ok hc1 (by omega) (z := y) (by omega) (by omega)]; first | done | rfl))) rfl) <| ROs.cons (RO.tmp (At.self (by decide)) (Kv rfl (by first | (rw [repC_bad hc1]; first | done | rfl) | (rw [repC_long hc1 (by omega)]; first | done | rfl) | (rw [repC_ok hc1 (by omega) (z := y) (by omega) (by omega)]; first | done | rfl))) rfl) <| ROs.nil) (by decide) OutsOK.nil
  ·
   obtain ⟨hc2, hc2'⟩ := pF hc2
   refine AW.skip ?_
   refine AX.pr (kc 8 rfl <| ko 7 rfl <| kb 6 rfl <| kb 4 rfl <| kc2 0 2 rfl <| Kn) ?_
   refine AX.go ?_
   refine sr ?_
   refine st (OpT.buildSlice0 (m := 0) (z := .bool false) kMask (H rfl) el55 sz34 (by decide)) rfl ?_
   refine sg (OpT.take (.inl rfl) rfl (ok' rfl) (Root.self (by decide)) rfl rfl (by decide)) (ko 9 rfl <| kc 8 rfl <| ko 7 rfl <| kb 6 rfl <| kb 4 rfl <| kc2 0 2 rfl <| Kn) rfl ?_
   refine ng ?_
   refine AW.seq ?_
   refine sr ?_
   refine st (mvT rfl) rfl ?_
   refine st (OpT.len (H rfl) (T1 rfl) el25) rfl ?_
   refine st (mvI rfl) rfl ?_
   refine ng ?_
   refine AW.block ?_
   refine AW.loop (fun z : Nat => z ≤ x.length) (fun z : Nat => keep [(0, .cel (Kd.slice kField) s), (4, .box 36 kCard e), (6, .box 36 kCard (ByteArray.empty, (0#64, 0#64))), (9, .own 34 kMask ((x.take z).map (·.2))), (36, .cel (Kd.slice kCard) x), (37, .cel (Kd.int .i64) (x.length : Int)), (38, .cel (Kd.int .i64) (z : Int))]) (fun z : Nat => x.length - z) (0) (Nat.zero_le _) (Kc 0 _ (Kv rfl rfl) <| Kc 4 _ (Kb rfl rfl) <| Kc 6 _ (Kb rfl rfl) <| Kc 9 _ (Ko rfl rfl) <| Kc 36 _ (Kv rfl rfl) <| Kc 37 _ (Kv rfl rfl) <| Kc 38 _ (Kv rfl rfl) <| Kn) ?_
   intro z hI
   refine sr ?_
   refine st (OpT.lss (H rfl) (T1 rfl) (T1 rfl)) rfl ?_
   refine ng ?_
   refine AW.seq ?_
   refine cd rfl (fun hc3 => ?_) fun hc3 => ?_
   ·
    obtain ⟨hc3, hc3'⟩ := pT hc3
    obtain ⟨a, ha⟩ := getI (x := x) (z := z) (by omega)
    refine AW.skip ?_
    refine AX.go ?_
    refine AW.seq ?_
    refine AW.block ?_
    refine sr ?_
    refine st (OpT.indexAddr (H rfl) (T1 rfl) (T1 rfl) el25 sz36 (by omega) (by assumption)) rfl ?_
    refine st (OpT.loadA (H rfl) (T1 rfl) ag36 sz36) rfl ?_
    refine st (OpT.alloc (H rfl) zr36 zk36) rfl ?_
    refine sk (OpT.storeBA rfl rfl (Opd.whole (Root.self (t := 11) (by decide)) rfl) rfl sz36 (by decide) (T1 rfl)) rfl ?_
    refine ng ?_
    refine AW.region ?_
    refine st (OpT.alias (H rfl) (by decide) (by decide)) rfl ?_
    refine st (OpT.fieldAddrB (H rfl) (Root.self (t := 11) (by decide)) rfl (by decide) fd36_1 sz34 (by decide) sb36_1) rfl ?_
    refine st (OpT.loadPA (H rfl) (T1 rfl) (.inl ⟨_, rfl, rfl⟩) ag34 sz34) rfl ?_
    refine st (OpT.buildSlice (H rfl) el55 zr34 sz34 rfl (by decide) zk34 (by decide) (Built.agg (T1 rfl) rfl (by decide) (sub_arr (by decide) ((0, 0) : BitVec 64 × BitVec 64)) (Built.nil _))) rfl ?_
    refine sg (OpT.append (H rfl) (Root.ali rfl (by decide) (by decide)) rfl (Src.own (Root.self (t := 45) (by decide)) rfl) (by decide) el55 zr34 rfl sz34 by34 (by decide) (by first | (simp only [List.length_map, List.length_take, List.length_set, List.length_replicate]; omega) | (have h70 := repW_len (s := s) (m := e.2) (x := (x.map (·.2))) (z := y); simp only [List.length_set, List.length_replicate]; omega))) (ko 46 rfl <| ko 45 rfl <| ka 44 rfl <| Kc 43 (.pel _ _ _ _ _ _ _) rfl <| kb 11 rfl <| ka 41 rfl <| kc3 40 39 0 rfl <| kb 4 rfl <| kb 6 rfl <| kc3 36 37 38 rfl <| Kn) rfl ?_
    refine sg (OpT.take (.inl rfl) rfl (ok' rfl) (Root.self (by decide)) rfl rfl (by decide)) (ko 9 rfl <| ko 45 rfl <| ka 44 rfl <| Kc 43 (.pel _ _ _ _ _ _ _) rfl <| kb 11 rfl <| ka 41 rfl <| kc3 40 39 0 rfl <| kb 4 rfl <| kb 6 rfl <| kc3 36 37 38 rfl <| Kn) rfl ?_
    refine nn ?_
    refine AX.normal_block ?_
    refine AX.go ?_
    refine AW.region ?_
    refine st (OpT.add (H rfl) (T1 rfl) (I rfl) (nw (by omega))) rfl ?_
    refine st (mvT rfl) rfl ?_
    refine nn ?_
    exact AX.again (z + 1) (by omega) (by omega) (Kc 0 _ (Kv rfl rfl) <| Kc 4 _ (Kb rfl rfl) <| Kc 6 _ (Kb rfl rfl) <| Kc 9 _ (Ko rfl (map_more (f := fun d : DCard => d.2) ha)) <| Kc 36 _ (Kv rfl rfl) <| Kc 37 _ (Kv rfl rfl) <| Kc 38 _ (Kv rfl (by omega)) <| Kn)
   ·
    obtain ⟨hc3, hc3'⟩ := pF hc3
    refine AW.exit ?_
    refine AX.freeze (t := 9) rfl ?_
    refine AX.pr (kc2 39 0 rfl <| kb 4 rfl <| kb 6 rfl <| kc4 9 36 37 38 rfl <| Kn) ?_
    refine xT <| xT <| AX.exit_hit ?_
    refine AX.go ?_
    refine sr ?_
    refine st (OpT.buildSlice0 (m := 0) (z := .bool false) (Kd.int .i64) (H rfl) el43 sz2 (by decide)) rfl ?_
    refine sg (OpT.take (.inl rfl) rfl (ok' rfl) (Root.self (by decide)) rfl rfl (by decide)) (ko 12 rfl <| kc2 39 0 rfl <| kb 4 rfl <| kb 6 rfl <| kc4 9 36 37 38 rfl <| Kn) rfl ?_
    refine ng ?_
    refine AW.seq ?_
    refine sr ?_
    refine st (mvT rfl) rfl ?_
    refine st (OpT.len (H rfl) (T1 rfl) el24) rfl ?_
    refine st (mvI rfl) rfl ?_
    refine ng ?_
    refine AW.block ?_
    refine AW.loop (fun y : Nat => y ≤ s.length) (fun y : Nat => keep [(4, .box 36 kCard (e.1, repM s e.2 (x.map (·.2)) y)), (6, .box 36 kCard (ByteArray.empty, (0#64, 0#64))), (9, .cel (Kd.slice kMask) (x.map (·.2))), (12, .own 2 (Kd.int .i64) (repW s e.2 (x.map (·.2)) y)), (49, .cel (Kd.slice kField) s), (50, .cel (Kd.int .i64) (s.length : Int)), (51, .cel (Kd.int .i64) (y : Int))]) (fun y : Nat => s.length - y) (0) (Nat.zero_le _) (Kc 4 _ (Kb rfl rfl) <| Kc 6 _ (Kb rfl rfl) <| Kc 9 _ (Kv rfl (by rw [List.take_of_length_le (by omega)])) <| Kc 12 _ (Ko rfl rfl) <| Kc 49 _ (Kv rfl rfl) <| Kc 50 _ (Kv rfl rfl) <| Kc 51 _ (Kv rfl rfl) <| Kn) ?_
    intro y hI
    refine sr ?_
    refine st (OpT.lss (H rfl) (T1 rfl) (T1 rfl)) rfl ?_
    refine ng ?_
    refine AW.seq ?_
    refine cd rfl (fun hc4 => ?_) fun hc4 => ?_
    ·
     obtain ⟨hc4, hc4'⟩ := pT hc4
     obtain ⟨f, hf⟩ := getI (x := s) (z := y) (by omega)
     have hfo := sch_field hcp.1 hf
     refine AW.skip ?_
     refine AX.go ?_
     refine AW.seq ?_
     refine AW.block ?_
     refine sr ?_
     refine st (OpT.indexAddr (H rfl) (T1 rfl) (T1 rfl) el24 sz52 (by omega) (by assumption)) rfl ?_
     refine st (OpT.loadA (H rfl) (T1 rfl) ag52 sz52) rfl ?_
     refine st (OpT.alloc (H rfl) zr52 zk52) rfl ?_
     refine sk (OpT.storeBA rfl rfl (Opd.whole (Root.self (t := 14) (by decide)) rfl) rfl sz52 (by decide) (T1 rfl)) rfl ?_
     refine ng ?_
     refine sr ?_
     refine st (OpT.loadB (H rfl) (Root.self (t := 14) (by decide)) rfl ag52 sz52) rfl ?_
     refine st (OpT.fieldAddrB (H rfl) (Root.self (t := 4) (by decide)) rfl (by decide) fd36_1 sz34 (by decide) sb36_1) rfl ?_
     refine st (OpT.loadPA (H rfl) (T1 rfl) (.inl ⟨_, rfl, rfl⟩) ag34 sz34) rfl ?_
     refine st (mvT rfl) rfl ?_
     refine s2 (OpT.c2 (ms := [.flat, .flat, .flat]) (c_impl_Field_repaired _ _ _ hfo (by rw [List.length_map]; omega)) (H rfl) (Af (T1 rfl) rfl rfl <| Af (T1 rfl) rfl rfl <| Af (T1 rfl) rfl rfl <| An) rfl rfl rfl) rfl ?_
     refine st (OpT.alias (H rfl) (by decide) (by decide)) rfl ?_
     refine st (OpT.extractV (m := 10060) (H rfl) rfl rfl rfl rfl rfl rfl rfl) rfl ?_
     refine st (OpT.extractV (m := 20060) (H rfl) rfl rfl rfl rfl rfl rfl rfl) rfl ?_
     refine st (OpT.alloc (H rfl) zr34 zk34) rfl ?_
     refine sk (OpT.storeBA rfl rfl (Opd.whole (Root.self (t := 15) (by decide)) rfl) rfl sz34 (by decide) (T1 rfl)) rfl ?_
     refine st (asT rfl) rfl ?_
     refine ng ?_
     refine sr ?_
     refine st (OpT.loadB (H rfl) (Root.self (t := 15) (by decide)) rfl ag34 sz34) rfl ?_
     refine st (OpT.fieldAddrB (H rfl) (Root.self (t := 4) (by decide)) rfl (by decide) fd36_1 sz34 (by decide) sb36_1) rfl ?_
     refine sk (OpT.storeBA rfl rfl (T1 rfl) rfl sz34 (by decide) (T1 rfl)) rfl ?_
     refine ng ?_
     refine AW.region ?_
     refine st (OpT.alias (H rfl) (by decide) (by decide)) rfl ?_
     refine st (mvT rfl) rfl ?_
     refine st (OpT.buildSlice (H rfl) el43 zr2 sz2 rfl (by decide) zk2 (by decide) (Built.cel (T1 rfl) rfl rfl (sub_arr (by decide) (0 : Int)) (Built.nil _))) rfl ?_
     refine sg (OpT.append (H rfl) (Root.ali rfl (by decide) (by decide)) rfl (Src.own (Root.self (t := 67) (by decide)) rfl) (by decide) el43 zr2 rfl sz2 by2 (by decide) (by first | (simp only [List.length_map, List.length_take, List.length_set, List.length_replicate]; omega) | (have h70 := repW_len (s := s) (m := e.2) (x := (x.map (·.2))) (z := y); simp only [List.length_set, List.length_replicate]; omega))) (ko 68 rfl <| ko 67 rfl <| kc 66 rfl <| kb 4 rfl <| Kc 64 (.pel _ _ _ _ _ _ _) rfl <| ka 63 rfl <| kc 16 rfl <| kb 15 rfl <| kc 62 rfl <| ka 61 rfl <| Kc 55 (.ali _) rfl <| ka 10060 rfl <| kc2 20060 59 rfl <| ka 58 rfl <| Kc 57 (.pel _ _ _ _ _ _ _) rfl <| ka 56 rfl <| kb 14 rfl <| ka 54 rfl <| kc2 53 52 rfl <| kb 6 rfl <| kc4 9 49 50 51 rfl <| Kn) rfl ?_
     refine sg (OpT.take (.inl rfl) rfl (ok' rfl) (Root.self (by decide)) rfl rfl (by decide)) (ko 12 rfl <| ko 67 rfl <| kc 66 rfl <| kb 4 rfl <| Kc 64 (.pel _ _ _ _ _ _ _) rfl <| ka 63 rfl <| kc 16 rfl <| kb 15 rfl <| kc 62 rfl <| ka 61 rfl <| Kc 55 (.ali _) rfl <| ka 10060 rfl <| kc2 20060 59 rfl <| ka 58 rfl <| Kc 57 (.pel _ _ _ _ _ _ _) rfl <| ka 56 rfl <| kb 14 rfl <| ka 54 rfl <| kc2 53 52 rfl <| kb 6 rfl <| kc4 9 49 50 51 rfl <| Kn) rfl ?_
     refine nn ?_
     refine AX.normal_block ?_
     refine AX.go ?_
     refine AW.region ?_
     refine st (OpT.add (H rfl) (T1 rfl) (I rfl) (nw (by omega))) rfl ?_
     refine st (mvT rfl) rfl ?_
     refine nn ?_
     exact AX.again (y + 1) (by omega) (by omega) (Kc 4 _ (Kb rfl (by rw [← repM_next hf])) <| Kc 6 _ (Kb rfl rfl) <| Kc 9 _ (Kv rfl rfl) <| Kc 12 _ (Ko rfl (repW_next hf)) <| Kc 49 _ (Kv rfl rfl) <| Kc 50 _ (Kv rfl rfl) <| Kc 51 _ (Kv rfl (by omega)) <| Kn)
    ·
     obtain ⟨hc4, hc4'⟩ := pF hc4
     refine AW.exit ?_
     refine xT <| xT <| AX.exit_hit ?_
     refine AX.go ?_
     refine sr ?_
     refine st (OpT.loadB (H rfl) (Root.self (t := 4) (by decide)) rfl ag36 sz36) rfl ?_
     refine st (OpT.alias (H rfl) (by decide) (by decide)) rfl ?_
     refine sk (OpT.storeBA rfl rfl (Opd.whole (Root.self (t := 6) (by decide)) rfl) rfl sz36 (by decide) (T1 rfl)) rfl ?_
     refine sg (OpT.take (.inl rfl) rfl (ok' rfl) (Root.ali rfl (by decide) (by decide)) rfl rfl (by decide)) (ko 7 rfl <| kb 6 rfl <| ka 70 rfl <| kc 52 rfl <| kb 4 rfl <| kc4 9 49 50 51 rfl <| Kn) rfl ?_
     refine st (asI rfl) rfl ?_
     refine ng ?_
     refine AW.ret ?_
     exact AX.rt (rs := [.cell 6 36, .tmp 7, .tmp 8]) (ts := [none, some 7, some 8]) (.inl rfl) rfl (ROs.cons (RO.cellA (by decide) (Kb rfl (by first | (rw [repC_bad hc1]; first | done | rfl) | (rw [repC_long hc1 (by omega)]; first | done | rfl) | (rw [repC_ok hc1 (by omega) (z := y) (by omega) (by omega)]; first | done | rfl))) ag36 sz36) <| ROs.cons (RO.tmp (At.self (by decide)) (Ko rfl (by first | (rw [repC_bad hc1]; first | done | rfl) | (rw [repC_long hc1 (by omega)]; first | done | rfl) | (rw [repC_ok hc1 (by omega) (z := y) (by omega) (by omega)]; first | done | rfl))) rfl) <| ROs.cons (RO.tmp (At.self (by decide)) (Kv rfl (by first | (rw [repC_bad hc1]; first | done | rfl) | (rw [repC_long hc1 (by omega)]; first | done | rfl) | (rw [repC_ok hc1 (by omega) (z := y) (by omega) (by omega)]; first | done | rfl))) rfl) <| ROs.nil) (by decide) OutsOK.nil
theorem c_impl_RepairCard (s : List DField) (e : DCard) (x : List DCard) : AC Tryz.prog 13 [.cel (Kd.slice kField) s, .agg kCard e, .cel (Kd.slice kCard) x] [.agg kCard (repCS s e x).1, .cel (Kd.slice (Kd.int .i64)) (repCS s e x).2.1, .cel (Kd.int .i64) (repCS s e x).2.2] [] := (c_impl_RepairCard_o s e x).frz rfl

/-- spec.DoubtsOf -/
theorem c_spec_DoubtsOf_o (s : List DField) (x : List DCard) : AC Tryz.prog 8 [.cel (Kd.slice kField) s, .cel (Kd.slice kCard) x] [.own 98 kShare (dbtS s x).1, .cel (Kd.int .i64) (dbtS s x).2] [] := by
 refine acI (N := 58) Tryz.func8 (Nat.le_of_ble_eq_true rfl) rfl fun w0 hd s0 ar => ?_
 refine AW.to (kc2 0 1 rfl <| Kn) ?_
 refine AW.fact (fun a w hr => (ok_slice (R_ok (t := 0) rfl hr)).2) (fun hl0 => ?_)
 refine AW.fact (fun a w hr => (ok_slice (R_ok (t := 1) rfl hr)).2) (fun hl1 => ?_)
 refine sr ?_
 refine st (nilO (E := 98) kShare rfl (.inl rfl)) rfl ?_
 refine st (asI rfl) rfl ?_
 refine ng ?_
 refine AW.seq ?_
 refine sr ?_
 refine st (mvT rfl) rfl ?_
 refine st (OpT.c1 (ms := [.flat]) (c_spec_l01Scheme _) (H rfl) (Af (T1 rfl) rfl rfl <| An) rfl rfl) rfl ?_
 refine st (OpT.not (H rfl) (T1 rfl)) rfl ?_
 refine st (mvT rfl) rfl ?_
 apply AWl.or (d := 18) (t := 14) rfl
 ·
  intro hb1 Q1 k1
  have hb1' := lF hb1
  refine rs hb1 (mvT rfl) rfl ?_
  refine rs hb1 (OpT.c1 (ms := [.flat]) (c_spec_l04Cards _) (H rfl) (Af (T1 rfl) rfl rfl <| An) rfl rfl) rfl ?_
  refine rs hb1 (OpT.not (H rfl) (T1 rfl)) rfl ?_
  refine st (OpT.pickF (A := .cel _ _) (H rfl) (T1 rfl) hb1 (T1 rfl) rfl) rfl ?_
  exact AWl.to (junk 3 rfl) k1
 ·
  intro hb1 Q1 k1
  refine ps hb1 rfl ?_
  refine ps hb1 rfl ?_
  refine ps hb1 rfl ?_
  refine st (OpT.pickT (A := .cel _ _) (H rfl) (T1 rfl) hb1 Opd.bool rfl) rfl ?_
  exact k1
 refine ng ?_
 refine cd rfl (fun hc1 => ?_) fun hc1 => ?_
 ·
  obtain ⟨hc1, hc1'⟩ := pT hc1
  refine sr ?_
  refine st (OpT.buildSlice0 (m := 0) (z := .bool false) kShare (H rfl) el28 sz98 (by decide)) rfl ?_
  refine sg (OpT.take (.inl rfl) rfl (ok' rfl) (Root.self (by decide)) rfl rfl (by decide)) (ko 4 rfl <| kc4 18 14 13 12 rfl <| kc4 11 5 0 1 rfl <| Kn) rfl ?_
  refine st (asI rfl) rfl ?_
  refine ng ?_
  refine AW.ret ?_
  refine rT ?_
  exact AX.rt (rs := [.tmp 4, .tmp 5]) (ts := [some 4, some 5]) (.inl rfl) rfl (ROs.cons (RO.tmp (At.self (by decide)) (Ko rfl (by first | (rw [dbtS_no (tabE_one hc1) (by omega)]; first | done | rfl) | (rw [dbtS_no (tabE_two hc1 (by omega)) (by omega)]; first | done | rfl) | (rw [dbtS_yes (z := z) (tabE_zero hc1 (by omega)) (by omega) (by omega)]; first | done | rfl))) rfl) <| ROs.cons (RO.tmp (At.self (by decide)) (Kv rfl (by first | (rw [dbtS_no (tabE_one hc1) (by omega)]; first | done | rfl) | (rw [dbtS_no (tabE_two hc1 (by omega)) (by omega)]; first | done | rfl) | (rw [dbtS_yes (z := z) (tabE_zero hc1 (by omega)) (by omega) (by omega)]; first | done | rfl))) rfl) <| ROs.nil) (by decide) OutsOK.nil
 ·
  obtain ⟨hc1, hc1'⟩ := pF hc1
  have hz0 := tabE_zero (s := s) (x := x) hc1
  refine AW.skip ?_
  refine AX.go ?_
  refine AW.seq ?_
  refine sr ?_
  refine st (mvT rfl) rfl ?_
  refine st (OpT.len (H rfl) (T1 rfl) el25) rfl ?_
  refine st (OpT.gtr (H rfl) (T1 rfl) (I rfl)) rfl ?_
  refine ng ?_
  refine cd rfl (fun hc2 => ?_) fun hc2 => ?_
  ·
   obtain ⟨hc2, hc2'⟩ := pT hc2
   refine sr ?_
   refine st (OpT.buildSlice0 (m := 0) (z := .bool false) kShare (H rfl) el28 sz98 (by decide)) rfl ?_
   refine sg (OpT.take (.inl rfl) rfl (ok' rfl) (Root.self (by decide)) rfl rfl (by decide)) (ko 4 rfl <| kc4 22 21 20 18 rfl <| kc4 14 13 12 11 rfl <| kc3 5 0 1 rfl <| Kn) rfl ?_
   refine st (asI rfl) rfl ?_
   refine ng ?_
   refine AW.ret ?_
   refine rT ?_
   exact AX.rt (rs := [.tmp 4, .tmp 5]) (ts := [some 4, some 5]) (.inl rfl) rfl (ROs.cons (RO.tmp (At.self (by decide)) (Ko rfl (by first | (rw [dbtS_no (tabE_one hc1) (by omega)]; first | done | rfl) | (rw [dbtS_no (tabE_two hc1 (by omega)) (by omega)]; first | done | rfl) | (rw [dbtS_yes (z := z) (tabE_zero hc1 (by omega)) (by omega) (by omega)]; first | done | rfl))) rfl) <| ROs.cons (RO.tmp (At.self (by decide)) (Kv rfl (by first | (rw [dbtS_no (tabE_one hc1) (by omega)]; first | done | rfl) | (rw [dbtS_no (tabE_two hc1 (by omega)) (by omega)]; first | done | rfl) | (rw [dbtS_yes (z := z) (tabE_zero hc1 (by omega)) (by omega) (by omega)]; first | done | rfl))) rfl) <| ROs.nil) (by decide) OutsOK.nil
  ·
   obtain ⟨hc2, hc2'⟩ := pF hc2
   have htb := tabE_ok (hz0 (by omega)).symm
   have hsl : s.length ≤ 12 := htb.1.1
   have hxl := htb.2.2
   refine AW.skip ?_
   refine AX.go ?_
   refine sr ?_
   refine st (OpT.buildSlice0 (m := 0) (z := .bool false) kShare (H rfl) el28 sz98 (by decide)) rfl ?_
   refine sg (OpT.take (.inl rfl) rfl (ok' rfl) (Root.self (by decide)) rfl rfl (by decide)) (ko 6 rfl <| kc4 22 21 20 18 rfl <| kc4 14 13 12 11 rfl <| kc 5 rfl <| ko 4 rfl <| kc2 0 1 rfl <| Kn) rfl ?_
   refine ng ?_
   refine AW.seq ?_
   refine sr ?_
   refine st (asI rfl) rfl ?_
   refine ng ?_
   refine AW.block ?_
   refine AW.loop (fun z : Nat => z ≤ x.length) (fun z : Nat => keep [(0, .cel (Kd.slice kField) s), (1, .cel (Kd.slice kCard) x), (6, .own 98 kShare (dbt s x z)), (7, .cel (Kd.int .i64) (z : Int))]) (fun z : Nat => x.length - z) (0) (Nat.zero_le _) (Kc 0 _ (Kv rfl rfl) <| Kc 1 _ (Kv rfl rfl) <| Kc 6 _ (Ko rfl rfl) <| Kc 7 _ (Kv rfl rfl) <| Kn) ?_
   intro z hI
   refine AW.seq ?_
   refine sr ?_
   refine st (mvT rfl) rfl ?_
   refine st (mvT rfl) rfl ?_
   refine st (OpT.len (H rfl) (T1 rfl) el25) rfl ?_
   refine st (OpT.lss (H rfl) (T1 rfl) (T1 rfl)) rfl ?_
   refine ng ?_
   refine cd rfl (fun hc3 => ?_) fun hc3 => ?_
   ·
    obtain ⟨hc3, hc3'⟩ := pT hc3
    obtain ⟨e, he⟩ := getI (x := x) (z := z) (by omega)
    refine AW.skip ?_
    refine AX.go ?_
    refine AW.seq ?_
    refine AW.block ?_
    refine sr ?_
    refine st (asI rfl) rfl ?_
    refine ng ?_
    refine AW.block ?_
    refine AW.loop (fun y : Nat => y ≤ s.length) (fun y : Nat => keep [(0, .cel (Kd.slice kField) s), (1, .cel (Kd.slice kCard) x), (6, .own 98 kShare (dbt s x z ++ dbt1 s e.2 z y)), (7, .cel (Kd.int .i64) (z : Int)), (8, .cel (Kd.int .i64) (y : Int))]) (fun y : Nat => s.length - y) (0) (Nat.zero_le _) (Kc 0 _ (Kv rfl rfl) <| Kc 1 _ (Kv rfl rfl) <| Kc 6 _ (Ko rfl (by simp [dbt1])) <| Kc 7 _ (Kv rfl rfl) <| Kc 8 _ (Kv rfl rfl) <| Kn) ?_
    intro y hI
    refine AW.seq ?_
    refine sr ?_
    refine st (mvT rfl) rfl ?_
    refine st (mvT rfl) rfl ?_
    refine st (OpT.len (H rfl) (T1 rfl) el24) rfl ?_
    refine st (OpT.lss (H rfl) (T1 rfl) (T1 rfl)) rfl ?_
    refine ng ?_
    refine cd rfl (fun hc4 => ?_) fun hc4 => ?_
    ·
     obtain ⟨hc4, hc4'⟩ := pT hc4
     obtain ⟨f, hf⟩ := getI (x := s) (z := y) (by omega)
     have hfo := sch_field htb.1 hf
     refine AW.skip ?_
     refine AX.go ?_
     refine AW.seq ?_
     refine AW.block ?_
     refine AW.seq ?_
     refine dh fomo ?_
     refine d1 [0] (fun ve h => OpT.move (A := .cel _ _) (.inl rfl) rfl (ok' rfl) (D1 h rfl) rfl) rfl ?_
     refine d1 [8] (fun ve h => OpT.move (A := .cel _ _) (.inl rfl) rfl (ok' rfl) (D1 h rfl) rfl) rfl ?_
     refine d1 [38, 39] (fun ve h => OpT.indexAddr (H rfl) (D1 h rfl) (D1 h rfl) el24 sz52 (by omega) (by assumption)) rfl ?_
     refine d1 [1] (fun ve h => OpT.move (A := .cel _ _) (.inl rfl) rfl (ok' rfl) (D1 h rfl) rfl) rfl ?_
     refine d1 [7] (fun ve h => OpT.move (A := .cel _ _) (.inl rfl) rfl (ok' rfl) (D1 h rfl) rfl) rfl ?_
     refine d1 [41, 42] (fun ve h => OpT.indexAddr (H rfl) (D1 h rfl) (D1 h rfl) el25 sz36 (by omega) (by assumption)) rfl ?_
     refine d1 [43] (fun ve h => OpT.fieldAddr (H rfl) (D1 h rfl) fd36_1 sz34 (by decide) sb36_1) rfl ?_
     refine d1 [44] (fun ve h => OpT.loadA (H rfl) (D1 h rfl) ag34 sz34) rfl ?_
     refine d2 [40, 45] (fun ve h => OpT.c2 (ms := [.flat, .flat]) (c_spec_l01Value _ _ hfo) (H rfl) (Af (D1 h rfl) rfl rfl <| Af (D1 h rfl) rfl rfl <| An) rfl rfl rfl) rfl ?_
     refine d1 [] (fun ve h => OpT.alias (H rfl) (by decide) (by decide)) rfl ?_
     refine d1 [37, 10046] (fun ve h => OpT.extractV (m := 10046) (H rfl) ((h _ (List.elem_iff.1 rfl)).trans rfl) rfl rfl rfl ((h _ (List.elem_iff.1 rfl)).trans rfl) rfl rfl) rfl ?_
     refine d1 [37, 20046] (fun ve h => OpT.extractV (m := 20046) (H rfl) ((h _ (List.elem_iff.1 rfl)).trans rfl) rfl rfl rfl ((h _ (List.elem_iff.1 rfl)).trans rfl) rfl rfl) rfl ?_
     refine d1 [47] (fun ve h => OpT.move (A := .cel _ _) (.inr rfl) rfl (ok' rfl) (D1 h rfl) rfl) rfl ?_
     refine d1 [48] (fun ve h => OpT.move (A := .cel _ _) (.inr rfl) rfl (ok' rfl) (D1 h rfl) rfl) rfl ?_
     refine dn ⟨by kernel_rfl, by kernel_rfl, ?_⟩
     refine AX.go ?_
     refine sr ?_
     refine st (mvT rfl) rfl ?_
     refine st (OpT.eql (H rfl) (T1 rfl) (I rfl)) rfl ?_
     refine ng ?_
     refine cd rfl (fun hc5 => ?_) fun hc5 => ?_
     ·
      obtain ⟨hc5, hc5'⟩ := pT hc5
      have hq8 : (valS f e.2).2 = 8 := by omega
      refine AW.region ?_
      refine st (OpT.alias (H rfl) (by decide) (by decide)) rfl ?_
      refine st (mvT rfl) rfl ?_
      refine st (mvT rfl) rfl ?_
      refine st (OpT.build (H rfl) pl98 zr98 zk98 (Built.cel (T1 rfl) rfl rfl sb98_0 (Built.cel (T1 rfl) rfl rfl sb98_1 (Built.nil _)))) rfl ?_
      refine st (OpT.buildSlice (H rfl) el28 zr98 sz98 rfl (by decide) zk98 (by decide) (Built.agg (T1 rfl) rfl (by decide) (sub_arr (by decide) ((0, 0) : Int × Int)) (Built.nil _))) rfl ?_
      refine sg (OpT.append (H rfl) (Root.ali rfl (by decide) (by decide)) rfl (Src.own (Root.self (t := 55) (by decide)) rfl) (by decide) el28 zr98 rfl sz98 by98 (by decide) (by have h70 := dbt_room hsl hxl (z := z) (by omega); have h71 := dbt1_len (s := s) (m := e.2) (y := y) z; simp only [List.length_append, List.length_set, List.length_replicate]; omega)) (ko 56 rfl <| ko 55 rfl <| ka 54 rfl <| kc4 53 52 50 49 rfl <| kc4 10 9 48 47 rfl <| Kc 37 (.ali _) rfl <| kc2 10046 20046 rfl <| ka 45 rfl <| kc4 44 43 42 41 rfl <| kc4 40 39 38 34 rfl <| kc4 33 32 31 0 rfl <| kc3 1 7 8 rfl <| Kn) rfl ?_
      refine sg (OpT.take (.inl rfl) rfl (ok' rfl) (Root.self (by decide)) rfl rfl (by decide)) (ko 6 rfl <| ko 55 rfl <| ka 54 rfl <| kc4 53 52 50 49 rfl <| kc4 10 9 48 47 rfl <| Kc 37 (.ali _) rfl <| kc2 10046 20046 rfl <| ka 45 rfl <| kc4 44 43 42 41 rfl <| kc4 40 39 38 34 rfl <| kc4 33 32 31 0 rfl <| kc3 1 7 8 rfl <| Kn) rfl ?_
      refine nn ?_
      refine AX.normal_block ?_
      refine AX.go ?_
      refine AW.region ?_
      refine st (mvT rfl) rfl ?_
      refine st (OpT.add (H rfl) (T1 rfl) (I rfl) (nw (by omega))) rfl ?_
      refine st (asT rfl) rfl ?_
      refine nn ?_
      exact AX.again (y + 1) (by omega) (by omega) (Kc 0 _ (Kv rfl rfl) <| Kc 1 _ (Kv rfl rfl) <| Kc 6 _ (Ko rfl (by first | exact (List.append_assoc _ _ _).trans (congrArg (fun l => dbt s x z ++ l) (dbt1_yes hf hq8)) | (rw [dbt1_no hf hq8]; done))) <| Kc 7 _ (Kv rfl rfl) <| Kc 8 _ (Kv rfl (by omega)) <| Kn)
     ·
      obtain ⟨hc5, hc5'⟩ := pF hc5
      have hq8 : ¬ (valS f e.2).2 = 8 := by omega
      refine AW.skip ?_
      refine AX.normal_block ?_
      refine AX.go ?_
      refine AW.region ?_
      refine st (mvT rfl) rfl ?_
      refine st (OpT.add (H rfl) (T1 rfl) (I rfl) (nw (by omega))) rfl ?_
      refine st (asT rfl) rfl ?_
      refine nn ?_
      exact AX.again (y + 1) (by omega) (by omega) (Kc 0 _ (Kv rfl rfl) <| Kc 1 _ (Kv rfl rfl) <| Kc 6 _ (Ko rfl (by first | exact (List.append_assoc _ _ _).trans (congrArg (fun l => dbt s x z ++ l) (dbt1_yes hf hq8)) | (rw [dbt1_no hf hq8]; done))) <| Kc 7 _ (Kv rfl rfl) <| Kc 8 _ (Kv rfl (by omega)) <| Kn)
    ·
     obtain ⟨hc4, hc4'⟩ := pF hc4
     refine AW.exit ?_
     refine xT <| xT <| AX.exit_hit ?_
     refine AX.normal_block ?_
     refine AX.go ?_
     refine AW.region ?_
     refine st (mvT rfl) rfl ?_
     refine st (OpT.add (H rfl) (T1 rfl) (I rfl) (nw (by omega))) rfl ?_
     refine st (asT rfl) rfl ?_
     refine nn ?_
     exact AX.again (z + 1) (by omega) (by omega) (Kc 0 _ (Kv rfl rfl) <| Kc 1 _ (Kv rfl rfl) <| Kc 6 _ (Ko rfl (dbt_next he (by omega) (by omega))) <| Kc 7 _ (Kv rfl (by omega)) <| Kn)
   ·
    obtain ⟨hc3, hc3'⟩ := pF hc3
    refine AW.exit ?_
    refine xT <| xT <| AX.exit_hit ?_
    refine AX.go ?_
    refine sr ?_
    refine st (OpT.alias (H rfl) (by decide) (by decide)) rfl ?_
    refine sg (OpT.take (.inl rfl) rfl (ok' rfl) (Root.ali rfl (by decide) (by decide)) rfl rfl (by decide)) (ko 4 rfl <| kc4 28 27 26 25 rfl <| kc3 0 1 7 rfl <| Kn) rfl ?_
    refine st (asI rfl) rfl ?_
    refine ng ?_
    refine AW.ret ?_
    exact AX.rt (rs := [.tmp 4, .tmp 5]) (ts := [some 4, some 5]) (.inl rfl) rfl (ROs.cons (RO.tmp (At.self (by decide)) (Ko rfl (by first | (rw [dbtS_no (tabE_one hc1) (by omega)]; first | done | rfl) | (rw [dbtS_no (tabE_two hc1 (by omega)) (by omega)]; first | done | rfl) | (rw [dbtS_yes (z := z) (tabE_zero hc1 (by omega)) (by omega) (by omega)]; first | done | rfl))) rfl) <| ROs.cons (RO.tmp (At.self (by decide)) (Kv rfl (by first | (rw [dbtS_no (tabE_one hc1) (by omega)]; first | done | rfl) | (rw [dbtS_no (tabE_two hc1 (by omega)) (by omega)]; first | done | rfl) | (rw [dbtS_yes (z := z) (tabE_zero hc1 (by omega)) (by omega) (by omega)]; first | done | rfl))) rfl) <| ROs.nil) (by decide) OutsOK.nil
theorem c_spec_DoubtsOf (s : List DField) (x : List DCard) : AC Tryz.prog 8 [.cel (Kd.slice kField) s, .cel (Kd.slice kCard) x] [.cel (Kd.slice kShare) (dbtS s x).1, .cel (Kd.int .i64) (dbtS s x).2] [] := (c_spec_DoubtsOf_o s x).frz rfl

/-- impl.DoubtsOf -/
theorem c_impl_DoubtsOf_o (s : List DField) (x : List DCard) : AC Tryz.prog 7 [.cel (Kd.slice kField) s, .cel (Kd.slice kCard) x] [.own 98 kShare (dbtS s x).1, .cel (Kd.int .i64) (dbtS s x).2] [] := by
 refine acI (N := 57) Tryz.func7 (Nat.le_of_ble_eq_true rfl) rfl fun w0 hd s0 ar => ?_
 refine AW.to (kc2 0 1 rfl <| Kn) ?_
 refine AW.fact (fun a w hr => (ok_slice (R_ok (t := 0) rfl hr)).2) (fun hl0 => ?_)
 refine AW.fact (fun a w hr => (ok_slice (R_ok (t := 1) rfl hr)).2) (fun hl1 => ?_)
 refine sr ?_
 refine st (nilO (E := 98) kShare rfl (.inl rfl)) rfl ?_
 refine st (asI rfl) rfl ?_
 refine ng ?_
 refine AW.seq ?_
 refine sr ?_
 refine st (mvT rfl) rfl ?_
 refine st (OpT.c1 (ms := [.flat]) (c_impl_isScheme _) (H rfl) (Af (T1 rfl) rfl rfl <| An) rfl rfl) rfl ?_
 refine st (OpT.not (H rfl) (T1 rfl)) rfl ?_
 refine st (mvT rfl) rfl ?_
 apply AWl.or (d := 20) (t := 16) rfl
 ·
  intro hb1 Q1 k1
  have hb1' := lF hb1
  refine rs hb1 (mvT rfl) rfl ?_
  refine rs hb1 (OpT.c1 (ms := [.flat]) (c_impl_areCards _) (H rfl) (Af (T1 rfl) rfl rfl <| An) rfl rfl) rfl ?_
  refine rs hb1 (OpT.not (H rfl) (T1 rfl)) rfl ?_
  refine st (OpT.pickF (A := .cel _ _) (H rfl) (T1 rfl) hb1 (T1 rfl) rfl) rfl ?_
  exact AWl.to (junk 3 rfl) k1
 ·
  intro hb1 Q1 k1
  refine ps hb1 rfl ?_
  refine ps hb1 rfl ?_
  refine ps hb1 rfl ?_
  refine st (OpT.pickT (A := .cel _ _) (H rfl) (T1 rfl) hb1 Opd.bool rfl) rfl ?_
  exact k1
 refine ng ?_
 refine cd rfl (fun hc1 => ?_) fun hc1 => ?_
 ·
  obtain ⟨hc1, hc1'⟩ := pT hc1
  refine sr ?_
  refine st (nilO (E := 98) kShare rfl (.inl rfl)) rfl ?_
  refine st (asI rfl) rfl ?_
  refine ng ?_
  refine AW.ret ?_
  refine rT ?_
  exact AX.rt (rs := [.tmp 4, .tmp 5]) (ts := [some 4, some 5]) (.inl rfl) rfl (ROs.cons (RO.tmp (At.self (by decide)) (Ko rfl (by first | (rw [dbtS_no (tabE_one hc1) (by omega)]; first | done | rfl) | (rw [dbtS_no (tabE_two hc1 (by omega)) (by omega)]; first | done | rfl) | (rw [dbtS_yes (z := z) (tabE_zero hc1 (by omega)) (by omega) (by omega)]; first | done | rfl))) rfl) <| ROs.cons (RO.tmp (At.self (by decide)) (Kv rfl (by first | (rw [dbtS_no (tabE_one hc1) (by omega)]; first | done | rfl) | (rw [dbtS_no (tabE_two hc1 (by omega)) (by omega)]; first | done | rfl) | (rw [dbtS_yes (z := z) (tabE_zero hc1 (by omega)) (by omega) (by omega)]; first | done | rfl))) rfl) <| ROs.nil) (by decide) OutsOK.nil
 ·
  obtain ⟨hc1, hc1'⟩ := pF hc1
  have hz0 := tabE_zero (s := s) (x := x) hc1
  refine AW.skip ?_
  refine AX.go ?_
  refine AW.seq ?_
  refine sr ?_
  refine st (mvT rfl) rfl ?_
  refine st (OpT.len (H rfl) (T1 rfl) el25) rfl ?_
  refine st (OpT.gtr (H rfl) (T1 rfl) (I rfl)) rfl ?_
  refine ng ?_
  refine cd rfl (fun hc2 => ?_) fun hc2 => ?_
  ·
   obtain ⟨hc2, hc2'⟩ := pT hc2
   refine sr ?_
   refine st (nilO (E := 98) kShare rfl (.inl rfl)) rfl ?_
   refine st (asI rfl) rfl ?_
   refine ng ?_
   refine AW.ret ?_
   refine rT ?_
   exact AX.rt (rs := [.tmp 4, .tmp 5]) (ts := [some 4, some 5]) (.inl rfl) rfl (ROs.cons (RO.tmp (At.self (by decide)) (Ko rfl (by first | (rw [dbtS_no (tabE_one hc1) (by omega)]; first | done | rfl) | (rw [dbtS_no (tabE_two hc1 (by omega)) (by omega)]; first | done | rfl) | (rw [dbtS_yes (z := z) (tabE_zero hc1 (by omega)) (by omega) (by omega)]; first | done | rfl))) rfl) <| ROs.cons (RO.tmp (At.self (by decide)) (Kv rfl (by first | (rw [dbtS_no (tabE_one hc1) (by omega)]; first | done | rfl) | (rw [dbtS_no (tabE_two hc1 (by omega)) (by omega)]; first | done | rfl) | (rw [dbtS_yes (z := z) (tabE_zero hc1 (by omega)) (by omega) (by omega)]; first | done | rfl))) rfl) <| ROs.nil) (by decide) OutsOK.nil
  ·
   obtain ⟨hc2, hc2'⟩ := pF hc2
   have htb := tabE_ok (hz0 (by omega)).symm
   have hsl : s.length ≤ 12 := htb.1.1
   have hxl := htb.2.2
   refine AW.skip ?_
   refine AX.go ?_
   refine sr ?_
   refine st (OpT.buildSlice0 (m := 0) (z := .bool false) kShare (H rfl) el28 sz98 (by decide)) rfl ?_
   refine sg (OpT.take (.inl rfl) rfl (ok' rfl) (Root.self (by decide)) rfl rfl (by decide)) (ko 6 rfl <| kc4 23 22 21 20 rfl <| kc4 16 15 14 13 rfl <| kc 5 rfl <| ko 4 rfl <| kc2 0 1 rfl <| Kn) rfl ?_
   refine ng ?_
   refine AW.seq ?_
   refine sr ?_
   refine st (mvT rfl) rfl ?_
   refine st (OpT.len (H rfl) (T1 rfl) el25) rfl ?_
   refine st (mvI rfl) rfl ?_
   refine ng ?_
   refine AW.block ?_
   refine AW.loop (fun z : Nat => z ≤ x.length) (fun z : Nat => keep [(0, .cel (Kd.slice kField) s), (6, .own 98 kShare (dbt s x z)), (25, .cel (Kd.slice kCard) x), (26, .cel (Kd.int .i64) (x.length : Int)), (27, .cel (Kd.int .i64) (z : Int))]) (fun z : Nat => x.length - z) (0) (Nat.zero_le _) (Kc 0 _ (Kv rfl rfl) <| Kc 6 _ (Ko rfl rfl) <| Kc 25 _ (Kv rfl rfl) <| Kc 26 _ (Kv rfl rfl) <| Kc 27 _ (Kv rfl rfl) <| Kn) ?_
   intro z hI
   refine sr ?_
   refine st (OpT.lss (H rfl) (T1 rfl) (T1 rfl)) rfl ?_
   refine ng ?_
   refine AW.seq ?_
   refine cd rfl (fun hc3 => ?_) fun hc3 => ?_
   ·
    obtain ⟨hc3, hc3'⟩ := pT hc3
    obtain ⟨e, he⟩ := getI (x := x) (z := z) (by omega)
    refine AW.skip ?_
    refine AX.go ?_
    refine AW.seq ?_
    refine AW.block ?_
    refine sr ?_
    refine st (mvT rfl) rfl ?_
    refine st (OpT.indexAddr (H rfl) (T1 rfl) (T1 rfl) el25 sz36 (by omega) (by assumption)) rfl ?_
    refine st (OpT.loadA (H rfl) (T1 rfl) ag36 sz36) rfl ?_
    refine st (OpT.alloc (H rfl) zr36 zk36) rfl ?_
    refine st (asT rfl) rfl ?_
    refine sk (OpT.storeBA rfl rfl (Opd.whole (Root.self (t := 8) (by decide)) rfl) rfl sz36 (by decide) (T1 rfl)) rfl ?_
    refine ng ?_
    refine sr ?_
    refine st (mvT rfl) rfl ?_
    refine st (OpT.len (H rfl) (T1 rfl) el24) rfl ?_
    refine st (mvI rfl) rfl ?_
    refine ng ?_
    refine AW.block ?_
    refine AW.loop (fun y : Nat => y ≤ s.length) (fun y : Nat => keep [(0, .cel (Kd.slice kField) s), (6, .own 98 kShare (dbt s x z ++ dbt1 s e.2 z y)), (7, .cel (Kd.int .i64) (z : Int)), (8, .box 36 kCard e), (25, .cel (Kd.slice kCard) x), (26, .cel (Kd.int .i64) (x.length : Int)), (27, .cel (Kd.int .i64) (z : Int)), (32, .cel (Kd.slice kField) s), (33, .cel (Kd.int .i64) (s.length : Int)), (34, .cel (Kd.int .i64) (y : Int))]) (fun y : Nat => s.length - y) (0) (Nat.zero_le _) (Kc 0 _ (Kv rfl rfl) <| Kc 6 _ (Ko rfl (by simp [dbt1])) <| Kc 7 _ (Kv rfl rfl) <| Kc 8 _ (Kb rfl rfl) <| Kc 25 _ (Kv rfl rfl) <| Kc 26 _ (Kv rfl rfl) <| Kc 27 _ (Kv rfl rfl) <| Kc 32 _ (Kv rfl rfl) <| Kc 33 _ (Kv rfl rfl) <| Kc 34 _ (Kv rfl rfl) <| Kn) ?_
    intro y hI
    refine sr ?_
    refine st (OpT.lss (H rfl) (T1 rfl) (T1 rfl)) rfl ?_
    refine ng ?_
    refine AW.seq ?_
    refine cd rfl (fun hc4 => ?_) fun hc4 => ?_
    ·
     obtain ⟨hc4, hc4'⟩ := pT hc4
     obtain ⟨f, hf⟩ := getI (x := s) (z := y) (by omega)
     have hfo := sch_field htb.1 hf
     refine AW.skip ?_
     refine AX.go ?_
     refine AW.seq ?_
     refine AW.block ?_
     refine sr ?_
     refine st (mvT rfl) rfl ?_
     refine st (OpT.indexAddr (H rfl) (T1 rfl) (T1 rfl) el24 sz52 (by omega) (by assumption)) rfl ?_
     refine st (OpT.loadA (H rfl) (T1 rfl) ag52 sz52) rfl ?_
     refine st (OpT.alloc (H rfl) zr52 zk52) rfl ?_
     refine st (asT rfl) rfl ?_
     refine sk (OpT.storeBA rfl rfl (Opd.whole (Root.self (t := 10) (by decide)) rfl) rfl sz52 (by decide) (T1 rfl)) rfl ?_
     refine ng ?_
     refine sr ?_
     refine st (OpT.loadB (H rfl) (Root.self (t := 10) (by decide)) rfl ag52 sz52) rfl ?_
     refine st (OpT.fieldAddrB (H rfl) (Root.self (t := 8) (by decide)) rfl (by decide) fd36_1 sz34 (by decide) sb36_1) rfl ?_
     refine st (OpT.loadPA (H rfl) (T1 rfl) (.inl ⟨_, rfl, rfl⟩) ag34 sz34) rfl ?_
     refine s2 (OpT.c2 (ms := [.flat, .flat]) (c_impl_Field_decode _ _ hfo) (H rfl) (Af (T1 rfl) rfl rfl <| Af (T1 rfl) rfl rfl <| An) rfl rfl rfl) rfl ?_
     refine st (OpT.alias (H rfl) (by decide) (by decide)) rfl ?_
     refine st (OpT.extractV (m := 10043) (H rfl) rfl rfl rfl rfl rfl rfl rfl) rfl ?_
     refine st (OpT.extractV (m := 20043) (H rfl) rfl rfl rfl rfl rfl rfl rfl) rfl ?_
     refine st (asT rfl) rfl ?_
     refine st (asT rfl) rfl ?_
     refine ng ?_
     refine sr ?_
     refine st (mvT rfl) rfl ?_
     refine st (OpT.eql (H rfl) (T1 rfl) (I rfl)) rfl ?_
     refine ng ?_
     refine cd rfl (fun hc5 => ?_) fun hc5 => ?_
     ·
      obtain ⟨hc5, hc5'⟩ := pT hc5
      have hq8 : (valS f e.2).2 = 8 := by omega
      refine AW.region ?_
      refine st (OpT.alias (H rfl) (by decide) (by decide)) rfl ?_
      refine st (mvT rfl) rfl ?_
      refine st (mvT rfl) rfl ?_
      refine st (OpT.build (H rfl) pl98 zr98 zk98 (Built.cel (T1 rfl) rfl rfl sb98_0 (Built.cel (T1 rfl) rfl rfl sb98_1 (Built.nil _)))) rfl ?_
      refine st (OpT.buildSlice (H rfl) el28 zr98 sz98 rfl (by decide) zk98 (by decide) (Built.agg (T1 rfl) rfl (by decide) (sub_arr (by decide) ((0, 0) : Int × Int)) (Built.nil _))) rfl ?_
      refine sg (OpT.append (H rfl) (Root.ali rfl (by decide) (by decide)) rfl (Src.own (Root.self (t := 52) (by decide)) rfl) (by decide) el28 zr98 rfl sz98 by98 (by decide) (by have h70 := dbt_room hsl hxl (z := z) (by omega); have h71 := dbt1_len (s := s) (m := e.2) (y := y) z; simp only [List.length_append, List.length_set, List.length_replicate]; omega)) (ko 53 rfl <| ko 52 rfl <| ka 51 rfl <| kc4 50 49 47 46 rfl <| kc4 12 11 45 44 rfl <| Kc 39 (.ali _) rfl <| kc2 10043 20043 rfl <| ka 42 rfl <| Kc 41 (.pel _ _ _ _ _ _ _) rfl <| ka 40 rfl <| kb 10 rfl <| kc 9 rfl <| ka 38 rfl <| kc4 37 36 35 0 rfl <| kc 7 rfl <| kb 8 rfl <| kc4 25 26 27 32 rfl <| kc2 33 34 rfl <| Kn) rfl ?_
      refine sg (OpT.take (.inl rfl) rfl (ok' rfl) (Root.self (by decide)) rfl rfl (by decide)) (ko 6 rfl <| ko 52 rfl <| ka 51 rfl <| kc4 50 49 47 46 rfl <| kc4 12 11 45 44 rfl <| Kc 39 (.ali _) rfl <| kc2 10043 20043 rfl <| ka 42 rfl <| Kc 41 (.pel _ _ _ _ _ _ _) rfl <| ka 40 rfl <| kb 10 rfl <| kc 9 rfl <| ka 38 rfl <| kc4 37 36 35 0 rfl <| kc 7 rfl <| kb 8 rfl <| kc4 25 26 27 32 rfl <| kc2 33 34 rfl <| Kn) rfl ?_
      refine nn ?_
      refine AX.normal_block ?_
      refine AX.go ?_
      refine AW.region ?_
      refine st (OpT.add (H rfl) (T1 rfl) (I rfl) (nw (by omega))) rfl ?_
      refine st (mvT rfl) rfl ?_
      refine nn ?_
      exact AX.again (y + 1) (by omega) (by omega) (Kc 0 _ (Kv rfl rfl) <| Kc 6 _ (Ko rfl (by first | exact (List.append_assoc _ _ _).trans (congrArg (fun l => dbt s x z ++ l) (dbt1_yes hf hq8)) | (rw [dbt1_no hf hq8]; done))) <| Kc 7 _ (Kv rfl rfl) <| Kc 8 _ (Kb rfl rfl) <| Kc 25 _ (Kv rfl rfl) <| Kc 26 _ (Kv rfl rfl) <| Kc 27 _ (Kv rfl rfl) <| Kc 32 _ (Kv rfl rfl) <| Kc 33 _ (Kv rfl rfl) <| Kc 34 _ (Kv rfl (by omega)) <| Kn)
     ·
      obtain ⟨hc5, hc5'⟩ := pF hc5
      have hq8 : ¬ (valS f e.2).2 = 8 := by omega
      refine AW.skip ?_
      refine AX.normal_block ?_
      refine AX.go ?_
      refine AW.region ?_
      refine st (OpT.add (H rfl) (T1 rfl) (I rfl) (nw (by omega))) rfl ?_
      refine st (mvT rfl) rfl ?_
      refine nn ?_
      exact AX.again (y + 1) (by omega) (by omega) (Kc 0 _ (Kv rfl rfl) <| Kc 6 _ (Ko rfl (by first | exact (List.append_assoc _ _ _).trans (congrArg (fun l => dbt s x z ++ l) (dbt1_yes hf hq8)) | (rw [dbt1_no hf hq8]; done))) <| Kc 7 _ (Kv rfl rfl) <| Kc 8 _ (Kb rfl rfl) <| Kc 25 _ (Kv rfl rfl) <| Kc 26 _ (Kv rfl rfl) <| Kc 27 _ (Kv rfl rfl) <| Kc 32 _ (Kv rfl rfl) <| Kc 33 _ (Kv rfl rfl) <| Kc 34 _ (Kv rfl (by omega)) <| Kn)
    ·
     obtain ⟨hc4, hc4'⟩ := pF hc4
     refine AW.exit ?_
     refine xT <| xT <| AX.exit_hit ?_
     refine AX.normal_block ?_
     refine AX.go ?_
     refine AW.region ?_
     refine st (OpT.add (H rfl) (T1 rfl) (I rfl) (nw (by omega))) rfl ?_
     refine st (mvT rfl) rfl ?_
     refine nn ?_
     exact AX.again (z + 1) (by omega) (by omega) (Kc 0 _ (Kv rfl rfl) <| Kc 6 _ (Ko rfl (dbt_next he (by omega) (by omega))) <| Kc 25 _ (Kv rfl rfl) <| Kc 26 _ (Kv rfl rfl) <| Kc 27 _ (Kv rfl (by omega)) <| Kn)
   ·
    obtain ⟨hc3, hc3'⟩ := pF hc3
    refine AW.exit ?_
    refine xT <| xT <| AX.exit_hit ?_
    refine AX.go ?_
    refine sr ?_
    refine st (OpT.alias (H rfl) (by decide) (by decide)) rfl ?_
    refine sg (OpT.take (.inl rfl) rfl (ok' rfl) (Root.ali rfl (by decide) (by decide)) rfl rfl (by decide)) (ko 4 rfl <| kc4 28 0 25 26 rfl <| kc 27 rfl <| Kn) rfl ?_
    refine st (asI rfl) rfl ?_
    refine ng ?_
    refine AW.ret ?_
    exact AX.rt (rs := [.tmp 4, .tmp 5]) (ts := [some 4, some 5]) (.inl rfl) rfl (ROs.cons (RO.tmp (At.self (by decide)) (Ko rfl (by first | (rw [dbtS_no (tabE_one hc1) (by omega)]; first | done | rfl) | (rw [dbtS_no (tabE_two hc1 (by omega)) (by omega)]; first | done | rfl) | (rw [dbtS_yes (z := z) (tabE_zero hc1 (by omega)) (by omega) (by omega)]; first | done | rfl))) rfl) <| ROs.cons (RO.tmp (At.self (by decide)) (Kv rfl (by first | (rw [dbtS_no (tabE_one hc1) (by omega)]; first | done | rfl) | (rw [dbtS_no (tabE_two hc1 (by omega)) (by omega)]; first | done | rfl) | (rw [dbtS_yes (z := z) (tabE_zero hc1 (by omega)) (by omega) (by omega)]; first | done | rfl))) rfl) <| ROs.nil) (by decide) OutsOK.nil
theorem c_impl_DoubtsOf (s : List DField) (x : List DCard) : AC Tryz.prog 7 [.cel (Kd.slice kField) s, .cel (Kd.slice kCard) x] [.cel (Kd.slice kShare) (dbtS s x).1, .cel (Kd.int .i64) (dbtS s x).2] [] := (c_impl_DoubtsOf_o s x).frz rfl

/-- spec.SameDoubts -/
theorem c_spec_SameDoubts (x y : List (Int × Int)) : AC Tryz.prog 9 [.cel (Kd.slice kShare) x, .cel (Kd.slice kShare) y] [.cel Kd.bool (eqv x y)] [] := by
 refine acI (N := 26) Tryz.func9 (Nat.le_of_ble_eq_true rfl) rfl fun w0 hd s0 ar => ?_
 refine AW.to (kc2 0 1 rfl <| Kn) ?_
 refine AW.fact (fun a w hr => (ok_slice (R_ok (t := 0) rfl hr)).2) (fun hl0 => ?_)
 refine AW.fact (fun a w hr => (ok_slice (R_ok (t := 1) rfl hr)).2) (fun hl1 => ?_)
 refine sr ?_
 refine st (asB rfl) rfl ?_
 refine ng ?_
 refine AW.seq ?_
 refine sr ?_
 refine st (mvT rfl) rfl ?_
 refine st (OpT.len (H rfl) (T1 rfl) el28) rfl ?_
 refine st (mvT rfl) rfl ?_
 refine st (OpT.len (H rfl) (T1 rfl) el28) rfl ?_
 refine st (OpT.neq (H rfl) (T1 rfl) (T1 rfl)) rfl ?_
 refine ng ?_
 refine cd rfl (fun hc1 => ?_) fun hc1 => ?_
 ·
  replace hc1 := oT hc1
  try simp only [bne_iff_ne, ne_eq, bne_eq_false_iff_eq] at hc1
  refine sr ?_
  refine st (asB rfl) rfl ?_
  refine ng ?_
  refine AW.ret ?_
  refine rT ?_
  exact rt1 rfl (.inl rfl) (by first | exact eqs_len (by omega) | exact eqs_ne ha hb (by simpa [eqv_iff, eqv_false_iff] using hc3) | exact eqs_all hI.2 (by omega) (by omega))
 ·
  replace hc1 := oF hc1
  try simp only [bne_iff_ne, ne_eq, bne_eq_false_iff_eq] at hc1
  refine AW.skip ?_
  refine AX.go ?_
  refine AW.seq ?_
  refine sr ?_
  refine st (asI rfl) rfl ?_
  refine ng ?_
  refine AW.block ?_
  refine AW.loop (fun z : Nat => z ≤ x.length ∧ x.take z = y.take z) (fun z : Nat => keep [(0, .cel (Kd.slice kShare) x), (1, .cel (Kd.slice kShare) y), (5, .cel (Kd.int .i64) (z : Int))]) (fun z : Nat => x.length - z) (0) ⟨Nat.zero_le _, rfl⟩ (Kc 0 _ (Kv rfl rfl) <| Kc 1 _ (Kv rfl rfl) <| Kc 5 _ (Kv rfl rfl) <| Kn) ?_
  intro z hI
  refine AW.seq ?_
  refine sr ?_
  refine st (mvT rfl) rfl ?_
  refine st (mvT rfl) rfl ?_
  refine st (OpT.len (H rfl) (T1 rfl) el28) rfl ?_
  refine st (OpT.lss (H rfl) (T1 rfl) (T1 rfl)) rfl ?_
  refine ng ?_
  refine cd rfl (fun hc2 => ?_) fun hc2 => ?_
  ·
   replace hc2 := oT hc2
   obtain ⟨a, ha⟩ := getI (x := x) (z := z) (by omega); obtain ⟨b, hb⟩ := getI (x := y) (z := z) (by omega)
   refine AW.skip ?_
   refine AX.go ?_
   refine AW.seq ?_
   refine AW.block ?_
   refine AW.seq ?_
   refine dh fomo ?_
   refine d1 [0] (fun ve h => OpT.move (A := .cel _ _) (.inl rfl) rfl (ok' rfl) (D1 h rfl) rfl) rfl ?_
   refine d1 [5] (fun ve h => OpT.move (A := .cel _ _) (.inl rfl) rfl (ok' rfl) (D1 h rfl) rfl) rfl ?_
   refine d1 [17, 18] (fun ve h => OpT.indexAddr (H rfl) (D1 h rfl) (D1 h rfl) el28 sz98 (by omega) (by assumption)) rfl ?_
   refine d1 [19] (fun ve h => OpT.loadA (H rfl) (D1 h rfl) ag98 sz98) rfl ?_
   refine d1 [1] (fun ve h => OpT.move (A := .cel _ _) (.inl rfl) rfl (ok' rfl) (D1 h rfl) rfl) rfl ?_
   refine d1 [5] (fun ve h => OpT.move (A := .cel _ _) (.inl rfl) rfl (ok' rfl) (D1 h rfl) rfl) rfl ?_
   refine d1 [21, 22] (fun ve h => OpT.indexAddr (H rfl) (D1 h rfl) (D1 h rfl) el28 sz98 (by omega) (by assumption)) rfl ?_
   refine d1 [23] (fun ve h => OpT.loadA (H rfl) (D1 h rfl) ag98 sz98) rfl ?_
   refine d1 [20, 24] (fun ve h => OpT.neA (H rfl) (D1 h rfl) (D1 h rfl) eq98 ag98 rfl eg98) rfl ?_
   refine dn ⟨by kernel_rfl, by kernel_rfl, ?_⟩
   refine AX.go ?_
   refine cd rfl (fun hc3 => ?_) fun hc3 => ?_
   ·
    replace hc3 := oT hc3
    refine sr ?_
    refine st (asB rfl) rfl ?_
    refine ng ?_
    refine AW.ret ?_
    refine rK <| rT <| rT <| rK <| rT ?_
    exact rt1 rfl (.inl rfl) (by first | exact eqs_len (by omega) | exact eqs_ne ha hb (by simpa [eqv_iff, eqv_false_iff] using hc3) | exact eqs_all hI.2 (by omega) (by omega))
   ·
    replace hc3 := oF hc3
    refine AW.skip ?_
    refine AX.normal_block ?_
    refine AX.go ?_
    refine AW.region ?_
    refine st (mvT rfl) rfl ?_
    refine st (OpT.add (H rfl) (T1 rfl) (I rfl) (nw (by omega))) rfl ?_
    refine st (asT rfl) rfl ?_
    refine nn ?_
    exact AX.again (z + 1) ⟨by omega, eqs_step hI.2 ha hb (by simpa [eqv_iff, eqv_false_iff] using hc3)⟩ (by omega) (Kc 0 _ (Kv rfl rfl) <| Kc 1 _ (Kv rfl rfl) <| Kc 5 _ (Kv rfl (by omega)) <| Kn)
  ·
   replace hc2 := oF hc2
   refine AW.exit ?_
   refine xT <| xT <| AX.exit_hit ?_
   refine AX.go ?_
   refine sr ?_
   refine st (asB rfl) rfl ?_
   refine ng ?_
   refine AW.ret ?_
   exact rt1 rfl (.inl rfl) (by first | exact eqs_len (by omega) | exact eqs_ne ha hb (by simpa [eqv_iff, eqv_false_iff] using hc3) | exact eqs_all hI.2 (by omega) (by omega))

/-- spec.JoinMasks -/
theorem c_spec_JoinMasks (x y : BitVec 64 × BitVec 64) : AC Tryz.prog 21 [.agg kMask x, .agg kMask y] [.agg kMask (joinM x y)] [] := by
 refine acI (N := 8) Tryz.func21 (Nat.le_of_ble_eq_true rfl) rfl fun w0 hd s0 ar => ?_
 refine AW.to (ka 0 rfl <| ka 1 rfl <| Kn) ?_
 refine sr ?_
 refine st (OpT.frz (OpT.boxA (E := 34) (H rfl) (T1 rfl))) rfl ?_
 refine st (OpT.frz (OpT.boxA (E := 34) (H rfl) (T1 rfl))) rfl ?_
 refine st (OpT.alloc (H rfl) zr34 zk34) rfl ?_
 refine ng ?_
 refine sr ?_
 refine st (OpT.loadA (H rfl) (T1 rfl) ag34 sz34) rfl ?_
 refine st (OpT.loadA (H rfl) (T1 rfl) ag34 sz34) rfl ?_
 refine st (OpT.c1 (ms := [.flat, .flat]) (c_spec_l01Join _ _) (H rfl) (Af (T1 rfl) rfl rfl <| Af (T1 rfl) rfl rfl <| An) rfl rfl) rfl ?_
 refine sk (OpT.storeBA rfl rfl (Opd.whole (Root.self (t := 4) (by decide)) rfl) rfl sz34 (by decide) (T1 rfl)) rfl ?_
 refine ng ?_
 refine AW.ret ?_
 exact AX.rt (rs := [.cell 4 34]) (ts := [none]) (.inl rfl) rfl (ROs.cons (RO.cellA (by decide) (Kb rfl rfl) ag34 sz34) <| ROs.nil) (by decide) OutsOK.nil

/-- spec.LessMask -/
theorem c_spec_LessMask (x y : BitVec 64 × BitVec 64) : AC Tryz.prog 22 [.agg kMask x, .agg kMask y] [.agg kMask (lessM x y)] [] := by
 refine acI (N := 8) Tryz.func22 (Nat.le_of_ble_eq_true rfl) rfl fun w0 hd s0 ar => ?_
 refine AW.to (ka 0 rfl <| ka 1 rfl <| Kn) ?_
 refine sr ?_
 refine st (OpT.frz (OpT.boxA (E := 34) (H rfl) (T1 rfl))) rfl ?_
 refine st (OpT.frz (OpT.boxA (E := 34) (H rfl) (T1 rfl))) rfl ?_
 refine st (OpT.alloc (H rfl) zr34 zk34) rfl ?_
 refine ng ?_
 refine sr ?_
 refine st (OpT.loadA (H rfl) (T1 rfl) ag34 sz34) rfl ?_
 refine st (OpT.loadA (H rfl) (T1 rfl) ag34 sz34) rfl ?_
 refine st (OpT.c1 (ms := [.flat, .flat]) (c_spec_l01Less _ _) (H rfl) (Af (T1 rfl) rfl rfl <| Af (T1 rfl) rfl rfl <| An) rfl rfl) rfl ?_
 refine sk (OpT.storeBA rfl rfl (Opd.whole (Root.self (t := 4) (by decide)) rfl) rfl sz34 (by decide) (T1 rfl)) rfl ?_
 refine ng ?_
 refine AW.ret ?_
 exact AX.rt (rs := [.cell 4 34]) (ts := [none]) (.inl rfl) rfl (ROs.cons (RO.cellA (by decide) (Kb rfl rfl) ag34 sz34) <| ROs.nil) (by decide) OutsOK.nil

/-- spec.PartOf -/
theorem c_spec_PartOf (f : DField) (hok : fieldOK f) : AC Tryz.prog 20 [.agg kField f] [.agg kMask (partF f), .cel (Kd.int .i64) 0] [] := by
 refine acI (N := 8) Tryz.func20 (Nat.le_of_ble_eq_true rfl) rfl fun w0 hd s0 ar => ?_
 refine AW.to (ka 0 rfl <| Kn) ?_
 refine sr ?_
 refine st (OpT.frz (OpT.boxA (E := 52) (H rfl) (T1 rfl))) rfl ?_
 refine st (OpT.alloc (H rfl) zr34 zk34) rfl ?_
 refine st (asI rfl) rfl ?_
 refine ng ?_
 refine AW.seq ?_
 refine sr ?_
 refine st (OpT.c1 (ms := [.flat]) (c_spec_l01Field _) (H rfl) (Af (T1 rfl) rfl rfl <| An) rfl rfl) rfl ?_
 refine st (OpT.not (H rfl) (T1 rfl)) rfl ?_
 refine ng ?_
 refine cd rfl (fun hc1 => ?_) fun hc1 => ?_
 ·
  replace hc1 := oT hc1
  exact (show False from (by rw [tt_iff.2 hok] at hc1; exact absurd hc1 (by decide))).elim
 ·
  replace hc1 := oF hc1
  refine AW.skip ?_
  refine AX.go ?_
  refine sr ?_
  refine st (OpT.c1 (ms := [.flat]) (c_spec_l01Part _ hok) (H rfl) (Af (T1 rfl) rfl rfl <| An) rfl rfl) rfl ?_
  refine sk (OpT.storeBA rfl rfl (Opd.whole (Root.self (t := 2) (by decide)) rfl) rfl sz34 (by decide) (T1 rfl)) rfl ?_
  refine st (asI rfl) rfl ?_
  refine ng ?_
  refine AW.ret ?_
  exact AX.rt (rs := [.cell 2 34, .tmp 3]) (ts := [none, some 3]) (.inl rfl) rfl (ROs.cons (RO.cellA (by decide) (Kb rfl rfl) ag34 sz34) <| ROs.cons (RO.tmp (At.self (by decide)) (Kv rfl rfl) rfl) <| ROs.nil) (by decide) OutsOK.nil
end Go.Proofs.YtmdiimhighlllaaGreatDoor.VL
