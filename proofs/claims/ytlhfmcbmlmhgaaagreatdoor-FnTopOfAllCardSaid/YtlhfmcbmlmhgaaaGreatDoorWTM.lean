/- Proved here: what some functions of the program take and give: walks with the words of VA..VQ. Printed by program. -/
import Derived.Test.YtlhfmcbmlmhgaaaGreatDoorWT
import Derived.Test.YtlhfmcbmlmhgaaaGreatDoorPZV
import Derived.Test.YtlhfmcbmlmhgaaaGreatDoorWP
import Derived.Test.YtlhfmcbmlmhgaaaGreatDoorWK
import Derived.Test.YtlhfmcbmlmhgaaaGreatDoorWA
import Derived.Test.YtlhfmcbmlmhgaaaGreatDoorWV
import Derived.Test.YtlhfmcbmlmhgaaaGreatDoorWB
import Derived.Test.YtlhfmcbmlmhgaaaGreatDoorWPA
set_option linter.unusedVariables false
set_option linter.unusedSimpArgs false
set_option maxRecDepth 4000
namespace Go.Proofs.YtlhfmcbmlmhgaaaGreatDoor.VL
open Go
theorem c_codeS (f : DField) (v : Int) (hok : fieldOK f) (hv : 0 ≤ v ∧ v ≤ topF f) : AC Tryz.prog 37 [.cel (Kd.ptr kField) f, .cel (Kd.int .i64) v] [.agg kMask (codeF f v)] [] := by
 have h := c_spec_l01Code f v.toNat hok (by omega)
 rwa [Int.toNat_of_nonneg hv.1] at h

theorem c_spec_MakeCard (s : List DField) (n : ByteArray) (vs : List Int) : AC Tryz.prog 5 [.cel (Kd.slice kField) s, .cel Kd.str n, .cel (Kd.slice (Kd.int .i64)) vs] [.agg kCard (makeS s n vs).1, .cel (Kd.int .i64) (makeS s n vs).2] [] := by
 refine acI (N := 62) Tryz.func5 (Nat.le_of_ble_eq_true rfl) rfl fun w0 hd s0 ar => ?_
 refine AW.to (kc3 0 1 2 rfl <| Kn) ?_
 refine AW.fact (fun a w hr => (ok_slice (R_ok (t := 0) rfl hr)).2) (fun hl0 => ?_)
 refine AW.fact (fun a w hr => (ok_slice (R_ok (t := 2) rfl hr)).2) (fun hl2 => ?_)
 refine sr ?_
 refine st (OpT.alloc (H rfl) zr33 zk33) rfl ?_
 refine st (asI rfl) rfl ?_
 refine ng ?_
 refine AW.seq ?_
 refine sr ?_
 refine st (mvT rfl) rfl ?_
 refine st (OpT.c1 (ms := [.flat]) (c_spec_l01Scheme _) (H rfl) (Af (T1 rfl) rfl rfl <| An) rfl rfl) rfl ?_
 refine st (OpT.not (H rfl) (T1 rfl)) rfl ?_
 refine ng ?_
 refine cd rfl (fun hc1 => ?_) fun hc1 => ?_
 ·
  obtain ⟨hc1, hc1'⟩ := pT hc1
  have hss : tt (schemeOK s) = false := by simpa using hc1
  refine sr ?_
  refine st (OpT.build (H rfl) pl33 zr33 zk33 (Built.nil _)) rfl ?_
  refine sk (OpT.storeBA rfl rfl (Opd.whole (Root.self (t := 6) (by decide)) rfl) rfl sz33 (by decide) (T1 rfl)) rfl ?_
  refine st (asI rfl) rfl ?_
  refine ng ?_
  refine AW.ret ?_
  refine rT ?_
  exact AX.rt (rs := [.cell 6 33, .tmp 7]) (ts := [none, some 7]) (.inl rfl) rfl (ROs.cons (RO.cellA (by decide) (Kb rfl (by first | (rw [make_bad hss]; first | done | rfl) | (rw [make_name hss hnm]; first | done | rfl) | (rw [make_out hss hnm (by omega) hni]; first | done | rfl) | (rw [make_yes hss hnm hI.2 (by omega) (by omega)]; first | done | rfl))) ag33 sz33) <| ROs.cons (RO.tmp (At.self (by decide)) (Kv rfl (by first | (rw [make_bad hss]; first | done | rfl) | (rw [make_name hss hnm]; first | done | rfl) | (rw [make_out hss hnm (by omega) hni]; first | done | rfl) | (rw [make_yes hss hnm hI.2 (by omega) (by omega)]; first | done | rfl))) rfl) <| ROs.nil) (by decide) OutsOK.nil
 ·
  obtain ⟨hc1, hc1'⟩ := pF hc1
  have hss : tt (schemeOK s) = true := by simpa using hc1
  refine AW.skip ?_
  refine AX.go ?_
  refine AW.seq ?_
  refine sr ?_
  refine st (mvT rfl) rfl ?_
  refine st (OpT.c1 (ms := [.flat]) (c_spec_l01Name _) (H rfl) (Af (T1 rfl) rfl rfl <| An) rfl rfl) rfl ?_
  refine st (OpT.not (H rfl) (T1 rfl)) rfl ?_
  refine st (mvT rfl) rfl ?_
  apply AWl.or (d := 23) (t := 17) rfl
  ·
   intro hb1 Q1 k1
   have hb1' := lF hb1
   refine rs hb1 (mvT rfl) rfl ?_
   refine rs hb1 (OpT.len (H rfl) (T1 rfl) el23) rfl ?_
   refine rs hb1 (mvT rfl) rfl ?_
   refine rs hb1 (OpT.len (H rfl) (T1 rfl) el22) rfl ?_
   refine rs hb1 (OpT.neq (H rfl) (T1 rfl) (T1 rfl)) rfl ?_
   refine st (OpT.pickF (A := .cel _ _) (H rfl) (T1 rfl) hb1 (T1 rfl) rfl) rfl ?_
   exact AWl.to (junk 5 rfl) k1
  ·
   intro hb1 Q1 k1
   refine ps hb1 rfl ?_
   refine ps hb1 rfl ?_
   refine ps hb1 rfl ?_
   refine ps hb1 rfl ?_
   refine ps hb1 rfl ?_
   refine st (OpT.pickT (A := .cel _ _) (H rfl) (T1 rfl) hb1 Opd.bool rfl) rfl ?_
   exact k1
  refine ng ?_
  refine cd rfl (fun hc2 => ?_) fun hc2 => ?_
  ·
   obtain ⟨hc2, hc2'⟩ := pT hc2
   have hnm : (!(tt (nameOK n)) || decide (¬ (vs.length : Int) = s.length)) = true := by simpa using hc2
   refine sr ?_
   refine st (OpT.build (H rfl) pl33 zr33 zk33 (Built.nil _)) rfl ?_
   refine sk (OpT.storeBA rfl rfl (Opd.whole (Root.self (t := 6) (by decide)) rfl) rfl sz33 (by decide) (T1 rfl)) rfl ?_
   refine st (asI rfl) rfl ?_
   refine AWl.to (kc 7 rfl <| kb 6 rfl <| kc3 0 1 2 rfl <| Kn) ?_
   refine ng ?_
   refine AW.ret ?_
   refine rT ?_
   exact AX.rt (rs := [.cell 6 33, .tmp 7]) (ts := [none, some 7]) (.inl rfl) rfl (ROs.cons (RO.cellA (by decide) (Kb rfl (by first | (rw [make_bad hss]; first | done | rfl) | (rw [make_name hss hnm]; first | done | rfl) | (rw [make_out hss hnm (by omega) hni]; first | done | rfl) | (rw [make_yes hss hnm hI.2 (by omega) (by omega)]; first | done | rfl))) ag33 sz33) <| ROs.cons (RO.tmp (At.self (by decide)) (Kv rfl (by first | (rw [make_bad hss]; first | done | rfl) | (rw [make_name hss hnm]; first | done | rfl) | (rw [make_out hss hnm (by omega) hni]; first | done | rfl) | (rw [make_yes hss hnm hI.2 (by omega) (by omega)]; first | done | rfl))) rfl) <| ROs.nil) (by decide) OutsOK.nil
  ·
   obtain ⟨hc2, hc2'⟩ := pF hc2
   have hnm : (!(tt (nameOK n)) || decide (¬ (vs.length : Int) = s.length)) = false := by simpa using hc2
   have hvl := (make_len hnm).2
   refine AW.skip ?_
   refine AX.go ?_
   refine sr ?_
   refine st (mvT rfl) rfl ?_
   refine st (OpT.build (H rfl) pl33 zr33 zk33 (Built.cel (T1 rfl) rfl rfl sb33_0 (Built.nil _))) rfl ?_
   refine st (OpT.alloc (H rfl) zr33 zk33) rfl ?_
   refine sk (OpT.storeBA rfl rfl (Opd.whole (Root.self (t := 8) (by decide)) rfl) rfl sz33 (by decide) (T1 rfl)) rfl ?_
   refine AWl.to (kb 8 rfl <| kc 7 rfl <| kb 6 rfl <| kc2 0 2 rfl <| Kn) ?_
   refine ng ?_
   refine AW.seq ?_
   refine sr ?_
   refine st (asI rfl) rfl ?_
   refine ng ?_
   refine AW.block ?_
   refine AW.loop (fun z : Nat => z ≤ s.length ∧ ∀ i, i < z → inVI s vs i) (fun z : Nat => keep [(0, .cel (Kd.slice kField) s), (2, .cel (Kd.slice (Kd.int .i64)) vs), (6, .box 33 kCard (ByteArray.empty, (0#64, 0#64))), (8, .box 33 kCard (n, mkM s vs z)), (9, .cel (Kd.int .i64) (z : Int))]) (fun z : Nat => s.length - z) (0) ⟨Nat.zero_le _, all_none⟩ (Kc 0 _ (Kv rfl rfl) <| Kc 2 _ (Kv rfl rfl) <| Kc 6 _ (Kb rfl rfl) <| Kc 8 _ (Kb rfl rfl) <| Kc 9 _ (Kv rfl rfl) <| Kn) ?_
   intro z hI
   refine AW.seq ?_
   refine sr ?_
   refine st (mvT rfl) rfl ?_
   refine st (mvT rfl) rfl ?_
   refine st (OpT.len (H rfl) (T1 rfl) el22) rfl ?_
   refine st (OpT.lss (H rfl) (T1 rfl) (T1 rfl)) rfl ?_
   refine ng ?_
   refine cd rfl (fun hc3 => ?_) fun hc3 => ?_
   ·
    obtain ⟨hc3, hc3'⟩ := pT hc3
    obtain ⟨f, hf⟩ := getI (x := s) (z := z) (by omega)
    obtain ⟨v, hv⟩ := getI (x := vs) (z := z) (by omega)
    have hfo := sch_field (tt_iff.1 hss) hf
    refine AW.skip ?_
    refine AX.go ?_
    refine AW.seq ?_
    refine AW.block ?_
    refine AW.seq ?_
    refine AW.seq ?_
    refine dh fomo ?_
    refine d1 [2] (fun ve h => OpT.move (A := .cel _ _) (.inl rfl) rfl (ok' rfl) (D1 h rfl) rfl) rfl ?_
    refine d1 [9] (fun ve h => OpT.move (A := .cel _ _) (.inl rfl) rfl (ok' rfl) (D1 h rfl) rfl) rfl ?_
    refine d1 [33, 34] (fun ve h => OpT.indexAddr (H rfl) (D1 h rfl) (D1 h rfl) el23 sz2 (by omega) hv) rfl ?_
    refine d1 [35] (fun ve h => OpT.load (H rfl) (D1 h rfl) ag2 rfl) rfl ?_
    refine d1 [0] (fun ve h => OpT.move (A := .cel _ _) (.inl rfl) rfl (ok' rfl) (D1 h rfl) rfl) rfl ?_
    refine d1 [9] (fun ve h => OpT.move (A := .cel _ _) (.inl rfl) rfl (ok' rfl) (D1 h rfl) rfl) rfl ?_
    refine d1 [37, 38] (fun ve h => OpT.indexAddr (H rfl) (D1 h rfl) (D1 h rfl) el22 sz28 (by omega) hf) rfl ?_
    refine d1 [39] (fun ve h => OpT.c1 (ms := [.flat]) (c_spec_l01Most _ hfo) (H rfl) (Af (D1 h rfl) rfl rfl <| An) rfl rfl) rfl ?_
    refine d1 [36, 40] (fun ve h => OpT.c1 (ms := [.flat, .flat, .flat]) (c_spec_l00In _ _ _) (H rfl) (Af (D1 h rfl) rfl rfl <| Af (I rfl) rfl rfl <| Af (D1 h rfl) rfl rfl <| An) rfl rfl) rfl ?_
    refine d1 [41] (fun ve h => OpT.not (H rfl) (D1 h rfl)) rfl ?_
    refine dn ⟨by kernel_rfl, by kernel_rfl, ?_⟩
    refine AX.go ?_
    refine cd rfl (fun hc4 => ?_) fun hc4 => ?_
    ·
     obtain ⟨hc4, hc4'⟩ := pT hc4
     have hni : ¬ inVI s vs z := fun h9 => by have h8 := (inVI_iff hf hv).1 h9; unfold inV at h8; rw [inb, Bool.and_eq_false_iff, decide_eq_false_iff_not, decide_eq_false_iff_not] at hc4; omega
     refine sr ?_
     refine st (OpT.build (H rfl) pl33 zr33 zk33 (Built.nil _)) rfl ?_
     refine sk (OpT.storeBA rfl rfl (Opd.whole (Root.self (t := 6) (by decide)) rfl) rfl sz33 (by decide) (T1 rfl)) rfl ?_
     refine st (asI rfl) rfl ?_
     refine ng ?_
     refine AW.ret ?_
     refine rT <| rK <| rT <| rT <| rK <| rT ?_
     exact AX.rt (rs := [.cell 6 33, .tmp 7]) (ts := [none, some 7]) (.inl rfl) rfl (ROs.cons (RO.cellA (by decide) (Kb rfl (by first | (rw [make_bad hss]; first | done | rfl) | (rw [make_name hss hnm]; first | done | rfl) | (rw [make_out hss hnm (by omega) hni]; first | done | rfl) | (rw [make_yes hss hnm hI.2 (by omega) (by omega)]; first | done | rfl))) ag33 sz33) <| ROs.cons (RO.tmp (At.self (by decide)) (Kv rfl (by first | (rw [make_bad hss]; first | done | rfl) | (rw [make_name hss hnm]; first | done | rfl) | (rw [make_out hss hnm (by omega) hni]; first | done | rfl) | (rw [make_yes hss hnm hI.2 (by omega) (by omega)]; first | done | rfl))) rfl) <| ROs.nil) (by decide) OutsOK.nil
    ·
     obtain ⟨hc4, hc4'⟩ := pF hc4
     have hvi : inV f v := by unfold inV; rw [inb, Bool.and_eq_true, decide_eq_true_eq, decide_eq_true_eq] at hc4; exact hc4
     have hyi := (inVI_iff hf hv).2 hvi
     have hvi2 := hvi
     unfold inV at hvi2
     refine AW.skip ?_
     refine AX.go ?_
     refine sr ?_
     refine st (mvT rfl) rfl ?_
     refine st (mvT rfl) rfl ?_
     refine st (OpT.indexAddr (H rfl) (T1 rfl) (T1 rfl) el23 sz2 (by omega) hv) rfl ?_
     refine st (OpT.load (H rfl) (T1 rfl) ag2 rfl) rfl ?_
     refine st (OpT.geq (H rfl) (T1 rfl) (I rfl)) rfl ?_
     refine ng ?_
     refine cd rfl (fun hc5 => ?_) fun hc5 => ?_
     ·
      obtain ⟨hc5, hc5'⟩ := pT hc5
      refine dh fomo ?_
      refine d1 [8] (fun ve h => OpT.fieldAddrB (H rfl) (Root.self (t := 8) (by decide)) ((h _ (List.elem_iff.1 rfl)).trans rfl) (by decide) fd33_1 sz31 (by decide) sb33_1) rfl ?_
      refine d1 [8, 49] (fun ve h => OpT.loadPA (H rfl) (D1 h rfl) (.inl ⟨_, ((h _ (List.elem_iff.1 rfl)).trans rfl), rfl⟩) ag31 sz31) rfl ?_
      refine d1 [0] (fun ve h => OpT.move (A := .cel _ _) (.inl rfl) rfl (ok' rfl) (D1 h rfl) rfl) rfl ?_
      refine d1 [9] (fun ve h => OpT.move (A := .cel _ _) (.inl rfl) rfl (ok' rfl) (D1 h rfl) rfl) rfl ?_
      refine d1 [51, 52] (fun ve h => OpT.indexAddr (H rfl) (D1 h rfl) (D1 h rfl) el22 sz28 (by omega) hf) rfl ?_
      refine d1 [2] (fun ve h => OpT.move (A := .cel _ _) (.inl rfl) rfl (ok' rfl) (D1 h rfl) rfl) rfl ?_
      refine d1 [9] (fun ve h => OpT.move (A := .cel _ _) (.inl rfl) rfl (ok' rfl) (D1 h rfl) rfl) rfl ?_
      refine d1 [54, 55] (fun ve h => OpT.indexAddr (H rfl) (D1 h rfl) (D1 h rfl) el23 sz2 (by omega) hv) rfl ?_
      refine d1 [56] (fun ve h => OpT.load (H rfl) (D1 h rfl) ag2 rfl) rfl ?_
      refine d1 [53, 57] (fun ve h => OpT.c1 (ms := [.flat, .flat]) (c_codeS _ _ hfo (by omega)) (H rfl) (Af (D1 h rfl) rfl rfl <| Af (D1 h rfl) rfl rfl <| An) rfl rfl) rfl ?_
      refine d1 [50, 58] (fun ve h => OpT.c1 (ms := [.flat, .flat]) (c_spec_l01Join _ _) (H rfl) (Af (D1 h rfl) rfl rfl <| Af (D1 h rfl) rfl rfl <| An) rfl rfl) rfl ?_
      refine d1 [8] (fun ve h => OpT.fieldAddrB (H rfl) (Root.self (t := 8) (by decide)) ((h _ (List.elem_iff.1 rfl)).trans rfl) (by decide) fd33_1 sz31 (by decide) sb33_1) rfl ?_
      refine dm (t := 8) [8, 59, 60] (fun ve h => OpT.storeBA rfl rfl (D1 h rfl) ((h _ (List.elem_iff.1 rfl)).trans rfl) sz31 (by decide) (D1 h rfl)) rfl ?_
      refine dn ⟨by kernel_rfl, by kernel_rfl, ?_⟩
      refine AX.normal_block ?_
      refine AX.go ?_
      refine AW.region ?_
      refine st (mvT rfl) rfl ?_
      refine st (OpT.add (H rfl) (T1 rfl) (I rfl) (nw (by omega))) rfl ?_
      refine st (asT rfl) rfl ?_
      refine nn ?_
      exact AX.again (z + 1) ⟨by omega, all_step hI.2 hyi⟩ (by omega) (Kc 0 _ (Kv rfl rfl) <| Kc 2 _ (Kv rfl rfl) <| Kc 6 _ (Kb rfl rfl) <| Kc 8 _ (Kb rfl (by first | exact congrArg (fun m => (n, m)) (mkM_yes hf hv (by omega)) | exact congrArg (fun m => (n, m)) (mkM_no hf hv (by omega)))) <| Kc 9 _ (Kv rfl (by omega)) <| Kn)
     ·
      obtain ⟨hc5, hc5'⟩ := pF hc5
      refine AW.skip ?_
      refine AX.normal_block ?_
      refine AX.go ?_
      refine AW.region ?_
      refine st (mvT rfl) rfl ?_
      refine st (OpT.add (H rfl) (T1 rfl) (I rfl) (nw (by omega))) rfl ?_
      refine st (asT rfl) rfl ?_
      refine nn ?_
      exact AX.again (z + 1) ⟨by omega, all_step hI.2 hyi⟩ (by omega) (Kc 0 _ (Kv rfl rfl) <| Kc 2 _ (Kv rfl rfl) <| Kc 6 _ (Kb rfl rfl) <| Kc 8 _ (Kb rfl (by first | exact congrArg (fun m => (n, m)) (mkM_yes hf hv (by omega)) | exact congrArg (fun m => (n, m)) (mkM_no hf hv (by omega)))) <| Kc 9 _ (Kv rfl (by omega)) <| Kn)
   ·
    obtain ⟨hc3, hc3'⟩ := pF hc3
    refine AW.exit ?_
    refine xT <| xT <| AX.exit_hit ?_
    refine AX.go ?_
    refine sr ?_
    refine st (OpT.loadB (H rfl) (Root.self (t := 8) (by decide)) rfl ag33 sz33) rfl ?_
    refine sk (OpT.storeBA rfl rfl (Opd.whole (Root.self (t := 6) (by decide)) rfl) rfl sz33 (by decide) (T1 rfl)) rfl ?_
    refine st (asI rfl) rfl ?_
    refine ng ?_
    refine AW.ret ?_
    exact AX.rt (rs := [.cell 6 33, .tmp 7]) (ts := [none, some 7]) (.inl rfl) rfl (ROs.cons (RO.cellA (by decide) (Kb rfl (by first | (rw [make_bad hss]; first | done | rfl) | (rw [make_name hss hnm]; first | done | rfl) | (rw [make_out hss hnm (by omega) hni]; first | done | rfl) | (rw [make_yes hss hnm hI.2 (by omega) (by omega)]; first | done | rfl))) ag33 sz33) <| ROs.cons (RO.tmp (At.self (by decide)) (Kv rfl (by first | (rw [make_bad hss]; first | done | rfl) | (rw [make_name hss hnm]; first | done | rfl) | (rw [make_out hss hnm (by omega) hni]; first | done | rfl) | (rw [make_yes hss hnm hI.2 (by omega) (by omega)]; first | done | rfl))) rfl) <| ROs.nil) (by decide) OutsOK.nil

theorem c_spec_EncodeField (f : DField) (v : Int) : AC Tryz.prog 59 [.agg kField f, .cel (Kd.int .i64) v] [.agg kMask (encS f v).1, .cel (Kd.int .i64) (encS f v).2] [] := by
 refine acI (N := 16) Tryz.func59 (Nat.le_of_ble_eq_true rfl) rfl fun w0 hd s0 ar => ?_
 refine AW.to (ka 0 rfl <| kc 1 rfl <| Kn) ?_
 refine sr ?_
 refine st (OpT.frz (OpT.boxA (E := 28) (H rfl) (T1 rfl))) rfl ?_
 refine st (OpT.alloc (H rfl) zr31 zk31) rfl ?_
 refine st (asI rfl) rfl ?_
 refine ng ?_
 refine AW.seq ?_
 refine sr ?_
 refine st (OpT.c1 (ms := [.flat]) (c_spec_l01Field _) (H rfl) (Af (T1 rfl) rfl rfl <| An) rfl rfl) rfl ?_
 refine st (OpT.not (H rfl) (T1 rfl)) rfl ?_
 refine ng ?_
 refine cd rfl (fun hc1 => ?_) fun hc1 => ?_
 ·
  obtain ⟨hc1, hc1'⟩ := pT hc1
  have hfk : tt (fieldOK f) = false := by simpa using hc1
  refine sr ?_
  refine st (OpT.buildA (H rfl) ar31 sz29 zr31 zk31 (Built.nil _)) rfl ?_
  refine sk (OpT.storeBA rfl rfl (Opd.whole (Root.self (t := 4) (by decide)) rfl) rfl sz31 (by decide) (T1 rfl)) rfl ?_
  refine st (asI rfl) rfl ?_
  refine ng ?_
  refine AW.ret ?_
  refine rT ?_
  exact AX.rt (rs := [.cell 4 31, .tmp 5]) (ts := [none, some 5]) (.inl rfl) rfl (ROs.cons (RO.cellA (by decide) (Kb rfl (by first | (rw [encS_bad hfk]; first | done | rfl) | (rw [encS_no hfk hin]; first | done | rfl) | (rw [encS_yes hfk hin]; first | done | rfl))) ag31 sz31) <| ROs.cons (RO.tmp (At.self (by decide)) (Kv rfl (by first | (rw [encS_bad hfk]; first | done | rfl) | (rw [encS_no hfk hin]; first | done | rfl) | (rw [encS_yes hfk hin]; first | done | rfl))) rfl) <| ROs.nil) (by decide) OutsOK.nil
 ·
  obtain ⟨hc1, hc1'⟩ := pF hc1
  have hfk : tt (fieldOK f) = true := by simpa using hc1
  have hok := tt_iff.1 hfk
  refine AW.skip ?_
  refine AX.go ?_
  refine AW.seq ?_
  refine sr ?_
  refine st (mvT rfl) rfl ?_
  refine st (OpT.c1 (ms := [.flat]) (c_spec_l01Most _ hok) (H rfl) (Af (T1 rfl) rfl rfl <| An) rfl rfl) rfl ?_
  refine st (OpT.c1 (ms := [.flat, .flat, .flat]) (c_spec_l00In _ _ _) (H rfl) (Af (T1 rfl) rfl rfl <| Af (I rfl) rfl rfl <| Af (T1 rfl) rfl rfl <| An) rfl rfl) rfl ?_
  refine st (OpT.not (H rfl) (T1 rfl)) rfl ?_
  refine ng ?_
  refine cd rfl (fun hc2 => ?_) fun hc2 => ?_
  ·
   obtain ⟨hc2, hc2'⟩ := pT hc2
   have hin : inb v 0 (topF f) = false := by simpa using hc2
   refine sr ?_
   refine st (OpT.buildA (H rfl) ar31 sz29 zr31 zk31 (Built.nil _)) rfl ?_
   refine sk (OpT.storeBA rfl rfl (Opd.whole (Root.self (t := 4) (by decide)) rfl) rfl sz31 (by decide) (T1 rfl)) rfl ?_
   refine st (asI rfl) rfl ?_
   refine ng ?_
   refine AW.ret ?_
   refine rT ?_
   exact AX.rt (rs := [.cell 4 31, .tmp 5]) (ts := [none, some 5]) (.inl rfl) rfl (ROs.cons (RO.cellA (by decide) (Kb rfl (by first | (rw [encS_bad hfk]; first | done | rfl) | (rw [encS_no hfk hin]; first | done | rfl) | (rw [encS_yes hfk hin]; first | done | rfl))) ag31 sz31) <| ROs.cons (RO.tmp (At.self (by decide)) (Kv rfl (by first | (rw [encS_bad hfk]; first | done | rfl) | (rw [encS_no hfk hin]; first | done | rfl) | (rw [encS_yes hfk hin]; first | done | rfl))) rfl) <| ROs.nil) (by decide) OutsOK.nil
  ·
   obtain ⟨hc2, hc2'⟩ := pF hc2
   have hin : inb v 0 (topF f) = true := by simpa using hc2
   have hir : 0 ≤ v ∧ v ≤ topF f := by (have h70 := hin; rw [inb, Bool.and_eq_true, decide_eq_true_eq, decide_eq_true_eq] at h70; exact h70)
   refine AW.skip ?_
   refine AX.go ?_
   refine sr ?_
   refine st (mvT rfl) rfl ?_
   refine st (OpT.c1 (ms := [.flat, .flat]) (c_codeS _ _ hok hir) (H rfl) (Af (T1 rfl) rfl rfl <| Af (T1 rfl) rfl rfl <| An) rfl rfl) rfl ?_
   refine sk (OpT.storeBA rfl rfl (Opd.whole (Root.self (t := 4) (by decide)) rfl) rfl sz31 (by decide) (T1 rfl)) rfl ?_
   refine st (asI rfl) rfl ?_
   refine AWl.to (kc 5 rfl <| kb 4 rfl <| Kn) ?_
   refine ng ?_
   refine AW.ret ?_
   exact AX.rt (rs := [.cell 4 31, .tmp 5]) (ts := [none, some 5]) (.inl rfl) rfl (ROs.cons (RO.cellA (by decide) (Kb rfl (by first | (rw [encS_bad hfk]; first | done | rfl) | (rw [encS_no hfk hin]; first | done | rfl) | (rw [encS_yes hfk hin]; first | done | rfl))) ag31 sz31) <| ROs.cons (RO.tmp (At.self (by decide)) (Kv rfl (by first | (rw [encS_bad hfk]; first | done | rfl) | (rw [encS_no hfk hin]; first | done | rfl) | (rw [encS_yes hfk hin]; first | done | rfl))) rfl) <| ROs.nil) (by decide) OutsOK.nil

theorem c_spec_QueryFor (f : DField) (v : Int) : AC Tryz.prog 16 [.agg kField f, .cel (Kd.int .i64) v] [.agg kQuery (qfS f v).1, .cel (Kd.int .i64) (qfS f v).2] [] := by
 refine acI (N := 23) Tryz.func16 (Nat.le_of_ble_eq_true rfl) rfl fun w0 hd s0 ar => ?_
 refine AW.to (ka 0 rfl <| kc 1 rfl <| Kn) ?_
 refine sr ?_
 refine st (OpT.frz (OpT.boxA (E := 28) (H rfl) (T1 rfl))) rfl ?_
 refine st (OpT.alloc (H rfl) zr49 zk49) rfl ?_
 refine st (asI rfl) rfl ?_
 refine ng ?_
 refine sr ?_
 refine st (OpT.loadA (H rfl) (T1 rfl) ag28 sz28) rfl ?_
 refine st (mvT rfl) rfl ?_
 refine s2 (OpT.c2 (ms := [.flat, .flat]) (c_spec_EncodeField _ _) (H rfl) (Af (T1 rfl) rfl rfl <| Af (T1 rfl) rfl rfl <| An) rfl rfl rfl) rfl ?_
 refine st (OpT.alias (H rfl) (by decide) (by decide)) rfl ?_
 refine st (OpT.extractV (m := 10011) (H rfl) rfl rfl rfl rfl rfl rfl rfl) rfl ?_
 refine st (OpT.extractV (m := 20011) (H rfl) rfl rfl rfl rfl rfl rfl rfl) rfl ?_
 refine st (OpT.alloc (H rfl) zr31 zk31) rfl ?_
 refine sk (OpT.storeBA rfl rfl (Opd.whole (Root.self (t := 6) (by decide)) rfl) rfl sz31 (by decide) (T1 rfl)) rfl ?_
 refine st (asT rfl) rfl ?_
 refine ng ?_
 refine AW.seq ?_
 refine sr ?_
 refine st (mvT rfl) rfl ?_
 refine st (OpT.neq (H rfl) (T1 rfl) (I rfl)) rfl ?_
 refine AWl.to (kc2 15 7 rfl <| kb 6 rfl <| kc 5 rfl <| kb 4 rfl <| kc 2 rfl <| Kn) ?_
 refine ng ?_
 refine cd rfl (fun hc1 => ?_) fun hc1 => ?_
 ·
  obtain ⟨hc1, hc1'⟩ := pT hc1
  have hec : ¬ (encS f v).2 = 0 := by omega
  refine sr ?_
  refine st (OpT.build (H rfl) pl49 zr49 zk49 (Built.nil _)) rfl ?_
  refine st (mvT rfl) rfl ?_
  refine sk (OpT.storeBA rfl rfl (Opd.whole (Root.self (t := 4) (by decide)) rfl) rfl sz49 (by decide) (T1 rfl)) rfl ?_
  refine st (asT rfl) rfl ?_
  refine ng ?_
  refine AW.ret ?_
  refine rT ?_
  exact AX.rt (rs := [.cell 4 49, .tmp 5]) (ts := [none, some 5]) (.inl rfl) rfl (ROs.cons (RO.cellA (by decide) (Kb rfl (by first | (rw [qfS_no hec]; first | done | rfl) | (rw [qfS_yes hec]; first | done | rfl))) ag49 sz49) <| ROs.cons (RO.tmp (At.self (by decide)) (Kv rfl (by first | (rw [qfS_no hec]; first | done | rfl) | (rw [qfS_yes hec]; first | done | rfl))) rfl) <| ROs.nil) (by decide) OutsOK.nil
 ·
  obtain ⟨hc1, hc1'⟩ := pF hc1
  have hec : (encS f v).2 = 0 := by omega
  have hok := (encS_ok hec).1
  refine AW.skip ?_
  refine AX.pr (kb 6 rfl <| kc 5 rfl <| kb 4 rfl <| kc 2 rfl <| Kn) ?_
  refine AX.go ?_
  refine AW.seq ?_
  refine dh fomo ?_
  refine d1 [6] (fun ve h => OpT.loadB (H rfl) (Root.self (t := 6) (by decide)) ((h _ (List.elem_iff.1 rfl)).trans rfl) ag31 sz31) rfl ?_
  refine d1 [2] (fun ve h => OpT.c1 (ms := [.flat]) (c_spec_l01Part _ hok) (H rfl) (Af (D1 h rfl) rfl rfl <| An) rfl rfl) rfl ?_
  refine d1 [6] (fun ve h => OpT.loadB (H rfl) (Root.self (t := 6) (by decide)) ((h _ (List.elem_iff.1 rfl)).trans rfl) ag31 sz31) rfl ?_
  refine d1 [19, 20] (fun ve h => OpT.c1 (ms := [.flat, .flat]) (c_spec_l01Less _ _) (H rfl) (Af (D1 h rfl) rfl rfl <| Af (D1 h rfl) rfl rfl <| An) rfl rfl) rfl ?_
  refine d1 [18, 21] (fun ve h => OpT.build (H rfl) pl49 zr49 zk49 (Built.agg (D1 h rfl) rfl (by decide) sb49_0 (Built.agg (D1 h rfl) rfl (by decide) sb49_1 (Built.nil _)))) rfl ?_
  refine dm (t := 4) [4, 22] (fun ve h => OpT.storeBA rfl rfl (Opd.whole (Root.self (t := 4) (by decide)) ((h _ (List.elem_iff.1 rfl)).trans rfl)) ((h _ (List.elem_iff.1 rfl)).trans rfl) sz49 (by decide) (D1 h rfl)) rfl ?_
  refine d1 [] (fun ve h => asI rfl) rfl ?_
  refine dn ⟨by kernel_rfl, by kernel_rfl, ?_⟩
  refine AX.go ?_
  refine AW.ret ?_
  exact AX.rt (rs := [.cell 4 49, .tmp 5]) (ts := [none, some 5]) (.inl rfl) rfl (ROs.cons (RO.cellA (by decide) (Kb rfl (by first | (rw [qfS_no hec]; first | done | rfl) | (rw [qfS_yes hec]; first | done | rfl))) ag49 sz49) <| ROs.cons (RO.tmp (At.self (by decide)) (Kv rfl (by first | (rw [qfS_no hec]; first | done | rfl) | (rw [qfS_yes hec]; first | done | rfl))) rfl) <| ROs.nil) (by decide) OutsOK.nil

theorem c_impl_KeyOf (f : DField) (m : DMask) : AC Tryz.prog 13 [.agg kField f, .agg kMask m] [.cel (Kd.int .i64) (keyS f m).1, .cel (Kd.int .i64) (keyS f m).2] [] := by
 refine acI (N := 17) Tryz.func13 (Nat.le_of_ble_eq_true rfl) rfl fun w0 hd s0 ar => ?_
 refine AW.to (ka 0 rfl <| ka 1 rfl <| Kn) ?_
 refine sr ?_
 refine st (OpT.frz (OpT.boxA (E := 28) (H rfl) (T1 rfl))) rfl ?_
 refine st (OpT.frz (OpT.boxA (E := 31) (H rfl) (T1 rfl))) rfl ?_
 refine st (asI rfl) rfl ?_
 refine st (asI rfl) rfl ?_
 refine ng ?_
 refine AW.seq ?_
 refine sr ?_
 refine st (OpT.loadA (H rfl) (T1 rfl) ag28 sz28) rfl ?_
 refine st (OpT.c1 (ms := [.flat]) (c_impl_isField _) (H rfl) (Af (T1 rfl) rfl rfl <| An) rfl rfl) rfl ?_
 refine st (OpT.not (H rfl) (T1 rfl)) rfl ?_
 refine st (mvT rfl) rfl ?_
 apply AWl.or (d := 13) (t := 9) rfl
 ·
  intro hb1 Q1 k1
  have hb1' := lF hb1
  refine rs hb1 (OpT.loadA (H rfl) (T1 rfl) ag31 sz31) rfl ?_
  refine rs hb1 (OpT.c1 (ms := [.flat]) (c_impl_isMask _) (H rfl) (Af (T1 rfl) rfl rfl <| An) rfl rfl) rfl ?_
  refine rs hb1 (OpT.not (H rfl) (T1 rfl)) rfl ?_
  refine st (OpT.pickF (A := .cel _ _) (H rfl) (T1 rfl) hb1 (T1 rfl) rfl) rfl ?_
  exact AWl.to (junk 3 rfl) k1
 ·
  intro hb1 Q1 k1
  refine ps hb1 rfl ?_
  refine ps hb1 rfl ?_
  refine ps hb1 rfl ?_
  refine st (OpT.pickT (A := .cel _ _) (H rfl) (T1 rfl) hb1 Opd.bool rfl) rfl ?_
  exact k1
 refine ng ?_
 refine cd rfl (fun hc1 => ?_) fun hc1 => ?_
 ·
  obtain ⟨hc1, hc1'⟩ := pT hc1
  refine sr ?_
  refine st (asI rfl) rfl ?_
  refine st (asI rfl) rfl ?_
  refine ng ?_
  refine AW.ret ?_
  refine rT ?_
  exact rt2 rfl (.inl rfl) (by first | (rw [keyS_no hc1]; done) | (rw [keyS_yes hc1]; done)) (by first | (rw [keyS_no hc1]; done) | (rw [keyS_yes hc1]; done))
 ·
  obtain ⟨hc1, hc1'⟩ := pF hc1
  have hok : fieldOK f := by (rw [Bool.or_eq_false_iff, Bool.not_eq_false', tt_iff] at hc1; exact hc1.1)
  refine AW.skip ?_
  refine AX.go ?_
  refine sr ?_
  refine st (OpT.loadA (H rfl) (T1 rfl) ag28 sz28) rfl ?_
  refine st (OpT.loadA (H rfl) (T1 rfl) ag31 sz31) rfl ?_
  refine st (OpT.c1 (ms := [.flat, .flat]) (c_impl_Field_key _ _ hok) (H rfl) (Af (T1 rfl) rfl rfl <| Af (T1 rfl) rfl rfl <| An) rfl rfl) rfl ?_
  refine st (asT rfl) rfl ?_
  refine st (asI rfl) rfl ?_
  refine AWl.to (kc2 5 4 rfl <| Kn) ?_
  refine ng ?_
  refine AW.ret ?_
  exact rt2 rfl (.inl rfl) (by first | (rw [keyS_no hc1]; done) | (rw [keyS_yes hc1]; done)) (by first | (rw [keyS_no hc1]; done) | (rw [keyS_yes hc1]; done))
end Go.Proofs.YtlhfmcbmlmhgaaaGreatDoor.VL
