/- Proved here: what some functions of the program take and give: walks with the words of VA..VQ. Printed by program. -/
import Derived.Test.YtbckpmjiimiceaaDoorWT
import Derived.Test.YtbckpmjiimiceaaDoorPXI
import Derived.Test.YtbckpmjiimiceaaDoorPZN
import Derived.Test.YtbckpmjiimiceaaDoorPXD
import Derived.Test.YtbckpmjiimiceaaDoorWSR
import Derived.Test.YtbckpmjiimiceaaDoorWCH
import Derived.Test.YtbckpmjiimiceaaDoorWLH
import Derived.Test.YtbckpmjiimiceaaDoorWNM
import Derived.Test.YtbckpmjiimiceaaDoorWAQ
import Derived.Test.YtbckpmjiimiceaaDoorWLT
set_option linter.unusedVariables false
set_option linter.unusedSimpArgs false
set_option maxRecDepth 4000
namespace Go.Proofs.YtbckpmjiimiceaaDoor.VL
open Go
/-- spec.l05Called -/
theorem c_spec_l05Called  : AC Tryd.prog 30 [] [.cel (Kd.slice Kd.str) calledL] [] := by
 refine acI (N := 2) Tryd.func30 (Nat.le_of_ble_eq_true rfl) rfl fun w0 hd s0 ar => ?_
 refine AW.to (Kn) ?_
 refine sr ?_
 refine st (OpT.move (A := .cel _ _) (.inr rfl) rfl (ok' rfl) (Opd.nilslice Kd.str) rfl) rfl ?_
 refine ng ?_
 refine sr ?_
 refine st (OpT.buildSlice (H rfl) el24 zr9 sz9 rfl (by decide) zk9 (by decide) (Built.cel (Opd.str (by decide)) rfl rfl (sub_arr (by decide) (.empty : ByteArray)) (Built.cel (Opd.str (by decide)) rfl rfl (sub_arr (by decide) (.empty : ByteArray)) (Built.cel (Opd.str (by decide)) rfl rfl (sub_arr (by decide) (.empty : ByteArray)) (Built.cel (Opd.str (by decide)) rfl rfl (sub_arr (by decide) (.empty : ByteArray)) (Built.cel (Opd.str (by decide)) rfl rfl (sub_arr (by decide) (.empty : ByteArray)) (Built.cel (Opd.str (by decide)) rfl rfl (sub_arr (by decide) (.empty : ByteArray)) (Built.cel (Opd.str (by decide)) rfl rfl (sub_arr (by decide) (.empty : ByteArray)) (Built.cel (Opd.str (by decide)) rfl rfl (sub_arr (by decide) (.empty : ByteArray)) (Built.cel (Opd.str (by decide)) rfl rfl (sub_arr (by decide) (.empty : ByteArray)) (Built.cel (Opd.str (by decide)) rfl rfl (sub_arr (by decide) (.empty : ByteArray)) (Built.cel (Opd.str (by decide)) rfl rfl (sub_arr (by decide) (.empty : ByteArray)) (Built.cel (Opd.str (by decide)) rfl rfl (sub_arr (by decide) (.empty : ByteArray)) (Built.cel (Opd.str (by decide)) rfl rfl (sub_arr (by decide) (.empty : ByteArray)) (Built.cel (Opd.str (by decide)) rfl rfl (sub_arr (by decide) (.empty : ByteArray)) (Built.cel (Opd.str (by decide)) rfl rfl (sub_arr (by decide) (.empty : ByteArray)) (Built.cel (Opd.str (by decide)) rfl rfl (sub_arr (by decide) (.empty : ByteArray)) (Built.nil _)))))))))))))))))) rfl ?_
 refine sg (OpT.take (.inl rfl) rfl (ok' rfl) (Root.self (by decide)) rfl rfl (by decide)) (ko 0 rfl <| Kn) rfl ?_
 refine ng ?_
 refine AW.ret ?_
 refine AX.freeze (t := 0) rfl ?_
 refine AX.pr (kc 0 rfl <| Kn) ?_
 exact rt1 rfl (.inl rfl) rfl

/-- spec.A2Names -/
theorem c_spec_A2Names (l : List Int) (h : (∀ b ∈ l, 0 ≤ b ∧ b ≤ 255) ∧ l.length ≤ 1000000) : AC Tryd.prog 8 [.cel (Kd.slice (Kd.int .u8)) l] [.deep (OSh.ex (fun x : List (ByteArray) => .cel (Kd.slice Kd.str) x) (fun x => okNs x ∧ x.length ≤ 8))] [] := by
 refine acI (N := 22) Tryd.func8 (Nat.le_of_ble_eq_true rfl) rfl fun w0 hd s0 ar => ?_
 refine AW.to (kc 0 rfl <| Kn) ?_
 have hs0 : srcI 1000000 ((l, 0, 0#64) : DSrc) := ⟨h.1, h.2, Int.le_refl 0, (by show (0 : Int) ≤ 1000000; omega)⟩
 have hq1 := pick_in hs0 9
 have hq2 := pick_src hs0 9
 refine sr ?_
 refine st (OpT.move (A := .cel _ _) (.inr rfl) rfl (ok' rfl) (Opd.nilslice Kd.str) rfl) rfl ?_
 refine ng ?_
 refine sr ?_
 refine st (mvT rfl) rfl ?_
 refine st (OpT.c1 (ms := [.flat]) (c_spec_l00From _) (H rfl) (Af (T1 rfl) rfl rfl <| An) rfl rfl) rfl ?_
 refine sg (OpT.take (.inl rfl) rfl (ok' rfl) (Root.self (by decide)) rfl rfl (by decide)) (kb 3 rfl <| kc3 6 2 0 rfl <| Kn) rfl ?_
 refine ng ?_
 refine sr ?_
 refine st (OpT.buildSlice0 (m := 0) (z := .bool false) Kd.str (H rfl) el24 sz9 (by decide)) rfl ?_
 refine sg (OpT.take (.inl rfl) rfl (ok' rfl) (Root.self (by decide)) rfl rfl (by decide)) (ko 4 rfl <| kb 3 rfl <| kc3 6 2 0 rfl <| Kn) rfl ?_
 refine ng ?_
 refine AW.seq ?_
 refine sr ?_
 refine st (OpT.alias (H rfl) (by decide) (by decide)) rfl ?_
 refine sg (OpT.cr (ms := [.root 3, .flat]) (c_spec_l00Src_pick _ _ (hs0.le (by omega))) (H rfl) (Ar (Root.ali rfl (by decide) (by decide)) rfl rfl rfl <| Af (I rfl) rfl rfl <| An) rfl (.inl rfl) rfl) (kc 10 rfl <| Kc 9 (.ali _) rfl <| ko 4 rfl <| kb 3 rfl <| kc3 6 2 0 rfl <| Kn) rfl ?_
 refine st (asT rfl) rfl ?_
 refine ng ?_
 refine AW.block ?_
 refine AW.loop (fun p : Nat × DSrc × List ByteArray => srcI (1000100 - 10 * (p.1 : Int)) p.2.1 ∧ p.1 + p.2.2.length ≤ 8 ∧ okNs p.2.2) (fun p : Nat × DSrc × List ByteArray => keep [(3, .box 58 (Kd.pair (Kd.slice (Kd.int .u8)) (Kd.pair (Kd.int .i64) Kd.u64)) p.2.1), (4, .own 9 Kd.str p.2.2), (5, .cel (Kd.int .i64) (p.1 : Int))]) (fun p : Nat × DSrc × List ByteArray => p.1) (((pick ((l, 0, 0#64) : DSrc) 9).1.toNat, (pick ((l, 0, 0#64) : DSrc) 9).2, [])) ⟨hq2.le (by simp only []; omega), by simp only [List.length_nil]; omega, fun x hx => by cases hx⟩ (Kc 3 _ (Kb rfl rfl) <| Kc 4 _ (Ko rfl rfl) <| Kc 5 _ (Kv rfl (by simp only []; omega)) <| Kn) ?_
 intro p hI
 refine AW.seq ?_
 refine sr ?_
 refine st (mvT rfl) rfl ?_
 refine st (OpT.gtr (H rfl) (T1 rfl) (I rfl)) rfl ?_
 refine ng ?_
 refine cd rfl (fun hc1 => ?_) fun hc1 => ?_
 ·
  obtain ⟨hc1, hc1'⟩ := pT hc1
  have hs1 := pick_src hI.1 (calledL.length : Int)
  have hmm := txtD_mem (l := calledL) hI.1 (by decide)
  refine AW.skip ?_
  refine AX.go ?_
  refine AW.seq ?_
  refine AW.block ?_
  refine AW.region ?_
  refine st (OpT.alias (H rfl) (by decide) (by decide)) rfl ?_
  refine st (OpT.alias (H rfl) (by decide) (by decide)) rfl ?_
  refine st (OpT.c1 (ms := []) (c_spec_l05Called ) (H rfl) (An) rfl rfl) rfl ?_
  refine sg (OpT.cr (ms := [.root 3, .flat]) (c_spec_l00Src_text _ _ ⟨hI.1.le (by omega), by decide⟩) (H rfl) (Ar (Root.ali rfl (by decide) (by decide)) rfl rfl rfl <| Af (T1 rfl) rfl rfl <| An) rfl (.inl rfl) rfl) (kc2 18 17 rfl <| Kc 16 (.ali _) rfl <| Kc 15 (.ali _) rfl <| kc2 12 11 rfl <| kb 3 rfl <| ko 4 rfl <| kc 5 rfl <| Kn) rfl ?_
  refine st (OpT.buildSlice (H rfl) el24 zr9 sz9 rfl (by decide) zk9 (by decide) (Built.cel (T1 rfl) rfl rfl (sub_arr (by decide) (.empty : ByteArray)) (Built.nil _))) rfl ?_
  refine sg (OpT.append (H rfl) (Root.ali rfl (by decide) (by decide)) rfl (Src.own (Root.self (t := 19) (by decide)) rfl) (by decide) el24 zr9 rfl sz9 by9 (by decide) (by simp only [List.length_cons, List.length_nil, List.length_set, List.length_replicate]; omega)) (ko 20 rfl <| ko 19 rfl <| kc2 18 17 rfl <| Kc 16 (.ali _) rfl <| kc2 12 11 rfl <| kb 3 rfl <| kc 5 rfl <| Kn) rfl ?_
  refine sg (OpT.take (.inl rfl) rfl (ok' rfl) (Root.self (by decide)) rfl rfl (by decide)) (ko 4 rfl <| ko 19 rfl <| kc2 18 17 rfl <| Kc 16 (.ali _) rfl <| kc2 12 11 rfl <| kb 3 rfl <| kc 5 rfl <| Kn) rfl ?_
  refine nn ?_
  refine AX.normal_block ?_
  refine AX.go ?_
  refine AW.region ?_
  refine st (mvT rfl) rfl ?_
  refine st (OpT.sub (H rfl) (T1 rfl) (I rfl) (nw (by omega))) rfl ?_
  refine st (asT rfl) rfl ?_
  refine nn ?_
  exact AX.again ((p.1 - 1, (pick p.2.1 (calledL.length : Int)).2, p.2.2 ++ [txtD p.2.1 calledL])) ⟨hs1.le (by simp only []; omega), by simp only [List.length_append, List.length_cons, List.length_nil]; omega, ok_add hI.2.2 (called_ok _ hmm)⟩ (by simp only []; omega) (Kc 3 _ (Kb rfl rfl) <| Kc 4 _ (Ko rfl rfl) <| Kc 5 _ (Kv rfl (by simp only []; omega)) <| Kn)
 ·
  obtain ⟨hc1, hc1'⟩ := pF hc1
  refine AW.exit ?_
  refine xT <| xT <| AX.exit_hit ?_
  refine AX.go ?_
  refine sr ?_
  refine st (OpT.alias (H rfl) (by decide) (by decide)) rfl ?_
  refine sg (OpT.take (.inl rfl) rfl (ok' rfl) (Root.ali rfl (by decide) (by decide)) rfl rfl (by decide)) (ko 2 rfl <| kc2 12 11 rfl <| kb 3 rfl <| kc 5 rfl <| Kn) rfl ?_
  refine ng ?_
  refine AW.ret ?_
  refine AX.freeze (t := 2) rfl ?_
  refine AX.pr (kc3 2 12 11 rfl <| kb 3 rfl <| kc 5 rfl <| Kn) ?_
  refine AX.vw (vclo (A := fun x : List (ByteArray) => .cel (Kd.slice Kd.str) x) (p := fun x => okNs x ∧ x.length ≤ 8) _ ⟨hI.2.2, by omega⟩ 2 9097 rfl rfl (by decide) rfl) fun _ => ?_
  refine AX.pr (Kc 2 (.deep _) rfl <| kc2 12 11 rfl <| kb 3 rfl <| kc 5 rfl <| Kn) ?_
  exact AX.rt (rs := [.tmp 2]) (ts := [some 2]) (.inl rfl) rfl (ROs.cons (RO.tmp (At.self (by decide)) (Ke rfl rfl) rfl) <| ROs.nil) (by decide) OutsOK.nil

set_option maxHeartbeats 4000000 in
/-- laws.FnFiled -/
theorem c_laws_FnFiled (x y : List Int) : AC Tryd.prog 3 [.cel (Kd.slice (Kd.int .u8)) x, .cel (Kd.slice (Kd.int .u8)) y] [.cel Kd.bool true] [] := by
 refine acI (N := 275) Tryd.func3 (Nat.le_of_ble_eq_true rfl) rfl fun w0 hd s0 ar => ?_
 refine AW.to (kc2 0 1 rfl <| Kn) ?_
 refine AW.fact (fun a w hr => ok_slice (R_ok (t := 0) rfl hr)) (fun hb0 => ?_)
 refine AW.fact (fun a w hr => ok_slice (R_ok (t := 1) rfl hr)) (fun hb1 => ?_)
 have hu0 : ∀ b ∈ x, 0 ≤ b ∧ b ≤ 255 := fun b hb => ok_u8 (hb0.1 b hb)
 have hu1 : ∀ b ∈ y, 0 ≤ b ∧ b ≤ 255 := fun b hb => ok_u8 (hb1.1 b hb)
 refine sr ?_
 refine st (asB rfl) rfl ?_
 refine ng ?_
 refine AW.seq ?_
 refine sr ?_
 refine st (mvT rfl) rfl ?_
 refine st (mvT rfl) rfl ?_
 refine st (OpT.c1 (ms := [.flat, .flat]) (c_laws_a2Long _ _) (H rfl) (Af (T1 rfl) rfl rfl <| Af (T1 rfl) rfl rfl <| An) rfl rfl) rfl ?_
 refine ng ?_
 refine cd rfl (fun hc1 => ?_) fun hc1 => ?_
 ·
  obtain ⟨hc1, hc1'⟩ := pT hc1
  refine sr ?_
  refine st (asB rfl) rfl ?_
  refine ng ?_
  refine AW.ret ?_
  refine rT ?_
  exact rt1 rfl (.inl rfl) (by first | rfl | simp)
 ·
  obtain ⟨hc1, hc1'⟩ := pF hc1
  refine AW.skip ?_
  refine AX.go ?_
  refine sr ?_
  refine st (mvT rfl) rfl ?_
  refine st (OpT.c1 (ms := [.flat]) (c_spec_A2Names _ ⟨hu0, by omega⟩) (H rfl) (Af (T1 rfl) rfl rfl <| An) rfl rfl) rfl ?_
  refine AWl.vw (vex 30 9097 rfl rfl (by decide) (fun _ => rfl)) fun xh => ?_
  obtain ⟨d, hd⟩ := xh
  refine AWl.to (kc4 30 29 28 27 rfl <| kc4 26 4 0 1 rfl <| Kn) ?_
  refine AWl.to (Kc 30 _ (Kv rfl (show _ = d from rfl)) <| (kc4 29 28 27 26 rfl <| kc3 4 0 1 rfl <| Kn)) ?_
  have hfr := filR_yes (show ckN d = 0 from ck_ok hd.1 hd.2 ⟨by omega, by omega⟩)
  have hfl := filP_len d
  have hat := atS_rng hu1 (i := 0) (n := 4) (by omega) (by omega)
  have hpr : 1 ≤ (1 + atS y 0 4) ∧ (1 + atS y 0 4) ≤ 100 := by omega
  have hgr := gdsR_yes (ck_ok hd.1 hd.2 hpr)
  have hgc := gdP_cnt d hpr.1
  have hgl := gdP_len d (1 + atS y 0 4) d.length
  refine st (asT rfl) rfl ?_
  refine ng ?_
  refine sr ?_
  refine st (mvT rfl) rfl ?_
  refine s2 (OpT.c2 (ms := [.flat]) (c_impl_FileOrder _) (H rfl) (Af (T1 rfl) rfl rfl <| An) rfl rfl rfl) rfl ?_
  refine st (OpT.alias (H rfl) (by decide) (by decide)) rfl ?_
  refine st (OpT.extractV (m := 10033) (H rfl) rfl rfl rfl rfl rfl rfl rfl) rfl ?_
  refine AWl.to (Kc 34 _ (Kv rfl (show _ = filP d from by rw [hfr])) <| (Kc 31 (.ali _) rfl <| kc4 10033 20033 32 5 rfl <| kc4 30 29 28 27 rfl <| kc4 26 4 0 1 rfl <| Kn)) ?_
  refine st (OpT.extractV (m := 20033) (H rfl) rfl rfl rfl rfl rfl rfl rfl) rfl ?_
  refine AWl.to (Kc 35 _ (Kv rfl (show _ = (0 : Int) from by rw [hfr])) <| (kc 34 rfl <| Kc 31 (.ali _) rfl <| kc4 10033 20033 32 5 rfl <| kc4 30 29 28 27 rfl <| kc4 26 4 0 1 rfl <| Kn)) ?_
  refine st (asT rfl) rfl ?_
  refine st (asT rfl) rfl ?_
  refine AWl.to (kc4 7 6 5 4 rfl <| kc 1 rfl <| Kn) ?_
  refine ng ?_
  refine sr ?_
  refine st (mvT rfl) rfl ?_
  refine s2 (OpT.c2 (ms := [.flat]) (c_spec_FileOrder _) (H rfl) (Af (T1 rfl) rfl rfl <| An) rfl rfl rfl) rfl ?_
  refine st (OpT.alias (H rfl) (by decide) (by decide)) rfl ?_
  refine st (OpT.extractV (m := 10038) (H rfl) rfl rfl rfl rfl rfl rfl rfl) rfl ?_
  refine AWl.to (Kc 39 _ (Kv rfl (show _ = filP d from by rw [hfr])) <| (Kc 36 (.ali _) rfl <| kc4 10038 20038 37 7 rfl <| kc4 6 5 4 1 rfl <| Kn)) ?_
  refine st (OpT.extractV (m := 20038) (H rfl) rfl rfl rfl rfl rfl rfl rfl) rfl ?_
  refine AWl.to (Kc 40 _ (Kv rfl (show _ = (0 : Int) from by rw [hfr])) <| (kc 39 rfl <| Kc 36 (.ali _) rfl <| kc4 10038 20038 37 7 rfl <| kc4 6 5 4 1 rfl <| Kn)) ?_
  refine st (asT rfl) rfl ?_
  refine st (asT rfl) rfl ?_
  refine ng ?_
  refine AW.seq ?_
  refine sr ?_
  refine st (mvT rfl) rfl ?_
  refine st (mvT rfl) rfl ?_
  refine st (OpT.neq (H rfl) (T1 rfl) (T1 rfl)) rfl ?_
  refine st (mvT rfl) rfl ?_
  apply AWl.or (d := 47) (t := 44) rfl
  ·
   intro hb1 Q1 k1
   have hb1' := lF hb1
   refine rs hb1 (mvT rfl) rfl ?_
   refine rs hb1 (OpT.neq (H rfl) (T1 rfl) (I rfl)) rfl ?_
   refine st (OpT.pickF (A := .cel _ _) (H rfl) (T1 rfl) hb1 (T1 rfl) rfl) rfl ?_
   exact AWl.to (junk 2 rfl) k1
  ·
   intro hb1 Q1 k1
   refine ps hb1 rfl ?_
   refine ps hb1 rfl ?_
   refine st (OpT.pickT (A := .cel _ _) (H rfl) (T1 rfl) hb1 Opd.bool rfl) rfl ?_
   exact k1
  refine st (mvT rfl) rfl ?_
  apply AWl.or (d := 53) (t := 48) rfl
  ·
   intro hb2 Q1 k1
   have hb2' := lF hb2
   refine rs hb2 (mvT rfl) rfl ?_
   refine rs hb2 (mvT rfl) rfl ?_
   refine rs hb2 (OpT.c1 (ms := [.flat, .flat]) (c_spec_A2Same _ _) (H rfl) (Af (T1 rfl) rfl rfl <| Af (T1 rfl) rfl rfl <| An) rfl rfl) rfl ?_
   refine rs hb2 (OpT.not (H rfl) (T1 rfl)) rfl ?_
   refine st (OpT.pickF (A := .cel _ _) (H rfl) (T1 rfl) hb2 (T1 rfl) rfl) rfl ?_
   exact AWl.to (junk 4 rfl) k1
  ·
   intro hb2 Q1 k1
   refine ps hb2 rfl ?_
   refine ps hb2 rfl ?_
   refine ps hb2 rfl ?_
   refine ps hb2 rfl ?_
   refine st (OpT.pickT (A := .cel _ _) (H rfl) (T1 rfl) hb2 Opd.bool rfl) rfl ?_
   exact k1
  refine st (mvT rfl) rfl ?_
  apply AWl.or (d := 60) (t := 54) rfl
  ·
   intro hb3 Q1 k1
   have hb3' := lF hb3
   refine rs hb3 (mvT rfl) rfl ?_
   refine rs hb3 (OpT.len (H rfl) (T1 rfl) el26) rfl ?_
   refine rs hb3 (mvT rfl) rfl ?_
   refine rs hb3 (OpT.len (H rfl) (T1 rfl) el24) rfl ?_
   refine rs hb3 (OpT.neq (H rfl) (T1 rfl) (T1 rfl)) rfl ?_
   refine st (OpT.pickF (A := .cel _ _) (H rfl) (T1 rfl) hb3 (T1 rfl) rfl) rfl ?_
   exact AWl.to (junk 5 rfl) k1
  ·
   intro hb3 Q1 k1
   refine ps hb3 rfl ?_
   refine ps hb3 rfl ?_
   refine ps hb3 rfl ?_
   refine ps hb3 rfl ?_
   refine ps hb3 rfl ?_
   refine st (OpT.pickT (A := .cel _ _) (H rfl) (T1 rfl) hb3 Opd.bool rfl) rfl ?_
   exact k1
  refine AWl.to (kc4 60 8 5 4 rfl <| kc 1 rfl <| Kn) ?_
  refine ng ?_
  refine cd rfl (fun hc2 => ?_) fun hc2 => ?_
  ·
   obtain ⟨hc2, hc2'⟩ := pT hc2
   exact (show False from (by simp [eqv_self, hfl] at hc2)).elim
  ·
   obtain ⟨hc2, hc2'⟩ := pF hc2
   refine AW.skip ?_
   refine AX.go ?_
   refine AW.seq ?_
   refine sr ?_
   refine st (asI rfl) rfl ?_
   refine ng ?_
   refine AW.block ?_
   refine AW.loop (fun i : Nat => i ≤ d.length) (fun i : Nat => keep [(1, .cel (Kd.slice (Kd.int .u8)) y), (5, .cel (Kd.slice Kd.str) d), (8, .cel (Kd.slice (Kd.int .i64)) (filP d)), (10, .cel (Kd.int .i64) (i : Int))]) (fun i : Nat => d.length - i) (0) (Nat.zero_le _) (Kc 1 _ (Kv rfl rfl) <| Kc 5 _ (Kv rfl rfl) <| Kc 8 _ (Kv rfl rfl) <| Kc 10 _ (Kv rfl rfl) <| Kn) ?_
   intro i hI
   refine AW.seq ?_
   refine sr ?_
   refine st (mvT rfl) rfl ?_
   refine st (mvT rfl) rfl ?_
   refine st (OpT.len (H rfl) (T1 rfl) el26) rfl ?_
   refine st (OpT.lss (H rfl) (T1 rfl) (T1 rfl)) rfl ?_
   refine ng ?_
   refine cd rfl (fun hc3 => ?_) fun hc3 => ?_
   ·
    obtain ⟨hc3, hc3'⟩ := pT hc3
    have hi : i < d.length := by omega
    have hfi := (gdF_in hi).2.1.1
    refine AW.skip ?_
    refine AX.go ?_
    refine AW.seq ?_
    refine AW.block ?_
    refine sr ?_
    refine st (asI rfl) rfl ?_
    refine ng ?_
    refine AW.block ?_
    refine AW.loop (fun k : Nat => k ≤ d.length) (fun k : Nat => keep [(1, .cel (Kd.slice (Kd.int .u8)) y), (5, .cel (Kd.slice Kd.str) d), (8, .cel (Kd.slice (Kd.int .i64)) (filP d)), (10, .cel (Kd.int .i64) (i : Int)), (11, .cel (Kd.int .i64) (k : Int))]) (fun k : Nat => d.length - k) (0) (Nat.zero_le _) (Kc 1 _ (Kv rfl rfl) <| Kc 5 _ (Kv rfl rfl) <| Kc 8 _ (Kv rfl rfl) <| Kc 10 _ (Kv rfl rfl) <| Kc 11 _ (Kv rfl rfl) <| Kn) ?_
    intro k hI
    refine AW.seq ?_
    refine sr ?_
    refine st (mvT rfl) rfl ?_
    refine st (mvT rfl) rfl ?_
    refine st (OpT.len (H rfl) (T1 rfl) el26) rfl ?_
    refine st (OpT.lss (H rfl) (T1 rfl) (T1 rfl)) rfl ?_
    refine ng ?_
    refine cd rfl (fun hc4 => ?_) fun hc4 => ?_
    ·
     obtain ⟨hc4, hc4'⟩ := pT hc4
     have hk : k < d.length := by omega
     have hfk := (gdF_in hk).2.1.1
     have han := nm_anti d i k
     have hze := nm_zero d i k
     have hcb := cnP_in (nmF d k) (nmF d i)
     refine AW.skip ?_
     refine AX.go ?_
     refine AW.seq ?_
     refine AW.block ?_
     refine AW.seq ?_
     refine dhm [0, 0, 0, 6, 14, 31, 63, 0, 0, 0, 768, 1792, 3968, 8064, 16383, 32767, 65535, 65535, 131071, 524287] [(73, 88)] fomo ?_
     refine d1 [5] (fun ve h => OpT.move (A := .cel _ _) (.inl rfl) rfl (ok' rfl) (D1 h rfl) rfl) rfl ?_
     refine d1 [8] (fun ve h => OpT.move (A := .cel _ _) (.inl rfl) rfl (ok' rfl) (D1 h rfl) rfl) rfl ?_
     refine d1 [10] (fun ve h => OpT.move (A := .cel _ _) (.inl rfl) rfl (ok' rfl) (D1 h rfl) rfl) rfl ?_
     refine d1 [75, 76] (fun ve h => OpT.indexAddr (H rfl) (D1 h rfl) (D1 h rfl) el26 sz2 (by omega) (gdF_in hi).1) rfl ?_
     refine d1 [77] (fun ve h => OpT.load (H rfl) (D1 h rfl) ag2 rfl) rfl ?_
     refine d1 [74, 78] (fun ve h => OpT.indexAddr (H rfl) (D1 h rfl) (D1 h rfl) el24 sz9 (by omega) (nth_get (gdF_in hi).2.1)) rfl ?_
     refine d1 [79] (fun ve h => OpT.load (H rfl) (D1 h rfl) ag9 rfl) rfl ?_
     refine d1 [5] (fun ve h => OpT.move (A := .cel _ _) (.inl rfl) rfl (ok' rfl) (D1 h rfl) rfl) rfl ?_
     refine d1 [8] (fun ve h => OpT.move (A := .cel _ _) (.inl rfl) rfl (ok' rfl) (D1 h rfl) rfl) rfl ?_
     refine d1 [11] (fun ve h => OpT.move (A := .cel _ _) (.inl rfl) rfl (ok' rfl) (D1 h rfl) rfl) rfl ?_
     refine d1 [82, 83] (fun ve h => OpT.indexAddr (H rfl) (D1 h rfl) (D1 h rfl) el26 sz2 (by omega) (gdF_in hk).1) rfl ?_
     refine d1 [84] (fun ve h => OpT.load (H rfl) (D1 h rfl) ag2 rfl) rfl ?_
     refine d1 [81, 85] (fun ve h => OpT.indexAddr (H rfl) (D1 h rfl) (D1 h rfl) el24 sz9 (by omega) (nth_get (gdF_in hk).2.1)) rfl ?_
     refine d1 [86] (fun ve h => OpT.load (H rfl) (D1 h rfl) ag9 rfl) rfl ?_
     refine d2 [80, 87] (fun ve h => OpT.c2 (ms := [.flat, .flat]) (c_impl_CompareNames (nmF d i) (nmF d k) ⟨nmF_ok hd.1 hi, nmF_ok hd.1 hk⟩) (H rfl) (Af (D1 h rfl) rfl rfl <| Af (D1 h rfl) rfl rfl <| An) rfl rfl rfl) rfl ?_
     refine d1 [] (fun ve h => OpT.alias (H rfl) (by decide) (by decide)) rfl ?_
     refine d1 [73, 10088] (fun ve h => OpT.extractV (m := 10088) (H rfl) ((h _ (List.elem_iff.1 rfl)).trans rfl) rfl rfl rfl ((h _ (List.elem_iff.1 rfl)).trans rfl) rfl rfl) rfl ?_
     refine d1 [73, 20088] (fun ve h => OpT.extractV (m := 20088) (H rfl) ((h _ (List.elem_iff.1 rfl)).trans rfl) rfl rfl rfl ((h _ (List.elem_iff.1 rfl)).trans rfl) rfl rfl) rfl ?_
     refine d1 [89] (fun ve h => OpT.move (A := .cel _ _) (.inr rfl) rfl (ok' rfl) (D1 h rfl) rfl) rfl ?_
     refine d1 [90] (fun ve h => OpT.move (A := .cel _ _) (.inr rfl) rfl (ok' rfl) (D1 h rfl) rfl) rfl ?_
     refine dn ⟨by kernel_rfl, by kernel_rfl, ?_⟩
     refine AX.go ?_
     refine AW.seq ?_
     refine dhm [0, 0, 0, 6, 14, 31, 63, 0, 0, 0, 768, 1792, 3968, 8064, 16383, 32767, 65535, 65535, 131071, 524287] [(91, 106)] fomo ?_
     refine d1 [5] (fun ve h => OpT.move (A := .cel _ _) (.inl rfl) rfl (ok' rfl) (D1 h rfl) rfl) rfl ?_
     refine d1 [8] (fun ve h => OpT.move (A := .cel _ _) (.inl rfl) rfl (ok' rfl) (D1 h rfl) rfl) rfl ?_
     refine d1 [11] (fun ve h => OpT.move (A := .cel _ _) (.inl rfl) rfl (ok' rfl) (D1 h rfl) rfl) rfl ?_
     refine d1 [93, 94] (fun ve h => OpT.indexAddr (H rfl) (D1 h rfl) (D1 h rfl) el26 sz2 (by omega) (gdF_in hk).1) rfl ?_
     refine d1 [95] (fun ve h => OpT.load (H rfl) (D1 h rfl) ag2 rfl) rfl ?_
     refine d1 [92, 96] (fun ve h => OpT.indexAddr (H rfl) (D1 h rfl) (D1 h rfl) el24 sz9 (by omega) (nth_get (gdF_in hk).2.1)) rfl ?_
     refine d1 [97] (fun ve h => OpT.load (H rfl) (D1 h rfl) ag9 rfl) rfl ?_
     refine d1 [5] (fun ve h => OpT.move (A := .cel _ _) (.inl rfl) rfl (ok' rfl) (D1 h rfl) rfl) rfl ?_
     refine d1 [8] (fun ve h => OpT.move (A := .cel _ _) (.inl rfl) rfl (ok' rfl) (D1 h rfl) rfl) rfl ?_
     refine d1 [10] (fun ve h => OpT.move (A := .cel _ _) (.inl rfl) rfl (ok' rfl) (D1 h rfl) rfl) rfl ?_
     refine d1 [100, 101] (fun ve h => OpT.indexAddr (H rfl) (D1 h rfl) (D1 h rfl) el26 sz2 (by omega) (gdF_in hi).1) rfl ?_
     refine d1 [102] (fun ve h => OpT.load (H rfl) (D1 h rfl) ag2 rfl) rfl ?_
     refine d1 [99, 103] (fun ve h => OpT.indexAddr (H rfl) (D1 h rfl) (D1 h rfl) el24 sz9 (by omega) (nth_get (gdF_in hi).2.1)) rfl ?_
     refine d1 [104] (fun ve h => OpT.load (H rfl) (D1 h rfl) ag9 rfl) rfl ?_
     refine d2 [98, 105] (fun ve h => OpT.c2 (ms := [.flat, .flat]) (c_impl_CompareNames (nmF d k) (nmF d i) ⟨nmF_ok hd.1 hk, nmF_ok hd.1 hi⟩) (H rfl) (Af (D1 h rfl) rfl rfl <| Af (D1 h rfl) rfl rfl <| An) rfl rfl rfl) rfl ?_
     refine d1 [] (fun ve h => OpT.alias (H rfl) (by decide) (by decide)) rfl ?_
     refine d1 [91, 10106] (fun ve h => OpT.extractV (m := 10106) (H rfl) ((h _ (List.elem_iff.1 rfl)).trans rfl) rfl rfl rfl ((h _ (List.elem_iff.1 rfl)).trans rfl) rfl rfl) rfl ?_
     refine d1 [91, 20106] (fun ve h => OpT.extractV (m := 20106) (H rfl) ((h _ (List.elem_iff.1 rfl)).trans rfl) rfl rfl rfl ((h _ (List.elem_iff.1 rfl)).trans rfl) rfl rfl) rfl ?_
     refine d1 [107] (fun ve h => OpT.move (A := .cel _ _) (.inr rfl) rfl (ok' rfl) (D1 h rfl) rfl) rfl ?_
     refine d1 [108] (fun ve h => OpT.move (A := .cel _ _) (.inr rfl) rfl (ok' rfl) (D1 h rfl) rfl) rfl ?_
     refine dn ⟨by kernel_rfl, by kernel_rfl, ?_⟩
     refine AX.go ?_
     refine AW.seq ?_
     have hd1 : ((cnP (nmF d i) (nmF d k)) != (0 - (cnP (nmF d k) (nmF d i)))) = false := (by rw [show (0 - cnP (nmF d k) (nmF d i)) = cnP (nmF d i) (nmF d k) by omega]; simp)
     have hd2 : (!(((cnP (nmF d i) (nmF d k)) == (0 : Int)) == (eqv (nmF d i) (nmF d k)))) = false := (by rw [hze]; simp)
     rcases Bool.eq_false_or_eq_true (decide ((i : Int) < (k : Int))) with hd3 | hd3
     ·
      have hd3' := lT hd3
      have hst := nm_stab (names := d) (i := i) (k := k) (by simpa using hd3) hk
      have hd4 : (decide ((cnP (nmF d i) (nmF d k)) > (0 : Int))) = false := (decide_eq_false (by have h8 := hst.1; omega))
      rcases Bool.eq_false_or_eq_true ((cnP (nmF d i) (nmF d k)) == (0 : Int)) with hd5 | hd5
      ·
       have hd5' := lT hd5
       have hs2 := hst.2 (by simpa using hd5)
       refine dhm [0, 1, 3, 7, 15, 31, 63, 127, 127, 383, 1023, 2047, 4095, 8191, 16383, 8191, 8191, 8191, 204799, 466943, 1023999, 2072575, 8191, 8191, 8191, 25174015, 58728447, 130031615, 264249343, 536846335, 1073741823, 2147483647, 4294967295, 8589934591, 8589934591, 34359738367, 68719476735, 137438953471, 274877906943, 549755813887, 1099511627775, 2199023255551, 4398046511103, 8796093022207, 8796093022207, 35184372088831, 70368744177663, 8796093022207, 8796093022207, 431008558088191, 993958511509503, 2251799813685247, 4503599627370495, 9007199254740991, 18014398509481983, 36028797018963967] [] fomo ?_
       refine d1 [13] (fun ve h => OpT.move (A := .cel _ _) (.inl rfl) rfl (ok' rfl) (D1 h rfl) rfl) rfl ?_
       refine d1 [109] (fun ve h => OpT.neq (H rfl) (D1 h rfl) (I rfl)) rfl ?_
       refine d1 [110] (fun ve h => OpT.move (A := .cel _ _) (.inl rfl) rfl (ok' rfl) (D1 h rfl) rfl) rfl ?_
       refine dr [15, 111] rfl (fun ve h => OpT.move (A := .cel _ _) (.inl rfl) rfl (ok' rfl) (D1 h rfl) rfl) rfl ?_
       refine dr [111, 112] rfl (fun ve h => OpT.neq (H rfl) (D1 h rfl) (I rfl)) rfl ?_
       refine d1 [111, 113] (fun ve h => OpT.pickF (A := .cel _ _) (H rfl) (D1 h rfl) rfl (D1 h rfl) rfl) rfl ?_
       refine d1 [114] (fun ve h => OpT.move (A := .cel _ _) (.inl rfl) rfl (ok' rfl) (D1 h rfl) rfl) rfl ?_
       refine dr [12, 115] rfl (fun ve h => OpT.move (A := .cel _ _) (.inl rfl) rfl (ok' rfl) (D1 h rfl) rfl) rfl ?_
       refine dr [14, 115] rfl (fun ve h => OpT.move (A := .cel _ _) (.inl rfl) rfl (ok' rfl) (D1 h rfl) rfl) rfl ?_
       refine dr [115, 117] rfl (fun ve h => OpT.neg (H rfl) (D1 h rfl) (nw (by omega))) rfl ?_
       refine dr [115, 116, 118] rfl (fun ve h => OpT.neq (H rfl) (D1 h rfl) (D1 h rfl)) rfl ?_
       refine d1 [115, 119] (fun ve h => OpT.pickF (A := .cel _ _) (H rfl) (D1 h rfl) rfl (D1 h rfl) rfl) rfl ?_
       refine d1 [120] (fun ve h => OpT.move (A := .cel _ _) (.inl rfl) rfl (ok' rfl) (D1 h rfl) rfl) rfl ?_
       refine dr [12, 121] hd1 (fun ve h => OpT.move (A := .cel _ _) (.inl rfl) rfl (ok' rfl) (D1 h rfl) rfl) rfl ?_
       refine dr [121, 122] hd1 (fun ve h => OpT.eql (H rfl) (D1 h rfl) (I rfl)) rfl ?_
       refine dr [5, 121] hd1 (fun ve h => OpT.move (A := .cel _ _) (.inl rfl) rfl (ok' rfl) (D1 h rfl) rfl) rfl ?_
       refine dr [8, 121] hd1 (fun ve h => OpT.move (A := .cel _ _) (.inl rfl) rfl (ok' rfl) (D1 h rfl) rfl) rfl ?_
       refine dr [10, 121] hd1 (fun ve h => OpT.move (A := .cel _ _) (.inl rfl) rfl (ok' rfl) (D1 h rfl) rfl) rfl ?_
       refine dr [121, 125, 126] hd1 (fun ve h => OpT.indexAddr (H rfl) (D1 h rfl) (D1 h rfl) el26 sz2 (by omega) (gdF_in hi).1) rfl ?_
       refine dr [121, 127] hd1 (fun ve h => OpT.load (H rfl) (D1 h rfl) ag2 rfl) rfl ?_
       refine dr [121, 124, 128] hd1 (fun ve h => OpT.indexAddr (H rfl) (D1 h rfl) (D1 h rfl) el24 sz9 (by omega) (nth_get (gdF_in hi).2.1)) rfl ?_
       refine dr [121, 129] hd1 (fun ve h => OpT.load (H rfl) (D1 h rfl) ag9 rfl) rfl ?_
       refine dr [5, 121] hd1 (fun ve h => OpT.move (A := .cel _ _) (.inl rfl) rfl (ok' rfl) (D1 h rfl) rfl) rfl ?_
       refine dr [8, 121] hd1 (fun ve h => OpT.move (A := .cel _ _) (.inl rfl) rfl (ok' rfl) (D1 h rfl) rfl) rfl ?_
       refine dr [11, 121] hd1 (fun ve h => OpT.move (A := .cel _ _) (.inl rfl) rfl (ok' rfl) (D1 h rfl) rfl) rfl ?_
       refine dr [121, 132, 133] hd1 (fun ve h => OpT.indexAddr (H rfl) (D1 h rfl) (D1 h rfl) el26 sz2 (by omega) (gdF_in hk).1) rfl ?_
       refine dr [121, 134] hd1 (fun ve h => OpT.load (H rfl) (D1 h rfl) ag2 rfl) rfl ?_
       refine dr [121, 131, 135] hd1 (fun ve h => OpT.indexAddr (H rfl) (D1 h rfl) (D1 h rfl) el24 sz9 (by omega) (nth_get (gdF_in hk).2.1)) rfl ?_
       refine dr [121, 136] hd1 (fun ve h => OpT.load (H rfl) (D1 h rfl) ag9 rfl) rfl ?_
       refine dr [121, 130, 137] hd1 (fun ve h => OpT.seqv (H rfl) (D1 h rfl) (D1 h rfl)) rfl ?_
       refine dr [121, 123, 138] hd1 (fun ve h => OpT.bneq (H rfl) Tryd.underlying4 (D1 h rfl) (D1 h rfl)) rfl ?_
       refine d1 [121, 139] (fun ve h => OpT.pickF (A := .cel _ _) (H rfl) (D1 h rfl) hd1 (D1 h rfl) rfl) rfl ?_
       refine d1 [140] (fun ve h => OpT.move (A := .cel _ _) (.inl rfl) rfl (ok' rfl) (D1 h rfl) rfl) rfl ?_
       refine dr [10, 141] hd2 (fun ve h => OpT.move (A := .cel _ _) (.inl rfl) rfl (ok' rfl) (D1 h rfl) rfl) rfl ?_
       refine dr [11, 141] hd2 (fun ve h => OpT.move (A := .cel _ _) (.inl rfl) rfl (ok' rfl) (D1 h rfl) rfl) rfl ?_
       refine dr [141, 142, 143] hd2 (fun ve h => OpT.lss (H rfl) (D1 h rfl) (D1 h rfl)) rfl ?_
       refine dr [141, 144] hd2 (fun ve h => OpT.move (A := .cel _ _) (.inl rfl) rfl (ok' rfl) (D1 h rfl) rfl) rfl ?_
       refine dr [12, 145] hd3 (fun ve h => OpT.move (A := .cel _ _) (.inl rfl) rfl (ok' rfl) (D1 h rfl) rfl) rfl ?_
       refine dr [145, 146] hd3 (fun ve h => OpT.gtr (H rfl) (D1 h rfl) (I rfl)) rfl ?_
       refine dr [145, 147] hd3 (fun ve h => OpT.move (A := .cel _ _) (.inl rfl) rfl (ok' rfl) (D1 h rfl) rfl) rfl ?_
       refine dr [12, 148] hd4 (fun ve h => OpT.move (A := .cel _ _) (.inl rfl) rfl (ok' rfl) (D1 h rfl) rfl) rfl ?_
       refine dr [148, 149] hd4 (fun ve h => OpT.eql (H rfl) (D1 h rfl) (I rfl)) rfl ?_
       refine dr [148, 150] hd4 (fun ve h => OpT.move (A := .cel _ _) (.inl rfl) rfl (ok' rfl) (D1 h rfl) rfl) rfl ?_
       refine dr [8, 151] hd5 (fun ve h => OpT.move (A := .cel _ _) (.inl rfl) rfl (ok' rfl) (D1 h rfl) rfl) rfl ?_
       refine dr [10, 151] hd5 (fun ve h => OpT.move (A := .cel _ _) (.inl rfl) rfl (ok' rfl) (D1 h rfl) rfl) rfl ?_
       refine dr [151, 152, 153] hd5 (fun ve h => OpT.indexAddr (H rfl) (D1 h rfl) (D1 h rfl) el26 sz2 (by omega) (gdF_in hi).1) rfl ?_
       refine dr [151, 154] hd5 (fun ve h => OpT.load (H rfl) (D1 h rfl) ag2 rfl) rfl ?_
       refine dr [8, 151] hd5 (fun ve h => OpT.move (A := .cel _ _) (.inl rfl) rfl (ok' rfl) (D1 h rfl) rfl) rfl ?_
       refine dr [11, 151] hd5 (fun ve h => OpT.move (A := .cel _ _) (.inl rfl) rfl (ok' rfl) (D1 h rfl) rfl) rfl ?_
       refine dr [151, 156, 157] hd5 (fun ve h => OpT.indexAddr (H rfl) (D1 h rfl) (D1 h rfl) el26 sz2 (by omega) (gdF_in hk).1) rfl ?_
       refine dr [151, 158] hd5 (fun ve h => OpT.load (H rfl) (D1 h rfl) ag2 rfl) rfl ?_
       refine dr [151, 155, 159] hd5 (fun ve h => OpT.geq (H rfl) (D1 h rfl) (D1 h rfl)) rfl ?_
       refine dr [148, 151, 160] hd4 (fun ve h => OpT.pickT (A := .cel _ _) (H rfl) (D1 h rfl) hd5 (D1 h rfl) rfl) rfl ?_
       refine dr [145, 148, 161] hd3 (fun ve h => OpT.pickF (A := .cel _ _) (H rfl) (D1 h rfl) hd4 (D1 h rfl) rfl) rfl ?_
       refine dr [141, 145, 162] hd2 (fun ve h => OpT.pickT (A := .cel _ _) (H rfl) (D1 h rfl) hd3 (D1 h rfl) rfl) rfl ?_
       refine d1 [141, 163] (fun ve h => OpT.pickF (A := .cel _ _) (H rfl) (D1 h rfl) hd2 (D1 h rfl) rfl) rfl ?_
       refine dn ⟨by kernel_rfl, by kernel_rfl, ?_⟩
       refine AX.go ?_
       refine cd rfl (fun hc5 => ?_) fun hc5 => ?_
       ·
        obtain ⟨hc5, hc5'⟩ := pT hc5
        exact (show False from (by simp at hc5; omega)).elim
       ·
        obtain ⟨hc5, hc5'⟩ := pF hc5
        refine AW.skip ?_
        refine AX.normal_block ?_
        refine AX.go ?_
        refine AW.region ?_
        refine st (mvT rfl) rfl ?_
        refine st (OpT.add (H rfl) (T1 rfl) (I rfl) (nw (by omega))) rfl ?_
        refine st (asT rfl) rfl ?_
        refine nn ?_
        exact AX.again (k + 1) (by omega) (by omega) (Kc 1 _ (Kv rfl rfl) <| Kc 5 _ (Kv rfl rfl) <| Kc 8 _ (Kv rfl rfl) <| Kc 10 _ (Kv rfl rfl) <| Kc 11 _ (Kv rfl (by omega)) <| Kn)
      ·
       have hd5' := lF hd5
       refine dhm [0, 1, 3, 7, 15, 31, 63, 127, 127, 383, 1023, 2047, 4095, 8191, 16383, 8191, 8191, 8191, 204799, 466943, 1023999, 2072575, 8191, 8191, 8191, 25174015, 58728447, 130031615, 264249343, 536846335, 1073741823, 2147483647, 4294967295, 8589934591, 8589934591, 34359738367, 68719476735, 137438953471, 274877906943, 549755813887, 1099511627775, 2199023255551, 4398046511103, 8796093022207, 8796093022207, 35184372088831, 70368744177663, 8796093022207, 8796093022207, 431008558088191, 993958511509503, 2251799813685247, 4503599627370495, 9007199254740991, 18014398509481983, 36028797018963967] [] fomo ?_
       refine d1 [13] (fun ve h => OpT.move (A := .cel _ _) (.inl rfl) rfl (ok' rfl) (D1 h rfl) rfl) rfl ?_
       refine d1 [109] (fun ve h => OpT.neq (H rfl) (D1 h rfl) (I rfl)) rfl ?_
       refine d1 [110] (fun ve h => OpT.move (A := .cel _ _) (.inl rfl) rfl (ok' rfl) (D1 h rfl) rfl) rfl ?_
       refine dr [15, 111] rfl (fun ve h => OpT.move (A := .cel _ _) (.inl rfl) rfl (ok' rfl) (D1 h rfl) rfl) rfl ?_
       refine dr [111, 112] rfl (fun ve h => OpT.neq (H rfl) (D1 h rfl) (I rfl)) rfl ?_
       refine d1 [111, 113] (fun ve h => OpT.pickF (A := .cel _ _) (H rfl) (D1 h rfl) rfl (D1 h rfl) rfl) rfl ?_
       refine d1 [114] (fun ve h => OpT.move (A := .cel _ _) (.inl rfl) rfl (ok' rfl) (D1 h rfl) rfl) rfl ?_
       refine dr [12, 115] rfl (fun ve h => OpT.move (A := .cel _ _) (.inl rfl) rfl (ok' rfl) (D1 h rfl) rfl) rfl ?_
       refine dr [14, 115] rfl (fun ve h => OpT.move (A := .cel _ _) (.inl rfl) rfl (ok' rfl) (D1 h rfl) rfl) rfl ?_
       refine dr [115, 117] rfl (fun ve h => OpT.neg (H rfl) (D1 h rfl) (nw (by omega))) rfl ?_
       refine dr [115, 116, 118] rfl (fun ve h => OpT.neq (H rfl) (D1 h rfl) (D1 h rfl)) rfl ?_
       refine d1 [115, 119] (fun ve h => OpT.pickF (A := .cel _ _) (H rfl) (D1 h rfl) rfl (D1 h rfl) rfl) rfl ?_
       refine d1 [120] (fun ve h => OpT.move (A := .cel _ _) (.inl rfl) rfl (ok' rfl) (D1 h rfl) rfl) rfl ?_
       refine dr [12, 121] hd1 (fun ve h => OpT.move (A := .cel _ _) (.inl rfl) rfl (ok' rfl) (D1 h rfl) rfl) rfl ?_
       refine dr [121, 122] hd1 (fun ve h => OpT.eql (H rfl) (D1 h rfl) (I rfl)) rfl ?_
       refine dr [5, 121] hd1 (fun ve h => OpT.move (A := .cel _ _) (.inl rfl) rfl (ok' rfl) (D1 h rfl) rfl) rfl ?_
       refine dr [8, 121] hd1 (fun ve h => OpT.move (A := .cel _ _) (.inl rfl) rfl (ok' rfl) (D1 h rfl) rfl) rfl ?_
       refine dr [10, 121] hd1 (fun ve h => OpT.move (A := .cel _ _) (.inl rfl) rfl (ok' rfl) (D1 h rfl) rfl) rfl ?_
       refine dr [121, 125, 126] hd1 (fun ve h => OpT.indexAddr (H rfl) (D1 h rfl) (D1 h rfl) el26 sz2 (by omega) (gdF_in hi).1) rfl ?_
       refine dr [121, 127] hd1 (fun ve h => OpT.load (H rfl) (D1 h rfl) ag2 rfl) rfl ?_
       refine dr [121, 124, 128] hd1 (fun ve h => OpT.indexAddr (H rfl) (D1 h rfl) (D1 h rfl) el24 sz9 (by omega) (nth_get (gdF_in hi).2.1)) rfl ?_
       refine dr [121, 129] hd1 (fun ve h => OpT.load (H rfl) (D1 h rfl) ag9 rfl) rfl ?_
       refine dr [5, 121] hd1 (fun ve h => OpT.move (A := .cel _ _) (.inl rfl) rfl (ok' rfl) (D1 h rfl) rfl) rfl ?_
       refine dr [8, 121] hd1 (fun ve h => OpT.move (A := .cel _ _) (.inl rfl) rfl (ok' rfl) (D1 h rfl) rfl) rfl ?_
       refine dr [11, 121] hd1 (fun ve h => OpT.move (A := .cel _ _) (.inl rfl) rfl (ok' rfl) (D1 h rfl) rfl) rfl ?_
       refine dr [121, 132, 133] hd1 (fun ve h => OpT.indexAddr (H rfl) (D1 h rfl) (D1 h rfl) el26 sz2 (by omega) (gdF_in hk).1) rfl ?_
       refine dr [121, 134] hd1 (fun ve h => OpT.load (H rfl) (D1 h rfl) ag2 rfl) rfl ?_
       refine dr [121, 131, 135] hd1 (fun ve h => OpT.indexAddr (H rfl) (D1 h rfl) (D1 h rfl) el24 sz9 (by omega) (nth_get (gdF_in hk).2.1)) rfl ?_
       refine dr [121, 136] hd1 (fun ve h => OpT.load (H rfl) (D1 h rfl) ag9 rfl) rfl ?_
       refine dr [121, 130, 137] hd1 (fun ve h => OpT.seqv (H rfl) (D1 h rfl) (D1 h rfl)) rfl ?_
       refine dr [121, 123, 138] hd1 (fun ve h => OpT.bneq (H rfl) Tryd.underlying4 (D1 h rfl) (D1 h rfl)) rfl ?_
       refine d1 [121, 139] (fun ve h => OpT.pickF (A := .cel _ _) (H rfl) (D1 h rfl) hd1 (D1 h rfl) rfl) rfl ?_
       refine d1 [140] (fun ve h => OpT.move (A := .cel _ _) (.inl rfl) rfl (ok' rfl) (D1 h rfl) rfl) rfl ?_
       refine dr [10, 141] hd2 (fun ve h => OpT.move (A := .cel _ _) (.inl rfl) rfl (ok' rfl) (D1 h rfl) rfl) rfl ?_
       refine dr [11, 141] hd2 (fun ve h => OpT.move (A := .cel _ _) (.inl rfl) rfl (ok' rfl) (D1 h rfl) rfl) rfl ?_
       refine dr [141, 142, 143] hd2 (fun ve h => OpT.lss (H rfl) (D1 h rfl) (D1 h rfl)) rfl ?_
       refine dr [141, 144] hd2 (fun ve h => OpT.move (A := .cel _ _) (.inl rfl) rfl (ok' rfl) (D1 h rfl) rfl) rfl ?_
       refine dr [12, 145] hd3 (fun ve h => OpT.move (A := .cel _ _) (.inl rfl) rfl (ok' rfl) (D1 h rfl) rfl) rfl ?_
       refine dr [145, 146] hd3 (fun ve h => OpT.gtr (H rfl) (D1 h rfl) (I rfl)) rfl ?_
       refine dr [145, 147] hd3 (fun ve h => OpT.move (A := .cel _ _) (.inl rfl) rfl (ok' rfl) (D1 h rfl) rfl) rfl ?_
       refine dr [12, 148] hd4 (fun ve h => OpT.move (A := .cel _ _) (.inl rfl) rfl (ok' rfl) (D1 h rfl) rfl) rfl ?_
       refine dr [148, 149] hd4 (fun ve h => OpT.eql (H rfl) (D1 h rfl) (I rfl)) rfl ?_
       refine dr [148, 150] hd4 (fun ve h => OpT.move (A := .cel _ _) (.inl rfl) rfl (ok' rfl) (D1 h rfl) rfl) rfl ?_
       refine dp hd5 rfl ?_
       refine dp hd5 rfl ?_
       refine dp hd5 rfl ?_
       refine dp hd5 rfl ?_
       refine dp hd5 rfl ?_
       refine dp hd5 rfl ?_
       refine dp hd5 rfl ?_
       refine dp hd5 rfl ?_
       refine dp hd5 rfl ?_
       refine dr [148, 151] hd4 (fun ve h => OpT.pickF (A := .cel _ _) (H rfl) (D1 h rfl) hd5 Opd.bool rfl) rfl ?_
       refine dr [145, 148, 161] hd3 (fun ve h => OpT.pickF (A := .cel _ _) (H rfl) (D1 h rfl) hd4 (D1 h rfl) rfl) rfl ?_
       refine dr [141, 145, 162] hd2 (fun ve h => OpT.pickT (A := .cel _ _) (H rfl) (D1 h rfl) hd3 (D1 h rfl) rfl) rfl ?_
       refine d1 [141, 163] (fun ve h => OpT.pickF (A := .cel _ _) (H rfl) (D1 h rfl) hd2 (D1 h rfl) rfl) rfl ?_
       refine dn ⟨by kernel_rfl, by kernel_rfl, ?_⟩
       refine AX.go ?_
       refine cd rfl (fun hc6 => ?_) fun hc6 => ?_
       ·
        obtain ⟨hc6, hc6'⟩ := pT hc6
        exact absurd hc6 (by decide)
       ·
        obtain ⟨hc6, hc6'⟩ := pF hc6
        refine AW.skip ?_
        refine AX.normal_block ?_
        refine AX.go ?_
        refine AW.region ?_
        refine st (mvT rfl) rfl ?_
        refine st (OpT.add (H rfl) (T1 rfl) (I rfl) (nw (by omega))) rfl ?_
        refine st (asT rfl) rfl ?_
        refine nn ?_
        exact AX.again (k + 1) (by omega) (by omega) (Kc 1 _ (Kv rfl rfl) <| Kc 5 _ (Kv rfl rfl) <| Kc 8 _ (Kv rfl rfl) <| Kc 10 _ (Kv rfl rfl) <| Kc 11 _ (Kv rfl (by omega)) <| Kn)
     ·
      have hd3' := lF hd3
      refine dhm [0, 1, 3, 7, 15, 31, 63, 127, 127, 383, 1023, 2047, 4095, 8191, 16383, 8191, 8191, 8191, 204799, 466943, 1023999, 2072575, 8191, 8191, 8191, 25174015, 58728447, 130031615, 264249343, 536846335, 1073741823, 2147483647, 4294967295, 8589934591, 8589934591, 34359738367, 68719476735, 137438953471, 274877906943, 549755813887, 1099511627775, 2199023255551, 4398046511103, 8796093022207, 8796093022207, 35184372088831, 70368744177663, 8796093022207, 8796093022207, 431008558088191, 993958511509503, 2251799813685247, 4503599627370495, 9007199254740991, 18014398509481983, 36028797018963967] [] fomo ?_
      refine d1 [13] (fun ve h => OpT.move (A := .cel _ _) (.inl rfl) rfl (ok' rfl) (D1 h rfl) rfl) rfl ?_
      refine d1 [109] (fun ve h => OpT.neq (H rfl) (D1 h rfl) (I rfl)) rfl ?_
      refine d1 [110] (fun ve h => OpT.move (A := .cel _ _) (.inl rfl) rfl (ok' rfl) (D1 h rfl) rfl) rfl ?_
      refine dr [15, 111] rfl (fun ve h => OpT.move (A := .cel _ _) (.inl rfl) rfl (ok' rfl) (D1 h rfl) rfl) rfl ?_
      refine dr [111, 112] rfl (fun ve h => OpT.neq (H rfl) (D1 h rfl) (I rfl)) rfl ?_
      refine d1 [111, 113] (fun ve h => OpT.pickF (A := .cel _ _) (H rfl) (D1 h rfl) rfl (D1 h rfl) rfl) rfl ?_
      refine d1 [114] (fun ve h => OpT.move (A := .cel _ _) (.inl rfl) rfl (ok' rfl) (D1 h rfl) rfl) rfl ?_
      refine dr [12, 115] rfl (fun ve h => OpT.move (A := .cel _ _) (.inl rfl) rfl (ok' rfl) (D1 h rfl) rfl) rfl ?_
      refine dr [14, 115] rfl (fun ve h => OpT.move (A := .cel _ _) (.inl rfl) rfl (ok' rfl) (D1 h rfl) rfl) rfl ?_
      refine dr [115, 117] rfl (fun ve h => OpT.neg (H rfl) (D1 h rfl) (nw (by omega))) rfl ?_
      refine dr [115, 116, 118] rfl (fun ve h => OpT.neq (H rfl) (D1 h rfl) (D1 h rfl)) rfl ?_
      refine d1 [115, 119] (fun ve h => OpT.pickF (A := .cel _ _) (H rfl) (D1 h rfl) rfl (D1 h rfl) rfl) rfl ?_
      refine d1 [120] (fun ve h => OpT.move (A := .cel _ _) (.inl rfl) rfl (ok' rfl) (D1 h rfl) rfl) rfl ?_
      refine dr [12, 121] hd1 (fun ve h => OpT.move (A := .cel _ _) (.inl rfl) rfl (ok' rfl) (D1 h rfl) rfl) rfl ?_
      refine dr [121, 122] hd1 (fun ve h => OpT.eql (H rfl) (D1 h rfl) (I rfl)) rfl ?_
      refine dr [5, 121] hd1 (fun ve h => OpT.move (A := .cel _ _) (.inl rfl) rfl (ok' rfl) (D1 h rfl) rfl) rfl ?_
      refine dr [8, 121] hd1 (fun ve h => OpT.move (A := .cel _ _) (.inl rfl) rfl (ok' rfl) (D1 h rfl) rfl) rfl ?_
      refine dr [10, 121] hd1 (fun ve h => OpT.move (A := .cel _ _) (.inl rfl) rfl (ok' rfl) (D1 h rfl) rfl) rfl ?_
      refine dr [121, 125, 126] hd1 (fun ve h => OpT.indexAddr (H rfl) (D1 h rfl) (D1 h rfl) el26 sz2 (by omega) (gdF_in hi).1) rfl ?_
      refine dr [121, 127] hd1 (fun ve h => OpT.load (H rfl) (D1 h rfl) ag2 rfl) rfl ?_
      refine dr [121, 124, 128] hd1 (fun ve h => OpT.indexAddr (H rfl) (D1 h rfl) (D1 h rfl) el24 sz9 (by omega) (nth_get (gdF_in hi).2.1)) rfl ?_
      refine dr [121, 129] hd1 (fun ve h => OpT.load (H rfl) (D1 h rfl) ag9 rfl) rfl ?_
      refine dr [5, 121] hd1 (fun ve h => OpT.move (A := .cel _ _) (.inl rfl) rfl (ok' rfl) (D1 h rfl) rfl) rfl ?_
      refine dr [8, 121] hd1 (fun ve h => OpT.move (A := .cel _ _) (.inl rfl) rfl (ok' rfl) (D1 h rfl) rfl) rfl ?_
      refine dr [11, 121] hd1 (fun ve h => OpT.move (A := .cel _ _) (.inl rfl) rfl (ok' rfl) (D1 h rfl) rfl) rfl ?_
      refine dr [121, 132, 133] hd1 (fun ve h => OpT.indexAddr (H rfl) (D1 h rfl) (D1 h rfl) el26 sz2 (by omega) (gdF_in hk).1) rfl ?_
      refine dr [121, 134] hd1 (fun ve h => OpT.load (H rfl) (D1 h rfl) ag2 rfl) rfl ?_
      refine dr [121, 131, 135] hd1 (fun ve h => OpT.indexAddr (H rfl) (D1 h rfl) (D1 h rfl) el24 sz9 (by omega) (nth_get (gdF_in hk).2.1)) rfl ?_
      refine dr [121, 136] hd1 (fun ve h => OpT.load (H rfl) (D1 h rfl) ag9 rfl) rfl ?_
      refine dr [121, 130, 137] hd1 (fun ve h => OpT.seqv (H rfl) (D1 h rfl) (D1 h rfl)) rfl ?_
      refine dr [121, 123, 138] hd1 (fun ve h => OpT.bneq (H rfl) Tryd.underlying4 (D1 h rfl) (D1 h rfl)) rfl ?_
      refine d1 [121, 139] (fun ve h => OpT.pickF (A := .cel _ _) (H rfl) (D1 h rfl) hd1 (D1 h rfl) rfl) rfl ?_
      refine d1 [140] (fun ve h => OpT.move (A := .cel _ _) (.inl rfl) rfl (ok' rfl) (D1 h rfl) rfl) rfl ?_
      refine dr [10, 141] hd2 (fun ve h => OpT.move (A := .cel _ _) (.inl rfl) rfl (ok' rfl) (D1 h rfl) rfl) rfl ?_
      refine dr [11, 141] hd2 (fun ve h => OpT.move (A := .cel _ _) (.inl rfl) rfl (ok' rfl) (D1 h rfl) rfl) rfl ?_
      refine dr [141, 142, 143] hd2 (fun ve h => OpT.lss (H rfl) (D1 h rfl) (D1 h rfl)) rfl ?_
      refine dr [141, 144] hd2 (fun ve h => OpT.move (A := .cel _ _) (.inl rfl) rfl (ok' rfl) (D1 h rfl) rfl) rfl ?_
      refine dp hd3 rfl ?_
      refine dp hd3 rfl ?_
      refine dq hd3 rfl ?_
      refine dpu rfl ?_
      refine dpu rfl ?_
      refine dqu rfl ?_
      refine dpu rfl ?_
      refine dpu rfl ?_
      refine dpu rfl ?_
      refine dpu rfl ?_
      refine dpu rfl ?_
      refine dpu rfl ?_
      refine dpu rfl ?_
      refine dpu rfl ?_
      refine dpu rfl ?_
      refine dpu rfl ?_
      refine dp hd3 rfl ?_
      refine dr [141, 145] hd2 (fun ve h => OpT.pickF (A := .cel _ _) (H rfl) (D1 h rfl) hd3 Opd.bool rfl) rfl ?_
      refine d1 [141, 163] (fun ve h => OpT.pickF (A := .cel _ _) (H rfl) (D1 h rfl) hd2 (D1 h rfl) rfl) rfl ?_
      refine dn ⟨by kernel_rfl, by kernel_rfl, ?_⟩
      refine AX.go ?_
      refine cd rfl (fun hc7 => ?_) fun hc7 => ?_
      ·
       obtain ⟨hc7, hc7'⟩ := pT hc7
       exact absurd hc7 (by decide)
      ·
       obtain ⟨hc7, hc7'⟩ := pF hc7
       refine AW.skip ?_
       refine AX.normal_block ?_
       refine AX.go ?_
       refine AW.region ?_
       refine st (mvT rfl) rfl ?_
       refine st (OpT.add (H rfl) (T1 rfl) (I rfl) (nw (by omega))) rfl ?_
       refine st (asT rfl) rfl ?_
       refine nn ?_
       exact AX.again (k + 1) (by omega) (by omega) (Kc 1 _ (Kv rfl rfl) <| Kc 5 _ (Kv rfl rfl) <| Kc 8 _ (Kv rfl rfl) <| Kc 10 _ (Kv rfl rfl) <| Kc 11 _ (Kv rfl (by omega)) <| Kn)
    ·
     obtain ⟨hc4, hc4'⟩ := pF hc4
     refine AW.exit ?_
     refine xT <| xT <| AX.exit_hit ?_
     refine AX.normal_block ?_
     refine AX.go ?_
     refine AW.region ?_
     refine st (mvT rfl) rfl ?_
     refine st (OpT.add (H rfl) (T1 rfl) (I rfl) (nw (by omega))) rfl ?_
     refine st (asT rfl) rfl ?_
     refine nn ?_
     exact AX.again (i + 1) (by omega) (by omega) (Kc 1 _ (Kv rfl rfl) <| Kc 5 _ (Kv rfl rfl) <| Kc 8 _ (Kv rfl rfl) <| Kc 10 _ (Kv rfl (by omega)) <| Kn)
   ·
    obtain ⟨hc3, hc3'⟩ := pF hc3
    refine AW.exit ?_
    refine xT <| xT <| AX.exit_hit ?_
    refine AX.go ?_
    refine sr ?_
    refine st (mvT rfl) rfl ?_
    refine st (OpT.c1 (ms := [.flat, .flat, .flat]) (c_laws_a2At _ 0 4 ⟨by omega, hu1⟩) (H rfl) (Af (T1 rfl) rfl rfl <| Af (I rfl) rfl rfl <| Af (I rfl) rfl rfl <| An) rfl rfl) rfl ?_
    refine st (OpT.add (H rfl) (I rfl) (T1 rfl) (nw (by omega))) rfl ?_
    refine st (asT rfl) rfl ?_
    refine ng ?_
    refine sr ?_
    refine st (mvT rfl) rfl ?_
    refine st (mvT rfl) rfl ?_
    refine s2 (OpT.c2 (ms := [.flat, .flat]) (c_impl_GuidesFor _ _) (H rfl) (Af (T1 rfl) rfl rfl <| Af (T1 rfl) rfl rfl <| An) rfl rfl rfl) rfl ?_
    refine st (OpT.alias (H rfl) (by decide) (by decide)) rfl ?_
    refine st (OpT.extractV (m := 10171) (H rfl) rfl rfl rfl rfl rfl rfl rfl) rfl ?_
    refine AWl.to (Kc 172 _ (Kv rfl (show _ = (gdP d (1 + atS y 0 4) d.length) from by rw [hgr])) <| (Kc 168 (.ali _) rfl <| kc4 10171 20171 170 169 rfl <| kc4 16 167 166 165 rfl <| kc4 64 63 62 61 rfl <| kc4 1 5 8 10 rfl <| Kn)) ?_
    refine st (OpT.extractV (m := 20171) (H rfl) rfl rfl rfl rfl rfl rfl rfl) rfl ?_
    refine AWl.to (Kc 173 _ (Kv rfl (show _ = (0 : Int) from by rw [hgr])) <| (kc 172 rfl <| Kc 168 (.ali _) rfl <| kc4 10171 20171 170 169 rfl <| kc4 16 167 166 165 rfl <| kc4 64 63 62 61 rfl <| kc4 1 5 8 10 rfl <| Kn)) ?_
    refine st (asT rfl) rfl ?_
    refine st (asT rfl) rfl ?_
    refine AWl.to (kc4 18 17 16 5 rfl <| kc 8 rfl <| Kn) ?_
    refine ng ?_
    refine sr ?_
    refine st (mvT rfl) rfl ?_
    refine st (mvT rfl) rfl ?_
    refine s2 (OpT.c2 (ms := [.flat, .flat]) (c_spec_GuidesFor _ _) (H rfl) (Af (T1 rfl) rfl rfl <| Af (T1 rfl) rfl rfl <| An) rfl rfl rfl) rfl ?_
    refine st (OpT.alias (H rfl) (by decide) (by decide)) rfl ?_
    refine st (OpT.extractV (m := 10177) (H rfl) rfl rfl rfl rfl rfl rfl rfl) rfl ?_
    refine AWl.to (Kc 178 _ (Kv rfl (show _ = (gdP d (1 + atS y 0 4) d.length) from by rw [hgr])) <| (Kc 174 (.ali _) rfl <| kc4 10177 20177 176 175 rfl <| kc4 18 17 16 5 rfl <| kc 8 rfl <| Kn)) ?_
    refine st (OpT.extractV (m := 20177) (H rfl) rfl rfl rfl rfl rfl rfl rfl) rfl ?_
    refine AWl.to (Kc 179 _ (Kv rfl (show _ = (0 : Int) from by rw [hgr])) <| (kc 178 rfl <| Kc 174 (.ali _) rfl <| kc4 10177 20177 176 175 rfl <| kc4 18 17 16 5 rfl <| kc 8 rfl <| Kn)) ?_
    refine st (asT rfl) rfl ?_
    refine st (asT rfl) rfl ?_
    refine ng ?_
    refine AW.seq ?_
    refine sr ?_
    refine st (mvT rfl) rfl ?_
    refine st (mvT rfl) rfl ?_
    refine st (OpT.neq (H rfl) (T1 rfl) (T1 rfl)) rfl ?_
    refine st (mvT rfl) rfl ?_
    apply AWl.or (d := 186) (t := 183) rfl
    ·
     intro hb4 Q1 k1
     have hb4' := lF hb4
     refine rs hb4 (mvT rfl) rfl ?_
     refine rs hb4 (OpT.neq (H rfl) (T1 rfl) (I rfl)) rfl ?_
     refine st (OpT.pickF (A := .cel _ _) (H rfl) (T1 rfl) hb4 (T1 rfl) rfl) rfl ?_
     exact AWl.to (junk 2 rfl) k1
    ·
     intro hb4 Q1 k1
     refine ps hb4 rfl ?_
     refine ps hb4 rfl ?_
     refine st (OpT.pickT (A := .cel _ _) (H rfl) (T1 rfl) hb4 Opd.bool rfl) rfl ?_
     exact k1
    refine st (mvT rfl) rfl ?_
    apply AWl.or (d := 192) (t := 187) rfl
    ·
     intro hb5 Q1 k1
     have hb5' := lF hb5
     refine rs hb5 (mvT rfl) rfl ?_
     refine rs hb5 (mvT rfl) rfl ?_
     refine rs hb5 (OpT.c1 (ms := [.flat, .flat]) (c_spec_A2Texts _ _) (H rfl) (Af (T1 rfl) rfl rfl <| Af (T1 rfl) rfl rfl <| An) rfl rfl) rfl ?_
     refine rs hb5 (OpT.not (H rfl) (T1 rfl)) rfl ?_
     refine st (OpT.pickF (A := .cel _ _) (H rfl) (T1 rfl) hb5 (T1 rfl) rfl) rfl ?_
     exact AWl.to (junk 4 rfl) k1
    ·
     intro hb5 Q1 k1
     refine ps hb5 rfl ?_
     refine ps hb5 rfl ?_
     refine ps hb5 rfl ?_
     refine ps hb5 rfl ?_
     refine st (OpT.pickT (A := .cel _ _) (H rfl) (T1 rfl) hb5 Opd.bool rfl) rfl ?_
     exact k1
    refine st (mvT rfl) rfl ?_
    apply AWl.or (d := 204) (t := 193) rfl
    ·
     intro hb6 Q1 k1
     have hb6' := lF hb6
     refine rs hb6 (mvT rfl) rfl ?_
     refine rs hb6 (OpT.len (H rfl) (T1 rfl) el24) rfl ?_
     refine rs hb6 (mvT rfl) rfl ?_
     refine rs hb6 (OpT.len (H rfl) (T1 rfl) el24) rfl ?_
     refine rs hb6 (mvT rfl) rfl ?_
     refine rs hb6 (OpT.add (H rfl) (T1 rfl) (T1 rfl) (nw (by omega))) rfl ?_
     refine rs hb6 (OpT.sub (H rfl) (T1 rfl) (I rfl) (nw (by omega))) rfl ?_
     refine rs hb6 (mvT rfl) rfl ?_
     refine rs hb6 (OpT.quo (H rfl) (T1 rfl) (T1 rfl) (by omega) (nw (by omega))) rfl ?_
     refine rs hb6 (OpT.neq (H rfl) (T1 rfl) (T1 rfl)) rfl ?_
     refine st (OpT.pickF (A := .cel _ _) (H rfl) (T1 rfl) hb6 (T1 rfl) rfl) rfl ?_
     exact AWl.to (junk 10 rfl) k1
    ·
     intro hb6 Q1 k1
     refine ps hb6 rfl ?_
     refine ps hb6 rfl ?_
     refine ps hb6 rfl ?_
     refine ps hb6 rfl ?_
     refine ps hb6 rfl ?_
     refine ps hb6 rfl ?_
     refine ps hb6 rfl ?_
     refine ps hb6 rfl ?_
     refine ps hb6 rfl ?_
     refine ps hb6 rfl ?_
     refine st (OpT.pickT (A := .cel _ _) (H rfl) (T1 rfl) hb6 Opd.bool rfl) rfl ?_
     exact k1
    refine AWl.to (kc4 204 19 16 5 rfl <| kc 8 rfl <| Kn) ?_
    refine ng ?_
    refine cd rfl (fun hc8 => ?_) fun hc8 => ?_
    ·
     obtain ⟨hc8, hc8'⟩ := pT hc8
     exact (show False from (by simp [eqv_self] at hc8; omega)).elim
    ·
     obtain ⟨hc8, hc8'⟩ := pF hc8
     refine AW.skip ?_
     refine AX.go ?_
     refine AW.seq ?_
     refine sr ?_
     refine st (mvT rfl) rfl ?_
     refine st (OpT.len (H rfl) (T1 rfl) el24) rfl ?_
     refine st (OpT.eql (H rfl) (T1 rfl) (I rfl)) rfl ?_
     refine ng ?_
     refine cd rfl (fun hc9 => ?_) fun hc9 => ?_
     ·
      obtain ⟨hc9, hc9'⟩ := pT hc9
      refine sr ?_
      refine st (mvT rfl) rfl ?_
      refine st (mvT rfl) rfl ?_
      refine s2 (OpT.c2 (ms := [.flat, .flat, .flat]) (c_impl_DrawerOf d (1 + atS y 0 4) ⟨#[115, 116, 111, 110, 101]⟩) (H rfl) (Af (T1 rfl) rfl rfl <| Af (T1 rfl) rfl rfl <| Af (Opd.str (by decide)) rfl rfl <| An) rfl rfl rfl) rfl ?_
      refine st (OpT.alias (H rfl) (by decide) (by decide)) rfl ?_
      refine st (OpT.extractV (m := 10211) (H rfl) rfl rfl rfl rfl rfl rfl rfl) rfl ?_
      refine st (OpT.extractV (m := 20211) (H rfl) rfl rfl rfl rfl rfl rfl rfl) rfl ?_
      refine AWl.to (Kc 213 _ (Kv rfl (show _ = (6 : Int) from by rw [drw_no hd.1 hpr (by omega)])) <| (kc 212 rfl <| Kc 208 (.ali _) rfl <| kc4 10211 20211 210 209 rfl <| kc4 207 206 205 204 rfl <| kc4 19 16 5 8 rfl <| Kn)) ?_
      refine st (asT rfl) rfl ?_
      refine st (asT rfl) rfl ?_
      refine AWl.to (kc4 22 19 16 5 rfl <| kc 8 rfl <| Kn) ?_
      refine ng ?_
      refine sr ?_
      refine st (mvT rfl) rfl ?_
      refine st (OpT.eql (H rfl) (T1 rfl) (I rfl)) rfl ?_
      refine st (asT rfl) rfl ?_
      refine ng ?_
      refine AW.ret ?_
      refine rT ?_
      exact rt1 rfl (.inl rfl) (by first | rfl | simp)
     ·
      obtain ⟨hc9, hc9'⟩ := pF hc9
      refine AW.skip ?_
      refine AX.go ?_
      refine AW.seq ?_
      refine sr ?_
      refine st (asI rfl) rfl ?_
      refine ng ?_
      refine AW.block ?_
      refine AW.loop (fun i : Nat => i ≤ d.length) (fun i : Nat => keep [(5, .cel (Kd.slice Kd.str) d), (8, .cel (Kd.slice (Kd.int .i64)) (filP d)), (16, .cel (Kd.int .i64) (1 + atS y 0 4)), (19, .cel (Kd.slice Kd.str) (gdP d (1 + atS y 0 4) d.length)), (23, .cel (Kd.int .i64) (i : Int))]) (fun i : Nat => d.length - i) (0) (Nat.zero_le _) (Kc 5 _ (Kv rfl rfl) <| Kc 8 _ (Kv rfl rfl) <| Kc 16 _ (Kv rfl rfl) <| Kc 19 _ (Kv rfl rfl) <| Kc 23 _ (Kv rfl rfl) <| Kn) ?_
      intro i hI
      refine AW.seq ?_
      refine sr ?_
      refine st (mvT rfl) rfl ?_
      refine st (mvT rfl) rfl ?_
      refine st (OpT.len (H rfl) (T1 rfl) el26) rfl ?_
      refine st (OpT.lss (H rfl) (T1 rfl) (T1 rfl)) rfl ?_
      refine ng ?_
      refine cd rfl (fun hc10 => ?_) fun hc10 => ?_
      ·
       obtain ⟨hc10, hc10'⟩ := pT hc10
       have hi : i < d.length := by omega
       have hfi := (gdF_in hi).2.1.1
       have ht0 : 0 ≤ Int.tdiv (i : Int) (1 + atS y 0 4) := Int.tdiv_nonneg (by omega) (by omega)
       obtain ⟨hr1, hr2, hr3, hr4, hr5⟩ := dr_law hpr.1 hi
       refine AW.skip ?_
       refine AX.go ?_
       refine AW.seq ?_
       refine AW.block ?_
       refine sr ?_
       refine st (mvT rfl) rfl ?_
       refine st (mvT rfl) rfl ?_
       refine st (mvT rfl) rfl ?_
       refine st (mvT rfl) rfl ?_
       refine st (mvT rfl) rfl ?_
       refine st (OpT.indexAddr (H rfl) (T1 rfl) (T1 rfl) el26 sz2 (by omega) (gdF_in hi).1) rfl ?_
       refine st (OpT.load (H rfl) (T1 rfl) ag2 rfl) rfl ?_
       refine st (OpT.indexAddr (H rfl) (T1 rfl) (T1 rfl) el24 sz9 (by omega) (nth_get (gdF_in hi).2.1)) rfl ?_
       refine st (OpT.load (H rfl) (T1 rfl) ag9 rfl) rfl ?_
       refine s2 (OpT.c2 (ms := [.flat, .flat, .flat]) (c_impl_DrawerOf d (1 + atS y 0 4) (nmF d i)) (H rfl) (Af (T1 rfl) rfl rfl <| Af (T1 rfl) rfl rfl <| Af (T1 rfl) rfl rfl <| An) rfl rfl rfl) rfl ?_
       refine st (OpT.alias (H rfl) (by decide) (by decide)) rfl ?_
       refine st (OpT.extractV (m := 10232) (H rfl) rfl rfl rfl rfl rfl rfl rfl) rfl ?_
       refine AWl.to (Kc 233 _ (Kv rfl (show _ = drA d (1 + atS y 0 4) i from by rw [drw_at hd.1 hd.2 hpr hi])) <| (Kc 222 (.ali _) rfl <| kc4 10232 20232 231 230 rfl <| kc4 229 228 227 226 rfl <| kc4 225 224 223 219 rfl <| kc4 218 217 216 5 rfl <| kc4 8 16 19 23 rfl <| Kn)) ?_
       refine st (OpT.extractV (m := 20232) (H rfl) rfl rfl rfl rfl rfl rfl rfl) rfl ?_
       refine AWl.to (Kc 234 _ (Kv rfl (show _ = (0 : Int) from by rw [drw_at hd.1 hd.2 hpr hi])) <| (kc 233 rfl <| Kc 222 (.ali _) rfl <| kc4 10232 20232 231 230 rfl <| kc4 229 228 227 226 rfl <| kc4 225 224 223 219 rfl <| kc4 218 217 216 5 rfl <| kc4 8 16 19 23 rfl <| Kn)) ?_
       refine st (asT rfl) rfl ?_
       refine st (asT rfl) rfl ?_
       refine ng ?_
       refine AW.seq ?_
       have hd6 : (decide ((drA d (1 + atS y 0 4) i) < (0 : Int))) = false := (decide_eq_false (by omega))
       have hd7 : (decide ((drA d (1 + atS y 0 4) i) ≥ (((gdP d (1 + atS y 0 4) d.length)).length : Int))) = false := (decide_eq_false (by omega))
       have hd8 : (decide ((drA d (1 + atS y 0 4) i) < (Int.tdiv (i : Int) (1 + atS y 0 4)))) = false := (decide_eq_false (by omega))
       rcases Bool.eq_false_or_eq_true (decide ((drA d (1 + atS y 0 4) i) > (Int.tdiv (i : Int) (1 + atS y 0 4)))) with hd9 | hd9
       ·
        have hd9' := lT hd9
        have hge := hr4 (by simpa using hd9)
        refine dhm [0, 1, 3, 7, 15, 31, 63, 127, 127, 383, 1023, 2047, 4095, 8191, 8191, 8191, 57343, 131071, 262143, 524287, 1048575, 1048575, 1048575, 7340031, 16777215, 33554431, 67108863, 67108863, 268435455, 536870911, 67108863, 67108863, 67108863, 6509559807, 15099494399, 33353105407, 67712843775, 137438953471, 274877906943, 549755813887] [] fomo ?_
        refine d1 [25] (fun ve h => OpT.move (A := .cel _ _) (.inl rfl) rfl (ok' rfl) (D1 h rfl) rfl) rfl ?_
        refine d1 [235] (fun ve h => OpT.neq (H rfl) (D1 h rfl) (I rfl)) rfl ?_
        refine d1 [236] (fun ve h => OpT.move (A := .cel _ _) (.inl rfl) rfl (ok' rfl) (D1 h rfl) rfl) rfl ?_
        refine dr [24, 237] rfl (fun ve h => OpT.move (A := .cel _ _) (.inl rfl) rfl (ok' rfl) (D1 h rfl) rfl) rfl ?_
        refine dr [237, 238] rfl (fun ve h => OpT.lss (H rfl) (D1 h rfl) (I rfl)) rfl ?_
        refine d1 [237, 239] (fun ve h => OpT.pickF (A := .cel _ _) (H rfl) (D1 h rfl) rfl (D1 h rfl) rfl) rfl ?_
        refine d1 [240] (fun ve h => OpT.move (A := .cel _ _) (.inl rfl) rfl (ok' rfl) (D1 h rfl) rfl) rfl ?_
        refine dr [24, 241] hd6 (fun ve h => OpT.move (A := .cel _ _) (.inl rfl) rfl (ok' rfl) (D1 h rfl) rfl) rfl ?_
        refine dr [19, 241] hd6 (fun ve h => OpT.move (A := .cel _ _) (.inl rfl) rfl (ok' rfl) (D1 h rfl) rfl) rfl ?_
        refine dr [241, 243] hd6 (fun ve h => OpT.len (H rfl) (D1 h rfl) el24) rfl ?_
        refine dr [241, 242, 244] hd6 (fun ve h => OpT.geq (H rfl) (D1 h rfl) (D1 h rfl)) rfl ?_
        refine d1 [241, 245] (fun ve h => OpT.pickF (A := .cel _ _) (H rfl) (D1 h rfl) hd6 (D1 h rfl) rfl) rfl ?_
        refine d1 [246] (fun ve h => OpT.move (A := .cel _ _) (.inl rfl) rfl (ok' rfl) (D1 h rfl) rfl) rfl ?_
        refine dr [24, 247] hd7 (fun ve h => OpT.move (A := .cel _ _) (.inl rfl) rfl (ok' rfl) (D1 h rfl) rfl) rfl ?_
        refine dr [23, 247] hd7 (fun ve h => OpT.move (A := .cel _ _) (.inl rfl) rfl (ok' rfl) (D1 h rfl) rfl) rfl ?_
        refine dr [16, 247] hd7 (fun ve h => OpT.move (A := .cel _ _) (.inl rfl) rfl (ok' rfl) (D1 h rfl) rfl) rfl ?_
        refine dr [247, 249, 250] hd7 (fun ve h => OpT.quo (H rfl) (D1 h rfl) (D1 h rfl) (by omega) (nw (by omega))) rfl ?_
        refine dr [247, 248, 251] hd7 (fun ve h => OpT.lss (H rfl) (D1 h rfl) (D1 h rfl)) rfl ?_
        refine d1 [247, 252] (fun ve h => OpT.pickF (A := .cel _ _) (H rfl) (D1 h rfl) hd7 (D1 h rfl) rfl) rfl ?_
        refine d1 [253] (fun ve h => OpT.move (A := .cel _ _) (.inl rfl) rfl (ok' rfl) (D1 h rfl) rfl) rfl ?_
        refine dr [24, 254] hd8 (fun ve h => OpT.move (A := .cel _ _) (.inl rfl) rfl (ok' rfl) (D1 h rfl) rfl) rfl ?_
        refine dr [23, 254] hd8 (fun ve h => OpT.move (A := .cel _ _) (.inl rfl) rfl (ok' rfl) (D1 h rfl) rfl) rfl ?_
        refine dr [16, 254] hd8 (fun ve h => OpT.move (A := .cel _ _) (.inl rfl) rfl (ok' rfl) (D1 h rfl) rfl) rfl ?_
        refine dr [254, 256, 257] hd8 (fun ve h => OpT.quo (H rfl) (D1 h rfl) (D1 h rfl) (by omega) (nw (by omega))) rfl ?_
        refine dr [254, 255, 258] hd8 (fun ve h => OpT.gtr (H rfl) (D1 h rfl) (D1 h rfl)) rfl ?_
        refine dr [254, 259] hd8 (fun ve h => OpT.move (A := .cel _ _) (.inl rfl) rfl (ok' rfl) (D1 h rfl) rfl) rfl ?_
        refine dr [19, 260] hd9 (fun ve h => OpT.move (A := .cel _ _) (.inl rfl) rfl (ok' rfl) (D1 h rfl) rfl) rfl ?_
        refine dr [24, 260] hd9 (fun ve h => OpT.move (A := .cel _ _) (.inl rfl) rfl (ok' rfl) (D1 h rfl) rfl) rfl ?_
        refine dr [260, 261, 262] hd9 (fun ve h => OpT.indexAddr (H rfl) (D1 h rfl) (D1 h rfl) el24 sz9 (by omega) hr5) rfl ?_
        refine dr [260, 263] hd9 (fun ve h => OpT.load (H rfl) (D1 h rfl) ag9 rfl) rfl ?_
        refine dr [5, 260] hd9 (fun ve h => OpT.move (A := .cel _ _) (.inl rfl) rfl (ok' rfl) (D1 h rfl) rfl) rfl ?_
        refine dr [8, 260] hd9 (fun ve h => OpT.move (A := .cel _ _) (.inl rfl) rfl (ok' rfl) (D1 h rfl) rfl) rfl ?_
        refine dr [23, 260] hd9 (fun ve h => OpT.move (A := .cel _ _) (.inl rfl) rfl (ok' rfl) (D1 h rfl) rfl) rfl ?_
        refine dr [260, 266, 267] hd9 (fun ve h => OpT.indexAddr (H rfl) (D1 h rfl) (D1 h rfl) el26 sz2 (by omega) (gdF_in hi).1) rfl ?_
        refine dr [260, 268] hd9 (fun ve h => OpT.load (H rfl) (D1 h rfl) ag2 rfl) rfl ?_
        refine dr [260, 265, 269] hd9 (fun ve h => OpT.indexAddr (H rfl) (D1 h rfl) (D1 h rfl) el24 sz9 (by omega) (nth_get (gdF_in hi).2.1)) rfl ?_
        refine dr [260, 270] hd9 (fun ve h => OpT.load (H rfl) (D1 h rfl) ag9 rfl) rfl ?_
        refine dr [260, 264, 271] hd9 (fun ve h => OpT.snev (H rfl) (D1 h rfl) (D1 h rfl)) rfl ?_
        refine dr [254, 260, 272] hd8 (fun ve h => OpT.pickT (A := .cel _ _) (H rfl) (D1 h rfl) hd9 (D1 h rfl) rfl) rfl ?_
        refine d1 [254, 273] (fun ve h => OpT.pickF (A := .cel _ _) (H rfl) (D1 h rfl) hd8 (D1 h rfl) rfl) rfl ?_
        refine dn ⟨by kernel_rfl, by kernel_rfl, ?_⟩
        refine AX.go ?_
        refine cd rfl (fun hc11 => ?_) fun hc11 => ?_
        ·
         obtain ⟨hc11, hc11'⟩ := pT hc11
         exact (show False from (eqv_false_iff.1 hc11 hge)).elim
        ·
         obtain ⟨hc11, hc11'⟩ := pF hc11
         refine AW.skip ?_
         refine AX.normal_block ?_
         refine AX.go ?_
         refine AW.region ?_
         refine st (mvT rfl) rfl ?_
         refine st (OpT.add (H rfl) (T1 rfl) (I rfl) (nw (by omega))) rfl ?_
         refine st (asT rfl) rfl ?_
         refine nn ?_
         exact AX.again (i + 1) (by omega) (by omega) (Kc 5 _ (Kv rfl rfl) <| Kc 8 _ (Kv rfl rfl) <| Kc 16 _ (Kv rfl rfl) <| Kc 19 _ (Kv rfl rfl) <| Kc 23 _ (Kv rfl (by omega)) <| Kn)
       ·
        have hd9' := lF hd9
        refine dhm [0, 1, 3, 7, 15, 31, 63, 127, 127, 383, 1023, 2047, 4095, 8191, 8191, 8191, 57343, 131071, 262143, 524287, 1048575, 1048575, 1048575, 7340031, 16777215, 33554431, 67108863, 67108863, 268435455, 536870911, 67108863, 67108863, 67108863, 6509559807, 15099494399, 33353105407, 67712843775, 137438953471, 274877906943, 549755813887] [] fomo ?_
        refine d1 [25] (fun ve h => OpT.move (A := .cel _ _) (.inl rfl) rfl (ok' rfl) (D1 h rfl) rfl) rfl ?_
        refine d1 [235] (fun ve h => OpT.neq (H rfl) (D1 h rfl) (I rfl)) rfl ?_
        refine d1 [236] (fun ve h => OpT.move (A := .cel _ _) (.inl rfl) rfl (ok' rfl) (D1 h rfl) rfl) rfl ?_
        refine dr [24, 237] rfl (fun ve h => OpT.move (A := .cel _ _) (.inl rfl) rfl (ok' rfl) (D1 h rfl) rfl) rfl ?_
        refine dr [237, 238] rfl (fun ve h => OpT.lss (H rfl) (D1 h rfl) (I rfl)) rfl ?_
        refine d1 [237, 239] (fun ve h => OpT.pickF (A := .cel _ _) (H rfl) (D1 h rfl) rfl (D1 h rfl) rfl) rfl ?_
        refine d1 [240] (fun ve h => OpT.move (A := .cel _ _) (.inl rfl) rfl (ok' rfl) (D1 h rfl) rfl) rfl ?_
        refine dr [24, 241] hd6 (fun ve h => OpT.move (A := .cel _ _) (.inl rfl) rfl (ok' rfl) (D1 h rfl) rfl) rfl ?_
        refine dr [19, 241] hd6 (fun ve h => OpT.move (A := .cel _ _) (.inl rfl) rfl (ok' rfl) (D1 h rfl) rfl) rfl ?_
        refine dr [241, 243] hd6 (fun ve h => OpT.len (H rfl) (D1 h rfl) el24) rfl ?_
        refine dr [241, 242, 244] hd6 (fun ve h => OpT.geq (H rfl) (D1 h rfl) (D1 h rfl)) rfl ?_
        refine d1 [241, 245] (fun ve h => OpT.pickF (A := .cel _ _) (H rfl) (D1 h rfl) hd6 (D1 h rfl) rfl) rfl ?_
        refine d1 [246] (fun ve h => OpT.move (A := .cel _ _) (.inl rfl) rfl (ok' rfl) (D1 h rfl) rfl) rfl ?_
        refine dr [24, 247] hd7 (fun ve h => OpT.move (A := .cel _ _) (.inl rfl) rfl (ok' rfl) (D1 h rfl) rfl) rfl ?_
        refine dr [23, 247] hd7 (fun ve h => OpT.move (A := .cel _ _) (.inl rfl) rfl (ok' rfl) (D1 h rfl) rfl) rfl ?_
        refine dr [16, 247] hd7 (fun ve h => OpT.move (A := .cel _ _) (.inl rfl) rfl (ok' rfl) (D1 h rfl) rfl) rfl ?_
        refine dr [247, 249, 250] hd7 (fun ve h => OpT.quo (H rfl) (D1 h rfl) (D1 h rfl) (by omega) (nw (by omega))) rfl ?_
        refine dr [247, 248, 251] hd7 (fun ve h => OpT.lss (H rfl) (D1 h rfl) (D1 h rfl)) rfl ?_
        refine d1 [247, 252] (fun ve h => OpT.pickF (A := .cel _ _) (H rfl) (D1 h rfl) hd7 (D1 h rfl) rfl) rfl ?_
        refine d1 [253] (fun ve h => OpT.move (A := .cel _ _) (.inl rfl) rfl (ok' rfl) (D1 h rfl) rfl) rfl ?_
        refine dr [24, 254] hd8 (fun ve h => OpT.move (A := .cel _ _) (.inl rfl) rfl (ok' rfl) (D1 h rfl) rfl) rfl ?_
        refine dr [23, 254] hd8 (fun ve h => OpT.move (A := .cel _ _) (.inl rfl) rfl (ok' rfl) (D1 h rfl) rfl) rfl ?_
        refine dr [16, 254] hd8 (fun ve h => OpT.move (A := .cel _ _) (.inl rfl) rfl (ok' rfl) (D1 h rfl) rfl) rfl ?_
        refine dr [254, 256, 257] hd8 (fun ve h => OpT.quo (H rfl) (D1 h rfl) (D1 h rfl) (by omega) (nw (by omega))) rfl ?_
        refine dr [254, 255, 258] hd8 (fun ve h => OpT.gtr (H rfl) (D1 h rfl) (D1 h rfl)) rfl ?_
        refine dr [254, 259] hd8 (fun ve h => OpT.move (A := .cel _ _) (.inl rfl) rfl (ok' rfl) (D1 h rfl) rfl) rfl ?_
        refine dp hd9 rfl ?_
        refine dp hd9 rfl ?_
        refine dp hd9 rfl ?_
        refine dp hd9 rfl ?_
        refine dp hd9 rfl ?_
        refine dp hd9 rfl ?_
        refine dp hd9 rfl ?_
        refine dp hd9 rfl ?_
        refine dp hd9 rfl ?_
        refine dp hd9 rfl ?_
        refine dp hd9 rfl ?_
        refine dp hd9 rfl ?_
        refine dr [254, 260] hd8 (fun ve h => OpT.pickF (A := .cel _ _) (H rfl) (D1 h rfl) hd9 Opd.bool rfl) rfl ?_
        refine d1 [254, 273] (fun ve h => OpT.pickF (A := .cel _ _) (H rfl) (D1 h rfl) hd8 (D1 h rfl) rfl) rfl ?_
        refine dn ⟨by kernel_rfl, by kernel_rfl, ?_⟩
        refine AX.go ?_
        refine cd rfl (fun hc12 => ?_) fun hc12 => ?_
        ·
         obtain ⟨hc12, hc12'⟩ := pT hc12
         exact absurd hc12 (by decide)
        ·
         obtain ⟨hc12, hc12'⟩ := pF hc12
         refine AW.skip ?_
         refine AX.normal_block ?_
         refine AX.go ?_
         refine AW.region ?_
         refine st (mvT rfl) rfl ?_
         refine st (OpT.add (H rfl) (T1 rfl) (I rfl) (nw (by omega))) rfl ?_
         refine st (asT rfl) rfl ?_
         refine nn ?_
         exact AX.again (i + 1) (by omega) (by omega) (Kc 5 _ (Kv rfl rfl) <| Kc 8 _ (Kv rfl rfl) <| Kc 16 _ (Kv rfl rfl) <| Kc 19 _ (Kv rfl rfl) <| Kc 23 _ (Kv rfl (by omega)) <| Kn)
      ·
       obtain ⟨hc10, hc10'⟩ := pF hc10
       refine AW.exit ?_
       refine xT <| xT <| AX.exit_hit ?_
       refine AX.go ?_
       refine sr ?_
       refine st (asB rfl) rfl ?_
       refine ng ?_
       refine AW.ret ?_
       exact rt1 rfl (.inl rfl) (by first | rfl | simp)
end Go.Proofs.YtbckpmjiimiceaaDoor.VL
