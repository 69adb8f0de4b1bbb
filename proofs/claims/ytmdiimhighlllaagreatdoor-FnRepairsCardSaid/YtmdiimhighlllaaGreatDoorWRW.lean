/- Proved here: what some functions of the program take and give: walks with the words of VA..VQ. Printed by program. -/
import Derived.Test.YtmdiimhighlllaaGreatDoorWT
import Derived.Test.YtmdiimhighlllaaGreatDoorPZR
import Derived.Test.YtmdiimhighlllaaGreatDoorWN
import Derived.Test.YtmdiimhighlllaaGreatDoorWB
import Derived.Test.YtmdiimhighlllaaGreatDoorWP
import Derived.Test.YtmdiimhighlllaaGreatDoorWK
import Derived.Test.YtmdiimhighlllaaGreatDoorWSR
set_option linter.unusedVariables false
set_option linter.unusedSimpArgs false
set_option maxRecDepth 4000
namespace Go.Proofs.YtmdiimhighlllaaGreatDoor.VL
open Go
/-- spec.l04Ok -/
theorem c_spec_l04Ok (w : DQuery) : AC Tryz.prog 55 [.cel (Kd.ptr kQuery) w] [.cel Kd.bool (queryOK w)] [] := by
 refine acI (N := 28) Tryz.func55 (Nat.le_of_ble_eq_true rfl) rfl fun w0 hd s0 ar => ?_
 refine AW.to (kc 0 rfl <| Kn) ?_
 refine sr ?_
 refine st (asB rfl) rfl ?_
 refine ng ?_
 refine AW.seq ?_
 rcases Bool.eq_false_or_eq_true (okM w.1) with hd1 | hd1
 ·
  rcases Bool.eq_false_or_eq_true (okM w.2) with hd2 | hd2
  ·
   refine dh fomo ?_
   refine d1 [0] (fun ve h => OpT.move (A := .cel _ _) (.inl rfl) rfl (ok' rfl) (D1 h rfl) rfl) rfl ?_
   refine d1 [3] (fun ve h => OpT.nilCheck (H rfl) (D1 h rfl)) rfl ?_
   refine d1 [4] (fun ve h => OpT.fieldAddr (H rfl) (D1 h rfl) fd41_0 sz34 (by decide) sb41_0) rfl ?_
   refine d1 [5] (fun ve h => OpT.loadA (H rfl) (D1 h rfl) ag34 sz34) rfl ?_
   refine d1 [6] (fun ve h => OpT.c1 (ms := [.flat]) (c_spec_l01Mask _) (H rfl) (Af (D1 h rfl) rfl rfl <| An) rfl rfl) rfl ?_
   refine d1 [7] (fun ve h => OpT.move (A := .cel _ _) (.inl rfl) rfl (ok' rfl) (D1 h rfl) rfl) rfl ?_
   refine dr [0, 8] hd1 (fun ve h => OpT.move (A := .cel _ _) (.inl rfl) rfl (ok' rfl) (D1 h rfl) rfl) rfl ?_
   refine dr [8, 9] hd1 (fun ve h => OpT.nilCheck (H rfl) (D1 h rfl)) rfl ?_
   refine dr [8, 10] hd1 (fun ve h => OpT.fieldAddr (H rfl) (D1 h rfl) fd41_1 sz34 (by decide) sb41_1) rfl ?_
   refine dr [8, 11] hd1 (fun ve h => OpT.loadA (H rfl) (D1 h rfl) ag34 sz34) rfl ?_
   refine dr [8, 12] hd1 (fun ve h => OpT.c1 (ms := [.flat]) (c_spec_l01Mask _) (H rfl) (Af (D1 h rfl) rfl rfl <| An) rfl rfl) rfl ?_
   refine d1 [8, 13] (fun ve h => OpT.pickT (A := .cel _ _) (H rfl) (D1 h rfl) hd1 (D1 h rfl) rfl) rfl ?_
   refine d1 [14] (fun ve h => OpT.move (A := .cel _ _) (.inl rfl) rfl (ok' rfl) (D1 h rfl) rfl) rfl ?_
   refine dr [0, 15] hd2 (fun ve h => OpT.move (A := .cel _ _) (.inl rfl) rfl (ok' rfl) (D1 h rfl) rfl) rfl ?_
   refine dr [15, 16] hd2 (fun ve h => OpT.nilCheck (H rfl) (D1 h rfl)) rfl ?_
   refine dr [15, 17] hd2 (fun ve h => OpT.fieldAddr (H rfl) (D1 h rfl) fd41_0 sz34 (by decide) sb41_0) rfl ?_
   refine dr [15, 18] hd2 (fun ve h => OpT.loadA (H rfl) (D1 h rfl) ag34 sz34) rfl ?_
   refine dr [0, 15] hd2 (fun ve h => OpT.move (A := .cel _ _) (.inl rfl) rfl (ok' rfl) (D1 h rfl) rfl) rfl ?_
   refine dr [15, 20] hd2 (fun ve h => OpT.nilCheck (H rfl) (D1 h rfl)) rfl ?_
   refine dr [15, 21] hd2 (fun ve h => OpT.fieldAddr (H rfl) (D1 h rfl) fd41_1 sz34 (by decide) sb41_1) rfl ?_
   refine dr [15, 22] hd2 (fun ve h => OpT.loadA (H rfl) (D1 h rfl) ag34 sz34) rfl ?_
   refine dr [15, 19, 23] hd2 (fun ve h => OpT.c1 (ms := [.flat, .flat]) (c_spec_l01Meet _ _) (H rfl) (Af (D1 h rfl) rfl rfl <| Af (D1 h rfl) rfl rfl <| An) rfl rfl) rfl ?_
   refine dr [15] hd2 (fun ve h => OpT.buildA (H rfl) ar34 sz32 zr34 zk34 (Built.nil _)) rfl ?_
   refine dr [15, 24, 25] hd2 (fun ve h => OpT.eqA (H rfl) (D1 h rfl) (D1 h rfl) eq34 ag34 rfl eg34) rfl ?_
   refine d1 [15, 26] (fun ve h => OpT.pickT (A := .cel _ _) (H rfl) (D1 h rfl) hd2 (D1 h rfl) rfl) rfl ?_
   refine d1 [27] (fun ve h => OpT.move (A := .cel _ _) (.inr rfl) rfl (ok' rfl) (D1 h rfl) rfl) rfl ?_
   refine dn ⟨by kernel_rfl, by kernel_rfl, ?_⟩
   refine AX.pr (kc 2 rfl <| Kn) ?_
   refine AX.go ?_
   refine AW.ret ?_
   exact rt1 rfl (.inl rfl) (by first | rfl | (unfold queryOK; simp [*]))
  ·
   refine dh fomo ?_
   refine d1 [0] (fun ve h => OpT.move (A := .cel _ _) (.inl rfl) rfl (ok' rfl) (D1 h rfl) rfl) rfl ?_
   refine d1 [3] (fun ve h => OpT.nilCheck (H rfl) (D1 h rfl)) rfl ?_
   refine d1 [4] (fun ve h => OpT.fieldAddr (H rfl) (D1 h rfl) fd41_0 sz34 (by decide) sb41_0) rfl ?_
   refine d1 [5] (fun ve h => OpT.loadA (H rfl) (D1 h rfl) ag34 sz34) rfl ?_
   refine d1 [6] (fun ve h => OpT.c1 (ms := [.flat]) (c_spec_l01Mask _) (H rfl) (Af (D1 h rfl) rfl rfl <| An) rfl rfl) rfl ?_
   refine d1 [7] (fun ve h => OpT.move (A := .cel _ _) (.inl rfl) rfl (ok' rfl) (D1 h rfl) rfl) rfl ?_
   refine dr [0, 8] hd1 (fun ve h => OpT.move (A := .cel _ _) (.inl rfl) rfl (ok' rfl) (D1 h rfl) rfl) rfl ?_
   refine dr [8, 9] hd1 (fun ve h => OpT.nilCheck (H rfl) (D1 h rfl)) rfl ?_
   refine dr [8, 10] hd1 (fun ve h => OpT.fieldAddr (H rfl) (D1 h rfl) fd41_1 sz34 (by decide) sb41_1) rfl ?_
   refine dr [8, 11] hd1 (fun ve h => OpT.loadA (H rfl) (D1 h rfl) ag34 sz34) rfl ?_
   refine dr [8, 12] hd1 (fun ve h => OpT.c1 (ms := [.flat]) (c_spec_l01Mask _) (H rfl) (Af (D1 h rfl) rfl rfl <| An) rfl rfl) rfl ?_
   refine d1 [8, 13] (fun ve h => OpT.pickT (A := .cel _ _) (H rfl) (D1 h rfl) hd1 (D1 h rfl) rfl) rfl ?_
   refine d1 [14] (fun ve h => OpT.move (A := .cel _ _) (.inl rfl) rfl (ok' rfl) (D1 h rfl) rfl) rfl ?_
   refine dp hd2 rfl ?_
   refine dp hd2 rfl ?_
   refine dp hd2 rfl ?_
   refine dp hd2 rfl ?_
   refine dp hd2 rfl ?_
   refine dp hd2 rfl ?_
   refine dp hd2 rfl ?_
   refine dp hd2 rfl ?_
   refine dp hd2 rfl ?_
   refine dp hd2 rfl ?_
   refine dp hd2 rfl ?_
   refine d1 [15] (fun ve h => OpT.pickF (A := .cel _ _) (H rfl) (D1 h rfl) hd2 Opd.bool rfl) rfl ?_
   refine d1 [27] (fun ve h => OpT.move (A := .cel _ _) (.inr rfl) rfl (ok' rfl) (D1 h rfl) rfl) rfl ?_
   refine dn ⟨by kernel_rfl, by kernel_rfl, ?_⟩
   refine AX.pr (kc 2 rfl <| Kn) ?_
   refine AX.go ?_
   refine AW.ret ?_
   exact rt1 rfl (.inl rfl) (by first | rfl | (unfold queryOK; simp [*]))
 ·
  refine dh fomo ?_
  refine d1 [0] (fun ve h => OpT.move (A := .cel _ _) (.inl rfl) rfl (ok' rfl) (D1 h rfl) rfl) rfl ?_
  refine d1 [3] (fun ve h => OpT.nilCheck (H rfl) (D1 h rfl)) rfl ?_
  refine d1 [4] (fun ve h => OpT.fieldAddr (H rfl) (D1 h rfl) fd41_0 sz34 (by decide) sb41_0) rfl ?_
  refine d1 [5] (fun ve h => OpT.loadA (H rfl) (D1 h rfl) ag34 sz34) rfl ?_
  refine d1 [6] (fun ve h => OpT.c1 (ms := [.flat]) (c_spec_l01Mask _) (H rfl) (Af (D1 h rfl) rfl rfl <| An) rfl rfl) rfl ?_
  refine d1 [7] (fun ve h => OpT.move (A := .cel _ _) (.inl rfl) rfl (ok' rfl) (D1 h rfl) rfl) rfl ?_
  refine dp hd1 rfl ?_
  refine dp hd1 rfl ?_
  refine dp hd1 rfl ?_
  refine dp hd1 rfl ?_
  refine dp hd1 rfl ?_
  refine d1 [8] (fun ve h => OpT.pickF (A := .cel _ _) (H rfl) (D1 h rfl) hd1 Opd.bool rfl) rfl ?_
  refine d1 [14] (fun ve h => OpT.move (A := .cel _ _) (.inl rfl) rfl (ok' rfl) (D1 h rfl) rfl) rfl ?_
  refine dp rfl rfl ?_
  refine dp rfl rfl ?_
  refine dp rfl rfl ?_
  refine dp rfl rfl ?_
  refine dp rfl rfl ?_
  refine dp rfl rfl ?_
  refine dp rfl rfl ?_
  refine dp rfl rfl ?_
  refine dp rfl rfl ?_
  refine dp rfl rfl ?_
  refine dp rfl rfl ?_
  refine d1 [15] (fun ve h => OpT.pickF (A := .cel _ _) (H rfl) (D1 h rfl) rfl Opd.bool rfl) rfl ?_
  refine d1 [27] (fun ve h => OpT.move (A := .cel _ _) (.inr rfl) rfl (ok' rfl) (D1 h rfl) rfl) rfl ?_
  refine dn ⟨by kernel_rfl, by kernel_rfl, ?_⟩
  refine AX.pr (kc 2 rfl <| Kn) ?_
  refine AX.go ?_
  refine AW.ret ?_
  exact rt1 rfl (.inl rfl) (by first | rfl | (unfold queryOK; simp [*]))

/-- spec.l04Worn -/
theorem c_spec_l04Worn (m : DMask) (w : DQuery) : AC Tryz.prog 56 [.agg kMask m, .cel (Kd.ptr kQuery) w] [.agg kMask (wornM m w)] [] := by
 refine acI (N := 16) Tryz.func56 (Nat.le_of_ble_eq_true rfl) rfl fun w0 hd s0 ar => ?_
 refine AW.to (ka 0 rfl <| kc 1 rfl <| Kn) ?_
 refine sr ?_
 refine st (OpT.frz (OpT.boxA (E := 34) (H rfl) (T1 rfl))) rfl ?_
 refine st (OpT.alloc (H rfl) zr34 zk34) rfl ?_
 refine AWl.to (kb 4 rfl <| kc2 2 1 rfl <| Kn) ?_
 refine ng ?_
 refine AW.seq ?_
 refine dh fomo ?_
 refine d1 [2] (fun ve h => OpT.loadA (H rfl) (D1 h rfl) ag34 sz34) rfl ?_
 refine d1 [1] (fun ve h => OpT.move (A := .cel _ _) (.inl rfl) rfl (ok' rfl) (D1 h rfl) rfl) rfl ?_
 refine d1 [6] (fun ve h => OpT.nilCheck (H rfl) (D1 h rfl)) rfl ?_
 refine d1 [7] (fun ve h => OpT.fieldAddr (H rfl) (D1 h rfl) fd41_0 sz34 (by decide) sb41_0) rfl ?_
 refine d1 [8] (fun ve h => OpT.loadA (H rfl) (D1 h rfl) ag34 sz34) rfl ?_
 refine d1 [5, 9] (fun ve h => OpT.c1 (ms := [.flat, .flat]) (c_spec_l01Join _ _) (H rfl) (Af (D1 h rfl) rfl rfl <| Af (D1 h rfl) rfl rfl <| An) rfl rfl) rfl ?_
 refine d1 [1] (fun ve h => OpT.move (A := .cel _ _) (.inl rfl) rfl (ok' rfl) (D1 h rfl) rfl) rfl ?_
 refine d1 [11] (fun ve h => OpT.nilCheck (H rfl) (D1 h rfl)) rfl ?_
 refine d1 [12] (fun ve h => OpT.fieldAddr (H rfl) (D1 h rfl) fd41_1 sz34 (by decide) sb41_1) rfl ?_
 refine d1 [13] (fun ve h => OpT.loadA (H rfl) (D1 h rfl) ag34 sz34) rfl ?_
 refine d1 [10, 14] (fun ve h => OpT.c1 (ms := [.flat, .flat]) (c_spec_l01Less _ _) (H rfl) (Af (D1 h rfl) rfl rfl <| Af (D1 h rfl) rfl rfl <| An) rfl rfl) rfl ?_
 refine dm (t := 4) [4, 15] (fun ve h => OpT.storeBA rfl rfl (Opd.whole (Root.self (t := 4) (by decide)) ((h _ (List.elem_iff.1 rfl)).trans rfl)) ((h _ (List.elem_iff.1 rfl)).trans rfl) sz34 (by decide) (D1 h rfl)) rfl ?_
 refine dn ⟨by kernel_rfl, by kernel_rfl, ?_⟩
 refine AX.pr (kb 4 rfl <| Kn) ?_
 refine AX.go ?_
 refine AW.ret ?_
 exact AX.rt (rs := [.cell 4 34]) (ts := [none]) (.inl rfl) rfl (ROs.cons (RO.cellA (by decide) (Kb rfl rfl) ag34 sz34) <| ROs.nil) (by decide) OutsOK.nil

/-- spec.WearCard -/
theorem c_spec_WearCard (x : DCard) (w : DQuery) : AC Tryz.prog 11 [.agg kCard x, .agg kQuery w] [.agg kCard (wornS x w).1, .cel (Kd.int .i64) (wornS x w).2] [] := by
 refine acI (N := 18) Tryz.func11 (Nat.le_of_ble_eq_true rfl) rfl fun w0 hd s0 ar => ?_
 refine AW.to (ka 0 rfl <| ka 1 rfl <| Kn) ?_
 refine sr ?_
 refine st (OpT.boxA (E := 36) (H rfl) (T1 rfl)) rfl ?_
 refine st (OpT.frz (OpT.boxA (E := 41) (H rfl) (T1 rfl))) rfl ?_
 refine st (OpT.alloc (H rfl) zr36 zk36) rfl ?_
 refine st (asI rfl) rfl ?_
 refine ng ?_
 refine AW.seq ?_
 refine sr ?_
 refine st (cb1 (ms := [.bor 2]) (c_spec_l01Ok _) (H rfl) (Abx (Root.self (t := 2) (by decide)) rfl <| An) rfl (indC fun _ _ _ _ h => h)) rfl ?_
 refine st (OpT.not (H rfl) (T1 rfl)) rfl ?_
 refine st (mvT rfl) rfl ?_
 apply AWl.or (d := 11) (t := 8) rfl
 ·
  intro hb1 Q1 k1
  have hb1' := lF hb1
  refine rs hb1 (OpT.c1 (ms := [.flat]) (c_spec_l04Ok _) (H rfl) (Af (T1 rfl) rfl rfl <| An) rfl rfl) rfl ?_
  refine rs hb1 (OpT.not (H rfl) (T1 rfl)) rfl ?_
  refine st (OpT.pickF (A := .cel _ _) (H rfl) (T1 rfl) hb1 (T1 rfl) rfl) rfl ?_
  exact AWl.to (junk 2 rfl) k1
 ·
  intro hb1 Q1 k1
  refine ps hb1 rfl ?_
  refine ps hb1 rfl ?_
  refine st (OpT.pickT (A := .cel _ _) (H rfl) (T1 rfl) hb1 Opd.bool rfl) rfl ?_
  exact k1
 refine ng ?_
 refine cd rfl (fun hc1 => ?_) fun hc1 => ?_
 ·
  obtain ⟨hc1, hc1'⟩ := pT hc1
  refine sr ?_
  refine st (OpT.build (H rfl) pl36 zr36 zk36 (Built.nil _)) rfl ?_
  refine sk (OpT.storeBA rfl rfl (Opd.whole (Root.self (t := 4) (by decide)) rfl) rfl sz36 (by decide) (T1 rfl)) rfl ?_
  refine st (asI rfl) rfl ?_
  refine ng ?_
  refine AW.ret ?_
  refine rT ?_
  exact AX.rt (rs := [.cell 4 36, .tmp 5]) (ts := [none, some 5]) (.inl rfl) rfl (ROs.cons (RO.cellA (by decide) (Kb rfl (by first | (rw [worn_bad hc1]; first | done | rfl) | (rw [worn_ok hc1]; first | done | rfl))) ag36 sz36) <| ROs.cons (RO.tmp (At.self (by decide)) (Kv rfl (by first | (rw [worn_bad hc1]; first | done | rfl) | (rw [worn_ok hc1]; first | done | rfl))) rfl) <| ROs.nil) (by decide) OutsOK.nil
 ·
  obtain ⟨hc1, hc1'⟩ := pF hc1
  refine AW.skip ?_
  refine AX.go ?_
  refine sr ?_
  refine st (OpT.fieldAddrB (H rfl) (Root.self (t := 2) (by decide)) rfl (by decide) fd36_1 sz34 (by decide) sb36_1) rfl ?_
  refine st (OpT.loadPA (H rfl) (T1 rfl) (.inl ⟨_, rfl, rfl⟩) ag34 sz34) rfl ?_
  refine st (OpT.c1 (ms := [.flat, .flat]) (c_spec_l04Worn _ _) (H rfl) (Af (T1 rfl) rfl rfl <| Af (T1 rfl) rfl rfl <| An) rfl rfl) rfl ?_
  refine st (OpT.fieldAddrB (H rfl) (Root.self (t := 2) (by decide)) rfl (by decide) fd36_1 sz34 (by decide) sb36_1) rfl ?_
  refine sk (OpT.storeBA rfl rfl (T1 rfl) rfl sz34 (by decide) (T1 rfl)) rfl ?_
  refine AWl.to (kb 2 rfl <| kc 5 rfl <| kb 4 rfl <| Kn) ?_
  refine ng ?_
  refine sr ?_
  refine st (OpT.loadB (H rfl) (Root.self (t := 2) (by decide)) rfl ag36 sz36) rfl ?_
  refine sk (OpT.storeBA rfl rfl (Opd.whole (Root.self (t := 4) (by decide)) rfl) rfl sz36 (by decide) (T1 rfl)) rfl ?_
  refine st (asI rfl) rfl ?_
  refine ng ?_
  refine AW.ret ?_
  exact AX.rt (rs := [.cell 4 36, .tmp 5]) (ts := [none, some 5]) (.inl rfl) rfl (ROs.cons (RO.cellA (by decide) (Kb rfl (by first | (rw [worn_bad hc1]; first | done | rfl) | (rw [worn_ok hc1]; first | done | rfl))) ag36 sz36) <| ROs.cons (RO.tmp (At.self (by decide)) (Kv rfl (by first | (rw [worn_bad hc1]; first | done | rfl) | (rw [worn_ok hc1]; first | done | rfl))) rfl) <| ROs.nil) (by decide) OutsOK.nil

/-- spec.l04Drawn -/
theorem c_spec_l04Drawn (ss : DSrc) (h : srcI 1000000 ss) : AC Tryz.prog 57 [.box 154 (Kd.pair (Kd.slice (Kd.int .u8)) (Kd.pair (Kd.int .i64) Kd.u64)) ss] [.agg kQuery (wrD ss)] [] := by
 refine acI (N := 39) Tryz.func57 (Nat.le_of_ble_eq_true rfl) rfl fun w0 hd s0 ar => ?_
 refine AW.to (kb 0 rfl <| Kn) ?_
 have hq1 := pick_in h 5
 have hq2 := pick_src h 5
 refine sr ?_
 refine st (OpT.alloc (H rfl) zr41 zk41) rfl ?_
 refine ng ?_
 refine sr ?_
 refine st (OpT.build (H rfl) pl41 zr41 zk41 (Built.nil _)) rfl ?_
 refine st (OpT.alloc (H rfl) zr41 zk41) rfl ?_
 refine sk (OpT.storeBA rfl rfl (Opd.whole (Root.self (t := 3) (by decide)) rfl) rfl sz41 (by decide) (T1 rfl)) rfl ?_
 refine ng ?_
 refine AW.seq ?_
 refine sr ?_
 refine st (OpT.alias (H rfl) (by decide) (by decide)) rfl ?_
 refine sg (OpT.cr (ms := [.root 0, .flat]) (c_spec_l00Src_pick _ _ (h.le (by omega))) (H rfl) (Ar (Root.ali rfl (by decide) (by decide)) rfl rfl rfl <| Af (I rfl) rfl rfl <| An) rfl (.inl rfl) rfl) (kc 8 rfl <| Kc 7 (.ali _) rfl <| kb 3 rfl <| ka 6 rfl <| kb 2 rfl <| kb 0 rfl <| Kn) rfl ?_
 refine st (asT rfl) rfl ?_
 refine ng ?_
 refine AW.block ?_
 refine AW.loop (fun p : Nat × DSrc × DQuery => srcI (1000022 - 4 * (p.1 : Int)) p.2.1 ∧ p.1 ≤ 4 ∧ wrL p.1 p.2.1 p.2.2 = wrL (pick ss 5).1.toNat (pick ss 5).2 (zM, zM)) (fun p : Nat × DSrc × DQuery => keep [(0, .box 154 (Kd.pair (Kd.slice (Kd.int .u8)) (Kd.pair (Kd.int .i64) Kd.u64)) p.2.1), (2, .box 41 kQuery ((0#64, 0#64), (0#64, 0#64))), (3, .box 41 kQuery p.2.2), (4, .cel (Kd.int .i64) (p.1 : Int))]) (fun p : Nat × DSrc × DQuery => p.1) (((pick ss 5).1.toNat, (pick ss 5).2, (zM, zM))) ⟨hq2.le (by simp only []; omega), by simp only []; omega, rfl⟩ (Kc 0 _ (Kb rfl rfl) <| Kc 2 _ (Kb rfl rfl) <| Kc 3 _ (Kb rfl rfl) <| Kc 4 _ (Kv rfl (by simp only []; omega)) <| Kn) ?_
 intro p hI
 refine AW.seq ?_
 refine sr ?_
 refine st (mvT rfl) rfl ?_
 refine st (OpT.gtr (H rfl) (T1 rfl) (I rfl)) rfl ?_
 refine ng ?_
 refine cd rfl (fun hc1 => ?_) fun hc1 => ?_
 ·
  obtain ⟨hc1, hc1'⟩ := pT hc1
  have hpj := pick_in hI.1 96
  have hps := pick_src hI.1 96
  have hpt := pick_src hps 2
  refine AW.skip ?_
  refine AX.go ?_
  refine AW.seq ?_
  refine AW.block ?_
  refine sr ?_
  refine st (OpT.alias (H rfl) (by decide) (by decide)) rfl ?_
  refine sg (OpT.cr (ms := [.root 0, .flat]) (c_spec_l00Src_pick _ _ (hI.1.le (by omega))) (H rfl) (Ar (Root.ali rfl (by decide) (by decide)) rfl rfl rfl <| Af (I rfl) rfl rfl <| An) rfl (.inl rfl) rfl) (kc 14 rfl <| Kc 13 (.ali _) rfl <| kc2 10 9 rfl <| kb 0 rfl <| kb 2 rfl <| kb 3 rfl <| kc 4 rfl <| Kn) rfl ?_
  refine st (OpT.c1 (ms := [.flat]) (c_spec_l01Bit _ (by omega)) (H rfl) (Af (T1 rfl) rfl rfl <| An) rfl rfl) rfl ?_
  refine st (OpT.alloc (H rfl) zr34 zk34) rfl ?_
  refine sk (OpT.storeBA rfl rfl (Opd.whole (Root.self (t := 5) (by decide)) rfl) rfl sz34 (by decide) (T1 rfl)) rfl ?_
  refine ng ?_
  refine sr ?_
  refine st (OpT.alias (H rfl) (by decide) (by decide)) rfl ?_
  refine sg (OpT.cr (ms := [.root 0, .flat]) (c_spec_l00Src_one _ _ (hps.le (by omega))) (H rfl) (Ar (Root.ali rfl (by decide) (by decide)) rfl rfl rfl <| Af (I rfl) rfl rfl <| An) rfl (.inl rfl) rfl) (kc 17 rfl <| Kc 16 (.ali _) rfl <| kb 5 rfl <| ka 15 rfl <| kc 14 rfl <| Kc 13 (.ali _) rfl <| kc2 10 9 rfl <| kb 0 rfl <| kb 2 rfl <| kb 3 rfl <| kc 4 rfl <| Kn) rfl ?_
  refine ng ?_
  refine cd rfl (fun hc2 => ?_) fun hc2 => ?_
  ·
   obtain ⟨hc2, hc2'⟩ := pT hc2
   have hwr := wrL_yes (k := p.1) (s := p.2.1) (w := p.2.2) (by omega) (by simpa using hc2)
   refine sr ?_
   refine st (OpT.fieldAddrB (H rfl) (Root.self (t := 3) (by decide)) rfl (by decide) fd41_0 sz34 (by decide) sb41_0) rfl ?_
   refine st (OpT.loadPA (H rfl) (T1 rfl) (.inl ⟨_, rfl, rfl⟩) ag34 sz34) rfl ?_
   refine st (OpT.loadB (H rfl) (Root.self (t := 5) (by decide)) rfl ag34 sz34) rfl ?_
   refine st (OpT.c1 (ms := [.flat, .flat]) (c_spec_l01Join _ _) (H rfl) (Af (T1 rfl) rfl rfl <| Af (T1 rfl) rfl rfl <| An) rfl rfl) rfl ?_
   refine st (OpT.fieldAddrB (H rfl) (Root.self (t := 3) (by decide)) rfl (by decide) fd41_0 sz34 (by decide) sb41_0) rfl ?_
   refine sk (OpT.storeBA rfl rfl (T1 rfl) rfl sz34 (by decide) (T1 rfl)) rfl ?_
   refine ng ?_
   refine AW.region ?_
   refine st (OpT.fieldAddrB (H rfl) (Root.self (t := 3) (by decide)) rfl (by decide) fd41_1 sz34 (by decide) sb41_1) rfl ?_
   refine st (OpT.loadPA (H rfl) (T1 rfl) (.inl ⟨_, rfl, rfl⟩) ag34 sz34) rfl ?_
   refine st (OpT.loadB (H rfl) (Root.self (t := 5) (by decide)) rfl ag34 sz34) rfl ?_
   refine st (OpT.c1 (ms := [.flat, .flat]) (c_spec_l01Less _ _) (H rfl) (Af (T1 rfl) rfl rfl <| Af (T1 rfl) rfl rfl <| An) rfl rfl) rfl ?_
   refine st (OpT.fieldAddrB (H rfl) (Root.self (t := 3) (by decide)) rfl (by decide) fd41_1 sz34 (by decide) sb41_1) rfl ?_
   refine sk (OpT.storeBA rfl rfl (T1 rfl) rfl sz34 (by decide) (T1 rfl)) rfl ?_
   refine nn ?_
   refine AX.normal_block ?_
   refine AX.go ?_
   refine AW.region ?_
   refine st (mvT rfl) rfl ?_
   refine st (OpT.sub (H rfl) (T1 rfl) (I rfl) (nw (by omega))) rfl ?_
   refine st (asT rfl) rfl ?_
   refine nn ?_
   exact AX.again ((p.1 - 1, (pick (pick p.2.1 96).2 2).2, (joinM p.2.2.1 (bitM (pick p.2.1 96).1), lessM p.2.2.2 (bitM (pick p.2.1 96).1)))) ⟨hpt.le (by simp only []; omega), by simp only []; omega, hwr.symm.trans hI.2.2⟩ (by simp only []; omega) (Kc 0 _ (Kb rfl rfl) <| Kc 2 _ (Kb rfl rfl) <| Kc 3 _ (Kb rfl rfl) <| Kc 4 _ (Kv rfl (by simp only []; omega)) <| Kn)
  ·
   obtain ⟨hc2, hc2'⟩ := pF hc2
   have hwr := wrL_no (k := p.1) (s := p.2.1) (w := p.2.2) (by omega) (by simpa using hc2)
   refine sr ?_
   refine st (OpT.fieldAddrB (H rfl) (Root.self (t := 3) (by decide)) rfl (by decide) fd41_1 sz34 (by decide) sb41_1) rfl ?_
   refine st (OpT.loadPA (H rfl) (T1 rfl) (.inl ⟨_, rfl, rfl⟩) ag34 sz34) rfl ?_
   refine st (OpT.loadB (H rfl) (Root.self (t := 5) (by decide)) rfl ag34 sz34) rfl ?_
   refine st (OpT.c1 (ms := [.flat, .flat]) (c_spec_l01Join _ _) (H rfl) (Af (T1 rfl) rfl rfl <| Af (T1 rfl) rfl rfl <| An) rfl rfl) rfl ?_
   refine st (OpT.fieldAddrB (H rfl) (Root.self (t := 3) (by decide)) rfl (by decide) fd41_1 sz34 (by decide) sb41_1) rfl ?_
   refine sk (OpT.storeBA rfl rfl (T1 rfl) rfl sz34 (by decide) (T1 rfl)) rfl ?_
   refine ng ?_
   refine AW.region ?_
   refine st (OpT.fieldAddrB (H rfl) (Root.self (t := 3) (by decide)) rfl (by decide) fd41_0 sz34 (by decide) sb41_0) rfl ?_
   refine st (OpT.loadPA (H rfl) (T1 rfl) (.inl ⟨_, rfl, rfl⟩) ag34 sz34) rfl ?_
   refine st (OpT.loadB (H rfl) (Root.self (t := 5) (by decide)) rfl ag34 sz34) rfl ?_
   refine st (OpT.c1 (ms := [.flat, .flat]) (c_spec_l01Less _ _) (H rfl) (Af (T1 rfl) rfl rfl <| Af (T1 rfl) rfl rfl <| An) rfl rfl) rfl ?_
   refine st (OpT.fieldAddrB (H rfl) (Root.self (t := 3) (by decide)) rfl (by decide) fd41_0 sz34 (by decide) sb41_0) rfl ?_
   refine sk (OpT.storeBA rfl rfl (T1 rfl) rfl sz34 (by decide) (T1 rfl)) rfl ?_
   refine nn ?_
   refine AX.normal_block ?_
   refine AX.go ?_
   refine AW.region ?_
   refine st (mvT rfl) rfl ?_
   refine st (OpT.sub (H rfl) (T1 rfl) (I rfl) (nw (by omega))) rfl ?_
   refine st (asT rfl) rfl ?_
   refine nn ?_
   exact AX.again ((p.1 - 1, (pick (pick p.2.1 96).2 2).2, (lessM p.2.2.1 (bitM (pick p.2.1 96).1), joinM p.2.2.2 (bitM (pick p.2.1 96).1)))) ⟨hpt.le (by simp only []; omega), by simp only []; omega, hwr.symm.trans hI.2.2⟩ (by simp only []; omega) (Kc 0 _ (Kb rfl rfl) <| Kc 2 _ (Kb rfl rfl) <| Kc 3 _ (Kb rfl rfl) <| Kc 4 _ (Kv rfl (by simp only []; omega)) <| Kn)
 ·
  obtain ⟨hc1, hc1'⟩ := pF hc1
  have hz0 : p.1 = 0 := by omega
  have hz1 := hI.2.2
  rw [hz0] at hz1
  refine AW.exit ?_
  refine xT <| xT <| AX.exit_hit ?_
  refine AX.go ?_
  refine sr ?_
  refine st (OpT.loadB (H rfl) (Root.self (t := 3) (by decide)) rfl ag41 sz41) rfl ?_
  refine sk (OpT.storeBA rfl rfl (Opd.whole (Root.self (t := 2) (by decide)) rfl) rfl sz41 (by decide) (T1 rfl)) rfl ?_
  refine ng ?_
  refine AW.ret ?_
  exact AX.rt (rs := [.cell 2 41]) (ts := [none]) (.inl rfl) rfl (ROs.cons (RO.cellA (by decide) (Kb rfl (wrD_end hz1)) ag41 sz41) <| ROs.nil) (by decide) OutsOK.nil

/-- spec.P6Wear -/
theorem c_spec_P6Wear (l : List Int) (h : (∀ b ∈ l, 0 ≤ b ∧ b ≤ 255) ∧ l.length ≤ 1000000) : AC Tryz.prog 12 [.cel (Kd.slice (Kd.int .u8)) l] [.agg kQuery (wrD (l, 0, 0#64))] [] := by
 refine acI (N := 6) Tryz.func12 (Nat.le_of_ble_eq_true rfl) rfl fun w0 hd s0 ar => ?_
 refine AW.to (kc 0 rfl <| Kn) ?_
 refine sr ?_
 refine st (OpT.alloc (H rfl) zr41 zk41) rfl ?_
 refine ng ?_
 refine sr ?_
 refine st (mvT rfl) rfl ?_
 refine st (OpT.c1 (ms := [.flat]) (c_spec_l00From _) (H rfl) (Af (T1 rfl) rfl rfl <| An) rfl rfl) rfl ?_
 refine sg (OpT.crn (ms := [.root 4]) (c_spec_l04Drawn _ ⟨h.1, h.2, Int.le_refl 0, (by show (0 : Int) ≤ 1000000; omega)⟩) (H rfl) (Ar (O := .any) (Root.self (t := 4) (by decide)) rfl rfl rfl <| An) rfl rfl (.inl rfl) rfl) (ka 5 rfl <| kc 3 rfl <| kb 2 rfl <| kc 0 rfl <| Kn) rfl ?_
 refine sk (OpT.storeBA rfl rfl (Opd.whole (Root.self (t := 2) (by decide)) rfl) rfl sz41 (by decide) (T1 rfl)) rfl ?_
 refine ng ?_
 refine AW.ret ?_
 exact AX.rt (rs := [.cell 2 41]) (ts := [none]) (.inl rfl) rfl (ROs.cons (RO.cellA (by decide) (Kb rfl rfl) ag41 sz41) <| ROs.nil) (by decide) OutsOK.nil
end Go.Proofs.YtmdiimhighlllaaGreatDoor.VL
