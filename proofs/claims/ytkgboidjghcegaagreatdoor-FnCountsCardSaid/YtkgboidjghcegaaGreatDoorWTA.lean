/- Proved here: what some functions of the program take and give: walks with the words of VA..VQ. Printed by program. -/
import Derived.Test.YtkgboidjghcegaaGreatDoorWT
import Derived.Test.YtkgboidjghcegaaGreatDoorBpa
import Derived.Test.YtkgboidjghcegaaGreatDoorBvb
import Derived.Test.YtkgboidjghcegaaGreatDoorLSO
import Derived.Test.YtkgboidjghcegaaGreatDoorWV
import Derived.Test.YtkgboidjghcegaaGreatDoorWP
import Derived.Test.YtkgboidjghcegaaGreatDoorWA
import Derived.Test.YtkgboidjghcegaaGreatDoorWI
set_option linter.unusedVariables false
set_option linter.unusedSimpArgs false
set_option maxRecDepth 4000
namespace Go.Proofs.YtkgboidjghcegaaGreatDoor.VL
open Go
/-- spec.l06Less -/
theorem c_spec_l06Less (x y : DCell) : AC Tryz.prog 80 [.cel (Kd.ptr (Kd.pair (Kd.int .i64) (Kd.pair (Kd.int .i64) (Kd.int .i64)))) x, .cel (Kd.ptr (Kd.pair (Kd.int .i64) (Kd.pair (Kd.int .i64) (Kd.int .i64)))) y] [.cel Kd.bool (decide (cellL x y.1 y.2.1))] [] := by
 refine acI (N := 36) Tryz.func80 (Nat.le_of_ble_eq_true rfl) rfl fun w0 hd s0 ar => ?_
 refine AW.to (kc2 0 1 rfl <| Kn) ?_
 refine sr ?_
 refine st (asB rfl) rfl ?_
 refine ng ?_
 refine AW.seq ?_
 rcases Bool.eq_false_or_eq_true (decide (x.1 < y.1)) with hd1 | hd1
 ·
  have hd1' := lT hd1
  refine dhm [0, 1, 3, 7, 0, 16, 48, 112, 255, 511, 1023, 2047, 4095, 8191, 1023, 17407, 50175, 115711, 262143, 524287, 1048575, 2097151, 4194303, 8388607, 1048575, 17825791, 51380223, 118489087, 268435455, 536870911, 1073741823, 2147483647] [] fomo ?_
  refine d1 [0] (fun ve h => OpT.move (A := .cel _ _) (.inl rfl) rfl (ok' rfl) (D1 h rfl) rfl) rfl ?_
  refine d1 [5] (fun ve h => OpT.nilCheck (H rfl) (D1 h rfl)) rfl ?_
  refine d1 [6] (fun ve h => OpT.fieldAddr (H rfl) (D1 h rfl) fd52_0 sz2 (by decide) sb52_0) rfl ?_
  refine d1 [7] (fun ve h => OpT.load (H rfl) (D1 h rfl) ag2 rfl) rfl ?_
  refine d1 [1] (fun ve h => OpT.move (A := .cel _ _) (.inl rfl) rfl (ok' rfl) (D1 h rfl) rfl) rfl ?_
  refine d1 [9] (fun ve h => OpT.nilCheck (H rfl) (D1 h rfl)) rfl ?_
  refine d1 [10] (fun ve h => OpT.fieldAddr (H rfl) (D1 h rfl) fd52_0 sz2 (by decide) sb52_0) rfl ?_
  refine d1 [11] (fun ve h => OpT.load (H rfl) (D1 h rfl) ag2 rfl) rfl ?_
  refine d1 [8, 12] (fun ve h => OpT.lss (H rfl) (D1 h rfl) (D1 h rfl)) rfl ?_
  refine d1 [13] (fun ve h => OpT.move (A := .cel _ _) (.inl rfl) rfl (ok' rfl) (D1 h rfl) rfl) rfl ?_
  refine dp hd1 rfl ?_
  refine dp hd1 rfl ?_
  refine dp hd1 rfl ?_
  refine dp hd1 rfl ?_
  refine dp hd1 rfl ?_
  refine dp hd1 rfl ?_
  refine dp hd1 rfl ?_
  refine dp hd1 rfl ?_
  refine dp hd1 rfl ?_
  refine dq hd1 rfl ?_
  refine dpu rfl ?_
  refine dpu rfl ?_
  refine dpu rfl ?_
  refine dpu rfl ?_
  refine dpu rfl ?_
  refine dpu rfl ?_
  refine dpu rfl ?_
  refine dpu rfl ?_
  refine dpu rfl ?_
  refine dp hd1 rfl ?_
  refine d1 [14] (fun ve h => OpT.pickT (A := .cel _ _) (H rfl) (D1 h rfl) hd1 Opd.bool rfl) rfl ?_
  refine d1 [35] (fun ve h => OpT.move (A := .cel _ _) (.inr rfl) rfl (ok' rfl) (D1 h rfl) rfl) rfl ?_
  refine dn ⟨by kernel_rfl, by kernel_rfl, ?_⟩
  refine AX.pr (kc 4 rfl <| Kn) ?_
  refine AX.go ?_
  refine AW.ret ?_
  exact rt1 rfl (.inl rfl) (by simp only [cellL]; first | exact (decide_eq_true (by omega)).symm | exact (decide_eq_false (by omega)).symm | exact decide_eq_decide.2 (by omega))
 ·
  have hd1' := lF hd1
  rcases Bool.eq_false_or_eq_true (x.1 == y.1) with hd2 | hd2
  ·
   have hd2' := lT hd2
   refine dhm [0, 1, 3, 7, 0, 16, 48, 112, 255, 511, 1023, 2047, 4095, 8191, 1023, 17407, 50175, 115711, 262143, 524287, 1048575, 2097151, 4194303, 8388607, 1048575, 17825791, 51380223, 118489087, 268435455, 536870911, 1073741823, 2147483647] [] fomo ?_
   refine d1 [0] (fun ve h => OpT.move (A := .cel _ _) (.inl rfl) rfl (ok' rfl) (D1 h rfl) rfl) rfl ?_
   refine d1 [5] (fun ve h => OpT.nilCheck (H rfl) (D1 h rfl)) rfl ?_
   refine d1 [6] (fun ve h => OpT.fieldAddr (H rfl) (D1 h rfl) fd52_0 sz2 (by decide) sb52_0) rfl ?_
   refine d1 [7] (fun ve h => OpT.load (H rfl) (D1 h rfl) ag2 rfl) rfl ?_
   refine d1 [1] (fun ve h => OpT.move (A := .cel _ _) (.inl rfl) rfl (ok' rfl) (D1 h rfl) rfl) rfl ?_
   refine d1 [9] (fun ve h => OpT.nilCheck (H rfl) (D1 h rfl)) rfl ?_
   refine d1 [10] (fun ve h => OpT.fieldAddr (H rfl) (D1 h rfl) fd52_0 sz2 (by decide) sb52_0) rfl ?_
   refine d1 [11] (fun ve h => OpT.load (H rfl) (D1 h rfl) ag2 rfl) rfl ?_
   refine d1 [8, 12] (fun ve h => OpT.lss (H rfl) (D1 h rfl) (D1 h rfl)) rfl ?_
   refine d1 [13] (fun ve h => OpT.move (A := .cel _ _) (.inl rfl) rfl (ok' rfl) (D1 h rfl) rfl) rfl ?_
   refine dr [0, 14] hd1 (fun ve h => OpT.move (A := .cel _ _) (.inl rfl) rfl (ok' rfl) (D1 h rfl) rfl) rfl ?_
   refine dr [14, 15] hd1 (fun ve h => OpT.nilCheck (H rfl) (D1 h rfl)) rfl ?_
   refine dr [14, 16] hd1 (fun ve h => OpT.fieldAddr (H rfl) (D1 h rfl) fd52_0 sz2 (by decide) sb52_0) rfl ?_
   refine dr [14, 17] hd1 (fun ve h => OpT.load (H rfl) (D1 h rfl) ag2 rfl) rfl ?_
   refine dr [1, 14] hd1 (fun ve h => OpT.move (A := .cel _ _) (.inl rfl) rfl (ok' rfl) (D1 h rfl) rfl) rfl ?_
   refine dr [14, 19] hd1 (fun ve h => OpT.nilCheck (H rfl) (D1 h rfl)) rfl ?_
   refine dr [14, 20] hd1 (fun ve h => OpT.fieldAddr (H rfl) (D1 h rfl) fd52_0 sz2 (by decide) sb52_0) rfl ?_
   refine dr [14, 21] hd1 (fun ve h => OpT.load (H rfl) (D1 h rfl) ag2 rfl) rfl ?_
   refine dr [14, 18, 22] hd1 (fun ve h => OpT.eql (H rfl) (D1 h rfl) (D1 h rfl)) rfl ?_
   refine dr [14, 23] hd1 (fun ve h => OpT.move (A := .cel _ _) (.inl rfl) rfl (ok' rfl) (D1 h rfl) rfl) rfl ?_
   refine dr [0, 24] hd2 (fun ve h => OpT.move (A := .cel _ _) (.inl rfl) rfl (ok' rfl) (D1 h rfl) rfl) rfl ?_
   refine dr [24, 25] hd2 (fun ve h => OpT.nilCheck (H rfl) (D1 h rfl)) rfl ?_
   refine dr [24, 26] hd2 (fun ve h => OpT.fieldAddr (H rfl) (D1 h rfl) fd52_1 sz2 (by decide) sb52_1) rfl ?_
   refine dr [24, 27] hd2 (fun ve h => OpT.load (H rfl) (D1 h rfl) ag2 rfl) rfl ?_
   refine dr [1, 24] hd2 (fun ve h => OpT.move (A := .cel _ _) (.inl rfl) rfl (ok' rfl) (D1 h rfl) rfl) rfl ?_
   refine dr [24, 29] hd2 (fun ve h => OpT.nilCheck (H rfl) (D1 h rfl)) rfl ?_
   refine dr [24, 30] hd2 (fun ve h => OpT.fieldAddr (H rfl) (D1 h rfl) fd52_1 sz2 (by decide) sb52_1) rfl ?_
   refine dr [24, 31] hd2 (fun ve h => OpT.load (H rfl) (D1 h rfl) ag2 rfl) rfl ?_
   refine dr [24, 28, 32] hd2 (fun ve h => OpT.lss (H rfl) (D1 h rfl) (D1 h rfl)) rfl ?_
   refine dr [14, 24, 33] hd1 (fun ve h => OpT.pickT (A := .cel _ _) (H rfl) (D1 h rfl) hd2 (D1 h rfl) rfl) rfl ?_
   refine d1 [14, 34] (fun ve h => OpT.pickF (A := .cel _ _) (H rfl) (D1 h rfl) hd1 (D1 h rfl) rfl) rfl ?_
   refine d1 [35] (fun ve h => OpT.move (A := .cel _ _) (.inr rfl) rfl (ok' rfl) (D1 h rfl) rfl) rfl ?_
   refine dn ⟨by kernel_rfl, by kernel_rfl, ?_⟩
   refine AX.pr (kc 4 rfl <| Kn) ?_
   refine AX.go ?_
   refine AW.ret ?_
   exact rt1 rfl (.inl rfl) (by simp only [cellL]; first | exact (decide_eq_true (by omega)).symm | exact (decide_eq_false (by omega)).symm | exact decide_eq_decide.2 (by omega))
  ·
   have hd2' := lF hd2
   refine dhm [0, 1, 3, 7, 0, 16, 48, 112, 255, 511, 1023, 2047, 4095, 8191, 1023, 17407, 50175, 115711, 262143, 524287, 1048575, 2097151, 4194303, 8388607, 1048575, 17825791, 51380223, 118489087, 268435455, 536870911, 1073741823, 2147483647] [] fomo ?_
   refine d1 [0] (fun ve h => OpT.move (A := .cel _ _) (.inl rfl) rfl (ok' rfl) (D1 h rfl) rfl) rfl ?_
   refine d1 [5] (fun ve h => OpT.nilCheck (H rfl) (D1 h rfl)) rfl ?_
   refine d1 [6] (fun ve h => OpT.fieldAddr (H rfl) (D1 h rfl) fd52_0 sz2 (by decide) sb52_0) rfl ?_
   refine d1 [7] (fun ve h => OpT.load (H rfl) (D1 h rfl) ag2 rfl) rfl ?_
   refine d1 [1] (fun ve h => OpT.move (A := .cel _ _) (.inl rfl) rfl (ok' rfl) (D1 h rfl) rfl) rfl ?_
   refine d1 [9] (fun ve h => OpT.nilCheck (H rfl) (D1 h rfl)) rfl ?_
   refine d1 [10] (fun ve h => OpT.fieldAddr (H rfl) (D1 h rfl) fd52_0 sz2 (by decide) sb52_0) rfl ?_
   refine d1 [11] (fun ve h => OpT.load (H rfl) (D1 h rfl) ag2 rfl) rfl ?_
   refine d1 [8, 12] (fun ve h => OpT.lss (H rfl) (D1 h rfl) (D1 h rfl)) rfl ?_
   refine d1 [13] (fun ve h => OpT.move (A := .cel _ _) (.inl rfl) rfl (ok' rfl) (D1 h rfl) rfl) rfl ?_
   refine dr [0, 14] hd1 (fun ve h => OpT.move (A := .cel _ _) (.inl rfl) rfl (ok' rfl) (D1 h rfl) rfl) rfl ?_
   refine dr [14, 15] hd1 (fun ve h => OpT.nilCheck (H rfl) (D1 h rfl)) rfl ?_
   refine dr [14, 16] hd1 (fun ve h => OpT.fieldAddr (H rfl) (D1 h rfl) fd52_0 sz2 (by decide) sb52_0) rfl ?_
   refine dr [14, 17] hd1 (fun ve h => OpT.load (H rfl) (D1 h rfl) ag2 rfl) rfl ?_
   refine dr [1, 14] hd1 (fun ve h => OpT.move (A := .cel _ _) (.inl rfl) rfl (ok' rfl) (D1 h rfl) rfl) rfl ?_
   refine dr [14, 19] hd1 (fun ve h => OpT.nilCheck (H rfl) (D1 h rfl)) rfl ?_
   refine dr [14, 20] hd1 (fun ve h => OpT.fieldAddr (H rfl) (D1 h rfl) fd52_0 sz2 (by decide) sb52_0) rfl ?_
   refine dr [14, 21] hd1 (fun ve h => OpT.load (H rfl) (D1 h rfl) ag2 rfl) rfl ?_
   refine dr [14, 18, 22] hd1 (fun ve h => OpT.eql (H rfl) (D1 h rfl) (D1 h rfl)) rfl ?_
   refine dr [14, 23] hd1 (fun ve h => OpT.move (A := .cel _ _) (.inl rfl) rfl (ok' rfl) (D1 h rfl) rfl) rfl ?_
   refine dp hd2 rfl ?_
   refine dp hd2 rfl ?_
   refine dp hd2 rfl ?_
   refine dp hd2 rfl ?_
   refine dp hd2 rfl ?_
   refine dp hd2 rfl ?_
   refine dp hd2 rfl ?_
   refine dp hd2 rfl ?_
   refine dp hd2 rfl ?_
   refine dr [14, 24] hd1 (fun ve h => OpT.pickF (A := .cel _ _) (H rfl) (D1 h rfl) hd2 Opd.bool rfl) rfl ?_
   refine d1 [14, 34] (fun ve h => OpT.pickF (A := .cel _ _) (H rfl) (D1 h rfl) hd1 (D1 h rfl) rfl) rfl ?_
   refine d1 [35] (fun ve h => OpT.move (A := .cel _ _) (.inr rfl) rfl (ok' rfl) (D1 h rfl) rfl) rfl ?_
   refine dn ⟨by kernel_rfl, by kernel_rfl, ?_⟩
   refine AX.pr (kc 4 rfl <| Kn) ?_
   refine AX.go ?_
   refine AW.ret ?_
   exact rt1 rfl (.inl rfl) (by simp only [cellL]; first | exact (decide_eq_true (by omega)).symm | exact (decide_eq_false (by omega)).symm | exact decide_eq_decide.2 (by omega))

/-- spec.l06Count -/
theorem c_spec_l06Count (x : List DCell) (a b : Int) (hl : x.length ≤ 1000000000) (hcc : ∀ d ∈ x, 1 ≤ d.2.2 ∧ d.2.2 ≤ 1000000000) : AC Tryz.prog 59 [.own 52 (Kd.pair (Kd.int .i64) (Kd.pair (Kd.int .i64) (Kd.int .i64))) x, .cel (Kd.int .i64) a, .cel (Kd.int .i64) b] [.own 52 (Kd.pair (Kd.int .i64) (Kd.pair (Kd.int .i64) (Kd.int .i64))) (cnt2 a b x)] [] := by
 refine acI (N := 69) Tryz.func59 (Nat.le_of_ble_eq_true rfl) rfl fun w0 hd s0 ar => ?_
 refine AW.to (ko 0 rfl <| kc2 1 2 rfl <| Kn) ?_
 refine sr ?_
 refine st (nilO (E := 52) (Kd.pair (Kd.int .i64) (Kd.pair (Kd.int .i64) (Kd.int .i64))) rfl (.inl rfl)) rfl ?_
 refine ng ?_
 refine sr ?_
 refine st (mvT rfl) rfl ?_
 refine st (mvT rfl) rfl ?_
 refine st (OpT.build (H rfl) pl52 zr52 zk52 (Built.cel (T1 rfl) rfl rfl sb52_0 (Built.cel (T1 rfl) rfl rfl sb52_1 (Built.cel (I rfl) rfl rfl sb52_2 (Built.nil _))))) rfl ?_
 refine st (OpT.alloc (H rfl) zr52 zk52) rfl ?_
 refine sk (OpT.storeBA rfl rfl (Opd.whole (Root.self (t := 7) (by decide)) rfl) rfl sz52 (by decide) (T1 rfl)) rfl ?_
 refine ng ?_
 refine sr ?_
 refine st (asI rfl) rfl ?_
 refine ng ?_
 refine AW.seq ?_
 refine AW.block ?_
 refine AW.loop (fun z : Nat => z ≤ x.length ∧ ∀ i, i < z → lessI a b x i) (fun z : Nat => keep [(0, .own 52 (Kd.pair (Kd.int .i64) (Kd.pair (Kd.int .i64) (Kd.int .i64))) x), (1, .cel (Kd.int .i64) a), (2, .cel (Kd.int .i64) b), (7, .box 52 (Kd.pair (Kd.int .i64) (Kd.pair (Kd.int .i64) (Kd.int .i64))) (a, b, 1)), (8, .cel (Kd.int .i64) (z : Int))]) (fun z : Nat => x.length - z) (0) ⟨Nat.zero_le _, all_none⟩ (Kc 0 _ (Ko rfl rfl) <| Kc 1 _ (Kv rfl rfl) <| Kc 2 _ (Kv rfl rfl) <| Kc 7 _ (Kb rfl rfl) <| Kc 8 _ (Kv rfl rfl) <| Kn) ?_
 intro z hI
 refine AW.seq ?_
 refine sr ?_
 refine st (mvT rfl) rfl ?_
 refine st (OpT.alias (H rfl) (by decide) (by decide)) rfl ?_
 refine st (OpT.lenO (H rfl) (Root.ali rfl (by decide) (by decide)) rfl el26) rfl ?_
 refine st (OpT.lss (H rfl) (T1 rfl) (T1 rfl)) rfl ?_
 refine st (mvT rfl) rfl ?_
 apply AWl.and (d := 22) (t := 17) rfl
 ·
  intro hb1 Q1 k1
  have hb1' := lT hb1
  have hgz := getDs (x := x) (z := z) (d := (0, 0, 0)) (by omega)
  refine rs hb1 (OpT.alias (H rfl) (by decide) (by decide)) rfl ?_
  refine rs hb1 (mvT rfl) rfl ?_
  refine rs hb1 (OpT.indexAddrO (H rfl) (Root.ali rfl (by decide) (by decide)) rfl (by decide) (T1 rfl) el26 sz52 (by omega) (by assumption)) rfl ?_
  refine rs hb1 (cb1 (ms := [.bor 0, .bor 7]) (c_spec_l06Less _ _) (H rfl) (Abe (T1 rfl) (.inr ⟨_, _, rfl, (by assumption)⟩) <| Abx (Root.self (t := 7) (by decide)) rfl <| An) rfl (indC fun _ _ _ _ h => h)) rfl ?_
  refine st (OpT.pickT (A := .cel _ _) (H rfl) (T1 rfl) hb1 (T1 rfl) rfl) rfl ?_
  exact AWl.to (junk 4 rfl) k1
 ·
  intro hb1 Q1 k1
  refine ps hb1 rfl ?_
  refine ps hb1 rfl ?_
  refine ps hb1 rfl ?_
  refine ps hb1 rfl ?_
  refine st (OpT.pickF (A := .cel _ _) (H rfl) (T1 rfl) hb1 Opd.bool rfl) rfl ?_
  exact k1
 refine ng ?_
 refine cd rfl (fun hc1 => ?_) fun hc1 => ?_
 ·
  obtain ⟨hc1, hc1'⟩ := pT hc1
  have hcl : z < x.length ∧ cellL (x.getD z (0, 0, 0)) a b := (by rw [Bool.and_eq_true, decide_eq_true_eq, decide_eq_true_eq] at hc1; exact ⟨by omega, hc1.2⟩)
  refine AW.skip ?_
  refine AX.go ?_
  refine AW.block ?_
  refine AW.region ?_
  refine st (mvT rfl) rfl ?_
  refine st (OpT.add (H rfl) (T1 rfl) (I rfl) (nw (by omega))) rfl ?_
  refine st (asT rfl) rfl ?_
  refine nn ?_
  refine AX.normal_block ?_
  exact AX.again (z + 1) ⟨by omega, all_step hI.2 ((lessI_iff (getDs (by omega))).2 hcl.2)⟩ (by omega) (Kc 0 _ (Ko rfl rfl) <| Kc 1 _ (Kv rfl rfl) <| Kc 2 _ (Kv rfl rfl) <| Kc 7 _ (Kb rfl rfl) <| Kc 8 _ (Kv rfl (by omega)) <| Kn)
 ·
  obtain ⟨hc1, hc1'⟩ := pF hc1
  have hcn : ¬ (z < x.length ∧ cellL (x.getD z (0, 0, 0)) a b) := fun h9 => by rw [decide_eq_true (p := (z : Int) < (x.length : Int)) (by omega), decide_eq_true h9.2] at hc1; cases hc1
  refine AW.exit ?_
  refine xT <| xT <| AX.exit_hit ?_
  refine AX.go ?_
  refine AW.seq ?_
  refine sr ?_
  refine st (mvT rfl) rfl ?_
  refine st (OpT.alias (H rfl) (by decide) (by decide)) rfl ?_
  refine st (OpT.lenO (H rfl) (Root.ali rfl (by decide) (by decide)) rfl el26) rfl ?_
  refine st (OpT.lss (H rfl) (T1 rfl) (T1 rfl)) rfl ?_
  refine st (mvT rfl) rfl ?_
  apply AWl.and (d := 37) (t := 29) rfl
  ·
   intro hb2 Q1 k1
   have hb2' := lT hb2
   have hgz := getDs (x := x) (z := z) (d := (0, 0, 0)) (by omega)
   refine rs hb2 (OpT.alias (H rfl) (by decide) (by decide)) rfl ?_
   refine rs hb2 (mvT rfl) rfl ?_
   refine rs hb2 (OpT.indexAddrO (H rfl) (Root.ali rfl (by decide) (by decide)) rfl (by decide) (T1 rfl) el26 sz52 (by omega) (by assumption)) rfl ?_
   refine rs hb2 (OpT.fieldAddrE (H rfl) (T1 rfl) (.inr ⟨_, _, rfl, (by assumption)⟩) (by decide) fd52_0 sz2 (by decide) sb52_0 (by decide)) rfl ?_
   refine rs hb2 (OpT.loadP (H rfl) (T1 rfl) (.inr ⟨_, _, rfl, (by assumption)⟩) ag2 rfl) rfl ?_
   refine rs hb2 (mvT rfl) rfl ?_
   refine rs hb2 (OpT.eql (H rfl) (T1 rfl) (T1 rfl)) rfl ?_
   refine st (OpT.pickT (A := .cel _ _) (H rfl) (T1 rfl) hb2 (T1 rfl) rfl) rfl ?_
   exact AWl.to (junk 7 rfl) k1
  ·
   intro hb2 Q1 k1
   refine ps hb2 rfl ?_
   refine ps hb2 rfl ?_
   refine ps hb2 rfl ?_
   refine ps hb2 rfl ?_
   refine ps hb2 rfl ?_
   refine ps hb2 rfl ?_
   refine ps hb2 rfl ?_
   refine st (OpT.pickF (A := .cel _ _) (H rfl) (T1 rfl) hb2 Opd.bool rfl) rfl ?_
   exact k1
  refine st (mvT rfl) rfl ?_
  apply AWl.and (d := 46) (t := 38) rfl
  ·
   intro hb3 Q1 k1
   have hb3' := lT hb3
   have hgz := getDs (x := x) (z := z) (d := (0, 0, 0)) (by omega)
   refine rs hb3 (OpT.alias (H rfl) (by decide) (by decide)) rfl ?_
   refine rs hb3 (mvT rfl) rfl ?_
   refine rs hb3 (OpT.indexAddrO (H rfl) (Root.ali rfl (by decide) (by decide)) rfl (by decide) (T1 rfl) el26 sz52 (by omega) (by assumption)) rfl ?_
   refine rs hb3 (OpT.fieldAddrE (H rfl) (T1 rfl) (.inr ⟨_, _, rfl, (by assumption)⟩) (by decide) fd52_1 sz2 (by decide) sb52_1 (by decide)) rfl ?_
   refine rs hb3 (OpT.loadP (H rfl) (T1 rfl) (.inr ⟨_, _, rfl, (by assumption)⟩) ag2 rfl) rfl ?_
   refine rs hb3 (mvT rfl) rfl ?_
   refine rs hb3 (OpT.eql (H rfl) (T1 rfl) (T1 rfl)) rfl ?_
   refine st (OpT.pickT (A := .cel _ _) (H rfl) (T1 rfl) hb3 (T1 rfl) rfl) rfl ?_
   exact AWl.to (junk 7 rfl) k1
  ·
   intro hb3 Q1 k1
   refine ps hb3 rfl ?_
   refine ps hb3 rfl ?_
   refine ps hb3 rfl ?_
   refine ps hb3 rfl ?_
   refine ps hb3 rfl ?_
   refine ps hb3 rfl ?_
   refine ps hb3 rfl ?_
   refine st (OpT.pickF (A := .cel _ _) (H rfl) (T1 rfl) hb3 Opd.bool rfl) rfl ?_
   exact k1
  refine AWl.to (kc 46 rfl <| ko 0 rfl <| kb 7 rfl <| kc 8 rfl <| Kn) ?_
  refine ng ?_
  refine cd rfl (fun hc2 => ?_) fun hc2 => ?_
  ·
   obtain ⟨hc2, hc2'⟩ := pT hc2
   have hc3 : z < x.length ∧ (x.getD z (0, 0, 0)).1 = a ∧ (x.getD z (0, 0, 0)).2.1 = b := (by rw [Bool.and_eq_true, Bool.and_eq_true, decide_eq_true_eq, beq_iff_eq, beq_iff_eq] at hc2; exact ⟨by omega, hc2.1.2, hc2.2⟩)
   have hgz := getDs (x := x) (z := z) (d := (0, 0, 0)) (by omega)
   have hct := hcc _ (mem_getI (getDs (x := x) (z := z) (d := (0, 0, 0)) (by omega)))
   refine sr ?_
   refine st (OpT.alias (H rfl) (by decide) (by decide)) rfl ?_
   refine st (mvT rfl) rfl ?_
   refine st (OpT.indexAddrO (H rfl) (Root.ali rfl (by decide) (by decide)) rfl (by decide) (T1 rfl) el26 sz52 (by omega) (by assumption)) rfl ?_
   refine st (OpT.fieldAddrE (H rfl) (T1 rfl) (.inr ⟨_, _, rfl, (by assumption)⟩) (by decide) fd52_2 sz2 (by decide) sb52_2 (by decide)) rfl ?_
   refine st (OpT.loadP (H rfl) (T1 rfl) (.inr ⟨_, _, rfl, (by assumption)⟩) ag2 rfl) rfl ?_
   refine st (OpT.add (H rfl) (T1 rfl) (I rfl) (nw (by omega))) rfl ?_
   refine st (OpT.indexAddrO (H rfl) (Root.ali rfl (by decide) (by decide)) rfl (by decide) (T1 rfl) el26 sz52 (by omega) (by assumption)) rfl ?_
   refine st (OpT.fieldAddrE (H rfl) (T1 rfl) (.inr ⟨_, _, rfl, (by assumption)⟩) (by decide) fd52_2 sz2 (by decide) sb52_2 (by decide)) rfl ?_
   refine sk (OpT.storeO rfl rfl (T1 rfl) rfl (by assumption) sz2 rfl (T1 rfl)) rfl ?_
   refine ng ?_
   refine sr ?_
   refine st (OpT.alias (H rfl) (by decide) (by decide)) rfl ?_
   refine sg (OpT.take (.inl rfl) rfl (ok' rfl) (Root.ali rfl (by decide) (by decide)) rfl rfl (by decide)) (ko 6 rfl <| kc4 52 51 48 46 rfl <| kb 7 rfl <| kc 8 rfl <| Kn) rfl ?_
   refine ng ?_
   refine AW.ret ?_
   refine rT ?_
   exact AX.rt (rs := [.tmp 6]) (ts := [some 6]) (.inl rfl) rfl (ROs.cons (RO.tmp (At.self (by decide)) (Ko rfl (by first | exact cnt2_eq hI.2 (getDs (by omega)) hc3.2.1 hc3.2.2 | exact cnt2_out hI.2 hI.1 hcn hc3)) rfl) <| ROs.nil) (by decide) OutsOK.nil
  ·
   obtain ⟨hc2, hc2'⟩ := pF hc2
   have hc3 : ¬ (z < x.length ∧ (x.getD z (0, 0, 0)).1 = a ∧ (x.getD z (0, 0, 0)).2.1 = b) := fun h9 => by rw [decide_eq_true (p := (z : Int) < (x.length : Int)) (by omega), beq_iff_eq.2 h9.2.1, beq_iff_eq.2 h9.2.2] at hc2; cases hc2
   refine AW.freeze (t := 0) rfl ?_
   refine AW.to (kc2 46 0 rfl <| kb 7 rfl <| kc 8 rfl <| Kn) ?_
   refine AW.skip ?_
   refine AX.pr (kc 0 rfl <| kb 7 rfl <| kc 8 rfl <| Kn) ?_
   refine AX.go ?_
   refine AW.seq ?_
   refine dh fomo ?_
   refine d1 [7] (fun ve h => OpT.loadB (H rfl) (Root.self (t := 7) (by decide)) ((h _ (List.elem_iff.1 rfl)).trans rfl) ag52 sz52) rfl ?_
   refine d1 [56] (fun ve h => OpT.buildSlice (H rfl) el26 zr52 sz52 rfl (by decide) zk52 (by decide) (Built.agg (D1 h rfl) rfl (by decide) (sub_arr (by decide) ((0, 0, 0) : Int × Int × Int)) (Built.nil _))) rfl ?_
   refine d1 [0] (fun ve h => OpT.move (A := .cel _ _) (.inl rfl) rfl (ok' rfl) (D1 h rfl) rfl) rfl ?_
   refine d1 [8] (fun ve h => OpT.move (A := .cel _ _) (.inl rfl) rfl (ok' rfl) (D1 h rfl) rfl) rfl ?_
   refine d1 [58, 59] (fun ve h => OpT.cutL (H rfl) (D1 h rfl) (D1 h rfl) el26 sz52 (by omega)) rfl ?_
   refine dt (t := 57) [57, 60] (fun ve h => OpT.append (H rfl) (Root.self (t := 57) (by decide)) ((h _ (List.elem_iff.1 rfl)).trans rfl) (Src.shared (D1 h rfl)) (by decide) el26 zr52 rfl sz52 by52 (by decide) (by simp only [List.length_cons, List.length_nil, List.length_append, List.length_drop, List.length_take, List.length_set, List.length_replicate]; omega)) rfl ?_
   refine dt (t := 61) [61] (fun ve h => OpT.take (.inl rfl) rfl (ok' rfl) (Root.self (by decide)) ((h _ (List.elem_iff.1 rfl)).trans rfl) rfl (by decide)) rfl ?_
   refine dn ⟨by kernel_rfl, by kernel_rfl, ?_⟩
   refine AX.go ?_
   refine sr ?_
   refine st (OpT.buildSlice0 (m := 0) (z := .bool false) (Kd.pair (Kd.int .i64) (Kd.pair (Kd.int .i64) (Kd.int .i64))) (H rfl) el26 sz52 (by decide)) rfl ?_
   refine st (mvT rfl) rfl ?_
   refine st (mvT rfl) rfl ?_
   refine st (OpT.cutH (H rfl) (T1 rfl) (T1 rfl) el26 sz52 (by omega)) rfl ?_
   refine sg (OpT.append (H rfl) (Root.self (t := 62) (by decide)) rfl (Src.shared (T1 rfl)) (by decide) el26 zr52 rfl sz52 by52 (by decide) (by simp only [List.length_cons, List.length_nil, List.length_append, List.length_drop, List.length_take, List.length_set, List.length_replicate]; omega)) (ko 66 rfl <| kc3 65 64 63 rfl <| ko 9 rfl <| kc3 60 59 58 rfl <| ka 56 rfl <| kc 0 rfl <| kb 7 rfl <| kc 8 rfl <| Kn) rfl ?_
   refine st (OpT.alias (H rfl) (by decide) (by decide)) rfl ?_
   refine sg (OpT.append (H rfl) (Root.self (t := 66) (by decide)) rfl (Src.own (Root.ali rfl (by decide) (by decide)) rfl) (by decide) el26 zr52 rfl sz52 by52 (by decide) (by simp only [List.length_cons, List.length_nil, List.length_append, List.length_drop, List.length_take, List.length_set, List.length_replicate]; omega)) (ko 68 rfl <| Kc 67 (.ali _) rfl <| kc3 65 64 63 rfl <| ko 9 rfl <| kc3 60 59 58 rfl <| ka 56 rfl <| kc 0 rfl <| kb 7 rfl <| kc 8 rfl <| Kn) rfl ?_
   refine sg (OpT.take (.inl rfl) rfl (ok' rfl) (Root.self (by decide)) rfl rfl (by decide)) (ko 6 rfl <| Kc 67 (.ali _) rfl <| kc3 65 64 63 rfl <| ko 9 rfl <| kc3 60 59 58 rfl <| ka 56 rfl <| kc 0 rfl <| kb 7 rfl <| kc 8 rfl <| Kn) rfl ?_
   refine AWl.to (ko 6 rfl <| Kn) ?_
   refine ng ?_
   refine AW.ret ?_
   exact AX.rt (rs := [.tmp 6]) (ts := [some 6]) (.inl rfl) rfl (ROs.cons (RO.tmp (At.self (by decide)) (Ko rfl (by first | exact cnt2_eq hI.2 (getDs (by omega)) hc3.2.1 hc3.2.2 | exact cnt2_out hI.2 hI.1 hcn hc3)) rfl) <| ROs.nil) (by decide) OutsOK.nil

/-- spec.l06Cross -/
theorem c_spec_l06Cross_o (f g : DField) (x : List DCard) (l : List Int) (hf : fieldOK f) (hg : fieldOK g) (hl : l.length ≤ 100000000) (hi : ∀ i ∈ l, 0 ≤ i ∧ i < x.length) : AC Tryz.prog 34 [.cel (Kd.ptr kField) f, .cel (Kd.ptr kField) g, .cel (Kd.slice kCard) x, .cel (Kd.slice (Kd.int .i64)) l] [.own 52 (Kd.pair (Kd.int .i64) (Kd.pair (Kd.int .i64) (Kd.int .i64))) (crs f g (maskL x l))] [] := by
 refine acI (N := 36) Tryz.func34 (Nat.le_of_ble_eq_true rfl) rfl fun w0 hd s0 ar => ?_
 refine AW.to (kc4 0 1 2 3 rfl <| Kn) ?_
 refine AW.fact (fun a w hr => (ok_slice (R_ok (t := 2) rfl hr)).2) (fun hl2 => ?_)
 refine AW.fact (fun a w hr => (ok_slice (R_ok (t := 3) rfl hr)).2) (fun hl3 => ?_)
 refine sr ?_
 refine st (nilO (E := 52) (Kd.pair (Kd.int .i64) (Kd.pair (Kd.int .i64) (Kd.int .i64))) rfl (.inl rfl)) rfl ?_
 refine ng ?_
 refine sr ?_
 refine st (OpT.buildSlice0 (m := 0) (z := .bool false) (Kd.pair (Kd.int .i64) (Kd.pair (Kd.int .i64) (Kd.int .i64))) (H rfl) el26 sz52 (by decide)) rfl ?_
 refine sg (OpT.take (.inl rfl) rfl (ok' rfl) (Root.self (by decide)) rfl rfl (by decide)) (ko 9 rfl <| ko 8 rfl <| kc4 0 1 2 3 rfl <| Kn) rfl ?_
 refine ng ?_
 refine AW.seq ?_
 refine sr ?_
 refine st (asI rfl) rfl ?_
 refine ng ?_
 refine AW.block ?_
 refine AW.loop (fun z : Nat => z ≤ l.length) (fun z : Nat => keep [(0, .cel (Kd.ptr kField) f), (1, .cel (Kd.ptr kField) g), (2, .cel (Kd.slice kCard) x), (3, .cel (Kd.slice (Kd.int .i64)) l), (9, .own 52 (Kd.pair (Kd.int .i64) (Kd.pair (Kd.int .i64) (Kd.int .i64))) (crs f g (maskL x (l.take z)))), (10, .cel (Kd.int .i64) (z : Int))]) (fun z : Nat => l.length - z) (0) (Nat.zero_le _) (Kc 0 _ (Kv rfl rfl) <| Kc 1 _ (Kv rfl rfl) <| Kc 2 _ (Kv rfl rfl) <| Kc 3 _ (Kv rfl rfl) <| Kc 9 _ (Ko rfl rfl) <| Kc 10 _ (Kv rfl rfl) <| Kn) ?_
 intro z hI
 refine AW.seq ?_
 refine sr ?_
 refine st (mvT rfl) rfl ?_
 refine st (mvT rfl) rfl ?_
 refine st (OpT.len (H rfl) (T1 rfl) el81) rfl ?_
 refine st (OpT.lss (H rfl) (T1 rfl) (T1 rfl)) rfl ?_
 refine ng ?_
 refine cd rfl (fun hc1 => ?_) fun hc1 => ?_
 ·
  obtain ⟨hc1, hc1'⟩ := pT hc1
  obtain ⟨i, hii⟩ := getI (x := l) (z := z) (by omega)
  have hib := hi i (mem_getI hii)
  obtain ⟨e, he⟩ : ∃ e, x[Int.toNat i]? = some e := ⟨_, List.getElem?_eq_getElem (by omega)⟩
  have hci := crs_in f g (maskL x (l.take z))
  rw [maskL_len, List.length_take] at hci
  refine AW.skip ?_
  refine AX.go ?_
  refine AW.seq ?_
  refine AW.block ?_
  refine sr ?_
  refine st (mvT rfl) rfl ?_
  refine st (mvT rfl) rfl ?_
  refine st (mvT rfl) rfl ?_
  refine st (OpT.indexAddr (H rfl) (T1 rfl) (T1 rfl) el81 sz2 (by omega) (by assumption)) rfl ?_
  refine st (OpT.load (H rfl) (T1 rfl) ag2 rfl) rfl ?_
  refine st (OpT.indexAddr (H rfl) (T1 rfl) (T1 rfl) el31 sz86 (by omega) (by assumption)) rfl ?_
  refine st (OpT.fieldAddr (H rfl) (T1 rfl) fd86_1 sz84 (by decide) sb86_1) rfl ?_
  refine st (OpT.loadA (H rfl) (T1 rfl) ag84 sz84) rfl ?_
  refine st (OpT.alloc (H rfl) zr84 zk84) rfl ?_
  refine sk (OpT.storeBA rfl rfl (Opd.whole (Root.self (t := 11) (by decide)) rfl) rfl sz84 (by decide) (T1 rfl)) rfl ?_
  refine AWl.to (kb 11 rfl <| ka 26 rfl <| kc4 25 24 23 22 rfl <| kc4 21 20 19 16 rfl <| kc4 15 14 13 0 rfl <| kc3 1 2 3 rfl <| ko 9 rfl <| kc 10 rfl <| Kn) ?_
  refine ng ?_
  refine dh fomo ?_
  refine d1 [] (fun ve h => OpT.alias (H rfl) (by decide) (by decide)) rfl ?_
  refine d1 [0] (fun ve h => OpT.move (A := .cel _ _) (.inl rfl) rfl (ok' rfl) (D1 h rfl) rfl) rfl ?_
  refine d1 [11] (fun ve h => OpT.loadB (H rfl) (Root.self (t := 11) (by decide)) ((h _ (List.elem_iff.1 rfl)).trans rfl) ag84 sz84) rfl ?_
  refine d1 [28, 29] (fun ve h => OpT.c1 (ms := [.flat, .flat]) (c_spec_l06In _ _ hf) (H rfl) (Af (D1 h rfl) rfl rfl <| Af (D1 h rfl) rfl rfl <| An) rfl rfl) rfl ?_
  refine d1 [1] (fun ve h => OpT.move (A := .cel _ _) (.inl rfl) rfl (ok' rfl) (D1 h rfl) rfl) rfl ?_
  refine d1 [11] (fun ve h => OpT.loadB (H rfl) (Root.self (t := 11) (by decide)) ((h _ (List.elem_iff.1 rfl)).trans rfl) ag84 sz84) rfl ?_
  refine d1 [31, 32] (fun ve h => OpT.c1 (ms := [.flat, .flat]) (c_spec_l06In _ _ hg) (H rfl) (Af (D1 h rfl) rfl rfl <| Af (D1 h rfl) rfl rfl <| An) rfl rfl) rfl ?_
  refine dw (t := 9) [9, 27, 30, 33] (fun ve h => crd (ms := [.root 9, .flat, .flat]) (c_spec_l06Count _ _ _ (by omega) (fun d hd => by have := hci.2 d hd; omega)) (H rfl) (Ar (O := .any) (Root.ali ((h _ (List.elem_iff.1 rfl)).trans rfl) (by decide) (by decide)) ((h _ (List.elem_iff.1 rfl)).trans rfl) rfl rfl <| Af (D1 h rfl) rfl rfl <| Af (D1 h rfl) rfl rfl <| An) rfl) rfl ?_
  refine dt (t := 34) [34] (fun ve h => OpT.take (.inl rfl) rfl (ok' rfl) (Root.self (by decide)) ((h _ (List.elem_iff.1 rfl)).trans rfl) rfl (by decide)) rfl ?_
  refine dn ⟨by kernel_rfl, by kernel_rfl, ?_⟩
  refine AX.normal_block ?_
  refine AX.go ?_
  refine AW.region ?_
  refine st (mvT rfl) rfl ?_
  refine st (OpT.add (H rfl) (T1 rfl) (I rfl) (nw (by omega))) rfl ?_
  refine st (asT rfl) rfl ?_
  refine nn ?_
  exact AX.again (z + 1) (by omega) (by omega) (Kc 0 _ (Kv rfl rfl) <| Kc 1 _ (Kv rfl rfl) <| Kc 2 _ (Kv rfl rfl) <| Kc 3 _ (Kv rfl rfl) <| Kc 9 _ (Ko rfl (by rw [← maskL_next hii he, crs_snoc])) <| Kc 10 _ (Kv rfl (by omega)) <| Kn)
 ·
  obtain ⟨hc1, hc1'⟩ := pF hc1
  refine AW.exit ?_
  refine xT <| xT <| AX.exit_hit ?_
  refine AX.go ?_
  refine sr ?_
  refine st (OpT.alias (H rfl) (by decide) (by decide)) rfl ?_
  refine sg (OpT.take (.inl rfl) rfl (ok' rfl) (Root.ali rfl (by decide) (by decide)) rfl rfl (by decide)) (ko 8 rfl <| kc4 16 15 14 13 rfl <| kc4 0 1 2 3 rfl <| kc 10 rfl <| Kn) rfl ?_
  refine ng ?_
  refine AW.ret ?_
  exact AX.rt (rs := [.tmp 8]) (ts := [some 8]) (.inl rfl) rfl (ROs.cons (RO.tmp (At.self (by decide)) (Ko rfl (by rw [List.take_of_length_le (by omega)])) rfl) <| ROs.nil) (by decide) OutsOK.nil
theorem c_spec_l06Cross (f g : DField) (x : List DCard) (l : List Int) (hf : fieldOK f) (hg : fieldOK g) (hl : l.length ≤ 100000000) (hi : ∀ i ∈ l, 0 ≤ i ∧ i < x.length) : AC Tryz.prog 34 [.cel (Kd.ptr kField) f, .cel (Kd.ptr kField) g, .cel (Kd.slice kCard) x, .cel (Kd.slice (Kd.int .i64)) l] [.cel (Kd.slice (Kd.pair (Kd.int .i64) (Kd.pair (Kd.int .i64) (Kd.int .i64)))) (crs f g (maskL x l))] [] := (c_spec_l06Cross_o f g x l hf hg hl hi).frz rfl

/-- spec.l06All -/
theorem c_spec_l06All (x : List DCard) (hx : x.length ≤ 1000000000) : AC Tryz.prog 35 [.cel (Kd.slice kCard) x] [.cel (Kd.slice (Kd.int .i64)) (idxL x.length)] [] := by
 refine acI (N := 17) Tryz.func35 (Nat.le_of_ble_eq_true rfl) rfl fun w0 hd s0 ar => ?_
 refine AW.to (kc 0 rfl <| Kn) ?_
 refine AW.fact (fun a w hr => (ok_slice (R_ok (t := 0) rfl hr)).2) (fun hl0 => ?_)
 refine sr ?_
 refine st (OpT.move (A := .cel _ _) (.inr rfl) rfl (ok' rfl) (Opd.nilslice (Kd.int .i64)) rfl) rfl ?_
 refine ng ?_
 refine sr ?_
 refine st (OpT.buildSlice0 (m := 0) (z := .bool false) (Kd.int .i64) (H rfl) el81 sz2 (by decide)) rfl ?_
 refine sg (OpT.take (.inl rfl) rfl (ok' rfl) (Root.self (by decide)) rfl rfl (by decide)) (ko 3 rfl <| kc2 2 0 rfl <| Kn) rfl ?_
 refine ng ?_
 refine AW.seq ?_
 refine sr ?_
 refine st (asI rfl) rfl ?_
 refine ng ?_
 refine AW.block ?_
 refine AW.loop (fun z : Nat => z ≤ x.length) (fun z : Nat => keep [(0, .cel (Kd.slice kCard) x), (3, .own 2 (Kd.int .i64) (idxL z)), (4, .cel (Kd.int .i64) (z : Int))]) (fun z : Nat => x.length - z) (0) (Nat.zero_le _) (Kc 0 _ (Kv rfl rfl) <| Kc 3 _ (Ko rfl rfl) <| Kc 4 _ (Kv rfl rfl) <| Kn) ?_
 intro z hI
 refine AW.seq ?_
 refine sr ?_
 refine st (mvT rfl) rfl ?_
 refine st (mvT rfl) rfl ?_
 refine st (OpT.len (H rfl) (T1 rfl) el31) rfl ?_
 refine st (OpT.lss (H rfl) (T1 rfl) (T1 rfl)) rfl ?_
 refine ng ?_
 refine cd rfl (fun hc1 => ?_) fun hc1 => ?_
 ·
  obtain ⟨hc1, hc1'⟩ := pT hc1
  refine AW.skip ?_
  refine AX.go ?_
  refine AW.seq ?_
  refine AW.block ?_
  refine AW.region ?_
  refine st (OpT.alias (H rfl) (by decide) (by decide)) rfl ?_
  refine st (mvT rfl) rfl ?_
  refine st (OpT.buildSlice (H rfl) el81 zr2 sz2 rfl (by decide) zk2 (by decide) (Built.cel (T1 rfl) rfl rfl (sub_arr (by decide) (0 : Int)) (Built.nil _))) rfl ?_
  refine sg (OpT.append (H rfl) (Root.ali rfl (by decide) (by decide)) rfl (Src.own (Root.self (t := 14) (by decide)) rfl) (by decide) el81 zr2 rfl sz2 by2 (by decide) (by have := idxL_len z; simp only [List.length_set, List.length_replicate]; omega)) (ko 15 rfl <| ko 14 rfl <| kc4 13 9 8 7 rfl <| kc3 6 0 4 rfl <| Kn) rfl ?_
  refine sg (OpT.take (.inl rfl) rfl (ok' rfl) (Root.self (by decide)) rfl rfl (by decide)) (ko 3 rfl <| ko 14 rfl <| kc4 13 9 8 7 rfl <| kc3 6 0 4 rfl <| Kn) rfl ?_
  refine nn ?_
  refine AX.normal_block ?_
  refine AX.go ?_
  refine AW.region ?_
  refine st (mvT rfl) rfl ?_
  refine st (OpT.add (H rfl) (T1 rfl) (I rfl) (nw (by omega))) rfl ?_
  refine st (asT rfl) rfl ?_
  refine nn ?_
  exact AX.again (z + 1) (by omega) (by omega) (Kc 0 _ (Kv rfl rfl) <| Kc 3 _ (Ko rfl (idxL_next z)) <| Kc 4 _ (Kv rfl (by omega)) <| Kn)
 ·
  obtain ⟨hc1, hc1'⟩ := pF hc1
  refine AW.exit ?_
  refine AX.freeze (t := 3) rfl ?_
  refine AX.pr (kc4 9 8 7 6 rfl <| kc3 0 3 4 rfl <| Kn) ?_
  refine xT <| xT <| AX.exit_hit ?_
  refine AX.go ?_
  refine sr ?_
  refine st (mvT rfl) rfl ?_
  refine st (asT rfl) rfl ?_
  refine ng ?_
  refine AW.ret ?_
  exact rt1 rfl (.inl rfl) (by rw [show z = x.length by omega])

/-- spec.l06Tally -/
theorem c_spec_l06Tally_o (f : DField) (x : List DCard) (l : List Int) (hf : fieldOK f) (hl : l.length ≤ 100000000) (hi : ∀ i ∈ l, 0 ≤ i ∧ i < x.length) : AC Tryz.prog 52 [.cel (Kd.ptr kField) f, .cel (Kd.slice kCard) x, .cel (Kd.slice (Kd.int .i64)) l] [.own 54 kShare (talOf (crs f f (maskL x l)))] [] := by
 refine acI (N := 37) Tryz.func52 (Nat.le_of_ble_eq_true rfl) rfl fun w0 hd s0 ar => ?_
 refine AW.to (kc3 0 1 2 rfl <| Kn) ?_
 have hci := crs_in f f (maskL x l)
 rw [maskL_len] at hci
 refine sr ?_
 refine st (nilO (E := 54) kShare rfl (.inl rfl)) rfl ?_
 refine ng ?_
 refine sr ?_
 refine st (mvT rfl) rfl ?_
 refine st (mvT rfl) rfl ?_
 refine st (mvT rfl) rfl ?_
 refine st (mvT rfl) rfl ?_
 refine st (OpT.c1 (ms := [.flat, .flat, .flat, .flat]) (c_spec_l06Cross _ _ _ _ hf hf hl hi) (H rfl) (Af (T1 rfl) rfl rfl <| Af (T1 rfl) rfl rfl <| Af (T1 rfl) rfl rfl <| Af (T1 rfl) rfl rfl <| An) rfl rfl) rfl ?_
 refine st (asT rfl) rfl ?_
 refine ng ?_
 refine sr ?_
 refine st (OpT.buildSlice0 (m := 0) (z := .bool false) kShare (H rfl) el45 sz54 (by decide)) rfl ?_
 refine sg (OpT.take (.inl rfl) rfl (ok' rfl) (Root.self (by decide)) rfl rfl (by decide)) (ko 8 rfl <| kc4 7 14 13 12 rfl <| kc2 11 10 rfl <| ko 6 rfl <| kc3 0 1 2 rfl <| Kn) rfl ?_
 refine ng ?_
 refine AW.seq ?_
 refine sr ?_
 refine st (asI rfl) rfl ?_
 refine ng ?_
 refine AW.block ?_
 refine AW.loop (fun z : Nat => z ≤ (crs f f (maskL x l)).length) (fun z : Nat => keep [(7, .cel (Kd.slice (Kd.pair (Kd.int .i64) (Kd.pair (Kd.int .i64) (Kd.int .i64)))) (crs f f (maskL x l))), (8, .own 54 kShare (talOf ((crs f f (maskL x l)).take z))), (9, .cel (Kd.int .i64) (z : Int))]) (fun z : Nat => (crs f f (maskL x l)).length - z) (0) (Nat.zero_le _) (Kc 7 _ (Kv rfl rfl) <| Kc 8 _ (Ko rfl rfl) <| Kc 9 _ (Kv rfl rfl) <| Kn) ?_
 intro z hI
 refine AW.seq ?_
 refine sr ?_
 refine st (mvT rfl) rfl ?_
 refine st (mvT rfl) rfl ?_
 refine st (OpT.len (H rfl) (T1 rfl) el26) rfl ?_
 refine st (OpT.lss (H rfl) (T1 rfl) (T1 rfl)) rfl ?_
 refine ng ?_
 refine cd rfl (fun hc1 => ?_) fun hc1 => ?_
 ·
  obtain ⟨hc1, hc1'⟩ := pT hc1
  obtain ⟨d, hd⟩ := getI (x := crs f f (maskL x l)) (z := z) (by omega)
  refine AW.skip ?_
  refine AX.go ?_
  refine AW.seq ?_
  refine AW.block ?_
  refine dhm [0, 0, 0, 6, 14, 30, 0, 0, 192, 448, 960, 2046, 4094, 8191, 16383] [(22, 8)] fomo ?_
  refine d1 [] (fun ve h => OpT.alias (H rfl) (by decide) (by decide)) rfl ?_
  refine d1 [7] (fun ve h => OpT.move (A := .cel _ _) (.inl rfl) rfl (ok' rfl) (D1 h rfl) rfl) rfl ?_
  refine d1 [9] (fun ve h => OpT.move (A := .cel _ _) (.inl rfl) rfl (ok' rfl) (D1 h rfl) rfl) rfl ?_
  refine d1 [23, 24] (fun ve h => OpT.indexAddr (H rfl) (D1 h rfl) (D1 h rfl) el26 sz52 (by omega) (by assumption)) rfl ?_
  refine d1 [25] (fun ve h => OpT.fieldAddr (H rfl) (D1 h rfl) fd52_0 sz2 (by decide) sb52_0) rfl ?_
  refine d1 [26] (fun ve h => OpT.load (H rfl) (D1 h rfl) ag2 rfl) rfl ?_
  refine d1 [7] (fun ve h => OpT.move (A := .cel _ _) (.inl rfl) rfl (ok' rfl) (D1 h rfl) rfl) rfl ?_
  refine d1 [9] (fun ve h => OpT.move (A := .cel _ _) (.inl rfl) rfl (ok' rfl) (D1 h rfl) rfl) rfl ?_
  refine d1 [28, 29] (fun ve h => OpT.indexAddr (H rfl) (D1 h rfl) (D1 h rfl) el26 sz52 (by omega) (by assumption)) rfl ?_
  refine d1 [30] (fun ve h => OpT.fieldAddr (H rfl) (D1 h rfl) fd52_2 sz2 (by decide) sb52_2) rfl ?_
  refine d1 [31] (fun ve h => OpT.load (H rfl) (D1 h rfl) ag2 rfl) rfl ?_
  refine d1 [27, 32] (fun ve h => OpT.build (H rfl) pl54 zr54 zk54 (Built.cel (D1 h rfl) rfl rfl sb54_0 (Built.cel (D1 h rfl) rfl rfl sb54_1 (Built.nil _)))) rfl ?_
  refine d1 [33] (fun ve h => OpT.buildSlice (H rfl) el45 zr54 sz54 rfl (by decide) zk54 (by decide) (Built.agg (D1 h rfl) rfl (by decide) (sub_arr (by decide) ((0, 0) : Int × Int)) (Built.nil _))) rfl ?_
  refine dt (t := 8) [8, 22, 34] (fun ve h => OpT.append (H rfl) (Root.ali ((h _ (List.elem_iff.1 rfl)).trans rfl) (by decide) (by decide)) ((h _ (List.elem_iff.1 rfl)).trans rfl) (Src.own (Root.self (t := 34) (by decide)) ((h _ (List.elem_iff.1 rfl)).trans rfl)) (by decide) el45 zr54 rfl sz54 by54 (by decide) (by have h70 : (talOf ((crs f f (maskL x l)).take z)).length ≤ z := (by rw [talOf, List.length_map, List.length_take]; omega); simp only [List.length_set, List.length_replicate]; omega)) rfl ?_
  refine dt (t := 35) [35] (fun ve h => OpT.take (.inl rfl) rfl (ok' rfl) (Root.self (by decide)) ((h _ (List.elem_iff.1 rfl)).trans rfl) rfl (by decide)) rfl ?_
  refine dn ⟨by kernel_rfl, by kernel_rfl, ?_⟩
  refine AX.normal_block ?_
  refine AX.go ?_
  refine AW.region ?_
  refine st (mvT rfl) rfl ?_
  refine st (OpT.add (H rfl) (T1 rfl) (I rfl) (nw (by omega))) rfl ?_
  refine st (asT rfl) rfl ?_
  refine nn ?_
  exact AX.again (z + 1) (by omega) (by omega) (Kc 7 _ (Kv rfl rfl) <| Kc 8 _ (Ko rfl (talOf_next hd)) <| Kc 9 _ (Kv rfl (by omega)) <| Kn)
 ·
  obtain ⟨hc1, hc1'⟩ := pF hc1
  refine AW.exit ?_
  refine xT <| xT <| AX.exit_hit ?_
  refine AX.go ?_
  refine sr ?_
  refine st (OpT.alias (H rfl) (by decide) (by decide)) rfl ?_
  refine sg (OpT.take (.inl rfl) rfl (ok' rfl) (Root.ali rfl (by decide) (by decide)) rfl rfl (by decide)) (ko 6 rfl <| kc4 19 18 17 16 rfl <| kc2 7 9 rfl <| Kn) rfl ?_
  refine ng ?_
  refine AW.ret ?_
  exact AX.rt (rs := [.tmp 6]) (ts := [some 6]) (.inl rfl) rfl (ROs.cons (RO.tmp (At.self (by decide)) (Ko rfl (by rw [List.take_of_length_le (by omega)])) rfl) <| ROs.nil) (by decide) OutsOK.nil
theorem c_spec_l06Tally (f : DField) (x : List DCard) (l : List Int) (hf : fieldOK f) (hl : l.length ≤ 100000000) (hi : ∀ i ∈ l, 0 ≤ i ∧ i < x.length) : AC Tryz.prog 52 [.cel (Kd.ptr kField) f, .cel (Kd.slice kCard) x, .cel (Kd.slice (Kd.int .i64)) l] [.cel (Kd.slice kShare) (talOf (crs f f (maskL x l)))] [] := (c_spec_l06Tally_o f x l hf hl hi).frz rfl

/-- spec.l06Asked -/
theorem c_spec_l06Asked (s : List DField) (x : List DCard) (a b : Int) : AC Tryz.prog 33 [.cel (Kd.slice kField) s, .cel (Kd.slice kCard) x, .cel (Kd.int .i64) a, .cel (Kd.int .i64) b] [.cel (Kd.int .i64) (tabF s x [a, b])] [] := by
 refine acI (N := 36) Tryz.func33 (Nat.le_of_ble_eq_true rfl) rfl fun w0 hd s0 ar => ?_
 refine AW.to (kc4 0 1 2 3 rfl <| Kn) ?_
 refine AW.fact (fun a w hr => (ok_slice (R_ok (t := 0) rfl hr)).2) (fun hl0 => ?_)
 refine AW.fact (fun a w hr => (ok_slice (R_ok (t := 1) rfl hr)).2) (fun hl1 => ?_)
 refine sr ?_
 refine st (asI rfl) rfl ?_
 refine ng ?_
 refine AW.seq ?_
 refine sr ?_
 refine st (mvT rfl) rfl ?_
 refine st (OpT.c1 (ms := [.flat]) (c_spec_l01Scheme _) (H rfl) (Af (T1 rfl) rfl rfl <| An) rfl rfl) rfl ?_
 refine st (OpT.not (H rfl) (T1 rfl)) rfl ?_
 refine st (mvT rfl) rfl ?_
 apply AWl.or (d := 17) (t := 13) rfl
 ·
  intro hb1 Q1 k1
  have hb1' := lF hb1
  refine rs hb1 (mvT rfl) rfl ?_
  refine rs hb1 (OpT.c1 (ms := [.flat]) (c_spec_l04Cards _) (H rfl) (Af (T1 rfl) rfl rfl <| An) rfl rfl) rfl ?_
  refine rs hb1 (OpT.not (H rfl) (T1 rfl)) rfl ?_
  refine st (OpT.pickF (A := .cel _ _) (H rfl) (T1 rfl) hb1 (T1 rfl) rfl) rfl ?_
  exact AWl.to (junk 3 rfl) k1
 ·
  intro hb1 Q1 k1
  refine ps hb1 rfl ?_
  refine ps hb1 rfl ?_
  refine ps hb1 rfl ?_
  refine st (OpT.pickT (A := .cel _ _) (H rfl) (T1 rfl) hb1 Opd.bool rfl) rfl ?_
  exact k1
 refine ng ?_
 refine cd rfl (fun hc1 => ?_) fun hc1 => ?_
 ·
  obtain ⟨hc1, hc1'⟩ := pT hc1
  refine sr ?_
  refine st (asI rfl) rfl ?_
  refine ng ?_
  refine AW.ret ?_
  refine rT ?_
  exact rt1 rfl (.inl rfl) (by first | exact ask_one hc1 | exact ask_two hc1 (by (try simp only [inb, Bool.and_eq_true, Bool.and_eq_false_iff, decide_eq_true_eq, decide_eq_false_iff_not] at *); omega) | exact ask_ok hc1 (by omega) (by (try simp only [inb, Bool.and_eq_true, Bool.and_eq_false_iff, decide_eq_true_eq, decide_eq_false_iff_not] at *); omega) (by (try simp only [inb, Bool.and_eq_true, Bool.and_eq_false_iff, decide_eq_true_eq, decide_eq_false_iff_not] at *); omega))
 ·
  obtain ⟨hc1, hc1'⟩ := pF hc1
  refine AW.skip ?_
  refine AX.go ?_
  refine sr ?_
  refine st (mvT rfl) rfl ?_
  refine st (OpT.len (H rfl) (T1 rfl) el29) rfl ?_
  refine st (OpT.sub (H rfl) (T1 rfl) (I rfl) (nw (by omega))) rfl ?_
  refine st (asT rfl) rfl ?_
  refine ng ?_
  refine AW.seq ?_
  refine sr ?_
  refine st (mvT rfl) rfl ?_
  refine st (OpT.len (H rfl) (T1 rfl) el31) rfl ?_
  refine st (OpT.gtr (H rfl) (T1 rfl) (I rfl)) rfl ?_
  refine st (mvT rfl) rfl ?_
  apply AWl.or (d := 29) (t := 24) rfl
  ·
   intro hb2 Q1 k1
   have hb2' := lF hb2
   refine rs hb2 (mvT rfl) rfl ?_
   refine rs hb2 (mvT rfl) rfl ?_
   refine rs hb2 (OpT.c1 (ms := [.flat, .flat, .flat]) (c_spec_l00In _ _ _) (H rfl) (Af (T1 rfl) rfl rfl <| Af (I rfl) rfl rfl <| Af (T1 rfl) rfl rfl <| An) rfl rfl) rfl ?_
   refine rs hb2 (OpT.not (H rfl) (T1 rfl)) rfl ?_
   refine st (OpT.pickF (A := .cel _ _) (H rfl) (T1 rfl) hb2 (T1 rfl) rfl) rfl ?_
   exact AWl.to (junk 4 rfl) k1
  ·
   intro hb2 Q1 k1
   refine ps hb2 rfl ?_
   refine ps hb2 rfl ?_
   refine ps hb2 rfl ?_
   refine ps hb2 rfl ?_
   refine st (OpT.pickT (A := .cel _ _) (H rfl) (T1 rfl) hb2 Opd.bool rfl) rfl ?_
   exact k1
  refine st (mvT rfl) rfl ?_
  apply AWl.or (d := 35) (t := 30) rfl
  ·
   intro hb3 Q1 k1
   have hb3' := lF hb3
   refine rs hb3 (mvT rfl) rfl ?_
   refine rs hb3 (mvT rfl) rfl ?_
   refine rs hb3 (OpT.c1 (ms := [.flat, .flat, .flat]) (c_spec_l00In _ _ _) (H rfl) (Af (T1 rfl) rfl rfl <| Af (I rfl) rfl rfl <| Af (T1 rfl) rfl rfl <| An) rfl rfl) rfl ?_
   refine rs hb3 (OpT.not (H rfl) (T1 rfl)) rfl ?_
   refine st (OpT.pickF (A := .cel _ _) (H rfl) (T1 rfl) hb3 (T1 rfl) rfl) rfl ?_
   exact AWl.to (junk 4 rfl) k1
  ·
   intro hb3 Q1 k1
   refine ps hb3 rfl ?_
   refine ps hb3 rfl ?_
   refine ps hb3 rfl ?_
   refine ps hb3 rfl ?_
   refine st (OpT.pickT (A := .cel _ _) (H rfl) (T1 rfl) hb3 Opd.bool rfl) rfl ?_
   exact k1
  refine AWl.to (kc2 35 8 rfl <| Kn) ?_
  refine ng ?_
  refine cd rfl (fun hc2 => ?_) fun hc2 => ?_
  ·
   obtain ⟨hc2, hc2'⟩ := pT hc2
   refine sr ?_
   refine st (asI rfl) rfl ?_
   refine ng ?_
   refine AW.ret ?_
   refine rT ?_
   exact rt1 rfl (.inl rfl) (by first | exact ask_one hc1 | exact ask_two hc1 (by (try simp only [inb, Bool.and_eq_true, Bool.and_eq_false_iff, decide_eq_true_eq, decide_eq_false_iff_not] at *); omega) | exact ask_ok hc1 (by omega) (by (try simp only [inb, Bool.and_eq_true, Bool.and_eq_false_iff, decide_eq_true_eq, decide_eq_false_iff_not] at *); omega) (by (try simp only [inb, Bool.and_eq_true, Bool.and_eq_false_iff, decide_eq_true_eq, decide_eq_false_iff_not] at *); omega))
  ·
   obtain ⟨hc2, hc2'⟩ := pF hc2
   refine AW.skip ?_
   refine AX.go ?_
   refine sr ?_
   refine st (asI rfl) rfl ?_
   refine ng ?_
   refine AW.ret ?_
   exact rt1 rfl (.inl rfl) (by first | exact ask_one hc1 | exact ask_two hc1 (by (try simp only [inb, Bool.and_eq_true, Bool.and_eq_false_iff, decide_eq_true_eq, decide_eq_false_iff_not] at *); omega) | exact ask_ok hc1 (by omega) (by (try simp only [inb, Bool.and_eq_true, Bool.and_eq_false_iff, decide_eq_true_eq, decide_eq_false_iff_not] at *); omega) (by (try simp only [inb, Bool.and_eq_true, Bool.and_eq_false_iff, decide_eq_true_eq, decide_eq_false_iff_not] at *); omega))

theorem c_slices_Sort_int64_int64 (x : List Int) (h : x.length ≤ 4611686018427387903) : AC Tryz.prog 74 [.own 2 (Kd.int .i64) x] [] [.own 2 (Kd.int .i64) (srtI x)] := AC.sortI Tryz.sortI rfl 2 x h Tryz.func74 rfl

/-- impl.tally -/
theorem c_impl_tally_o (f : DField) (x : List DCard) (hf : fieldOK f) (hx : x.length ≤ 60) : AC Tryz.prog 51 [.agg kField f, .cel (Kd.slice kCard) x] [.own 54 kShare (tly f x)] [] := by
 refine acI (N := 64) Tryz.func51 (Nat.le_of_ble_eq_true rfl) rfl fun w0 hd s0 ar => ?_
 refine AW.to (ka 0 rfl <| kc 1 rfl <| Kn) ?_
 refine AW.fact (fun a w hr => (ok_slice (R_ok (t := 1) rfl hr)).2) (fun hl1 => ?_)
 refine sr ?_
 refine st (OpT.frz (OpT.boxA (E := 80) (H rfl) (T1 rfl))) rfl ?_
 refine st (nilO (E := 54) kShare rfl (.inl rfl)) rfl ?_
 refine ng ?_
 refine sr ?_
 refine st (OpT.buildSlice0 (m := 0) (z := .bool false) (Kd.int .i64) (H rfl) el81 sz2 (by decide)) rfl ?_
 refine sg (OpT.take (.inl rfl) rfl (ok' rfl) (Root.self (by decide)) rfl rfl (by decide)) (ko 5 rfl <| ko 4 rfl <| kc 2 rfl <| ka 0 rfl <| kc 1 rfl <| Kn) rfl ?_
 refine ng ?_
 refine AW.seq ?_
 refine sr ?_
 refine st (mvT rfl) rfl ?_
 refine st (OpT.len (H rfl) (T1 rfl) el31) rfl ?_
 refine st (mvI rfl) rfl ?_
 refine ng ?_
 refine AW.block ?_
 refine AW.loop (fun z : Nat => z ≤ x.length) (fun z : Nat => keep [(2, .cel (Kd.ptr kField) f), (5, .own 2 (Kd.int .i64) (tlyV f (x.take z))), (13, .cel (Kd.slice kCard) x), (14, .cel (Kd.int .i64) (x.length : Int)), (15, .cel (Kd.int .i64) (z : Int))]) (fun z : Nat => x.length - z) (0) (Nat.zero_le _) (Kc 2 _ (Kv rfl rfl) <| Kc 5 _ (Ko rfl rfl) <| Kc 13 _ (Kv rfl rfl) <| Kc 14 _ (Kv rfl rfl) <| Kc 15 _ (Kv rfl rfl) <| Kn) ?_
 intro z hI
 refine sr ?_
 refine st (OpT.lss (H rfl) (T1 rfl) (T1 rfl)) rfl ?_
 refine ng ?_
 refine AW.seq ?_
 refine cd rfl (fun hc1 => ?_) fun hc1 => ?_
 ·
  obtain ⟨hc1, hc1'⟩ := pT hc1
  obtain ⟨e, he⟩ := getI (x := x) (z := z) (by omega)
  refine AW.skip ?_
  refine AX.go ?_
  refine AW.seq ?_
  refine AW.block ?_
  refine sr ?_
  refine st (OpT.indexAddr (H rfl) (T1 rfl) (T1 rfl) el31 sz86 (by omega) (by assumption)) rfl ?_
  refine st (OpT.loadA (H rfl) (T1 rfl) ag86 sz86) rfl ?_
  refine st (OpT.alloc (H rfl) zr86 zk86) rfl ?_
  refine sk (OpT.storeBA rfl rfl (Opd.whole (Root.self (t := 7) (by decide)) rfl) rfl sz86 (by decide) (T1 rfl)) rfl ?_
  refine ng ?_
  refine AW.region ?_
  refine st (OpT.alias (H rfl) (by decide) (by decide)) rfl ?_
  refine st (OpT.loadA (H rfl) (T1 rfl) ag80 sz80) rfl ?_
  refine st (OpT.loadB (H rfl) (Root.self (t := 7) (by decide)) rfl ag86 sz86) rfl ?_
  refine st (OpT.c1 (ms := [.flat, .flat]) (c_impl_valueIn _ _ hf) (H rfl) (Af (T1 rfl) rfl rfl <| Af (T1 rfl) rfl rfl <| An) rfl rfl) rfl ?_
  refine st (OpT.buildSlice (H rfl) el81 zr2 sz2 rfl (by decide) zk2 (by decide) (Built.cel (T1 rfl) rfl rfl (sub_arr (by decide) (0 : Int)) (Built.nil _))) rfl ?_
  refine sg (OpT.append (H rfl) (Root.ali rfl (by decide) (by decide)) rfl (Src.own (Root.self (t := 23) (by decide)) rfl) (by decide) el81 zr2 rfl sz2 by2 (by decide) (by have h70 := tlyV_len f (x.take z); rw [List.length_take] at h70; simp only [List.length_set, List.length_replicate]; omega)) (ko 24 rfl <| ko 23 rfl <| kc 22 rfl <| ka 21 rfl <| ka 20 rfl <| kb 7 rfl <| ka 18 rfl <| kc4 17 16 2 13 rfl <| kc2 14 15 rfl <| Kn) rfl ?_
  refine sg (OpT.take (.inl rfl) rfl (ok' rfl) (Root.self (by decide)) rfl rfl (by decide)) (ko 5 rfl <| ko 23 rfl <| kc 22 rfl <| ka 21 rfl <| ka 20 rfl <| kb 7 rfl <| ka 18 rfl <| kc4 17 16 2 13 rfl <| kc2 14 15 rfl <| Kn) rfl ?_
  refine nn ?_
  refine AX.normal_block ?_
  refine AX.go ?_
  refine AW.region ?_
  refine st (OpT.add (H rfl) (T1 rfl) (I rfl) (nw (by omega))) rfl ?_
  refine st (mvT rfl) rfl ?_
  refine nn ?_
  exact AX.again (z + 1) (by omega) (by omega) (Kc 2 _ (Kv rfl rfl) <| Kc 5 _ (Ko rfl (tlyV_next he)) <| Kc 13 _ (Kv rfl rfl) <| Kc 14 _ (Kv rfl rfl) <| Kc 15 _ (Kv rfl (by omega)) <| Kn)
 ·
  obtain ⟨hc1, hc1'⟩ := pF hc1
  refine AW.exit ?_
  refine xT <| xT <| AX.exit_hit ?_
  refine AX.go ?_
  refine sr ?_
  refine st (OpT.alias (H rfl) (by decide) (by decide)) rfl ?_
  refine sg (OpT.cr (ms := [.root 5]) (c_slices_Sort_int64_int64 _ (by rw [tlyV_len, List.length_take]; omega)) (H rfl) (Ar (Root.ali rfl (by decide) (by decide)) rfl rfl rfl <| An) rfl (.inl rfl) rfl) (Kc 26 (.ali _) rfl <| kc2 16 2 rfl <| ko 5 rfl <| kc3 13 14 15 rfl <| Kn) rfl ?_
  refine ng ?_
  refine sr ?_
  refine st (OpT.buildSlice0 (m := 0) (z := .bool false) kShare (H rfl) el45 sz54 (by decide)) rfl ?_
  refine sg (OpT.take (.inl rfl) rfl (ok' rfl) (Root.self (by decide)) rfl rfl (by decide)) (ko 8 rfl <| Kc 26 (.ali _) rfl <| kc2 16 2 rfl <| ko 5 rfl <| kc3 13 14 15 rfl <| Kn) rfl ?_
  refine ng ?_
  refine AW.seq ?_
  refine sr ?_
  refine st (OpT.alias (H rfl) (by decide) (by decide)) rfl ?_
  refine st (OpT.lenO (H rfl) (Root.ali rfl (by decide) (by decide)) rfl el81) rfl ?_
  refine st (mvI rfl) rfl ?_
  refine ng ?_
  refine AW.block ?_
  obtain rfl : z = x.length := by omega
  have hsl := srtI_len (tlyV f x)
  have hvl := tlyV_len f x
  refine AW.loop (fun z : Nat => z ≤ (srtI (tlyV f x)).length) (fun z : Nat => keep [(5, .own 2 (Kd.int .i64) (srtI (tlyV f x))), (29, .ali 5), (30, .cel (Kd.int .i64) ((srtI (tlyV f x)).length : Int)), (31, .cel (Kd.int .i64) (z : Int)), (8, .own 54 kShare (rle ((srtI (tlyV f x)).take z)))]) (fun z : Nat => (srtI (tlyV f x)).length - z) (0) (Nat.zero_le _) (Kc 5 _ (Ko rfl (by rw [List.take_length])) <| Kc 29 _ (rfl) <| Kc 30 _ (Kv rfl (by rw [List.take_length])) <| Kc 31 _ (Kv rfl rfl) <| Kc 8 _ (Ko rfl rfl) <| Kn) ?_
  intro z hI
  refine sr ?_
  refine st (OpT.lss (H rfl) (T1 rfl) (T1 rfl)) rfl ?_
  refine ng ?_
  refine AW.seq ?_
  refine cd rfl (fun hc2 => ?_) fun hc2 => ?_
  ·
   obtain ⟨hc2, hc2'⟩ := pT hc2
   obtain ⟨v, hv⟩ := getI (x := srtI (tlyV f x)) (z := z) (by omega)
   have hrl := rle_in (srtI (tlyV f x)) z (by omega)
   refine AW.skip ?_
   refine AX.go ?_
   refine AW.seq ?_
   refine AW.block ?_
   refine sr ?_
   refine st (OpT.indexAddrO (H rfl) (Root.ali rfl (by decide) (by decide)) rfl (by decide) (T1 rfl) el81 sz2 (by omega) (by assumption)) rfl ?_
   refine st (OpT.loadP (H rfl) (T1 rfl) (.inr ⟨_, _, rfl, (by assumption)⟩) ag2 rfl) rfl ?_
   refine st (asT rfl) rfl ?_
   refine ng ?_
   refine sr ?_
   refine st (OpT.alias (H rfl) (by decide) (by decide)) rfl ?_
   refine st (OpT.lenO (H rfl) (Root.ali rfl (by decide) (by decide)) rfl el45) rfl ?_
   refine st (OpT.sub (H rfl) (T1 rfl) (I rfl) (nw (by omega))) rfl ?_
   refine st (asT rfl) rfl ?_
   refine ng ?_
   refine sr ?_
   refine st (mvT rfl) rfl ?_
   refine st (OpT.geq (H rfl) (T1 rfl) (I rfl)) rfl ?_
   refine st (mvT rfl) rfl ?_
   apply AWl.and (d := 48) (t := 40) rfl
   ·
    intro hb1 Q1 k1
    have hb1' := lT hb1
    have hgl := getDl (x := (rle ((srtI (tlyV f x)).take z))) (d := (0, 0)) (by omega)
    refine rs hb1 (OpT.alias (H rfl) (by decide) (by decide)) rfl ?_
    refine rs hb1 (mvT rfl) rfl ?_
    refine rs hb1 (OpT.indexAddrO (H rfl) (Root.ali rfl (by decide) (by decide)) rfl (by decide) (T1 rfl) el45 sz54 (by omega) (by assumption)) rfl ?_
    refine rs hb1 (OpT.fieldAddrE (H rfl) (T1 rfl) (.inr ⟨_, _, rfl, (by assumption)⟩) (by decide) fd54_0 sz2 (by decide) sb54_0 (by decide)) rfl ?_
    refine rs hb1 (OpT.loadP (H rfl) (T1 rfl) (.inr ⟨_, _, rfl, (by assumption)⟩) ag2 rfl) rfl ?_
    refine rs hb1 (mvT rfl) rfl ?_
    refine rs hb1 (OpT.eql (H rfl) (T1 rfl) (T1 rfl)) rfl ?_
    refine st (OpT.pickT (A := .cel _ _) (H rfl) (T1 rfl) hb1 (T1 rfl) rfl) rfl ?_
    exact AWl.to (junk 7 rfl) k1
   ·
    intro hb1 Q1 k1
    refine ps hb1 rfl ?_
    refine ps hb1 rfl ?_
    refine ps hb1 rfl ?_
    refine ps hb1 rfl ?_
    refine ps hb1 rfl ?_
    refine ps hb1 rfl ?_
    refine ps hb1 rfl ?_
    refine st (OpT.pickF (A := .cel _ _) (H rfl) (T1 rfl) hb1 Opd.bool rfl) rfl ?_
    exact k1
   refine ng ?_
   refine cd rfl (fun hc3 => ?_) fun hc3 => ?_
   ·
    obtain ⟨hc3, hc3'⟩ := pT hc3
    have hgv : (((rle ((srtI (tlyV f x)).take z)).length : Int) - 1 ≥ 0) ∧ ((rle ((srtI (tlyV f x)).take z)).getD ((rle ((srtI (tlyV f x)).take z)).length - 1) (0, 0)).1 = v := (by rw [Bool.and_eq_true, decide_eq_true_eq, beq_iff_eq] at hc3; exact hc3)
    have hgl := getDl (x := (rle ((srtI (tlyV f x)).take z))) (d := (0, 0)) (by omega)
    have htb := hrl.2 _ (mem_getI hgl)
    refine AW.region ?_
    refine st (OpT.alias (H rfl) (by decide) (by decide)) rfl ?_
    refine st (mvT rfl) rfl ?_
    refine st (OpT.indexAddrO (H rfl) (Root.ali rfl (by decide) (by decide)) rfl (by decide) (T1 rfl) el45 sz54 (by omega) (by assumption)) rfl ?_
    refine st (OpT.fieldAddrE (H rfl) (T1 rfl) (.inr ⟨_, _, rfl, (by assumption)⟩) (by decide) fd54_1 sz2 (by decide) sb54_1 (by decide)) rfl ?_
    refine st (OpT.loadP (H rfl) (T1 rfl) (.inr ⟨_, _, rfl, (by assumption)⟩) ag2 rfl) rfl ?_
    refine st (OpT.add (H rfl) (T1 rfl) (I rfl) (nw (by omega))) rfl ?_
    refine st (OpT.indexAddrO (H rfl) (Root.ali rfl (by decide) (by decide)) rfl (by decide) (T1 rfl) el45 sz54 (by omega) (by assumption)) rfl ?_
    refine st (OpT.fieldAddrE (H rfl) (T1 rfl) (.inr ⟨_, _, rfl, (by assumption)⟩) (by decide) fd54_1 sz2 (by decide) sb54_1 (by decide)) rfl ?_
    refine sk (OpT.storeO rfl rfl (T1 rfl) rfl (by assumption) sz2 rfl (T1 rfl)) rfl ?_
    refine nn ?_
    refine AX.normal_block ?_
    refine AX.go ?_
    refine AW.region ?_
    refine st (OpT.add (H rfl) (T1 rfl) (I rfl) (nw (by omega))) rfl ?_
    refine st (mvT rfl) rfl ?_
    refine nn ?_
    exact AX.again (z + 1) (by omega) (by omega) (Kc 5 _ (Ko rfl rfl) <| Kc 29 _ (rfl) <| Kc 30 _ (Kv rfl rfl) <| Kc 31 _ (Kv rfl (by omega)) <| Kc 8 _ (Ko rfl (by first | exact rle_yes hv hgl hgv.2 | exact rle_out hv hgn)) <| Kn)
   ·
    obtain ⟨hc3, hc3'⟩ := pF hc3
    have hgn : ¬ ((((rle ((srtI (tlyV f x)).take z)).length : Int) - 1 ≥ 0) ∧ ((rle ((srtI (tlyV f x)).take z)).getD ((rle ((srtI (tlyV f x)).take z)).length - 1) (0, 0)).1 = v) := fun h9 => by rw [decide_eq_true h9.1, beq_iff_eq.2 h9.2] at hc3; cases hc3
    refine AW.region ?_
    refine st (OpT.alias (H rfl) (by decide) (by decide)) rfl ?_
    refine st (mvT rfl) rfl ?_
    refine st (OpT.build (H rfl) pl54 zr54 zk54 (Built.cel (T1 rfl) rfl rfl sb54_0 (Built.cel (I rfl) rfl rfl sb54_1 (Built.nil _)))) rfl ?_
    refine st (OpT.buildSlice (H rfl) el45 zr54 sz54 rfl (by decide) zk54 (by decide) (Built.agg (T1 rfl) rfl (by decide) (sub_arr (by decide) ((0, 0) : Int × Int)) (Built.nil _))) rfl ?_
    refine sg (OpT.append (H rfl) (Root.ali rfl (by decide) (by decide)) rfl (Src.own (Root.self (t := 60) (by decide)) rfl) (by decide) el45 zr54 rfl sz54 by54 (by decide) (by simp only [List.length_set, List.length_replicate]; omega)) (ko 61 rfl <| ko 60 rfl <| ka 59 rfl <| kc4 58 48 40 39 rfl <| kc4 38 11 37 36 rfl <| kc2 10 34 rfl <| Kc 33 (.pel _ _ _ _ _ _ _) rfl <| kc 32 rfl <| ko 5 rfl <| Kc 29 (.ali _) rfl <| kc2 30 31 rfl <| Kn) rfl ?_
    refine sg (OpT.take (.inl rfl) rfl (ok' rfl) (Root.self (by decide)) rfl rfl (by decide)) (ko 8 rfl <| ko 60 rfl <| ka 59 rfl <| kc4 58 48 40 39 rfl <| kc4 38 11 37 36 rfl <| kc2 10 34 rfl <| Kc 33 (.pel _ _ _ _ _ _ _) rfl <| kc 32 rfl <| ko 5 rfl <| Kc 29 (.ali _) rfl <| kc2 30 31 rfl <| Kn) rfl ?_
    refine nn ?_
    refine AX.normal_block ?_
    refine AX.go ?_
    refine AW.region ?_
    refine st (OpT.add (H rfl) (T1 rfl) (I rfl) (nw (by omega))) rfl ?_
    refine st (mvT rfl) rfl ?_
    refine nn ?_
    exact AX.again (z + 1) (by omega) (by omega) (Kc 5 _ (Ko rfl rfl) <| Kc 29 _ (rfl) <| Kc 30 _ (Kv rfl rfl) <| Kc 31 _ (Kv rfl (by omega)) <| Kc 8 _ (Ko rfl (by first | exact rle_yes hv hgl hgv.2 | exact rle_out hv hgn)) <| Kn)
  ·
   obtain ⟨hc2, hc2'⟩ := pF hc2
   refine AW.exit ?_
   refine xT <| xT <| AX.exit_hit ?_
   refine AX.go ?_
   refine sr ?_
   refine st (OpT.alias (H rfl) (by decide) (by decide)) rfl ?_
   refine sg (OpT.take (.inl rfl) rfl (ok' rfl) (Root.ali rfl (by decide) (by decide)) rfl rfl (by decide)) (ko 4 rfl <| kc 32 rfl <| ko 5 rfl <| Kc 29 (.ali _) rfl <| kc2 30 31 rfl <| Kn) rfl ?_
   refine ng ?_
   refine AW.ret ?_
   exact AX.rt (rs := [.tmp 4]) (ts := [some 4]) (.inl rfl) rfl (ROs.cons (RO.tmp (At.self (by decide)) (Ko rfl (by rw [List.take_of_length_le (by omega)]; rfl)) rfl) <| ROs.nil) (by decide) OutsOK.nil
theorem c_impl_tally (f : DField) (x : List DCard) (hf : fieldOK f) (hx : x.length ≤ 60) : AC Tryz.prog 51 [.agg kField f, .cel (Kd.slice kCard) x] [.cel (Kd.slice kShare) (tly f x)] [] := (c_impl_tally_o f x hf hx).frz rfl

/-- impl.TallyOf -/
theorem c_impl_TallyOf_o (s : List DField) (x : List DCard) (i : Int) : AC Tryz.prog 21 [.cel (Kd.slice kField) s, .cel (Kd.slice kCard) x, .cel (Kd.int .i64) i] [.own 54 kShare (tlyS s x i).1, .cel (Kd.int .i64) (tlyS s x i).2] [] := by
 refine acI (N := 23) Tryz.func21 (Nat.le_of_ble_eq_true rfl) rfl fun w0 hd s0 ar => ?_
 refine AW.to (kc3 0 1 2 rfl <| Kn) ?_
 refine AW.fact (fun a w hr => (ok_slice (R_ok (t := 0) rfl hr)).2) (fun hl0 => ?_)
 refine AW.fact (fun a w hr => (ok_slice (R_ok (t := 1) rfl hr)).2) (fun hl1 => ?_)
 refine sr ?_
 refine st (nilO (E := 54) kShare rfl (.inl rfl)) rfl ?_
 refine st (asI rfl) rfl ?_
 refine ng ?_
 refine AW.seq ?_
 refine sr ?_
 refine st (mvT rfl) rfl ?_
 refine st (mvT rfl) rfl ?_
 refine st (mvT rfl) rfl ?_
 refine st (OpT.buildSlice (H rfl) el81 zr2 sz2 rfl (by decide) zk2 (by decide) (Built.cel (T1 rfl) rfl rfl (sub_arr (by decide) (0 : Int)) (Built.nil _))) rfl ?_
 refine st (cb1 (ms := [.flat, .flat, .bor 12]) (c_impl_checkTable s x [i]) (H rfl) (Af (T1 rfl) rfl rfl <| Af (T1 rfl) rfl rfl <| Ab (Root.self (t := 12) (by decide)) rfl <| An) rfl (indC fun _ _ _ _ h => h)) rfl ?_
 refine st (asT rfl) rfl ?_
 refine ng ?_
 refine sr ?_
 refine st (mvT rfl) rfl ?_
 refine st (OpT.neq (H rfl) (T1 rfl) (I rfl)) rfl ?_
 refine ng ?_
 refine cd rfl (fun hc1 => ?_) fun hc1 => ?_
 ·
  obtain ⟨hc1, hc1'⟩ := pT hc1
  have hcn : tabF s x [i] ≠ 0 := by omega
  refine sr ?_
  refine st (mvT rfl) rfl ?_
  refine st (nilO (E := 54) kShare rfl (.inl rfl)) rfl ?_
  refine st (asT rfl) rfl ?_
  refine AWl.to (kc 7 rfl <| ko 6 rfl <| kc3 0 1 2 rfl <| Kn) ?_
  refine ng ?_
  refine AW.ret ?_
  refine rT ?_
  exact AX.rt (rs := [.tmp 6, .tmp 7]) (ts := [some 6, some 7]) (.inl rfl) rfl (ROs.cons (RO.tmp (At.self (by decide)) (Ko rfl (by first | (rw [tlyS_no hcn]; done) | (rw [tlyS_yes hz hf]; first | done | rfl | exact tly_all f x))) rfl) <| ROs.cons (RO.tmp (At.self (by decide)) (Kv rfl (by first | (rw [tlyS_no hcn]; done) | (rw [tlyS_yes hz hf]; first | done | rfl | exact tly_all f x))) rfl) <| ROs.nil) (by decide) OutsOK.nil
 ·
  obtain ⟨hc1, hc1'⟩ := pF hc1
  have hz : tabF s x [i] = 0 := by omega
  have htb := tab_one hz
  obtain ⟨f, hf⟩ : ∃ f, s[Int.toNat i]? = some f := ⟨_, List.getElem?_eq_getElem (by omega)⟩
  have hfo := tab_field htb.2.1 hf
  refine AW.skip ?_
  refine AX.go ?_
  refine sr ?_
  refine st (mvT rfl) rfl ?_
  refine st (mvT rfl) rfl ?_
  refine st (OpT.indexAddr (H rfl) (T1 rfl) (T1 rfl) el29 sz80 (by omega) (by assumption)) rfl ?_
  refine st (OpT.loadA (H rfl) (T1 rfl) ag80 sz80) rfl ?_
  refine st (mvT rfl) rfl ?_
  refine st (OpT.c1 (ms := [.flat, .flat]) (c_impl_tally_o _ _ hfo (by omega)) (H rfl) (Af (T1 rfl) rfl rfl <| Af (T1 rfl) rfl rfl <| An) rfl rfl) rfl ?_
  refine sg (OpT.take (.inl rfl) rfl (ok' rfl) (Root.self (by decide)) rfl rfl (by decide)) (ko 6 rfl <| kc 21 rfl <| ka 20 rfl <| kc4 19 18 17 15 rfl <| kc3 14 8 13 rfl <| ko 12 rfl <| kc4 11 10 9 7 rfl <| kc3 0 1 2 rfl <| Kn) rfl ?_
  refine st (asI rfl) rfl ?_
  refine AWl.to (kc 7 rfl <| ko 6 rfl <| Kn) ?_
  refine ng ?_
  refine AW.ret ?_
  exact AX.rt (rs := [.tmp 6, .tmp 7]) (ts := [some 6, some 7]) (.inl rfl) rfl (ROs.cons (RO.tmp (At.self (by decide)) (Ko rfl (by first | (rw [tlyS_no hcn]; done) | (rw [tlyS_yes hz hf]; first | done | rfl | exact tly_all f x))) rfl) <| ROs.cons (RO.tmp (At.self (by decide)) (Kv rfl (by first | (rw [tlyS_no hcn]; done) | (rw [tlyS_yes hz hf]; first | done | rfl | exact tly_all f x))) rfl) <| ROs.nil) (by decide) OutsOK.nil
theorem c_impl_TallyOf (s : List DField) (x : List DCard) (i : Int) : AC Tryz.prog 21 [.cel (Kd.slice kField) s, .cel (Kd.slice kCard) x, .cel (Kd.int .i64) i] [.cel (Kd.slice kShare) (tlyS s x i).1, .cel (Kd.int .i64) (tlyS s x i).2] [] := (c_impl_TallyOf_o s x i).frz rfl

/-- spec.TallyOf -/
theorem c_spec_TallyOf (s : List DField) (x : List DCard) (i : Int) : AC Tryz.prog 22 [.cel (Kd.slice kField) s, .cel (Kd.slice kCard) x, .cel (Kd.int .i64) i] [.cel (Kd.slice kShare) (tlyS s x i).1, .cel (Kd.int .i64) (tlyS s x i).2] [] := by
 refine acI (N := 25) Tryz.func22 (Nat.le_of_ble_eq_true rfl) rfl fun w0 hd s0 ar => ?_
 refine AW.to (kc3 0 1 2 rfl <| Kn) ?_
 refine AW.fact (fun a w hr => (ok_slice (R_ok (t := 0) rfl hr)).2) (fun hl0 => ?_)
 refine AW.fact (fun a w hr => (ok_slice (R_ok (t := 1) rfl hr)).2) (fun hl1 => ?_)
 have hts := tabF_same (s := s) (x := x) (i := i)
 refine sr ?_
 refine st (OpT.move (A := .cel _ _) (.inr rfl) rfl (ok' rfl) (Opd.nilslice kShare) rfl) rfl ?_
 refine st (asI rfl) rfl ?_
 refine ng ?_
 refine AW.seq ?_
 refine sr ?_
 refine st (mvT rfl) rfl ?_
 refine st (mvT rfl) rfl ?_
 refine st (mvT rfl) rfl ?_
 refine st (mvT rfl) rfl ?_
 refine st (OpT.c1 (ms := [.flat, .flat, .flat, .flat]) (hts ▸ c_spec_l06Asked s x i i) (H rfl) (Af (T1 rfl) rfl rfl <| Af (T1 rfl) rfl rfl <| Af (T1 rfl) rfl rfl <| Af (T1 rfl) rfl rfl <| An) rfl rfl) rfl ?_
 refine st (asT rfl) rfl ?_
 refine ng ?_
 refine sr ?_
 refine st (mvT rfl) rfl ?_
 refine st (OpT.neq (H rfl) (T1 rfl) (I rfl)) rfl ?_
 refine ng ?_
 refine cd rfl (fun hc1 => ?_) fun hc1 => ?_
 ·
  obtain ⟨hc1, hc1'⟩ := pT hc1
  have hcn : tabF s x [i] ≠ 0 := by omega
  refine sr ?_
  refine st (OpT.buildSlice0 (m := 0) (z := .bool false) kShare (H rfl) el45 sz54 (by decide)) rfl ?_
  refine st (mvT rfl) rfl ?_
  refine sg (OpT.take (.inl rfl) rfl (ok' rfl) (Root.self (by decide)) rfl rfl (by decide)) (ko 6 rfl <| kc4 17 15 14 8 rfl <| kc4 13 12 11 10 rfl <| kc4 9 7 0 1 rfl <| kc 2 rfl <| Kn) rfl ?_
  refine st (asT rfl) rfl ?_
  refine ng ?_
  refine AW.ret ?_
  refine rT ?_
  refine AX.freeze (t := 6) rfl ?_
  refine AX.pr (kc4 7 6 17 15 rfl <| kc4 14 8 13 12 rfl <| kc4 11 10 9 7 rfl <| kc3 0 1 2 rfl <| Kn) ?_
  exact rt2 rfl (.inl rfl) (by first | (rw [tlyS_no hcn]; done) | (rw [tlyS_yes hz hf]; first | done | rfl | exact tly_all f x)) (by first | (rw [tlyS_no hcn]; done) | (rw [tlyS_yes hz hf]; first | done | rfl | exact tly_all f x))
 ·
  obtain ⟨hc1, hc1'⟩ := pF hc1
  have hz : tabF s x [i] = 0 := by omega
  have htb := tab_one hz
  obtain ⟨f, hf⟩ : ∃ f, s[Int.toNat i]? = some f := ⟨_, List.getElem?_eq_getElem (by omega)⟩
  have hfo := tab_field htb.2.1 hf
  refine AW.skip ?_
  refine AX.pr (kc4 7 6 0 1 rfl <| kc 2 rfl <| Kn) ?_
  refine AX.go ?_
  refine AW.seq ?_
  refine dh fomo ?_
  refine d1 [0] (fun ve h => OpT.move (A := .cel _ _) (.inl rfl) rfl (ok' rfl) (D1 h rfl) rfl) rfl ?_
  refine d1 [2] (fun ve h => OpT.move (A := .cel _ _) (.inl rfl) rfl (ok' rfl) (D1 h rfl) rfl) rfl ?_
  refine d1 [18, 19] (fun ve h => OpT.indexAddr (H rfl) (D1 h rfl) (D1 h rfl) el29 sz80 (by omega) (by assumption)) rfl ?_
  refine d1 [1] (fun ve h => OpT.move (A := .cel _ _) (.inl rfl) rfl (ok' rfl) (D1 h rfl) rfl) rfl ?_
  refine d1 [1] (fun ve h => OpT.move (A := .cel _ _) (.inl rfl) rfl (ok' rfl) (D1 h rfl) rfl) rfl ?_
  refine d1 [22] (fun ve h => OpT.c1 (ms := [.flat]) (c_spec_l06All _ (by omega)) (H rfl) (Af (D1 h rfl) rfl rfl <| An) rfl rfl) rfl ?_
  refine d1 [20, 21, 23] (fun ve h => OpT.c1 (ms := [.flat, .flat, .flat]) (c_spec_l06Tally _ _ _ hfo (by rw [idxL_len]; omega) (fun j hj => idxL_in hj)) (H rfl) (Af (D1 h rfl) rfl rfl <| Af (D1 h rfl) rfl rfl <| Af (D1 h rfl) rfl rfl <| An) rfl rfl) rfl ?_
  refine d1 [24] (fun ve h => OpT.move (A := .cel _ _) (.inr rfl) rfl (ok' rfl) (D1 h rfl) rfl) rfl ?_
  refine d1 [] (fun ve h => asI rfl) rfl ?_
  refine dn ⟨by kernel_rfl, by kernel_rfl, ?_⟩
  refine AX.pr (kc2 7 6 rfl <| Kn) ?_
  refine AX.go ?_
  refine AW.ret ?_
  exact rt2 rfl (.inl rfl) (by first | (rw [tlyS_no hcn]; done) | (rw [tlyS_yes hz hf]; first | done | rfl | exact tly_all f x)) (by first | (rw [tlyS_no hcn]; done) | (rw [tlyS_yes hz hf]; first | done | rfl | exact tly_all f x))

/-- impl.splitOf -/
theorem c_impl_splitOf (f : DField) (x : List DCard) (hf : fieldOK f) (hx : x.length ≤ 60) : AC Tryz.prog 53 [.agg kField f, .cel (Kd.slice kCard) x] [.cel (Kd.int .i64) (spl (tly f x))] [] := by
 refine acI (N := 25) Tryz.func53 (Nat.le_of_ble_eq_true rfl) rfl fun w0 hd s0 ar => ?_
 refine AW.to (ka 0 rfl <| kc 1 rfl <| Kn) ?_
 have hb := tly_in f x
 refine sr ?_
 refine st (OpT.frz (OpT.boxA (E := 80) (H rfl) (T1 rfl))) rfl ?_
 refine st (asI rfl) rfl ?_
 refine ng ?_
 refine sr ?_
 refine st (asI rfl) rfl ?_
 refine ng ?_
 refine AW.seq ?_
 refine sr ?_
 refine st (OpT.loadA (H rfl) (T1 rfl) ag80 sz80) rfl ?_
 refine st (mvT rfl) rfl ?_
 refine st (OpT.c1 (ms := [.flat, .flat]) (c_impl_tally _ _ hf hx) (H rfl) (Af (T1 rfl) rfl rfl <| Af (T1 rfl) rfl rfl <| An) rfl rfl) rfl ?_
 refine st (OpT.len (H rfl) (T1 rfl) el45) rfl ?_
 refine st (mvI rfl) rfl ?_
 refine ng ?_
 refine AW.block ?_
 refine AW.loop (fun z : Nat => z ≤ (tly f x).length) (fun z : Nat => keep [(5, .cel (Kd.int .i64) (spl ((tly f x).take z))), (10, .cel (Kd.slice kShare) (tly f x)), (11, .cel (Kd.int .i64) ((tly f x).length : Int)), (12, .cel (Kd.int .i64) (z : Int))]) (fun z : Nat => (tly f x).length - z) (0) (Nat.zero_le _) (Kc 5 _ (Kv rfl rfl) <| Kc 10 _ (Kv rfl rfl) <| Kc 11 _ (Kv rfl rfl) <| Kc 12 _ (Kv rfl rfl) <| Kn) ?_
 intro z hI
 refine sr ?_
 refine st (OpT.lss (H rfl) (T1 rfl) (T1 rfl)) rfl ?_
 refine ng ?_
 refine AW.seq ?_
 refine cd rfl (fun hc1 => ?_) fun hc1 => ?_
 ·
  obtain ⟨hc1, hc1'⟩ := pT hc1
  obtain ⟨t, ht⟩ := getI (x := tly f x) (z := z) (by omega)
  have htb := hb.2 t (mem_getI ht)
  have hsz := spl_in hb hx z
  have hsq := sq_in htb hx
  refine AW.skip ?_
  refine AX.go ?_
  refine AW.seq ?_
  refine AW.block ?_
  refine sr ?_
  refine st (OpT.indexAddr (H rfl) (T1 rfl) (T1 rfl) el45 sz54 (by omega) (by assumption)) rfl ?_
  refine st (OpT.loadA (H rfl) (T1 rfl) ag54 sz54) rfl ?_
  refine st (OpT.alloc (H rfl) zr54 zk54) rfl ?_
  refine sk (OpT.storeBA rfl rfl (Opd.whole (Root.self (t := 7) (by decide)) rfl) rfl sz54 (by decide) (T1 rfl)) rfl ?_
  refine ng ?_
  refine AW.region ?_
  refine st (mvT rfl) rfl ?_
  refine st (OpT.fieldAddrB (H rfl) (Root.self (t := 7) (by decide)) rfl (by decide) fd54_1 sz2 (by decide) sb54_1) rfl ?_
  refine st (OpT.loadP (H rfl) (T1 rfl) (.inl ⟨_, rfl, rfl⟩) ag2 rfl) rfl ?_
  refine st (OpT.fieldAddrB (H rfl) (Root.self (t := 7) (by decide)) rfl (by decide) fd54_1 sz2 (by decide) sb54_1) rfl ?_
  refine st (OpT.loadP (H rfl) (T1 rfl) (.inl ⟨_, rfl, rfl⟩) ag2 rfl) rfl ?_
  refine st (OpT.mul (H rfl) (T1 rfl) (T1 rfl) (nw (by omega))) rfl ?_
  refine st (OpT.add (H rfl) (T1 rfl) (T1 rfl) (nw (by omega))) rfl ?_
  refine st (asT rfl) rfl ?_
  refine nn ?_
  refine AX.normal_block ?_
  refine AX.go ?_
  refine AW.region ?_
  refine st (OpT.add (H rfl) (T1 rfl) (I rfl) (nw (by omega))) rfl ?_
  refine st (mvT rfl) rfl ?_
  refine nn ?_
  exact AX.again (z + 1) (by omega) (by omega) (Kc 5 _ (Kv rfl (spl_next ht)) <| Kc 10 _ (Kv rfl rfl) <| Kc 11 _ (Kv rfl rfl) <| Kc 12 _ (Kv rfl (by omega)) <| Kn)
 ·
  obtain ⟨hc1, hc1'⟩ := pF hc1
  refine AW.exit ?_
  refine xT <| xT <| AX.exit_hit ?_
  refine AX.go ?_
  refine sr ?_
  refine st (mvT rfl) rfl ?_
  refine st (asT rfl) rfl ?_
  refine ng ?_
  refine AW.ret ?_
  exact rt1 rfl (.inl rfl) (by rw [List.take_of_length_le (by omega)])

/-- impl.SplitOf -/
theorem c_impl_SplitOf (s : List DField) (x : List DCard) (i : Int) : AC Tryz.prog 26 [.cel (Kd.slice kField) s, .cel (Kd.slice kCard) x, .cel (Kd.int .i64) i] [.cel (Kd.int .i64) (splS s x i).1, .cel (Kd.int .i64) (splS s x i).2] [] := by
 refine acI (N := 23) Tryz.func26 (Nat.le_of_ble_eq_true rfl) rfl fun w0 hd s0 ar => ?_
 refine AW.to (kc3 0 1 2 rfl <| Kn) ?_
 refine AW.fact (fun a w hr => (ok_slice (R_ok (t := 0) rfl hr)).2) (fun hl0 => ?_)
 refine AW.fact (fun a w hr => (ok_slice (R_ok (t := 1) rfl hr)).2) (fun hl1 => ?_)
 refine sr ?_
 refine st (asI rfl) rfl ?_
 refine st (asI rfl) rfl ?_
 refine ng ?_
 refine AW.seq ?_
 refine sr ?_
 refine st (mvT rfl) rfl ?_
 refine st (mvT rfl) rfl ?_
 refine st (mvT rfl) rfl ?_
 refine st (OpT.buildSlice (H rfl) el81 zr2 sz2 rfl (by decide) zk2 (by decide) (Built.cel (T1 rfl) rfl rfl (sub_arr (by decide) (0 : Int)) (Built.nil _))) rfl ?_
 refine st (cb1 (ms := [.flat, .flat, .bor 12]) (c_impl_checkTable s x [i]) (H rfl) (Af (T1 rfl) rfl rfl <| Af (T1 rfl) rfl rfl <| Ab (Root.self (t := 12) (by decide)) rfl <| An) rfl (indC fun _ _ _ _ h => h)) rfl ?_
 refine st (asT rfl) rfl ?_
 refine ng ?_
 refine sr ?_
 refine st (mvT rfl) rfl ?_
 refine st (OpT.neq (H rfl) (T1 rfl) (I rfl)) rfl ?_
 refine ng ?_
 refine cd rfl (fun hc1 => ?_) fun hc1 => ?_
 ·
  obtain ⟨hc1, hc1'⟩ := pT hc1
  have hcn : tabF s x [i] ≠ 0 := by omega
  refine sr ?_
  refine st (mvT rfl) rfl ?_
  refine st (asI rfl) rfl ?_
  refine st (asT rfl) rfl ?_
  refine AWl.to (kc4 7 6 0 1 rfl <| kc 2 rfl <| Kn) ?_
  refine ng ?_
  refine AW.ret ?_
  refine rT ?_
  exact rt2 rfl (.inl rfl) (by first | (rw [splS_no hcn]; done) | (rw [splS_yes hz hf]; first | done | rfl)) (by first | (rw [splS_no hcn]; done) | (rw [splS_yes hz hf]; first | done | rfl))
 ·
  obtain ⟨hc1, hc1'⟩ := pF hc1
  have hz : tabF s x [i] = 0 := by omega
  have htb := tab_one hz
  obtain ⟨f, hf⟩ : ∃ f, s[Int.toNat i]? = some f := ⟨_, List.getElem?_eq_getElem (by omega)⟩
  have hfo := tab_field htb.2.1 hf
  refine AW.skip ?_
  refine AX.go ?_
  refine sr ?_
  refine st (mvT rfl) rfl ?_
  refine st (mvT rfl) rfl ?_
  refine st (OpT.indexAddr (H rfl) (T1 rfl) (T1 rfl) el29 sz80 (by omega) (by assumption)) rfl ?_
  refine st (OpT.loadA (H rfl) (T1 rfl) ag80 sz80) rfl ?_
  refine st (mvT rfl) rfl ?_
  refine st (OpT.c1 (ms := [.flat, .flat]) (c_impl_splitOf _ _ hfo (by omega)) (H rfl) (Af (T1 rfl) rfl rfl <| Af (T1 rfl) rfl rfl <| An) rfl rfl) rfl ?_
  refine st (asT rfl) rfl ?_
  refine st (asI rfl) rfl ?_
  refine AWl.to (kc2 7 6 rfl <| Kn) ?_
  refine ng ?_
  refine AW.ret ?_
  exact rt2 rfl (.inl rfl) (by first | (rw [splS_no hcn]; done) | (rw [splS_yes hz hf]; first | done | rfl)) (by first | (rw [splS_no hcn]; done) | (rw [splS_yes hz hf]; first | done | rfl))

/-- impl.BestField -/
theorem c_impl_BestField (s : List DField) (x : List DCard) : AC Tryz.prog 27 [.cel (Kd.slice kField) s, .cel (Kd.slice kCard) x] [.cel (Kd.int .i64) (bestS s x).1, .cel (Kd.int .i64) (bestS s x).2.1, .cel (Kd.int .i64) (bestS s x).2.2] [] := by
 refine acI (N := 44) Tryz.func27 (Nat.le_of_ble_eq_true rfl) rfl fun w0 hd s0 ar => ?_
 refine AW.to (kc2 0 1 rfl <| Kn) ?_
 refine AW.fact (fun a w hr => (ok_slice (R_ok (t := 0) rfl hr)).2) (fun hl0 => ?_)
 refine AW.fact (fun a w hr => (ok_slice (R_ok (t := 1) rfl hr)).2) (fun hl1 => ?_)
 have htn := tabF_nil (s := s) (x := x)
 refine sr ?_
 refine st (asI rfl) rfl ?_
 refine st (asI rfl) rfl ?_
 refine st (asI rfl) rfl ?_
 refine ng ?_
 refine AW.seq ?_
 refine sr ?_
 refine st (mvT rfl) rfl ?_
 refine st (mvT rfl) rfl ?_
 refine st (OpT.c1 (ms := [.flat, .flat, .flat]) (htn ▸ c_impl_checkTable s x []) (H rfl) (Af (T1 rfl) rfl rfl <| Af (T1 rfl) rfl rfl <| Af (Opd.nilslice _) rfl rfl <| An) rfl rfl) rfl ?_
 refine st (asT rfl) rfl ?_
 refine ng ?_
 refine sr ?_
 refine st (mvT rfl) rfl ?_
 refine st (OpT.neq (H rfl) (T1 rfl) (I rfl)) rfl ?_
 refine ng ?_
 refine cd rfl (fun hc1 => ?_) fun hc1 => ?_
 ·
  obtain ⟨hc1, hc1'⟩ := pT hc1
  have hcn : tabE s x ≠ 0 := by omega
  refine sr ?_
  refine st (mvT rfl) rfl ?_
  refine st (asI rfl) rfl ?_
  refine st (asI rfl) rfl ?_
  refine st (asT rfl) rfl ?_
  refine ng ?_
  refine AW.ret ?_
  refine rT ?_
  exact AX.rt (rs := [.tmp 4, .tmp 5, .tmp 6]) (ts := [some 4, some 5, some 6]) (.inl rfl) rfl (ROs.cons (RO.tmp (At.self (by decide)) (Kv rfl (by first | (rw [best_no hcn]; done) | (rw [best_none hz (by omega)]; done) | (rw [best_yes hz (by omega), show z = s.length by omega]))) rfl) <| ROs.cons (RO.tmp (At.self (by decide)) (Kv rfl (by first | (rw [best_no hcn]; done) | (rw [best_none hz (by omega)]; done) | (rw [best_yes hz (by omega), if_neg (by omega), show z = s.length by omega]))) rfl) <| ROs.cons (RO.tmp (At.self (by decide)) (Kv rfl (by first | (rw [best_no hcn]; done) | (rw [best_none hz (by omega)]; done) | (rw [best_yes hz (by omega)]; done))) rfl) <| ROs.nil) (by decide) OutsOK.nil
 ·
  obtain ⟨hc1, hc1'⟩ := pF hc1
  have hz : tabE s x = 0 := by omega
  have htb := tabE_ok hz
  refine AW.skip ?_
  refine AX.go ?_
  refine AW.seq ?_
  refine sr ?_
  refine st (mvT rfl) rfl ?_
  refine st (OpT.len (H rfl) (T1 rfl) el29) rfl ?_
  refine st (OpT.eql (H rfl) (T1 rfl) (I rfl)) rfl ?_
  refine ng ?_
  refine cd rfl (fun hc2 => ?_) fun hc2 => ?_
  ·
   obtain ⟨hc2, hc2'⟩ := pT hc2
   refine sr ?_
   refine st (asI rfl) rfl ?_
   refine st (asI rfl) rfl ?_
   refine st (asI rfl) rfl ?_
   refine AWl.to (kc4 6 5 4 0 rfl <| kc 1 rfl <| Kn) ?_
   refine ng ?_
   refine AW.ret ?_
   refine rT ?_
   exact AX.rt (rs := [.tmp 4, .tmp 5, .tmp 6]) (ts := [some 4, some 5, some 6]) (.inl rfl) rfl (ROs.cons (RO.tmp (At.self (by decide)) (Kv rfl (by first | (rw [best_no hcn]; done) | (rw [best_none hz (by omega)]; done) | (rw [best_yes hz (by omega), show z = s.length by omega]))) rfl) <| ROs.cons (RO.tmp (At.self (by decide)) (Kv rfl (by first | (rw [best_no hcn]; done) | (rw [best_none hz (by omega)]; done) | (rw [best_yes hz (by omega), if_neg (by omega), show z = s.length by omega]))) rfl) <| ROs.cons (RO.tmp (At.self (by decide)) (Kv rfl (by first | (rw [best_no hcn]; done) | (rw [best_none hz (by omega)]; done) | (rw [best_yes hz (by omega)]; done))) rfl) <| ROs.nil) (by decide) OutsOK.nil
  ·
   obtain ⟨hc2, hc2'⟩ := pF hc2
   refine AW.skip ?_
   refine AX.go ?_
   refine sr ?_
   refine st (asI rfl) rfl ?_
   refine st (asI rfl) rfl ?_
   refine ng ?_
   refine AW.seq ?_
   refine sr ?_
   refine st (mvT rfl) rfl ?_
   refine st (OpT.len (H rfl) (T1 rfl) el29) rfl ?_
   refine st (mvI rfl) rfl ?_
   refine ng ?_
   refine AW.block ?_
   refine AW.loop (fun z : Nat => z ≤ s.length) (fun z : Nat => keep [(1, .cel (Kd.slice kCard) x), (22, .cel (Kd.slice kField) s), (23, .cel (Kd.int .i64) (s.length : Int)), (24, .cel (Kd.int .i64) (z : Int)), (8, .cel (Kd.int .i64) (bst s x z).1), (9, .cel (Kd.int .i64) (if z = 0 then -1 else (bst s x z).2))]) (fun z : Nat => s.length - z) (0) (Nat.zero_le _) (Kc 1 _ (Kv rfl rfl) <| Kc 22 _ (Kv rfl rfl) <| Kc 23 _ (Kv rfl rfl) <| Kc 24 _ (Kv rfl rfl) <| Kc 8 _ (Kv rfl rfl) <| Kc 9 _ (Kv rfl rfl) <| Kn) ?_
   intro z hI
   refine sr ?_
   refine st (OpT.lss (H rfl) (T1 rfl) (T1 rfl)) rfl ?_
   refine ng ?_
   refine AW.seq ?_
   refine cd rfl (fun hc3 => ?_) fun hc3 => ?_
   ·
    obtain ⟨hc3, hc3'⟩ := pT hc3
    obtain ⟨f, hf⟩ := getI (x := s) (z := z) (by omega)
    have hfo := sch_field htb.1 hf
    have hbi := bst_in (s := s) htb.2.2 z
    have hsa := spl_all (tly_in f x) htb.2.2
    refine AW.skip ?_
    refine AX.go ?_
    refine AW.seq ?_
    refine AW.block ?_
    refine sr ?_
    refine st (mvT rfl) rfl ?_
    refine st (OpT.indexAddr (H rfl) (T1 rfl) (T1 rfl) el29 sz80 (by omega) (by assumption)) rfl ?_
    refine st (OpT.loadA (H rfl) (T1 rfl) ag80 sz80) rfl ?_
    refine st (OpT.alloc (H rfl) zr80 zk80) rfl ?_
    refine st (asT rfl) rfl ?_
    refine sk (OpT.storeBA rfl rfl (Opd.whole (Root.self (t := 11) (by decide)) rfl) rfl sz80 (by decide) (T1 rfl)) rfl ?_
    refine ng ?_
    refine sr ?_
    refine st (OpT.loadB (H rfl) (Root.self (t := 11) (by decide)) rfl ag80 sz80) rfl ?_
    refine st (mvT rfl) rfl ?_
    refine st (OpT.c1 (ms := [.flat, .flat]) (c_impl_splitOf _ _ hfo htb.2.2) (H rfl) (Af (T1 rfl) rfl rfl <| Af (T1 rfl) rfl rfl <| An) rfl rfl) rfl ?_
    refine st (asT rfl) rfl ?_
    refine ng ?_
    refine sr ?_
    refine st (mvT rfl) rfl ?_
    refine st (OpT.lss (H rfl) (T1 rfl) (I rfl)) rfl ?_
    refine st (mvT rfl) rfl ?_
    apply AWl.or (d := 38) (t := 34) rfl
    ·
     intro hb1 Q1 k1
     have hb1' := lF hb1
     refine rs hb1 (mvT rfl) rfl ?_
     refine rs hb1 (mvT rfl) rfl ?_
     refine rs hb1 (OpT.lss (H rfl) (T1 rfl) (T1 rfl)) rfl ?_
     refine st (OpT.pickF (A := .cel _ _) (H rfl) (T1 rfl) hb1 (T1 rfl) rfl) rfl ?_
     exact AWl.to (junk 3 rfl) k1
    ·
     intro hb1 Q1 k1
     refine ps hb1 rfl ?_
     refine ps hb1 rfl ?_
     refine ps hb1 rfl ?_
     refine st (OpT.pickT (A := .cel _ _) (H rfl) (T1 rfl) hb1 Opd.bool rfl) rfl ?_
     exact k1
    refine ng ?_
    refine cd rfl (fun hc4 => ?_) fun hc4 => ?_
    ·
     obtain ⟨hc4, hc4'⟩ := pT hc4
     have hbz := bst_or hbi.1 hc4'
     refine AW.region ?_
     refine st (mvT rfl) rfl ?_
     refine st (mvT rfl) rfl ?_
     refine st (asT rfl) rfl ?_
     refine st (asT rfl) rfl ?_
     refine nn ?_
     refine AX.normal_block ?_
     refine AX.go ?_
     refine AW.region ?_
     refine st (OpT.add (H rfl) (T1 rfl) (I rfl) (nw (by omega))) rfl ?_
     refine st (mvT rfl) rfl ?_
     refine nn ?_
     exact AX.again (z + 1) (by omega) (by omega) (Kc 1 _ (Kv rfl rfl) <| Kc 22 _ (Kv rfl rfl) <| Kc 23 _ (Kv rfl rfl) <| Kc 24 _ (Kv rfl (by omega)) <| Kc 8 _ (Kv rfl (by first | exact congrArg Prod.fst (bst_yes hf hbz) | exact congrArg Prod.fst (bst_no hf hbn))) <| Kc 9 _ (Kv rfl (by rw [if_neg (Nat.succ_ne_zero z)]; first | exact congrArg Prod.snd (bst_yes hf hbz) | (rw [if_neg hnz]; exact congrArg Prod.snd (bst_no hf hbn)))) <| Kn)
    ·
     obtain ⟨hc4, hc4'⟩ := pF hc4
     have hnz : z ≠ 0 := fun h9 => by rw [if_pos h9, decide_eq_true (p := (-1 : Int) < 0) (by omega)] at hc4; cases hc4
     have hbn : ¬ (z = 0 ∨ spl (tly f x) < (bst s x z).2) := fun h9 => by rw [if_neg hnz, decide_eq_true (h9.resolve_left hnz), Bool.or_true] at hc4; cases hc4
     refine AW.skip ?_
     refine AX.normal_block ?_
     refine AX.go ?_
     refine AW.region ?_
     refine st (OpT.add (H rfl) (T1 rfl) (I rfl) (nw (by omega))) rfl ?_
     refine st (mvT rfl) rfl ?_
     refine nn ?_
     exact AX.again (z + 1) (by omega) (by omega) (Kc 1 _ (Kv rfl rfl) <| Kc 22 _ (Kv rfl rfl) <| Kc 23 _ (Kv rfl rfl) <| Kc 24 _ (Kv rfl (by omega)) <| Kc 8 _ (Kv rfl (by first | exact congrArg Prod.fst (bst_yes hf hbz) | exact congrArg Prod.fst (bst_no hf hbn))) <| Kc 9 _ (Kv rfl (by rw [if_neg (Nat.succ_ne_zero z)]; first | exact congrArg Prod.snd (bst_yes hf hbz) | (rw [if_neg hnz]; exact congrArg Prod.snd (bst_no hf hbn)))) <| Kn)
   ·
    obtain ⟨hc3, hc3'⟩ := pF hc3
    refine AW.exit ?_
    refine xT <| xT <| AX.exit_hit ?_
    refine AX.go ?_
    refine sr ?_
    refine st (mvT rfl) rfl ?_
    refine st (mvT rfl) rfl ?_
    refine st (asT rfl) rfl ?_
    refine st (asT rfl) rfl ?_
    refine st (asI rfl) rfl ?_
    refine ng ?_
    refine AW.ret ?_
    exact AX.rt (rs := [.tmp 4, .tmp 5, .tmp 6]) (ts := [some 4, some 5, some 6]) (.inl rfl) rfl (ROs.cons (RO.tmp (At.self (by decide)) (Kv rfl (by first | (rw [best_no hcn]; done) | (rw [best_none hz (by omega)]; done) | (rw [best_yes hz (by omega), show z = s.length by omega]))) rfl) <| ROs.cons (RO.tmp (At.self (by decide)) (Kv rfl (by first | (rw [best_no hcn]; done) | (rw [best_none hz (by omega)]; done) | (rw [best_yes hz (by omega), if_neg (by omega), show z = s.length by omega]))) rfl) <| ROs.cons (RO.tmp (At.self (by decide)) (Kv rfl (by first | (rw [best_no hcn]; done) | (rw [best_none hz (by omega)]; done) | (rw [best_yes hz (by omega)]; done))) rfl) <| ROs.nil) (by decide) OutsOK.nil

/-- impl.CommonValue -/
theorem c_impl_CommonValue (s : List DField) (x : List DCard) (i : Int) : AC Tryz.prog 28 [.cel (Kd.slice kField) s, .cel (Kd.slice kCard) x, .cel (Kd.int .i64) i] [.cel (Kd.int .i64) (cmnS s x i).1, .agg kShare (cmnS s x i).2.1, .cel (Kd.int .i64) (cmnS s x i).2.2] [] := by
 refine acI (N := 52) Tryz.func28 (Nat.le_of_ble_eq_true rfl) rfl fun w0 hd s0 ar => ?_
 refine AW.to (kc3 0 1 2 rfl <| Kn) ?_
 refine AW.fact (fun a w hr => (ok_slice (R_ok (t := 0) rfl hr)).2) (fun hl0 => ?_)
 refine AW.fact (fun a w hr => (ok_slice (R_ok (t := 1) rfl hr)).2) (fun hl1 => ?_)
 refine sr ?_
 refine st (asI rfl) rfl ?_
 refine st (OpT.alloc (H rfl) zr60 zk60) rfl ?_
 refine st (asI rfl) rfl ?_
 refine ng ?_
 refine AW.seq ?_
 refine sr ?_
 refine st (mvT rfl) rfl ?_
 refine st (mvT rfl) rfl ?_
 refine st (mvT rfl) rfl ?_
 refine st (OpT.buildSlice (H rfl) el81 zr2 sz2 rfl (by decide) zk2 (by decide) (Built.cel (T1 rfl) rfl rfl (sub_arr (by decide) (0 : Int)) (Built.nil _))) rfl ?_
 refine st (cb1 (ms := [.flat, .flat, .bor 16]) (c_impl_checkTable s x [i]) (H rfl) (Af (T1 rfl) rfl rfl <| Af (T1 rfl) rfl rfl <| Ab (Root.self (t := 16) (by decide)) rfl <| An) rfl (indC fun _ _ _ _ h => h)) rfl ?_
 refine st (asT rfl) rfl ?_
 refine ng ?_
 refine sr ?_
 refine st (mvT rfl) rfl ?_
 refine st (OpT.neq (H rfl) (T1 rfl) (I rfl)) rfl ?_
 refine ng ?_
 refine cd rfl (fun hc1 => ?_) fun hc1 => ?_
 ·
  obtain ⟨hc1, hc1'⟩ := pT hc1
  have hcn : tabF s x [i] ≠ 0 := by omega
  refine sr ?_
  refine st (OpT.build (H rfl) pl60 zr60 zk60 (Built.nil _)) rfl ?_
  refine st (mvT rfl) rfl ?_
  refine st (asI rfl) rfl ?_
  refine sk (OpT.storeBA rfl rfl (Opd.whole (Root.self (t := 7) (by decide)) rfl) rfl sz60 (by decide) (T1 rfl)) rfl ?_
  refine st (asT rfl) rfl ?_
  refine AWl.to (kc 8 rfl <| kb 7 rfl <| kc4 6 0 1 2 rfl <| Kn) ?_
  refine ng ?_
  refine AW.ret ?_
  refine rT ?_
  exact AX.rt (rs := [.tmp 6, .cell 7 60, .tmp 8]) (ts := [some 6, none, some 8]) (.inl rfl) rfl (ROs.cons (RO.tmp (At.self (by decide)) (Kv rfl (by first | (rw [cmn_no hcn]; done) | (rw [cmn_none hz (by omega)]; done) | (rw [cmn_yes hz (by omega) hf]; first | done | rw [show z = (tly f x).length by omega]))) rfl) <| ROs.cons (RO.cellA (by decide) (Kb rfl (by first | (rw [cmn_no hcn]; done) | (rw [cmn_none hz (by omega)]; done) | (rw [cmn_yes hz (by omega) hf]; first | done | rw [show z = (tly f x).length by omega]))) ag60 sz60) <| ROs.cons (RO.tmp (At.self (by decide)) (Kv rfl (by first | (rw [cmn_no hcn]; done) | (rw [cmn_none hz (by omega)]; done) | (rw [cmn_yes hz (by omega) hf]; first | done | rw [show z = (tly f x).length by omega]))) rfl) <| ROs.nil) (by decide) OutsOK.nil
 ·
  obtain ⟨hc1, hc1'⟩ := pF hc1
  have hz : tabF s x [i] = 0 := by omega
  have htb := tab_one hz
  obtain ⟨f, hf⟩ : ∃ f, s[Int.toNat i]? = some f := ⟨_, List.getElem?_eq_getElem (by omega)⟩
  have hfo := tab_field htb.2.1 hf
  have hty := (tly_in f x).1
  refine AW.skip ?_
  refine AX.go ?_
  refine AW.seq ?_
  refine sr ?_
  refine st (mvT rfl) rfl ?_
  refine st (OpT.len (H rfl) (T1 rfl) el31) rfl ?_
  refine st (OpT.eql (H rfl) (T1 rfl) (I rfl)) rfl ?_
  refine ng ?_
  refine cd rfl (fun hc2 => ?_) fun hc2 => ?_
  ·
   obtain ⟨hc2, hc2'⟩ := pT hc2
   refine sr ?_
   refine st (OpT.build (H rfl) pl60 zr60 zk60 (Built.nil _)) rfl ?_
   refine st (asI rfl) rfl ?_
   refine sk (OpT.storeBA rfl rfl (Opd.whole (Root.self (t := 7) (by decide)) rfl) rfl sz60 (by decide) (T1 rfl)) rfl ?_
   refine st (asI rfl) rfl ?_
   refine AWl.to (kc 8 rfl <| kb 7 rfl <| kc4 6 0 1 2 rfl <| Kn) ?_
   refine ng ?_
   refine AW.ret ?_
   refine rT ?_
   exact AX.rt (rs := [.tmp 6, .cell 7 60, .tmp 8]) (ts := [some 6, none, some 8]) (.inl rfl) rfl (ROs.cons (RO.tmp (At.self (by decide)) (Kv rfl (by first | (rw [cmn_no hcn]; done) | (rw [cmn_none hz (by omega)]; done) | (rw [cmn_yes hz (by omega) hf]; first | done | rw [show z = (tly f x).length by omega]))) rfl) <| ROs.cons (RO.cellA (by decide) (Kb rfl (by first | (rw [cmn_no hcn]; done) | (rw [cmn_none hz (by omega)]; done) | (rw [cmn_yes hz (by omega) hf]; first | done | rw [show z = (tly f x).length by omega]))) ag60 sz60) <| ROs.cons (RO.tmp (At.self (by decide)) (Kv rfl (by first | (rw [cmn_no hcn]; done) | (rw [cmn_none hz (by omega)]; done) | (rw [cmn_yes hz (by omega) hf]; first | done | rw [show z = (tly f x).length by omega]))) rfl) <| ROs.nil) (by decide) OutsOK.nil
  ·
   obtain ⟨hc2, hc2'⟩ := pF hc2
   refine AW.skip ?_
   refine AX.pr (kc 8 rfl <| kb 7 rfl <| kc4 6 0 1 2 rfl <| Kn) ?_
   refine AX.go ?_
   refine sr ?_
   refine st (OpT.build (H rfl) pl54 zr54 zk54 (Built.nil _)) rfl ?_
   refine st (OpT.alloc (H rfl) zr54 zk54) rfl ?_
   refine sk (OpT.storeBA rfl rfl (Opd.whole (Root.self (t := 10) (by decide)) rfl) rfl sz54 (by decide) (T1 rfl)) rfl ?_
   refine ng ?_
   refine AW.seq ?_
   refine sr ?_
   refine st (mvT rfl) rfl ?_
   refine st (mvT rfl) rfl ?_
   refine st (OpT.indexAddr (H rfl) (T1 rfl) (T1 rfl) el29 sz80 (by omega) (by assumption)) rfl ?_
   refine st (OpT.loadA (H rfl) (T1 rfl) ag80 sz80) rfl ?_
   refine st (mvT rfl) rfl ?_
   refine st (OpT.c1 (ms := [.flat, .flat]) (c_impl_tally _ _ hfo (by omega)) (H rfl) (Af (T1 rfl) rfl rfl <| Af (T1 rfl) rfl rfl <| An) rfl rfl) rfl ?_
   refine st (OpT.len (H rfl) (T1 rfl) el45) rfl ?_
   refine st (mvI rfl) rfl ?_
   refine ng ?_
   refine AW.block ?_
   refine AW.loop (fun z : Nat => z ≤ (tly f x).length) (fun z : Nat => keep [(1, .cel (Kd.slice kCard) x), (7, .box 60 kShare (0, 0)), (10, .box 54 kShare (cmx (tly f x) z)), (32, .cel (Kd.slice kShare) (tly f x)), (33, .cel (Kd.int .i64) ((tly f x).length : Int)), (34, .cel (Kd.int .i64) (z : Int))]) (fun z : Nat => (tly f x).length - z) (0) (Nat.zero_le _) (Kc 1 _ (Kv rfl rfl) <| Kc 7 _ (Kb rfl rfl) <| Kc 10 _ (Kb rfl rfl) <| Kc 32 _ (Kv rfl rfl) <| Kc 33 _ (Kv rfl rfl) <| Kc 34 _ (Kv rfl rfl) <| Kn) ?_
   intro z hI
   refine sr ?_
   refine st (OpT.lss (H rfl) (T1 rfl) (T1 rfl)) rfl ?_
   refine ng ?_
   refine AW.seq ?_
   refine cd rfl (fun hc3 => ?_) fun hc3 => ?_
   ·
    obtain ⟨hc3, hc3'⟩ := pT hc3
    obtain ⟨t, ht⟩ := getI (x := tly f x) (z := z) (by omega)
    refine AW.skip ?_
    refine AX.go ?_
    refine AW.seq ?_
    refine AW.block ?_
    refine sr ?_
    refine st (OpT.indexAddr (H rfl) (T1 rfl) (T1 rfl) el45 sz54 (by omega) (by assumption)) rfl ?_
    refine st (OpT.loadA (H rfl) (T1 rfl) ag54 sz54) rfl ?_
    refine st (OpT.alloc (H rfl) zr54 zk54) rfl ?_
    refine sk (OpT.storeBA rfl rfl (Opd.whole (Root.self (t := 12) (by decide)) rfl) rfl sz54 (by decide) (T1 rfl)) rfl ?_
    refine ng ?_
    refine sr ?_
    refine st (OpT.fieldAddrB (H rfl) (Root.self (t := 12) (by decide)) rfl (by decide) fd54_1 sz2 (by decide) sb54_1) rfl ?_
    refine st (OpT.loadP (H rfl) (T1 rfl) (.inl ⟨_, rfl, rfl⟩) ag2 rfl) rfl ?_
    refine st (OpT.fieldAddrB (H rfl) (Root.self (t := 10) (by decide)) rfl (by decide) fd54_1 sz2 (by decide) sb54_1) rfl ?_
    refine st (OpT.loadP (H rfl) (T1 rfl) (.inl ⟨_, rfl, rfl⟩) ag2 rfl) rfl ?_
    refine st (OpT.gtr (H rfl) (T1 rfl) (T1 rfl)) rfl ?_
    refine ng ?_
    refine cd rfl (fun hc4 => ?_) fun hc4 => ?_
    ·
     obtain ⟨hc4, hc4'⟩ := pT hc4
     refine AW.region ?_
     refine st (OpT.loadB (H rfl) (Root.self (t := 12) (by decide)) rfl ag54 sz54) rfl ?_
     refine sk (OpT.storeBA rfl rfl (Opd.whole (Root.self (t := 10) (by decide)) rfl) rfl sz54 (by decide) (T1 rfl)) rfl ?_
     refine nn ?_
     refine AX.normal_block ?_
     refine AX.go ?_
     refine AW.region ?_
     refine st (OpT.add (H rfl) (T1 rfl) (I rfl) (nw (by omega))) rfl ?_
     refine st (mvT rfl) rfl ?_
     refine nn ?_
     exact AX.again (z + 1) (by omega) (by omega) (Kc 1 _ (Kv rfl rfl) <| Kc 7 _ (Kb rfl rfl) <| Kc 10 _ (Kb rfl (by first | exact cmx_yes ht hc4' | exact cmx_no ht hc4')) <| Kc 32 _ (Kv rfl rfl) <| Kc 33 _ (Kv rfl rfl) <| Kc 34 _ (Kv rfl (by omega)) <| Kn)
    ·
     obtain ⟨hc4, hc4'⟩ := pF hc4
     refine AW.skip ?_
     refine AX.normal_block ?_
     refine AX.go ?_
     refine AW.region ?_
     refine st (OpT.add (H rfl) (T1 rfl) (I rfl) (nw (by omega))) rfl ?_
     refine st (mvT rfl) rfl ?_
     refine nn ?_
     exact AX.again (z + 1) (by omega) (by omega) (Kc 1 _ (Kv rfl rfl) <| Kc 7 _ (Kb rfl rfl) <| Kc 10 _ (Kb rfl (by first | exact cmx_yes ht hc4' | exact cmx_no ht hc4')) <| Kc 32 _ (Kv rfl rfl) <| Kc 33 _ (Kv rfl rfl) <| Kc 34 _ (Kv rfl (by omega)) <| Kn)
   ·
    obtain ⟨hc3, hc3'⟩ := pF hc3
    have hci := cmx_in (n := x.length) (tly_in f x).2 z hI
    refine AW.exit ?_
    refine xT <| xT <| AX.exit_hit ?_
    refine AX.pr (kc 1 rfl <| kb 7 rfl <| kb 10 rfl <| Kn) ?_
    refine AX.go ?_
    refine AW.seq ?_
    refine dh fomo ?_
    refine d1 [10] (fun ve h => OpT.fieldAddrB (H rfl) (Root.self (t := 10) (by decide)) ((h _ (List.elem_iff.1 rfl)).trans rfl) (by decide) fd54_0 sz2 (by decide) sb54_0) rfl ?_
    refine d1 [10, 45] (fun ve h => OpT.loadP (H rfl) (D1 h rfl) (.inl ⟨_, ((h _ (List.elem_iff.1 rfl)).trans rfl), rfl⟩) ag2 rfl) rfl ?_
    refine d1 [10] (fun ve h => OpT.fieldAddrB (H rfl) (Root.self (t := 10) (by decide)) ((h _ (List.elem_iff.1 rfl)).trans rfl) (by decide) fd54_1 sz2 (by decide) sb54_1) rfl ?_
    refine d1 [10, 47] (fun ve h => OpT.loadP (H rfl) (D1 h rfl) (.inl ⟨_, ((h _ (List.elem_iff.1 rfl)).trans rfl), rfl⟩) ag2 rfl) rfl ?_
    refine d1 [1] (fun ve h => OpT.move (A := .cel _ _) (.inl rfl) rfl (ok' rfl) (D1 h rfl) rfl) rfl ?_
    refine d1 [49] (fun ve h => OpT.len (H rfl) (D1 h rfl) el31) rfl ?_
    refine d1 [48, 50] (fun ve h => OpT.c1 (ms := [.flat, .flat]) (c_impl_shareOf _ _ (by omega)) (H rfl) (Af (D1 h rfl) rfl rfl <| Af (D1 h rfl) rfl rfl <| An) rfl rfl) rfl ?_
    refine d1 [46] (fun ve h => OpT.move (A := .cel _ _) (.inr rfl) rfl (ok' rfl) (D1 h rfl) rfl) rfl ?_
    refine dm (t := 7) [7, 51] (fun ve h => OpT.storeBA rfl rfl (Opd.whole (Root.self (t := 7) (by decide)) ((h _ (List.elem_iff.1 rfl)).trans rfl)) ((h _ (List.elem_iff.1 rfl)).trans rfl) sz60 (by decide) (D1 h rfl)) rfl ?_
    refine d1 [] (fun ve h => asI rfl) rfl ?_
    refine dn ⟨by kernel_rfl, by kernel_rfl, ?_⟩
    refine AX.go ?_
    refine AW.ret ?_
    exact AX.rt (rs := [.tmp 6, .cell 7 60, .tmp 8]) (ts := [some 6, none, some 8]) (.inl rfl) rfl (ROs.cons (RO.tmp (At.self (by decide)) (Kv rfl (by first | (rw [cmn_no hcn]; done) | (rw [cmn_none hz (by omega)]; done) | (rw [cmn_yes hz (by omega) hf]; first | done | rw [show z = (tly f x).length by omega]))) rfl) <| ROs.cons (RO.cellA (by decide) (Kb rfl (by first | (rw [cmn_no hcn]; done) | (rw [cmn_none hz (by omega)]; done) | (rw [cmn_yes hz (by omega) hf]; first | done | rw [show z = (tly f x).length by omega]))) ag60 sz60) <| ROs.cons (RO.tmp (At.self (by decide)) (Kv rfl (by first | (rw [cmn_no hcn]; done) | (rw [cmn_none hz (by omega)]; done) | (rw [cmn_yes hz (by omega) hf]; first | done | rw [show z = (tly f x).length by omega]))) rfl) <| ROs.nil) (by decide) OutsOK.nil
end Go.Proofs.YtkgboidjghcegaaGreatDoor.VL
