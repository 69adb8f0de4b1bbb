/- Proved here: what some functions of the program take and give: walks with the words of VA..VQ. Printed by program. -/
import Derived.Test.YtkgboidjghcegaaGreatDoorWT
import Derived.Test.YtkgboidjghcegaaGreatDoorBpa
import Derived.Test.YtkgboidjghcegaaGreatDoorBvb
import Derived.Test.YtkgboidjghcegaaGreatDoorLSO
import Derived.Test.YtkgboidjghcegaaGreatDoorWV
import Derived.Test.YtkgboidjghcegaaGreatDoorWP
import Derived.Test.YtkgboidjghcegaaGreatDoorWA
import Derived.Test.YtkgboidjghcegaaGreatDoorWI
set_option linter.unusedVariables false
set_option linter.unusedSimpArgs false
set_option maxRecDepth 4000
namespace Go.Proofs.YtkgboidjghcegaaGreatDoor.VL
open Go
/-- spec.l06Less -/
theorem c_spec_l06Less (x y : DCell) : AC Tryz.prog 80 [.cel (Kd.ptr (Kd.pair (Kd.int .i64) (Kd.pair (Kd.int .i64) (Kd.int .i64)))) x, .cel (Kd.ptr (Kd.pair (Kd.int .i64) (Kd.pair (Kd.int .i64) (Kd.int .i64)))) y] [.cel Kd.bool (decide (cellL x y.1 y.2.1))] [] := by
 refine acI (N := 36) Tryz.func80 (Nat.le_of_ble_eq_true rfl) rfl fun w0 hd s0 ar => ?_
 refine AW.to (kc2 0 1 rfl <| Kn) ?_
 refine sr ?_
 refine st (asB rfl) rfl ?_
 refine ng ?_
 refine AW.seq ?_
 rcases Bool.eq_false_or_eq_true (decide (x.1 < y.1)) with hd1 | hd1
 ·
  have hd1' := lT hd1
  refine dhm [0, 1, 3, 7, 0, 16, 48, 112, 255, 511, 1023, 2047, 4095, 8191, 1023, 17407, 50175, 115711, 262143, 524287, 1048575, 2097151, 4194303, 8388607, 1048575, 17825791, 51380223, 118489087, 268435455, 536870911, 1073741823, 2147483647] [] fomo ?_
  refine d1 [0] (fun ve h => OpT.move (A := .cel _ _) (.inl rfl) rfl (ok' rfl) (D1 h rfl) rfl) rfl ?_
  refine d1 [5] (fun ve h => OpT.nilCheck (H rfl) (D1 h rfl)) rfl ?_
  refine d1 [6] (fun ve h => OpT.fieldAddr (H rfl) (D1 h rfl) fd52_0 sz2 (by decide) sb52_0) rfl ?_
  refine d1 [7] (fun ve h => OpT.load (H rfl) (D1 h rfl) ag2 rfl) rfl ?_
  refine d1 [1] (fun ve h => OpT.move (A := .cel _ _) (.inl rfl) rfl (ok' rfl) (D1 h rfl) rfl) rfl ?_
  refine d1 [9] (fun ve h => OpT.nilCheck (H rfl) (D1 h rfl)) rfl ?_
  refine d1 [10] (fun ve h => OpT.fieldAddr (H rfl) (D1 h rfl) fd52_0 sz2 (by decide) sb52_0) rfl ?_
  refine d1 [11] (fun ve h => OpT.load (H rfl) (D1 h rfl) ag2 rfl) rfl ?_
  refine d1 [8, 12] (fun ve h => OpT.lss (H rfl) (D1 h rfl) (D1 h rfl)) rfl ?_
  refine d1 [13] (fun ve h => OpT.move (A := .cel _ _) (.inl rfl) rfl (ok' rfl) (D1 h rfl) rfl) rfl ?_
  refine dp hd1 rfl ?_
  refine dp hd1 rfl ?_
  refine dp hd1 rfl ?_
  refine dp hd1 rfl ?_
  refine dp hd1 rfl ?_
  refine dp hd1 rfl ?_
  refine dp hd1 rfl ?_
  refine dp hd1 rfl ?_
  refine dp hd1 rfl ?_
  refine dq hd1 rfl ?_
  refine dpu rfl ?_
  refine dpu rfl ?_
  refine dpu rfl ?_
  refine dpu rfl ?_
  refine dpu rfl ?_
  refine dpu rfl ?_
  refine dpu rfl ?_
  refine dpu rfl ?_
  refine dpu rfl ?_
  refine dp hd1 rfl ?_
  refine d1 [14] (fun ve h => OpT.pickT (A := .cel _ _) (H rfl) (D1 h rfl) hd1 Opd.bool rfl) rfl ?_
  refine d1 [35] (fun ve h => OpT.move (A := .cel _ _) (.inr rfl) rfl (ok' rfl) (D1 h rfl) rfl) rfl ?_
  refine dn ⟨by kernel_rfl, by kernel_rfl, ?_⟩
  refine AX.pr (kc 4 rfl <| Kn) ?_
  refine AX.go ?_
  refine AW.ret ?_
  exact rt1 rfl (.inl rfl) (by simp only [cellL]; first | exact (decide_eq_true (by omega)).symm | exact (decide_eq_false (by omega)).symm | exact decide_eq_decide.2 (by omega))
 ·
  have hd1' := lF hd1
  rcases Bool.eq_false_or_eq_true (x.1 == y.1) with hd2 | hd2
  ·
   have hd2' := lT hd2
   refine dhm [0, 1, 3, 7, 0, 16, 48, 112, 255, 511, 1023, 2047, 4095, 8191, 1023, 17407, 50175, 115711, 262143, 524287, 1048575, 2097151, 4194303, 8388607, 1048575, 17825791, 51380223, 118489087, 268435455, 536870911, 1073741823, 2147483647] [] fomo ?_
   refine d1 [0] (fun ve h => OpT.move (A := .cel _ _) (.inl rfl) rfl (ok' rfl) (D1 h rfl) rfl) rfl ?_
   refine d1 [5] (fun ve h => OpT.nilCheck (H rfl) (D1 h rfl)) rfl ?_
   refine d1 [6] (fun ve h => OpT.fieldAddr (H rfl) (D1 h rfl) fd52_0 sz2 (by decide) sb52_0) rfl ?_
   refine d1 [7] (fun ve h => OpT.load (H rfl) (D1 h rfl) ag2 rfl) rfl ?_
   refine d1 [1] (fun ve h => OpT.move (A := .cel _ _) (.inl rfl) rfl (ok' rfl) (D1 h rfl) rfl) rfl ?_
   refine d1 [9] (fun ve h => OpT.nilCheck (H rfl) (D1 h rfl)) rfl ?_
   refine d1 [10] (fun ve h => OpT.fieldAddr (H rfl) (D1 h rfl) fd52_0 sz2 (by decide) sb52_0) rfl ?_
   refine d1 [11] (fun ve h => OpT.load (H rfl) (D1 h rfl) ag2 rfl) rfl ?_
   refine d1 [8, 12] (fun ve h => OpT.lss (H rfl) (D1 h rfl) (D1 h rfl)) rfl ?_
   refine d1 [13] (fun ve h => OpT.move (A := .cel _ _) (.inl rfl) rfl (ok' rfl) (D1 h rfl) rfl) rfl ?_
   refine dr [0, 14] hd1 (fun ve h => OpT.move (A := .cel _ _) (.inl rfl) rfl (ok' rfl) (D1 h rfl) rfl) rfl ?_
   refine dr [14, 15] hd1 (fun ve h => OpT.nilCheck (H rfl) (D1 h rfl)) rfl ?_
   refine dr [14, 16] hd1 (fun ve h => OpT.fieldAddr (H rfl) (D1 h rfl) fd52_0 sz2 (by decide) sb52_0) rfl ?_
   refine dr [14, 17] hd1 (fun ve h => OpT.load (H rfl) (D1 h rfl) ag2 rfl) rfl ?_
   refine dr [1, 14] hd1 (fun ve h => OpT.move (A := .cel _ _) (.inl rfl) rfl (ok' rfl) (D1 h rfl) rfl) rfl ?_
   refine dr [14, 19] hd1 (fun ve h => OpT.nilCheck (H rfl) (D1 h rfl)) rfl ?_
   refine dr [14, 20] hd1 (fun ve h => OpT.fieldAddr (H rfl) (D1 h rfl) fd52_0 sz2 (by decide) sb52_0) rfl ?_
   refine dr [14, 21] hd1 (fun ve h => OpT.load (H rfl) (D1 h rfl) ag2 rfl) rfl ?_
   refine dr [14, 18, 22] hd1 (fun ve h => OpT.eql (H rfl) (D1 h rfl) (D1 h rfl)) rfl ?_
   refine dr [14, 23] hd1 (fun ve h => OpT.move (A := .cel _ _) (.inl rfl) rfl (ok' rfl) (D1 h rfl) rfl) rfl ?_
   refine dr [0, 24] hd2 (fun ve h => OpT.move (A := .cel _ _) (.inl rfl) rfl (ok' rfl) (D1 h rfl) rfl) rfl ?_
   refine dr [24, 25] hd2 (fun ve h => OpT.nilCheck (H rfl) (D1 h rfl)) rfl ?_
   refine dr [24, 26] hd2 (fun ve h => OpT.fieldAddr (H rfl) (D1 h rfl) fd52_1 sz2 (by decide) sb52_1) rfl ?_
   refine dr [24, 27] hd2 (fun ve h => OpT.load (H rfl) (D1 h rfl) ag2 rfl) rfl ?_
   refine dr [1, 24] hd2 (fun ve h => OpT.move (A := .cel _ _) (.inl rfl) rfl (ok' rfl) (D1 h rfl) rfl) rfl ?_
   refine dr [24, 29] hd2 (fun ve h => OpT.nilCheck (H rfl) (D1 h rfl)) rfl ?_
   refine dr [24, 30] hd2 (fun ve h => OpT.fieldAddr (H rfl) (D1 h rfl) fd52_1 sz2 (by decide) sb52_1) rfl ?_
   refine dr [24, 31] hd2 (fun ve h => OpT.load (H rfl) (D1 h rfl) ag2 rfl) rfl ?_
   refine dr [24, 28, 32] hd2 (fun ve h => OpT.lss (H rfl) (D1 h rfl) (D1 h rfl)) rfl ?_
   refine dr [14, 24, 33] hd1 (fun ve h => OpT.pickT (A := .cel _ _) (H rfl) (D1 h rfl) hd2 (D1 h rfl) rfl) rfl ?_
   refine d1 [14, 34] (fun ve h => OpT.pickF (A := .cel _ _) (H rfl) (D1 h rfl) hd1 (D1 h rfl) rfl) rfl ?_
   refine d1 [35] (fun ve h => OpT.move (A := .cel _ _) (.inr rfl) rfl (ok' rfl) (D1 h rfl) rfl) rfl ?_
   refine dn ⟨by kernel_rfl, by kernel_rfl, ?_⟩
   refine AX.pr (kc 4 rfl <| Kn) ?_
   refine AX.go ?_
   refine AW.ret ?_
   exact rt1 rfl (.inl rfl) (by simp only [cellL]; first | exact (decide_eq_true (by omega)).symm | exact (decide_eq_false (by omega)).symm | exact decide_eq_decide.2 (by omega))
  ·
   have hd2' := lF hd2
   refine dhm [0, 1, 3, 7, 0, 16, 48, 112, 255, 511, 1023, 2047, 4095, 8191, 1023, 17407, 50175, 115711, 262143, 524287, 1048575, 2097151, 4194303, 8388607, 1048575, 17825791, 51380223, 118489087, 268435455, 536870911, 1073741823, 2147483647] [] fomo ?_
   refine d1 [0] (fun ve h => OpT.move (A := .cel _ _) (.inl rfl) rfl (ok' rfl) (D1 h rfl) rfl) rfl ?_
   refine d1 [5] (fun ve h => OpT.nilCheck (H rfl) (D1 h rfl)) rfl ?_
   refine d1 [6] (fun ve h => OpT.fieldAddr (H rfl) (D1 h rfl) fd52_0 sz2 (by decide) sb52_0) rfl ?_
   refine d1 [7] (fun ve h => OpT.load (H rfl) (D1 h rfl) ag2 rfl) rfl ?_
   refine d1 [1] (fun ve h => OpT.move (A := .cel _ _) (.inl rfl) rfl (ok' rfl) (D1 h rfl) rfl) rfl ?_
   refine d1 [9] (fun ve h => OpT.nilCheck (H rfl) (D1 h rfl)) rfl ?_
   refine d1 [10] (fun ve h => OpT.fieldAddr (H rfl) (D1 h rfl) fd52_0 sz2 (by decide) sb52_0) rfl ?_
   refine d1 [11] (fun ve h => OpT.load (H rfl) (D1 h rfl) ag2 rfl) rfl ?_
   refine d1 [8, 12] (fun ve h => OpT.lss (H rfl) (D1 h rfl) (D1 h rfl)) rfl ?_
   refine d1 [13] (fun ve h => OpT.move (A := .cel _ _) (.inl rfl) rfl (ok' rfl) (D1 h rfl) rfl) rfl ?_
   refine dr [0, 14] hd1 (fun ve h => OpT.move (A := .cel _ _) (.inl rfl) rfl (ok' rfl) (D1 h rfl) rfl) rfl ?_
   refine dr [14, 15] hd1 (fun ve h => OpT.nilCheck (H rfl) (D1 h rfl)) rfl ?_
   refine dr [14, 16] hd1 (fun ve h => OpT.fieldAddr (H rfl) (D1 h rfl) fd52_0 sz2 (by decide) sb52_0) rfl ?_
   refine dr [14, 17] hd1 (fun ve h => OpT.load (H rfl) (D1 h rfl) ag2 rfl) rfl ?_
   refine dr [1, 14] hd1 (fun ve h => OpT.move (A := .cel _ _) (.inl rfl) rfl (ok' rfl) (D1 h rfl) rfl) rfl ?_
   refine dr [14, 19] hd1 (fun ve h => OpT.nilCheck (H rfl) (D1 h rfl)) rfl ?_
   refine dr [14, 20] hd1 (fun ve h => OpT.fieldAddr (H rfl) (D1 h rfl) fd52_0 sz2 (by decide) sb52_0) rfl ?_
   refine dr [14, 21] hd1 (fun ve h => OpT.load (H rfl) (D1 h rfl) ag2 rfl) rfl ?_
   refine dr [14, 18, 22] hd1 (fun ve h => OpT.eql (H rfl) (D1 h rfl) (D1 h rfl)) rfl ?_
   refine dr [14, 23] hd1 (fun ve h => OpT.move (A := .cel _ _) (.inl rfl) rfl (ok' rfl) (D1 h rfl) rfl) rfl ?_
   refine dp hd2 rfl ?_
   refine dp hd2 rfl ?_
   refine dp hd2 rfl ?_
   refine dp hd2 rfl ?_
   refine dp hd2 rfl ?_
   refine dp hd2 rfl ?_
   refine dp hd2 rfl ?_
   refine dp hd2 rfl ?_
   refine dp hd2 rfl ?_
   refine dr [14, 24] hd1 (fun ve h => OpT.pickF (A := .cel _ _) (H rfl) (D1 h rfl) hd2 Opd.bool rfl) rfl ?_
   refine d1 [14, 34] (fun ve h => OpT.pickF (A := .cel _ _) (H rfl) (D1 h rfl) hd1 (D1 h rfl) rfl) rfl ?_
   refine d1 [35] (fun ve h => OpT.move (A := .cel _ _) (.inr rfl) rfl (ok' rfl) (D1 h rfl) rfl) rfl ?_
   refine dn ⟨by kernel_rfl, by kernel_rfl, ?_⟩
   refine AX.pr (kc 4 rfl <| Kn) ?_
   refine AX.go ?_
   refine AW.ret ?_
   exact rt1 rfl (.inl rfl) (by simp only [cellL]; first | exact (decide_eq_true (by omega)).symm | exact (decide_eq_false (by omega)).symm | exact decide_eq_decide.2 (by omega))

/-- spec.l06Count -/
theorem c_spec_l06Count (x : List DCell) (a b : Int) (hl : x.length ≤ 1000000000) (hcc : ∀ d ∈ x, 1 ≤ d.2.2 ∧ d.2.2 ≤ 1000000000) : AC Tryz.prog 59 [.own 52 (Kd.pair (Kd.int .i64) (Kd.pair (Kd.int .i64) (Kd.int .i64))) x, .cel (Kd.int .i64) a, .cel (Kd.int .i64) b] [.own 52 (Kd.pair (Kd.int .i64) (Kd.pair (Kd.int .i64) (Kd.int .i64))) (cnt2 a b x)] [] := by
 refine acI (N := 69) Tryz.func59 (Nat.le_of_ble_eq_true rfl) rfl fun w0 hd s0 ar => ?_
 refine AW.to (ko 0 rfl <| kc2 1 2 rfl <| Kn) ?_
 refine sr ?_
 refine st (nilO (E := 52) (Kd.pair (Kd.int .i64) (Kd.pair (Kd.int .i64) (Kd.int .i64))) rfl (.inl rfl)) rfl ?_
 refine ng ?_
 refine sr ?_
 refine st (mvT rfl) rfl ?_
 refine st (mvT rfl) rfl ?_
 refine st (OpT.build (H rfl) pl52 zr52 zk52 (Built.cel (T1 rfl) rfl rfl sb52_0 (Built.cel (T1 rfl) rfl rfl sb52_1 (Built.cel (I rfl) rfl rfl sb52_2 (Built.nil _))))) rfl ?_
 refine st (OpT.alloc (H rfl) zr52 zk52) rfl ?_
 refine sk (OpT.storeBA rfl rfl (Opd.whole (Root.self (t := 7) (by decide)) rfl) rfl sz52 (by decide) (T1 rfl)) rfl ?_
 refine ng ?_
 refine sr ?_
 refine st (asI rfl) rfl ?_
 refine ng ?_
 refine AW.seq ?_
 refine AW.block ?_
 refine AW.loop (fun z : Nat => z ≤ x.length ∧ ∀ i, i < z → lessI a b x i) (fun z : Nat => keep [(0, .own 52 (Kd.pair (Kd.int .i64) (Kd.pair (Kd.int .i64) (Kd.int .i64))) x), (1, .cel (Kd.int .i64) a), (2, .cel (Kd.int .i64) b), (7, .box 52 (Kd.pair (Kd.int .i64) (Kd.pair (Kd.int .i64) (Kd.int .i64))) (a, b, 1)), (8, .cel (Kd.int .i64) (z : Int))]) (fun z : Nat => x.length - z) (0) ⟨Nat.zero_le _, all_none⟩ (Kc 0 _ (Ko rfl rfl) <| Kc 1 _ (Kv rfl rfl) <| Kc 2 _ (Kv rfl rfl) <| Kc 7 _ (Kb rfl rfl) <| Kc 8 _ (Kv rfl rfl) <| Kn) ?_
 intro z hI
 refine AW.seq ?_
 refine sr ?_
 refine st (mvT rfl) rfl ?_
 refine st (OpT.alias (H rfl) (by decide) (by decide)) rfl ?_
 refine st (OpT.lenO (H rfl) (Root.ali rfl (by decide) (by decide)) rfl el26) rfl ?_
 refine st (OpT.lss (H rfl) (T1 rfl) (T1 rfl)) rfl ?_
 refine st (mvT rfl) rfl ?_
 apply AWl.and (d := 22) (t := 17) rfl
 ·
  intro hb1 Q1 k1
  have hb1' := lT hb1
  have hgz := getDs (x := x) (z := z) (d := (0, 0, 0)) (by omega)
  refine rs hb1 (OpT.alias (H rfl) (by decide) (by decide)) rfl ?_
  refine rs hb1 (mvT rfl) rfl ?_
  refine rs hb1 (OpT.indexAddrO (H rfl) (Root.ali rfl (by decide) (by decide)) rfl (by decide) (T1 rfl) el26 sz52 (by omega) (by assumption)) rfl ?_
  refine rs hb1 (cb1 (ms := [.bor 0, .bor 7]) (c_spec_l06Less _ _) (H rfl) (Abe (T1 rfl) (.inr ⟨_, _, rfl, (by assumption)⟩) <| Abx (Root.self (t := 7) (by decide)) rfl <| An) rfl (indC fun _ _ _ _ h => h)) rfl ?_
  refine st (OpT.pickT (A := .cel _ _) (H rfl) (T1 rfl) hb1 (T1 rfl) rfl) rfl ?_
  exact AWl.to (junk 4 rfl) k1
 ·
  intro hb1 Q1 k1
  refine ps hb1 rfl ?_
  refine ps hb1 rfl ?_
  refine ps hb1 rfl ?_
  refine ps hb1 rfl ?_
  refine st (OpT.pickF (A := .cel _ _) (H rfl) (T1 rfl) hb1 Opd.bool rfl) rfl ?_
  exact k1
 refine ng ?_
 refine cd rfl (fun hc1 => ?_) fun hc1 => ?_
 ·
  obtain ⟨hc1, hc1'⟩ := pT hc1
  have hcl : z < x.length ∧ cellL (x.getD z (0, 0, 0)) a b := (by rw [Bool.and_eq_true, decide_eq_true_eq, decide_eq_true_eq] at hc1; exact ⟨by omega, hc1.2⟩)
  refine AW.skip ?_
  refine AX.go ?_
  refine AW.block ?_
  refine AW.region ?_
  refine st (mvT rfl) rfl ?_
  refine st (OpT.add (H rfl) (T1 rfl) (I rfl) (nw (by omega))) rfl ?_
  refine st (asT rfl) rfl ?_
  refine nn ?_
  refine AX.normal_block ?_
  exact AX.again (z + 1) ⟨by omega, all_step hI.2 ((lessI_iff (getDs (by omega))).2 hcl.2)⟩ (by omega) (Kc 0 _ (Ko rfl rfl) <| Kc 1 _ (Kv rfl rfl) <| Kc 2 _ (Kv rfl rfl) <| Kc 7 _ (Kb rfl rfl) <| Kc 8 _ (Kv rfl (by omega)) <| Kn)
 ·
  obtain ⟨hc1, hc1'⟩ := pF hc1
  have hcn : ¬ (z < x.length ∧ cellL (x.getD z (0, 0, 0)) a b) := fun h9 => by rw [decide_eq_true (p := (z : Int) < (x.length : Int)) (by omega), decide_eq_true h9.2] at hc1; cases hc1
  refine AW.exit ?_
  refine xT <| xT <| AX.exit_hit ?_
  refine AX.go ?_
  refine AW.seq ?_
  refine sr ?_
  refine st (mvT rfl) rfl ?_
  refine st (OpT.alias (H rfl) (by decide) (by decide)) rfl ?_
  refine st (OpT.lenO (H rfl) (Root.ali rfl (by decide) (by decide)) rfl el26) rfl ?_
  refine st (OpT.lss (H rfl) (T1 rfl) (T1 rfl)) rfl ?_
  refine st (mvT rfl) rfl ?_
  apply AWl.and (d := 37) (t := 29) rfl
  ·
   intro hb2 Q1 k1
   have hb2' := lT hb2
   have hgz := getDs (x := x) (z := z) (d := (0, 0, 0)) (by omega)
   refine rs hb2 (OpT.alias (H rfl) (by decide) (by decide)) rfl ?_
   refine rs hb2 (mvT rfl) rfl ?_
   refine rs hb2 (OpT.indexAddrO (H rfl) (Root.ali rfl (by decide) (by decide)) rfl (by decide) (T1 rfl) el26 sz52 (by omega) (by assumption)) rfl ?_
   refine rs hb2 (OpT.fieldAddrE (H rfl) (T1 rfl) (.inr ⟨_, _, rfl, (by assumption)⟩) (by decide) fd52_0 sz2 (by decide) sb52_0 (by decide)) rfl ?_
   refine rs hb2 (OpT.loadP (H rfl) (T1 rfl) (.inr ⟨_, _, rfl, (by assumption)⟩) ag2 rfl) rfl ?_
   refine rs hb2 (mvT rfl) rfl ?_
   refine rs hb2 (OpT.eql (H rfl) (T1 rfl) (T1 rfl)) rfl ?_
   refine st (OpT.pickT (A := .cel _ _) (H rfl) (T1 rfl) hb2 (T1 rfl) rfl) rfl ?_
   exact AWl.to (junk 7 rfl) k1
  ·
   intro hb2 Q1 k1
   refine ps hb2 rfl ?_
   refine ps hb2 rfl ?_
   refine ps hb2 rfl ?_
   refine ps hb2 rfl ?_
   refine ps hb2 rfl ?_
   refine ps hb2 rfl ?_
   refine ps hb2 rfl ?_
   refine st (OpT.pickF (A := .cel _ _) (H rfl) (T1 rfl) hb2 Opd.bool rfl) rfl ?_
   exact k1
  refine st (mvT rfl) rfl ?_
  apply AWl.and (d := 46) (t := 38) rfl
  ·
   intro hb3 Q1 k1
   have hb3' := lT hb3
   have hgz := getDs (x := x) (z := z) (d := (0, 0, 0)) (by omega)
   refine rs hb3 (OpT.alias (H rfl) (by decide) (by decide)) rfl ?_
   refine rs hb3 (mvT rfl) rfl ?_
   refine rs hb3 (OpT.indexAddrO (H rfl) (Root.ali rfl (by decide) (by decide)) rfl (by decide) (T1 rfl) el26 sz52 (by omega) (by assumption)) rfl ?_
   refine rs hb3 (OpT.fieldAddrE (H rfl) (T1 rfl) (.inr ⟨_, _, rfl, (by assumption)⟩) (by decide) fd52_1 sz2 (by decide) sb52_1 (by decide)) rfl ?_
   refine rs hb3 (OpT.loadP (H rfl) (T1 rfl) (.inr ⟨_, _, rfl, (by assumption)⟩) ag2 rfl) rfl ?_
   refine rs hb3 (mvT rfl) rfl ?_
   refine rs hb3 (OpT.eql (H rfl) (T1 rfl) (T1 rfl)) rfl ?_
   refine st (OpT.pickT (A := .cel _ _) (H rfl) (T1 rfl) hb3 (T1 rfl) rfl) rfl ?_
   exact AWl.to (junk 7 rfl) k1
  ·
   intro hb3 Q1 k1
   refine ps hb3 rfl ?_
   refine ps hb3 rfl ?_
   refine ps hb3 rfl ?_
   refine ps hb3 rfl ?_
   refine ps hb3 rfl ?_
   refine ps hb3 rfl ?_
   refine ps hb3 rfl ?_
   refine st (OpT.pickF (A := .cel _ _) (H rfl) (T1 rfl) hb3 Opd.bool rfl) rfl ?_
   exact k1
  refine AWl.to (kc 46 rfl <| ko 0 rfl <| kb 7 rfl <| kc 8 rfl <| Kn) ?_
  refine ng ?_
  refine cd rfl (fun hc2 => ?_) fun hc2 => ?_
  ·
   obtain ⟨hc2, hc2'⟩ := pT hc2
   have hc3 : z < x.length ∧ (x.getD z (0, 0, 0)).1 = a ∧ (x.getD z (0, 0, 0)).2.1 = b := (by rw [Bool.and_eq_true, Bool.and_eq_true, decide_eq_true_eq, beq_iff_eq, beq_iff_eq] at hc2; exact ⟨by omega, hc2.1.2, hc2.2⟩)
   have hgz := getDs (x := x) (z := z) (d := (0, 0, 0)) (by omega)
   have hct := hcc _ (mem_getI (getDs (x := x) (z := z) (d := (0, 0, 0)) (by omega)))
   refine sr ?_
   refine st (OpT.alias (H rfl) (by decide) (by decide)) rfl ?_
   refine st (mvT rfl) rfl ?_
   refine st (OpT.indexAddrO (H rfl) (Root.ali rfl (by decide) (by decide)) rfl (by decide) (T1 rfl) el26 sz52 (by omega) (by assumption)) rfl ?_
   refine st (OpT.fieldAddrE (H rfl) (T1 rfl) (.inr ⟨_, _, rfl, (by assumption)⟩) (by decide) fd52_2 sz2 (by decide) sb52_2 (by decide)) rfl ?_
   refine st (OpT.loadP (H rfl) (T1 rfl) (.inr ⟨_, _, rfl, (by assumption)⟩) ag2 rfl) rfl ?_
   refine st (OpT.add (H rfl) (T1 rfl) (I rfl) (nw (by omega))) rfl ?_
   refine st (OpT.indexAddrO (H rfl) (Root.ali rfl (by decide) (by decide)) rfl (by decide) (T1 rfl) el26 sz52 (by omega) (by assumption)) rfl ?_
   refine st (OpT.fieldAddrE (H rfl) (T1 rfl) (.inr ⟨_, _, rfl, (by assumption)⟩) (by decide) fd52_2 sz2 (by decide) sb52_2 (by decide)) rfl ?_
   refine sk (OpT.storeO rfl rfl (T1 rfl) rfl (by assumption) sz2 rfl (T1 rfl)) rfl ?_
   refine ng ?_
   refine sr ?_
   refine st (OpT.alias (H rfl) (by decide) (by decide)) rfl ?_
   refine sg (OpT.take (.inl rfl) rfl (ok' rfl) (Root.ali rfl (by decide) (by decide)) rfl rfl (by decide)) (ko 6 rfl <| kc4 52 51 48 46 rfl <| kb 7 rfl <| kc 8 rfl <| Kn) rfl ?_
   refine ng ?_
   refine AW.ret ?_
   refine rT ?_
   exact AX.rt (rs := [.tmp 6]) (ts := [some 6]) (.inl rfl) rfl (ROs.cons (RO.tmp (At.self (by decide)) (Ko rfl (by first | exact cnt2_eq hI.2 (getDs (by omega)) hc3.2.1 hc3.2.2 | exact cnt2_out hI.2 hI.1 hcn hc3)) rfl) <| ROs.nil) (by decide) OutsOK.nil
  ·
   obtain ⟨hc2, hc2'⟩ := pF hc2
   have hc3 : ¬ (z < x.length ∧ (x.getD z (0, 0, 0)).1 = a ∧ (x.getD z (0, 0, 0)).2.1 = b) := fun h9 => by rw [decide_eq_true (p := (z : Int) < (x.length : Int)) (by omega), beq_iff_eq.2 h9.2.1, beq_iff_eq.2 h9.2.2] at hc2; cases hc2
   refine AW.freeze (t := 0) rfl ?_
   refine AW.to (kc2 46 0 rfl <| kb 7 rfl <| kc 8 rfl <| Kn) ?_
   refine AW.skip ?_
   refine AX.pr (kc 0 rfl <| kb 7 rfl <| kc 8 rfl <| Kn) ?_
   refine AX.go ?_
   refine AW.seq ?_
   refine dh fomo ?_
   refine d1 [7] (fun ve h => OpT.loadB (H rfl) (Root.self (t := 7) (by decide)) ((h _ (List.elem_iff.1 rfl)).trans rfl) ag52 sz52) rfl ?_
   refine d1 [56] (fun ve h => OpT.buildSlice (H rfl) el26 zr52 sz52 rfl (by decide) zk52 (by decide) (Built.agg (D1 h rfl) rfl (by decide) (sub_arr (by decide) ((0, 0, 0) : Int × Int × Int)) (Built.nil _))) rfl ?_
   refine d1 [0] (fun ve h => OpT.move (A := .cel _ _) (.inl rfl) rfl (ok' rfl) (D1 h rfl) rfl) rfl ?_
   refine d1 [8] (fun ve h => OpT.move (A := .cel _ _) (.inl rfl) rfl (ok' rfl) (D1 h rfl) rfl) rfl ?_
   refine d1 [58, 59] (fun ve h => OpT.cutL (H rfl) (D1 h rfl) (D1 h rfl) el26 sz52 (by omega)) rfl ?_
   refine dt (t := 57) [57, 60] (fun ve h => OpT.append (H rfl) (Root.self (t := 57) (by decide)) ((h _ (List.elem_iff.1 rfl)).trans rfl) (Src.shared (D1 h rfl)) (by decide) el26 zr52 rfl sz52 by52 (by decide) (by simp only [List.length_cons, List.length_nil, List.length_append, List.length_drop, List.length_take, List.length_set, List.length_replicate]; omega)) rfl ?_
   refine dt (t := 61) [61] (fun ve h => OpT.take (.inl rfl) rfl (ok' rfl) (Root.self (by decide)) ((h _ (List.elem_iff.1 rfl)).trans rfl) rfl (by decide)) rfl ?_
   refine dn ⟨by kernel_rfl, by kernel_rfl, ?_⟩
   refine AX.go ?_
   refine sr ?_
   refine st (OpT.buildSlice0 (m := 0) (z := .bool false) (Kd.pair (Kd.int .i64) (Kd.pair (Kd.int .i64) (Kd.int .i64))) (H rfl) el26 sz52 (by decide)) rfl ?_
   refine st (mvT rfl) rfl ?_
   refine st (mvT rfl) rfl ?_
   refine st (OpT.cutH (H rfl) (T1 rfl) (T1 rfl) el26 sz52 (by omega)) rfl ?_
   refine sg (OpT.append (H rfl) (Root.self (t := 62) (by decide)) rfl (Src.shared (T1 rfl)) (by decide) el26 zr52 rfl sz52 by52 (by decide) (by simp only [List.length_cons, List.length_nil, List.length_append, List.length_drop, List.length_take, List.length_set, List.length_replicate]; omega)) (ko 66 rfl <| kc3 65 64 63 rfl <| ko 9 rfl <| kc3 60 59 58 rfl <| ka 56 rfl <| kc 0 rfl <| kb 7 rfl <| kc 8 rfl <| Kn) rfl ?_
   refine st (OpT.alias (H rfl) (by decide) (by decide)) rfl ?_
   refine sg (OpT.append (H rfl) (Root.self (t := 66) (by decide)) rfl (Src.own (Root.ali rfl (by decide) (by decide)) rfl) (by decide) el26 zr52 rfl sz52 by52 (by decide) (by simp only [List.length_cons, List.length_nil, List.length_append, List.length_drop, List.length_take, List.length_set, List.length_replicate]; omega)) (ko 68 rfl <| Kc 67 (.ali _) rfl <| kc3 65 64 63 rfl <| ko 9 rfl <| kc3 60 59 58 rfl <| ka 56 rfl <| kc 0 rfl <| kb 7 rfl <| kc 8 rfl <| Kn) rfl ?_
   refine sg (OpT.take (.inl rfl) rfl (ok' rfl) (Root.self (by decide)) rfl rfl (by decide)) (ko 6 rfl <| Kc 67 (.ali _) rfl <| kc3 65 64 63 rfl <| ko 9 rfl <| kc3 60 59 58 rfl <| ka 56 rfl <| kc 0 rfl <| kb 7 rfl <| kc 8 rfl <| Kn) rfl ?_
   refine AWl.to (ko 6 rfl <| Kn) ?_
   refine ng ?_
   refine AW.ret ?_
   exact AX.rt (rs := [.tmp 6]) (ts := [some 6]) (.inl rfl) rfl (ROs.cons (RO.tmp (At.self (by decide)) (Ko rfl (by first | exact cnt2_eq hI.2 (getDs (by omega)) hc3.2.1 hc3.2.2 | exact cnt2_out hI.2 hI.1 hcn hc3)) rfl) <| ROs.nil) (by decide) OutsOK.nil

/-- spec.l06Cross -/
theorem c_spec_l06Cross_o (f g : DField) (x : List DCard) (l : List Int) (hf : fieldOK f) (hg : fieldOK g) (hl : l.length ≤ 100000000) (hi : ∀ i ∈ l, 0 ≤ i ∧ i < x.length) : AC Tryz.prog 34 [.cel (Kd.ptr kField) f, .cel (Kd.ptr kField) g, .cel (Kd.slice kCard) x, .cel (Kd.slice (Kd.int .i64)) l] [.own 52 (Kd.pair (Kd.int .i64) (Kd.pair (Kd.int .i64) (Kd.int .i64))) (crs f g (maskL x l))] [] := by
 refine acI (N := 36) Tryz.func34 (Nat.le_of_ble_eq_true rfl) rfl fun w0 hd s0 ar => ?_
 refine AW.to (kc4 0 1 2 3 rfl <| Kn) ?_
 refine AW.fact (fun a w hr => (ok_slice (R_ok (t := 2) rfl hr)).2) (fun hl2 => ?_)
 refine AW.fact (fun a w hr => (ok_slice (R_ok (t := 3) rfl hr)).2) (fun hl3 => ?_)
 refine sr ?_
 refine st (nilO (E := 52) (Kd.pair (Kd.int .i64) (Kd.pair (Kd.int .i64) (Kd.int .i64))) rfl (.inl rfl)) rfl ?_
 refine ng ?_
 refine sr ?_
 refine st (OpT.buildSlice0 (m := 0) (z := .bool false) (Kd.pair (Kd.int .i64) (Kd.pair (Kd.int .i64) (Kd.int .i64))) (H rfl) el26 sz52 (by decide)) rfl ?_
 refine sg (OpT.take (.inl rfl) rfl (ok' rfl) (Root.self (by decide)) rfl rfl (by decide)) (ko 9 rfl <| ko 8 rfl <| kc4 0 1 2 3 rfl <| Kn) rfl ?_
 refine ng ?_
 refine AW.seq ?_
 refine sr ?_
 refine st (asI rfl) rfl ?_
 refine ng ?_
 refine AW.block ?_
 refine AW.loop (fun z : Nat => z ≤ l.length) (fun z : Nat => keep [(0, .cel (Kd.ptr kField) f), (1, .cel (Kd.ptr kField) g), (2, .cel (Kd.slice kCard) x), (3, .cel (Kd.slice (Kd.int .i64)) l), (9, .own 52 (Kd.pair (Kd.int .i64) (Kd.pair (Kd.int .i64) (Kd.int .i64))) (crs f g (maskL x (l.take z)))), (10, .cel (Kd.int .i64) (z : Int))]) (fun z : Nat => l.length - z) (0) (Nat.zero_le _) (Kc 0 _ (Kv rfl rfl) <| Kc 1 _ (Kv rfl rfl) <| Kc 2 _ (Kv rfl rfl) <| Kc 3 _ (Kv rfl rfl) <| Kc 9 _ (Ko rfl rfl) <| Kc 10 _ (Kv rfl rfl) <| Kn) ?_
 intro z hI
 refine AW.seq ?_
 refine sr ?_
 refine st (mvT rfl) rfl ?_
 refine st (mvT rfl) rfl ?_
 refine st (OpT.len (H rfl) (T1 rfl) el81) rfl ?_
 refine st (OpT.lss (H rfl) (T1 rfl) (T1 rfl)) rfl ?_
 refine ng ?_
 refine cd rfl (fun hc1 => ?_) fun hc1 => ?_
 ·
  obtain ⟨hc1, hc1'⟩ := pT hc1
  obtain ⟨i, hii⟩ := getI (x := l) (z := z) (by omega)
  have hib := hi i (mem_getI hii)
  obtain ⟨e, he⟩ : ∃ e, x[Int.toNat i]? = some e := ⟨_, List.getElem?_eq_getElem (by omega)⟩
  have hci := crs_in f g (maskL x (l.take z))
  rw [maskL_len, List.length_take] at hci
  refine AW.skip ?_
  refine AX.go ?_
  refine AW.seq ?_
  refine AW.block ?_
  refine sr ?_
  refine st (mvT rfl) rfl ?_
  refine st (mvT rfl) rfl ?_
  refine st (mvT rfl) rfl ?_
  refine st (OpT.indexAddr (H rfl) (T1 rfl) (T1 rfl) el81 sz2 (by omega) (by assumption)) rfl ?_
  refine st (OpT.load (H rfl) (T1 rfl) ag2 rfl) rfl ?_
  refine st (OpT.indexAddr (H rfl) (T1 rfl) (T1 rfl) el31 sz86 (by omega) (by assumption)) rfl ?_
  refine st (OpT.fieldAddr (H rfl) (T1 rfl) fd86_1 sz84 (by decide) sb86_1) rfl ?_
  refine st (OpT.loadA (H rfl) (T1 rfl) ag84 sz84) rfl ?_
  refine st (OpT.alloc (H rfl) zr84 zk84) rfl ?_
  refine sk (OpT.storeBA rfl rfl (Opd.whole (Root.self (t := 11) (by decide)) rfl) rfl sz84 (by decide) (T1 rfl)) rfl ?_
  refine AWl.to (kb 11 rfl <| ka 26 rfl <| kc4 25 24 23 22 rfl <| kc4 21 20 19 16 rfl <| kc4 15 14 13 0 rfl <| kc3 1 2 3 rfl <| ko 9 rfl <| kc 10 rfl <| Kn) ?_
  refine ng ?_
  refine dh fomo ?_
  refine d1 [] (fun ve h => OpT.alias (H rfl) (by decide) (by decide)) rfl ?_
  refine d1 [0] (fun ve h => OpT.move (A := .cel _ _) (.inl rfl) rfl (ok' rfl) (D1 h rfl) rfl) rfl ?_
  refine d1 [11] (fun ve h => OpT.loadB (H rfl) (Root.self (t := 11) (by decide)) ((h _ (List.elem_iff.1 rfl)).trans rfl) ag84 sz84) rfl ?_
  refine d1 [28, 29] (fun ve h => OpT.c1 (ms := [.flat, .flat]) (c_spec_l06In _ _ hf) (H rfl) (Af (D1 h rfl) rfl rfl <| Af (D1 h rfl) rfl rfl <| An) rfl rfl) rfl ?_
  refine d1 [1] (fun ve h => OpT.move (A := .cel _ _) (.inl rfl) rfl (ok' rfl) (D1 h rfl) rfl) rfl ?_
  refine d1 [11] (fun ve h => OpT.loadB (H rfl) (Root.self (t := 11) (by decide)) ((h _ (List.elem_iff.1 rfl)).trans rfl) ag84 sz84) rfl ?_
  refine d1 [31, 32] (fun ve h => OpT.c1 (ms := [.flat, .flat]) (c_spec_l06In _ _ hg) (H rfl) (Af (D1 h rfl) rfl rfl <| Af (D1 h rfl) rfl rfl <| An) rfl rfl) rfl ?_
  refine dw (t := 9) [9, 27, 30, 33] (fun ve h => crd (ms := [.root 9, .flat, .flat]) (c_spec_l06Count _ _ _ (by omega) (fun d hd => by have := hci.2 d hd; omega)) (H rfl) (Ar (O := .any) (Root.ali ((h _ (List.elem_iff.1 rfl)).trans rfl) (by decide) (by decide)) ((h _ (List.elem_iff.1 rfl)).trans rfl) rfl rfl <| Af (D1 h rfl) rfl rfl <| Af (D1 h rfl) rfl rfl <| An) rfl) rfl ?_
  refine dt (t := 34) [34] (fun ve h => OpT.take (.inl rfl) rfl (ok' rfl) (Root.self (by decide)) ((h _ (List.elem_iff.1 rfl)).trans rfl) rfl (by decide)) rfl ?_
  refine dn ⟨by kernel_rfl, by kernel_rfl, ?_⟩
  refine AX.normal_block ?_
  refine AX.go ?_
  refine AW.region ?_
  refine st (mvT rfl) rfl ?_
  refine st (OpT.add (H rfl) (T1 rfl) (I rfl) (nw (by omega))) rfl ?_
  refine st (asT rfl) rfl ?_
  refine nn ?_
  exact AX.again (z + 1) (by omega) (by omega) (Kc 0 _ (Kv rfl rfl) <| Kc 1 _ (Kv rfl rfl) <| Kc 2 _ (Kv rfl rfl) <| Kc 3 _ (Kv rfl rfl) <| Kc 9 _ (Ko rfl (by rw [← maskL_next hii he, crs_snoc])) <| Kc 10 _ (Kv rfl (by omega)) <| Kn)
 ·
  obtain ⟨hc1, hc1'⟩ := pF hc1
  refine AW.exit ?_
  refine xT <| xT <| AX.exit_hit ?_
  refine AX.go ?_
  refine sr ?_
  refine st (OpT.alias (H rfl) (by decide) (by decide)) rfl ?_
  refine sg (OpT.take (.inl rfl) rfl (ok' rfl) (Root.ali rfl (by decide) (by decide)) rfl rfl (by decide)) (ko 8 rfl <| kc4 16 15 14 13 rfl <| kc4 0 1 2 3 rfl <| kc 10 rfl <| Kn) rfl ?_
  refine ng ?_
  refine AW.ret ?_
  exact AX.rt (rs := [.tmp 8]) (ts := [some 8]) (.inl rfl) rfl (ROs.cons (RO.tmp (At.self (by decide)) (Ko rfl (by rw [List.take_of_length_le (by omega)])) rfl) <| ROs.nil) (by decide) OutsOK.nil
theorem c_spec_l06Cross (f g : DField) (x : List DCard) (l : List Int) (hf : fieldOK f) (hg : fieldOK g) (hl : l.length ≤ 100000000) (hi : ∀ i ∈ l, 0 ≤ i ∧ i < x.length) : AC Tryz.prog 34 [.cel (Kd.ptr kField) f, .cel (Kd.ptr kField) g, .cel (Kd.slice kCard) x, .cel (Kd.slice (Kd.int .i64)) l] [.cel (Kd.slice (Kd.pair (Kd.int .i64) (Kd.pair (Kd.int .i64) (Kd.int .i64)))) (crs f g (maskL x l))] [] := (c_spec_l06Cross_o f g x l hf hg hl hi).frz rfl

/-- spec.l06All -/
theorem c_spec_l06All (x : List DCard) (hx : x.length ≤ 1000000000) : AC Tryz.prog 35 [.cel (Kd.slice kCard) x] [.cel (Kd.slice (Kd.int .i64)) (idxL x.length)] [] := by
 refine acI (N := 17) Tryz.func35 (Nat.le_of_ble_eq_true rfl) rfl fun w0 hd s0 ar => ?_
 refine AW.to (kc 0 rfl <| Kn) ?_
 refine AW.fact (fun a w hr => (ok_slice (R_ok (t := 0) rfl hr)).2) (fun hl0 => ?_)
 refine sr ?_
 refine st (OpT.move (A := .cel _ _) (.inr rfl) rfl (ok' rfl) (Opd.nilslice (Kd.int .i64)) rfl) rfl ?_
 refine ng ?_
 refine sr ?_
 refine st (OpT.buildSlice0 (m := 0) (z := .bool false) (Kd.int .i64) (H rfl) el81 sz2 (by decide)) rfl ?_
 refine sg (OpT.take (.inl rfl) rfl (ok' rfl) (Root.self (by decide)) rfl rfl (by decide)) (ko 3 rfl <| kc2 2 0 rfl <| Kn) rfl ?_
 refine ng ?_
 refine AW.seq ?_
 refine sr ?_
 refine st (asI rfl) rfl ?_
 refine ng ?_
 refine AW.block ?_
 refine AW.loop (fun z : Nat => z ≤ x.length) (fun z : Nat => keep [(0, .cel (Kd.slice kCard) x), (3, .own 2 (Kd.int .i64) (idxL z)), (4, .cel (Kd.int .i64) (z : Int))]) (fun z : Nat => x.length - z) (0) (Nat.zero_le _) (Kc 0 _ (Kv rfl rfl) <| Kc 3 _ (Ko rfl rfl) <| Kc 4 _ (Kv rfl rfl) <| Kn) ?_
 intro z hI
 refine AW.seq ?_
 refine sr ?_
 refine st (mvT rfl) rfl ?_
 refine st (mvT rfl) rfl ?_
 refine st (OpT.len (H rfl) (T1 rfl) el31) rfl ?_
 refine st (OpT.lss (H rfl) (T1 rfl) (T1 rfl)) rfl ?_
 refine ng ?_
 refine cd rfl (fun hc1 => ?_) fun hc1 => ?_
 ·
  obtain ⟨hc1, hc1'⟩ := pT hc1
  refine AW.skip ?_
  refine AX.go ?_
  refine AW.seq ?_
  refine AW.block ?_
  refine AW.region ?_
  refine st (OpT.alias (H rfl) (by decide) (by decide)) rfl ?_
  refine st (mvT rfl) rfl ?_
  refine st (OpT.buildSlice (H rfl) el81 zr2 sz2 rfl (by decide) zk2 (by decide) (Built.cel (T1 rfl) rfl rfl (sub_arr (by decide) (0 : Int)) (Built.nil _))) rfl ?_
  refine sg (OpT.append (H rfl) (Root.ali rfl (by decide) (by decide)) rfl (Src.own (Root.self (t := 14) (by decide)) rfl) (by decide) el81 zr2 rfl sz2 by2 (by decide) (by have := idxL_len z; simp only [List.length_set, List.length_replicate]; omega)) (ko 15 rfl <| ko 14 rfl <| kc4 13 9 8 7 rfl <| kc3 6 0 4 rfl <| Kn) rfl ?_
  refine sg (OpT.take (.inl rfl) rfl (ok' rfl) (Root.self (by decide)) rfl rfl (by decide)) (ko 3 rfl <| ko 14 rfl <| kc4 13 9 8 7 rfl <| kc3 6 0 4 rfl <| Kn) rfl ?_
  refine nn ?_
  refine AX.normal_block ?_
  refine AX.go ?_
  refine AW.region ?_
  refine st (mvT rfl) rfl ?_
  refine st (OpT.add (H rfl) (T1 rfl) (I rfl) (nw (by omega))) rfl ?_
  refine st (asT rfl) rfl ?_
  refine nn ?_
  exact AX.again (z + 1) (by omega) (by omega) (Kc 0 _ (Kv rfl rfl) <| Kc 3 _ (Ko rfl (idxL_next z)) <| Kc 4 _ (Kv rfl (by omega)) <| Kn)
 ·
  obtain ⟨hc1, hc1'⟩ := pF hc1
  refine AW.exit ?_
  refine AX.freeze (t := 3) rfl ?_
  refine AX.pr (kc4 9 8 7 6 rfl <| kc3 0 3 4 rfl <| Kn) ?_
  refine xT <| xT <| AX.exit_hit ?_
  refine AX.go ?_
  refine sr ?_
  refine st (mvT rfl) rfl ?_
  refine st (asT rfl) rfl ?_
  refine ng ?_
  refine AW.ret ?_
  exact rt1 rfl (.inl rfl) (by rw [show z = x.length by omega])

/-- spec.l06Asked -/
theorem c_spec_l06Asked (s : List DField) (x : List DCard) (a b : Int) : AC Tryz.prog 33 [.cel (Kd.slice kField) s, .cel (Kd.slice kCard) x, .cel (Kd.int .i64) a, .cel (Kd.int .i64) b] [.cel (Kd.int .i64) (tabF s x [a, b])] [] := by
 refine acI (N := 36) Tryz.func33 (Nat.le_of_ble_eq_true rfl) rfl fun w0 hd s0 ar => ?_
 refine AW.to (kc4 0 1 2 3 rfl <| Kn) ?_
 refine AW.fact (fun a w hr => (ok_slice (R_ok (t := 0) rfl hr)).2) (fun hl0 => ?_)
 refine AW.fact (fun a w hr => (ok_slice (R_ok (t := 1) rfl hr)).2) (fun hl1 => ?_)
 refine sr ?_
 refine st (asI rfl) rfl ?_
 refine ng ?_
 refine AW.seq ?_
 refine sr ?_
 refine st (mvT rfl) rfl ?_
 refine st (OpT.c1 (ms := [.flat]) (c_spec_l01Scheme _) (H rfl) (Af (T1 rfl) rfl rfl <| An) rfl rfl) rfl ?_
 refine st (OpT.not (H rfl) (T1 rfl)) rfl ?_
 refine st (mvT rfl) rfl ?_
 apply AWl.or (d := 17) (t := 13) rfl
 ·
  intro hb1 Q1 k1
  have hb1' := lF hb1
  refine rs hb1 (mvT rfl) rfl ?_
  refine rs hb1 (OpT.c1 (ms := [.flat]) (c_spec_l04Cards _) (H rfl) (Af (T1 rfl) rfl rfl <| An) rfl rfl) rfl ?_
  refine rs hb1 (OpT.not (H rfl) (T1 rfl)) rfl ?_
  refine st (OpT.pickF (A := .cel _ _) (H rfl) (T1 rfl) hb1 (T1 rfl) rfl) rfl ?_
  exact AWl.to (junk 3 rfl) k1
 ·
  intro hb1 Q1 k1
  refine ps hb1 rfl ?_
  refine ps hb1 rfl ?_
  refine ps hb1 rfl ?_
  refine st (OpT.pickT (A := .cel _ _) (H rfl) (T1 rfl) hb1 Opd.bool rfl) rfl ?_
  exact k1
 refine ng ?_
 refine cd rfl (fun hc1 => ?_) fun hc1 => ?_
 ·
  obtain ⟨hc1, hc1'⟩ := pT hc1
  refine sr ?_
  refine st (asI rfl) rfl ?_
  refine ng ?_
  refine AW.ret ?_
  refine rT ?_
  exact rt1 rfl (.inl rfl) (by first | exact ask_one hc1 | exact ask_two hc1 (by (try simp only [inb, Bool.and_eq_true, Bool.and_eq_false_iff, decide_eq_true_eq, decide_eq_false_iff_not] at *); omega) | exact ask_ok hc1 (by omega) (by (try simp only [inb, Bool.and_eq_true, Bool.and_eq_false_iff, decide_eq_true_eq, decide_eq_false_iff_not] at *); omega) (by (try simp only [inb, Bool.and_eq_true, Bool.and_eq_false_iff, decide_eq_true_eq, decide_eq_false_iff_not] at *); omega))
 ·
  obtain ⟨hc1, hc1'⟩ := pF hc1
  refine AW.skip ?_
  refine AX.go ?_
  refine sr ?_
  refine st (mvT rfl) rfl ?_
  refine st (OpT.len (H rfl) (T1 rfl) el29) rfl ?_
  refine st (OpT.sub (H rfl) (T1 rfl) (I rfl) (nw (by omega))) rfl ?_
  refine st (asT rfl) rfl ?_
  refine ng ?_
  refine AW.seq ?_
  refine sr ?_
  refine st (mvT rfl) rfl ?_
  refine st (OpT.len (H rfl) (T1 rfl) el31) rfl ?_
  refine st (OpT.gtr (H rfl) (T1 rfl) (I rfl)) rfl ?_
  refine st (mvT rfl) rfl ?_
  apply AWl.or (d := 29) (t := 24) rfl
  ·
   intro hb2 Q1 k1
   have hb2' := lF hb2
   refine rs hb2 (mvT rfl) rfl ?_
   refine rs hb2 (mvT rfl) rfl ?_
   refine rs hb2 (OpT.c1 (ms := [.flat, .flat, .flat]) (c_spec_l00In _ _ _) (H rfl) (Af (T1 rfl) rfl rfl <| Af (I rfl) rfl rfl <| Af (T1 rfl) rfl rfl <| An) rfl rfl) rfl ?_
   refine rs hb2 (OpT.not (H rfl) (T1 rfl)) rfl ?_
   refine st (OpT.pickF (A := .cel _ _) (H rfl) (T1 rfl) hb2 (T1 rfl) rfl) rfl ?_
   exact AWl.to (junk 4 rfl) k1
  ·
   intro hb2 Q1 k1
   refine ps hb2 rfl ?_
   refine ps hb2 rfl ?_
   refine ps hb2 rfl ?_
   refine ps hb2 rfl ?_
   refine st (OpT.pickT (A := .cel _ _) (H rfl) (T1 rfl) hb2 Opd.bool rfl) rfl ?_
   exact k1
  refine st (mvT rfl) rfl ?_
  apply AWl.or (d := 35) (t := 30) rfl
  ·
   intro hb3 Q1 k1
   have hb3' := lF hb3
   refine rs hb3 (mvT rfl) rfl ?_
   refine rs hb3 (mvT rfl) rfl ?_
   refine rs hb3 (OpT.c1 (ms := [.flat, .flat, .flat]) (c_spec_l00In _ _ _) (H rfl) (Af (T1 rfl) rfl rfl <| Af (I rfl) rfl rfl <| Af (T1 rfl) rfl rfl <| An) rfl rfl) rfl ?_
   refine rs hb3 (OpT.not (H rfl) (T1 rfl)) rfl ?_
   refine st (OpT.pickF (A := .cel _ _) (H rfl) (T1 rfl) hb3 (T1 rfl) rfl) rfl ?_
   exact AWl.to (junk 4 rfl) k1
  ·
   intro hb3 Q1 k1
   refine ps hb3 rfl ?_
   refine ps hb3 rfl ?_
   refine ps hb3 rfl ?_
   refine ps hb3 rfl ?_
   refine st (OpT.pickT (A := .cel _ _) (H rfl) (T1 rfl) hb3 Opd.bool rfl) rfl ?_
   exact k1
  refine AWl.to (kc2 35 8 rfl <| Kn) ?_
  refine ng ?_
  refine cd rfl (fun hc2 => ?_) fun hc2 => ?_
  ·
   obtain ⟨hc2, hc2'⟩ := pT hc2
   refine sr ?_
   refine st (asI rfl) rfl ?_
   refine ng ?_
   refine AW.ret ?_
   refine rT ?_
   exact rt1 rfl (.inl rfl) (by first | exact ask_one hc1 | exact ask_two hc1 (by (try simp only [inb, Bool.and_eq_true, Bool.and_eq_false_iff, decide_eq_true_eq, decide_eq_false_iff_not] at *); omega) | exact ask_ok hc1 (by omega) (by (try simp only [inb, Bool.and_eq_true, Bool.and_eq_false_iff, decide_eq_true_eq, decide_eq_false_iff_not] at *); omega) (by (try simp only [inb, Bool.and_eq_true, Bool.and_eq_false_iff, decide_eq_true_eq, decide_eq_false_iff_not] at *); omega))
  ·
   obtain ⟨hc2, hc2'⟩ := pF hc2
   refine AW.skip ?_
   refine AX.go ?_
   refine sr ?_
   refine st (asI rfl) rfl ?_
   refine ng ?_
   refine AW.ret ?_
   exact rt1 rfl (.inl rfl) (by first | exact ask_one hc1 | exact ask_two hc1 (by (try simp only [inb, Bool.and_eq_true, Bool.and_eq_false_iff, decide_eq_true_eq, decide_eq_false_iff_not] at *); omega) | exact ask_ok hc1 (by omega) (by (try simp only [inb, Bool.and_eq_true, Bool.and_eq_false_iff, decide_eq_true_eq, decide_eq_false_iff_not] at *); omega) (by (try simp only [inb, Bool.and_eq_true, Bool.and_eq_false_iff, decide_eq_true_eq, decide_eq_false_iff_not] at *); omega))

end Go.Proofs.YtkgboidjghcegaaGreatDoor.VL
