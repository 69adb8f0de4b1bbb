/- Proved here: what some functions of the program take and give: walks with the words of VA..VQ. Printed by program. -/
import Derived.Test.YtlhfmcbmlmhgaaaGreatDoorWT
import Derived.Test.YtlhfmcbmlmhgaaaGreatDoorBpa
set_option linter.unusedVariables false
set_option linter.unusedSimpArgs false
set_option maxRecDepth 4000
namespace Go.Proofs.YtlhfmcbmlmhgaaaGreatDoor.VL
open Go
theorem c_spec_l00Same (x y : List (Int)) : AC Tryz.prog 40 [.cel (Kd.slice (Kd.int .i64)) x, .cel (Kd.slice (Kd.int .i64)) y] [.cel Kd.bool (eqv x y)] [] := by
 refine acI (N := 26) Tryz.func40 (Nat.le_of_ble_eq_true rfl) rfl fun w0 hd s0 ar => ?_
 refine AW.to (kc2 0 1 rfl <| Kn) ?_
 refine AW.fact (fun a w hr => (ok_slice (R_ok (t := 0) rfl hr)).2) (fun hl0 => ?_)
 refine AW.fact (fun a w hr => (ok_slice (R_ok (t := 1) rfl hr)).2) (fun hl1 => ?_)
 refine sr ?_
 refine st (asB rfl) rfl ?_
 refine ng ?_
 refine AW.seq ?_
 refine sr ?_
 refine st (mvT rfl) rfl ?_
 refine st (OpT.len (H rfl) (T1 rfl) el23) rfl ?_
 refine st (mvT rfl) rfl ?_
 refine st (OpT.len (H rfl) (T1 rfl) el23) rfl ?_
 refine st (OpT.neq (H rfl) (T1 rfl) (T1 rfl)) rfl ?_
 refine ng ?_
 refine cd rfl (fun hc1 => ?_) fun hc1 => ?_
 ·
  replace hc1 := oT hc1
  try simp only [bne_iff_ne, ne_eq, bne_eq_false_iff_eq] at hc1
  refine sr ?_
  refine st (asB rfl) rfl ?_
  refine ng ?_
  refine AW.ret ?_
  refine rT ?_
  exact rt1 rfl (.inl rfl) (by first | exact eqs_len (by omega) | exact eqs_ne ha hb (by simpa [eqv_iff, eqv_false_iff] using hc3) | exact eqs_all hI.2 (by omega) (by omega))
 ·
  replace hc1 := oF hc1
  try simp only [bne_iff_ne, ne_eq, bne_eq_false_iff_eq] at hc1
  refine AW.skip ?_
  refine AX.go ?_
  refine AW.seq ?_
  refine sr ?_
  refine st (asI rfl) rfl ?_
  refine ng ?_
  refine AW.block ?_
  refine AW.loop (fun z : Nat => z ≤ x.length ∧ x.take z = y.take z) (fun z : Nat => keep [(0, .cel (Kd.slice (Kd.int .i64)) x), (1, .cel (Kd.slice (Kd.int .i64)) y), (5, .cel (Kd.int .i64) (z : Int))]) (fun z : Nat => x.length - z) (0) ⟨Nat.zero_le _, rfl⟩ (Kc 0 _ (Kv rfl rfl) <| Kc 1 _ (Kv rfl rfl) <| Kc 5 _ (Kv rfl rfl) <| Kn) ?_
  intro z hI
  refine AW.seq ?_
  refine sr ?_
  refine st (mvT rfl) rfl ?_
  refine st (mvT rfl) rfl ?_
  refine st (OpT.len (H rfl) (T1 rfl) el23) rfl ?_
  refine st (OpT.lss (H rfl) (T1 rfl) (T1 rfl)) rfl ?_
  refine ng ?_
  refine cd rfl (fun hc2 => ?_) fun hc2 => ?_
  ·
   replace hc2 := oT hc2
   obtain ⟨a, ha⟩ := getI (x := x) (z := z) (by omega); obtain ⟨b, hb⟩ := getI (x := y) (z := z) (by omega)
   refine AW.skip ?_
   refine AX.go ?_
   refine AW.seq ?_
   refine AW.block ?_
   refine AW.seq ?_
   refine dh fomo ?_
   refine d1 [0] (fun ve h => OpT.move (A := .cel _ _) (.inl rfl) rfl (ok' rfl) (D1 h rfl) rfl) rfl ?_
   refine d1 [5] (fun ve h => OpT.move (A := .cel _ _) (.inl rfl) rfl (ok' rfl) (D1 h rfl) rfl) rfl ?_
   refine d1 [17, 18] (fun ve h => OpT.indexAddr (H rfl) (D1 h rfl) (D1 h rfl) el23 sz2 (by omega) (by assumption)) rfl ?_
   refine d1 [19] (fun ve h => OpT.load (H rfl) (D1 h rfl) ag2 rfl) rfl ?_
   refine d1 [1] (fun ve h => OpT.move (A := .cel _ _) (.inl rfl) rfl (ok' rfl) (D1 h rfl) rfl) rfl ?_
   refine d1 [5] (fun ve h => OpT.move (A := .cel _ _) (.inl rfl) rfl (ok' rfl) (D1 h rfl) rfl) rfl ?_
   refine d1 [21, 22] (fun ve h => OpT.indexAddr (H rfl) (D1 h rfl) (D1 h rfl) el23 sz2 (by omega) (by assumption)) rfl ?_
   refine d1 [23] (fun ve h => OpT.load (H rfl) (D1 h rfl) ag2 rfl) rfl ?_
   refine d1 [20, 24] (fun ve h => OpT.neq (H rfl) (D1 h rfl) (D1 h rfl)) rfl ?_
   refine dn ⟨by kernel_rfl, by kernel_rfl, ?_⟩
   refine AX.go ?_
   refine cd rfl (fun hc3 => ?_) fun hc3 => ?_
   ·
    replace hc3 := oT hc3
    refine sr ?_
    refine st (asB rfl) rfl ?_
    refine ng ?_
    refine AW.ret ?_
    refine rK <| rT <| rT <| rK <| rT ?_
    exact rt1 rfl (.inl rfl) (by first | exact eqs_len (by omega) | exact eqs_ne ha hb (by simpa [eqv_iff, eqv_false_iff] using hc3) | exact eqs_all hI.2 (by omega) (by omega))
   ·
    replace hc3 := oF hc3
    refine AW.skip ?_
    refine AX.normal_block ?_
    refine AX.go ?_
    refine AW.region ?_
    refine st (mvT rfl) rfl ?_
    refine st (OpT.add (H rfl) (T1 rfl) (I rfl) (nw (by omega))) rfl ?_
    refine st (asT rfl) rfl ?_
    refine nn ?_
    exact AX.again (z + 1) ⟨by omega, eqs_step hI.2 ha hb (by simpa [eqv_iff, eqv_false_iff] using hc3)⟩ (by omega) (Kc 0 _ (Kv rfl rfl) <| Kc 1 _ (Kv rfl rfl) <| Kc 5 _ (Kv rfl (by omega)) <| Kn)
  ·
   replace hc2 := oF hc2
   refine AW.exit ?_
   refine xT <| xT <| AX.exit_hit ?_
   refine AX.go ?_
   refine sr ?_
   refine st (asB rfl) rfl ?_
   refine ng ?_
   refine AW.ret ?_
   exact rt1 rfl (.inl rfl) (by first | exact eqs_len (by omega) | exact eqs_ne ha hb (by simpa [eqv_iff, eqv_false_iff] using hc3) | exact eqs_all hI.2 (by omega) (by omega))

set_option maxHeartbeats 4000000 in
theorem c_spec_l07Same (x y : DAns) : AC Tryz.prog 67 [.cel (Kd.ptr kAns) x, .cel (Kd.ptr kAns) y] [.cel Kd.bool (eqv x y)] [] := by
 refine acI (N := 64) Tryz.func67 (Nat.le_of_ble_eq_true rfl) rfl fun w0 hd s0 ar => ?_
 refine AW.to (kc2 0 1 rfl <| Kn) ?_
 refine AW.fact (fun a w hr => (ok_slice (ok_pair (ok_pair (ok_ptr (R_ok (t := 0) rfl hr))).2).2).2) (fun hl0 => ?_)
 refine sr ?_
 refine st (asB rfl) rfl ?_
 refine ng ?_
 refine AW.seq ?_
 refine AW.seq ?_
 rcases Bool.eq_false_or_eq_true (!(eqv x.1 y.1)) with hd1 | hd1
 ·
  refine dh fomo ?_
  refine d1 [0] (fun ve h => OpT.move (A := .cel _ _) (.inl rfl) rfl (ok' rfl) (D1 h rfl) rfl) rfl ?_
  refine d1 [6] (fun ve h => OpT.nilCheck (H rfl) (D1 h rfl)) rfl ?_
  refine d1 [7] (fun ve h => OpT.fieldAddr (H rfl) (D1 h rfl) fd54_0 sz49 (by decide) sb54_0) rfl ?_
  refine d1 [8] (fun ve h => OpT.loadA (H rfl) (D1 h rfl) ag49 sz49) rfl ?_
  refine d1 [1] (fun ve h => OpT.move (A := .cel _ _) (.inl rfl) rfl (ok' rfl) (D1 h rfl) rfl) rfl ?_
  refine d1 [10] (fun ve h => OpT.nilCheck (H rfl) (D1 h rfl)) rfl ?_
  refine d1 [11] (fun ve h => OpT.fieldAddr (H rfl) (D1 h rfl) fd54_0 sz49 (by decide) sb54_0) rfl ?_
  refine d1 [12] (fun ve h => OpT.loadA (H rfl) (D1 h rfl) ag49 sz49) rfl ?_
  refine d1 [9, 13] (fun ve h => OpT.neA (H rfl) (D1 h rfl) (D1 h rfl) eq49 ag49 rfl eg49) rfl ?_
  refine d1 [14] (fun ve h => OpT.move (A := .cel _ _) (.inl rfl) rfl (ok' rfl) (D1 h rfl) rfl) rfl ?_
  refine dp hd1 rfl ?_
  refine dp hd1 rfl ?_
  refine dp hd1 rfl ?_
  refine dp hd1 rfl ?_
  refine dp hd1 rfl ?_
  refine dp hd1 rfl ?_
  refine dp hd1 rfl ?_
  refine dp hd1 rfl ?_
  refine dp hd1 rfl ?_
  refine dp hd1 rfl ?_
  refine d1 [15] (fun ve h => OpT.pickT (A := .cel _ _) (H rfl) (D1 h rfl) hd1 Opd.bool rfl) rfl ?_
  refine d1 [26] (fun ve h => OpT.move (A := .cel _ _) (.inl rfl) rfl (ok' rfl) (D1 h rfl) rfl) rfl ?_
  refine dp rfl rfl ?_
  refine dp rfl rfl ?_
  refine dp rfl rfl ?_
  refine dp rfl rfl ?_
  refine dp rfl rfl ?_
  refine dp rfl rfl ?_
  refine dp rfl rfl ?_
  refine dp rfl rfl ?_
  refine dp rfl rfl ?_
  refine dp rfl rfl ?_
  refine dp rfl rfl ?_
  refine d1 [27] (fun ve h => OpT.pickT (A := .cel _ _) (H rfl) (D1 h rfl) rfl Opd.bool rfl) rfl ?_
  refine dn ⟨by kernel_rfl, by kernel_rfl, ?_⟩
  refine AX.pr (kc4 39 4 0 1 rfl <| Kn) ?_
  refine AX.go ?_
  refine cd rfl (fun hc1 => ?_) fun hc1 => ?_
  ·
   replace hc1 := oT hc1
   refine sr ?_
   refine st (asB rfl) rfl ?_
   refine ng ?_
   refine AW.ret ?_
   refine rT ?_
   exact rt1 rfl (.inl rfl) (by first | exact same_ne (.inl (by simpa [eqv_iff, eqv_false_iff] using hd1)) | exact same_ne (.inr (.inl (by simpa [eqv_iff, eqv_false_iff] using hd2))) | exact same_ne (.inr (.inr (fun e => hc3 (by rw [e])))) | exact same_ne (.inr (.inr (eqv_false_iff.1 (eqs_ne ha hb (by simpa [eqv_iff, eqv_false_iff] using hc5)).symm))) | exact same_eq (by simpa [eqv_iff, eqv_false_iff] using hd1) (by simpa [eqv_iff, eqv_false_iff] using hd2) (eqs_all hI.2 (by omega) (by omega)))
  ·
   replace hc1 := oF hc1
   exact absurd hc1 (by decide)
 ·
  rcases Bool.eq_false_or_eq_true (!(eqv x.2.1 y.2.1)) with hd2 | hd2
  ·
   refine dh fomo ?_
   refine d1 [0] (fun ve h => OpT.move (A := .cel _ _) (.inl rfl) rfl (ok' rfl) (D1 h rfl) rfl) rfl ?_
   refine d1 [6] (fun ve h => OpT.nilCheck (H rfl) (D1 h rfl)) rfl ?_
   refine d1 [7] (fun ve h => OpT.fieldAddr (H rfl) (D1 h rfl) fd54_0 sz49 (by decide) sb54_0) rfl ?_
   refine d1 [8] (fun ve h => OpT.loadA (H rfl) (D1 h rfl) ag49 sz49) rfl ?_
   refine d1 [1] (fun ve h => OpT.move (A := .cel _ _) (.inl rfl) rfl (ok' rfl) (D1 h rfl) rfl) rfl ?_
   refine d1 [10] (fun ve h => OpT.nilCheck (H rfl) (D1 h rfl)) rfl ?_
   refine d1 [11] (fun ve h => OpT.fieldAddr (H rfl) (D1 h rfl) fd54_0 sz49 (by decide) sb54_0) rfl ?_
   refine d1 [12] (fun ve h => OpT.loadA (H rfl) (D1 h rfl) ag49 sz49) rfl ?_
   refine d1 [9, 13] (fun ve h => OpT.neA (H rfl) (D1 h rfl) (D1 h rfl) eq49 ag49 rfl eg49) rfl ?_
   refine d1 [14] (fun ve h => OpT.move (A := .cel _ _) (.inl rfl) rfl (ok' rfl) (D1 h rfl) rfl) rfl ?_
   refine dr [0, 15] hd1 (fun ve h => OpT.move (A := .cel _ _) (.inl rfl) rfl (ok' rfl) (D1 h rfl) rfl) rfl ?_
   refine dr [15, 16] hd1 (fun ve h => OpT.nilCheck (H rfl) (D1 h rfl)) rfl ?_
   refine dr [15, 17] hd1 (fun ve h => OpT.fieldAddr (H rfl) (D1 h rfl) fd54_1 sz23 (by decide) sb54_1) rfl ?_
   refine dr [15, 18] hd1 (fun ve h => OpT.load (H rfl) (D1 h rfl) ag23 rfl) rfl ?_
   refine dr [1, 15] hd1 (fun ve h => OpT.move (A := .cel _ _) (.inl rfl) rfl (ok' rfl) (D1 h rfl) rfl) rfl ?_
   refine dr [15, 20] hd1 (fun ve h => OpT.nilCheck (H rfl) (D1 h rfl)) rfl ?_
   refine dr [15, 21] hd1 (fun ve h => OpT.fieldAddr (H rfl) (D1 h rfl) fd54_1 sz23 (by decide) sb54_1) rfl ?_
   refine dr [15, 22] hd1 (fun ve h => OpT.load (H rfl) (D1 h rfl) ag23 rfl) rfl ?_
   refine dr [15, 19, 23] hd1 (fun ve h => OpT.c1 (ms := [.flat, .flat]) (c_spec_l00Same _ _) (H rfl) (Af (D1 h rfl) rfl rfl <| Af (D1 h rfl) rfl rfl <| An) rfl rfl) rfl ?_
   refine dr [15, 24] hd1 (fun ve h => OpT.not (H rfl) (D1 h rfl)) rfl ?_
   refine d1 [15, 25] (fun ve h => OpT.pickF (A := .cel _ _) (H rfl) (D1 h rfl) hd1 (D1 h rfl) rfl) rfl ?_
   refine d1 [26] (fun ve h => OpT.move (A := .cel _ _) (.inl rfl) rfl (ok' rfl) (D1 h rfl) rfl) rfl ?_
   refine dp hd2 rfl ?_
   refine dp hd2 rfl ?_
   refine dp hd2 rfl ?_
   refine dp hd2 rfl ?_
   refine dp hd2 rfl ?_
   refine dp hd2 rfl ?_
   refine dp hd2 rfl ?_
   refine dp hd2 rfl ?_
   refine dp hd2 rfl ?_
   refine dp hd2 rfl ?_
   refine dp hd2 rfl ?_
   refine d1 [27] (fun ve h => OpT.pickT (A := .cel _ _) (H rfl) (D1 h rfl) hd2 Opd.bool rfl) rfl ?_
   refine dn ⟨by kernel_rfl, by kernel_rfl, ?_⟩
   refine AX.pr (kc4 39 4 0 1 rfl <| Kn) ?_
   refine AX.go ?_
   refine cd rfl (fun hc2 => ?_) fun hc2 => ?_
   ·
    replace hc2 := oT hc2
    refine sr ?_
    refine st (asB rfl) rfl ?_
    refine ng ?_
    refine AW.ret ?_
    refine rT ?_
    exact rt1 rfl (.inl rfl) (by first | exact same_ne (.inl (by simpa [eqv_iff, eqv_false_iff] using hd1)) | exact same_ne (.inr (.inl (by simpa [eqv_iff, eqv_false_iff] using hd2))) | exact same_ne (.inr (.inr (fun e => hc3 (by rw [e])))) | exact same_ne (.inr (.inr (eqv_false_iff.1 (eqs_ne ha hb (by simpa [eqv_iff, eqv_false_iff] using hc5)).symm))) | exact same_eq (by simpa [eqv_iff, eqv_false_iff] using hd1) (by simpa [eqv_iff, eqv_false_iff] using hd2) (eqs_all hI.2 (by omega) (by omega)))
   ·
    replace hc2 := oF hc2
    exact absurd hc2 (by decide)
  ·
   refine dh fomo ?_
   refine d1 [0] (fun ve h => OpT.move (A := .cel _ _) (.inl rfl) rfl (ok' rfl) (D1 h rfl) rfl) rfl ?_
   refine d1 [6] (fun ve h => OpT.nilCheck (H rfl) (D1 h rfl)) rfl ?_
   refine d1 [7] (fun ve h => OpT.fieldAddr (H rfl) (D1 h rfl) fd54_0 sz49 (by decide) sb54_0) rfl ?_
   refine d1 [8] (fun ve h => OpT.loadA (H rfl) (D1 h rfl) ag49 sz49) rfl ?_
   refine d1 [1] (fun ve h => OpT.move (A := .cel _ _) (.inl rfl) rfl (ok' rfl) (D1 h rfl) rfl) rfl ?_
   refine d1 [10] (fun ve h => OpT.nilCheck (H rfl) (D1 h rfl)) rfl ?_
   refine d1 [11] (fun ve h => OpT.fieldAddr (H rfl) (D1 h rfl) fd54_0 sz49 (by decide) sb54_0) rfl ?_
   refine d1 [12] (fun ve h => OpT.loadA (H rfl) (D1 h rfl) ag49 sz49) rfl ?_
   refine d1 [9, 13] (fun ve h => OpT.neA (H rfl) (D1 h rfl) (D1 h rfl) eq49 ag49 rfl eg49) rfl ?_
   refine d1 [14] (fun ve h => OpT.move (A := .cel _ _) (.inl rfl) rfl (ok' rfl) (D1 h rfl) rfl) rfl ?_
   refine dr [0, 15] hd1 (fun ve h => OpT.move (A := .cel _ _) (.inl rfl) rfl (ok' rfl) (D1 h rfl) rfl) rfl ?_
   refine dr [15, 16] hd1 (fun ve h => OpT.nilCheck (H rfl) (D1 h rfl)) rfl ?_
   refine dr [15, 17] hd1 (fun ve h => OpT.fieldAddr (H rfl) (D1 h rfl) fd54_1 sz23 (by decide) sb54_1) rfl ?_
   refine dr [15, 18] hd1 (fun ve h => OpT.load (H rfl) (D1 h rfl) ag23 rfl) rfl ?_
   refine dr [1, 15] hd1 (fun ve h => OpT.move (A := .cel _ _) (.inl rfl) rfl (ok' rfl) (D1 h rfl) rfl) rfl ?_
   refine dr [15, 20] hd1 (fun ve h => OpT.nilCheck (H rfl) (D1 h rfl)) rfl ?_
   refine dr [15, 21] hd1 (fun ve h => OpT.fieldAddr (H rfl) (D1 h rfl) fd54_1 sz23 (by decide) sb54_1) rfl ?_
   refine dr [15, 22] hd1 (fun ve h => OpT.load (H rfl) (D1 h rfl) ag23 rfl) rfl ?_
   refine dr [15, 19, 23] hd1 (fun ve h => OpT.c1 (ms := [.flat, .flat]) (c_spec_l00Same _ _) (H rfl) (Af (D1 h rfl) rfl rfl <| Af (D1 h rfl) rfl rfl <| An) rfl rfl) rfl ?_
   refine dr [15, 24] hd1 (fun ve h => OpT.not (H rfl) (D1 h rfl)) rfl ?_
   refine d1 [15, 25] (fun ve h => OpT.pickF (A := .cel _ _) (H rfl) (D1 h rfl) hd1 (D1 h rfl) rfl) rfl ?_
   refine d1 [26] (fun ve h => OpT.move (A := .cel _ _) (.inl rfl) rfl (ok' rfl) (D1 h rfl) rfl) rfl ?_
   refine dr [0, 27] hd2 (fun ve h => OpT.move (A := .cel _ _) (.inl rfl) rfl (ok' rfl) (D1 h rfl) rfl) rfl ?_
   refine dr [27, 28] hd2 (fun ve h => OpT.nilCheck (H rfl) (D1 h rfl)) rfl ?_
   refine dr [27, 29] hd2 (fun ve h => OpT.fieldAddr (H rfl) (D1 h rfl) fd54_2 sz52 (by decide) sb54_2) rfl ?_
   refine dr [27, 30] hd2 (fun ve h => OpT.load (H rfl) (D1 h rfl) ag52 rfl) rfl ?_
   refine dr [27, 31] hd2 (fun ve h => OpT.len (H rfl) (D1 h rfl) el52) rfl ?_
   refine dr [1, 27] hd2 (fun ve h => OpT.move (A := .cel _ _) (.inl rfl) rfl (ok' rfl) (D1 h rfl) rfl) rfl ?_
   refine dr [27, 33] hd2 (fun ve h => OpT.nilCheck (H rfl) (D1 h rfl)) rfl ?_
   refine dr [27, 34] hd2 (fun ve h => OpT.fieldAddr (H rfl) (D1 h rfl) fd54_2 sz52 (by decide) sb54_2) rfl ?_
   refine dr [27, 35] hd2 (fun ve h => OpT.load (H rfl) (D1 h rfl) ag52 rfl) rfl ?_
   refine dr [27, 36] hd2 (fun ve h => OpT.len (H rfl) (D1 h rfl) el52) rfl ?_
   refine dr [27, 32, 37] hd2 (fun ve h => OpT.neq (H rfl) (D1 h rfl) (D1 h rfl)) rfl ?_
   refine d1 [27, 38] (fun ve h => OpT.pickF (A := .cel _ _) (H rfl) (D1 h rfl) hd2 (D1 h rfl) rfl) rfl ?_
   refine dn ⟨by kernel_rfl, by kernel_rfl, ?_⟩
   refine AX.pr (kc4 39 4 0 1 rfl <| Kn) ?_
   refine AX.go ?_
   refine cd rfl (fun hc3 => ?_) fun hc3 => ?_
   ·
    replace hc3 := oT hc3
    simp only [bne_iff_ne, ne_eq, bne_eq_false_iff_eq] at hc3
    refine sr ?_
    refine st (asB rfl) rfl ?_
    refine ng ?_
    refine AW.ret ?_
    refine rT ?_
    exact rt1 rfl (.inl rfl) (by first | exact same_ne (.inl (by simpa [eqv_iff, eqv_false_iff] using hd1)) | exact same_ne (.inr (.inl (by simpa [eqv_iff, eqv_false_iff] using hd2))) | exact same_ne (.inr (.inr (fun e => hc3 (by rw [e])))) | exact same_ne (.inr (.inr (eqv_false_iff.1 (eqs_ne ha hb (by simpa [eqv_iff, eqv_false_iff] using hc5)).symm))) | exact same_eq (by simpa [eqv_iff, eqv_false_iff] using hd1) (by simpa [eqv_iff, eqv_false_iff] using hd2) (eqs_all hI.2 (by omega) (by omega)))
   ·
    replace hc3 := oF hc3
    simp only [bne_iff_ne, ne_eq, bne_eq_false_iff_eq] at hc3
    refine AW.skip ?_
    refine AX.go ?_
    refine AW.seq ?_
    refine sr ?_
    refine st (asI rfl) rfl ?_
    refine ng ?_
    refine AW.block ?_
    refine AW.loop (fun z : Nat => z ≤ x.2.2.length ∧ x.2.2.take z = y.2.2.take z) (fun z : Nat => keep [(0, .cel (Kd.ptr kAns) x), (1, .cel (Kd.ptr kAns) y), (5, .cel (Kd.int .i64) (z : Int))]) (fun z : Nat => x.2.2.length - z) (0) ⟨Nat.zero_le _, rfl⟩ (Kc 0 _ (Kv rfl rfl) <| Kc 1 _ (Kv rfl rfl) <| Kc 5 _ (Kv rfl rfl) <| Kn) ?_
    intro z hI
    refine AW.seq ?_
    refine sr ?_
    refine st (mvT rfl) rfl ?_
    refine st (mvT rfl) rfl ?_
    refine st (OpT.nilCheck (H rfl) (T1 rfl)) rfl ?_
    refine st (OpT.fieldAddr (H rfl) (T1 rfl) fd54_2 sz52 (by decide) sb54_2) rfl ?_
    refine st (OpT.load (H rfl) (T1 rfl) ag52 rfl) rfl ?_
    refine st (OpT.len (H rfl) (T1 rfl) el52) rfl ?_
    refine st (OpT.lss (H rfl) (T1 rfl) (T1 rfl)) rfl ?_
    refine ng ?_
    refine cd rfl (fun hc4 => ?_) fun hc4 => ?_
    ·
     replace hc4 := oT hc4
     obtain ⟨a, ha⟩ := getI (x := x.2.2) (z := z) (by omega); obtain ⟨b, hb⟩ := getI (x := y.2.2) (z := z) (by omega)
     refine AW.skip ?_
     refine AX.go ?_
     refine AW.seq ?_
     refine AW.block ?_
     refine AW.seq ?_
     refine dh fomo ?_
     refine d1 [0] (fun ve h => OpT.move (A := .cel _ _) (.inl rfl) rfl (ok' rfl) (D1 h rfl) rfl) rfl ?_
     refine d1 [49] (fun ve h => OpT.nilCheck (H rfl) (D1 h rfl)) rfl ?_
     refine d1 [50] (fun ve h => OpT.fieldAddr (H rfl) (D1 h rfl) fd54_2 sz52 (by decide) sb54_2) rfl ?_
     refine d1 [51] (fun ve h => OpT.load (H rfl) (D1 h rfl) ag52 rfl) rfl ?_
     refine d1 [5] (fun ve h => OpT.move (A := .cel _ _) (.inl rfl) rfl (ok' rfl) (D1 h rfl) rfl) rfl ?_
     refine d1 [52, 53] (fun ve h => OpT.indexAddr (H rfl) (D1 h rfl) (D1 h rfl) el52 sz97 (by omega) (by assumption)) rfl ?_
     refine d1 [54] (fun ve h => OpT.loadA (H rfl) (D1 h rfl) ag97 sz97) rfl ?_
     refine d1 [1] (fun ve h => OpT.move (A := .cel _ _) (.inl rfl) rfl (ok' rfl) (D1 h rfl) rfl) rfl ?_
     refine d1 [56] (fun ve h => OpT.nilCheck (H rfl) (D1 h rfl)) rfl ?_
     refine d1 [57] (fun ve h => OpT.fieldAddr (H rfl) (D1 h rfl) fd54_2 sz52 (by decide) sb54_2) rfl ?_
     refine d1 [58] (fun ve h => OpT.load (H rfl) (D1 h rfl) ag52 rfl) rfl ?_
     refine d1 [5] (fun ve h => OpT.move (A := .cel _ _) (.inl rfl) rfl (ok' rfl) (D1 h rfl) rfl) rfl ?_
     refine d1 [59, 60] (fun ve h => OpT.indexAddr (H rfl) (D1 h rfl) (D1 h rfl) el52 sz97 (by omega) (by assumption)) rfl ?_
     refine d1 [61] (fun ve h => OpT.loadA (H rfl) (D1 h rfl) ag97 sz97) rfl ?_
     refine d1 [55, 62] (fun ve h => OpT.neA (H rfl) (D1 h rfl) (D1 h rfl) eq97 ag97 rfl eg97) rfl ?_
     refine dn ⟨by kernel_rfl, by kernel_rfl, ?_⟩
     refine AX.go ?_
     refine cd rfl (fun hc5 => ?_) fun hc5 => ?_
     ·
      replace hc5 := oT hc5
      refine sr ?_
      refine st (asB rfl) rfl ?_
      refine ng ?_
      refine AW.ret ?_
      refine rK <| rT <| rT <| rK <| rT ?_
      exact rt1 rfl (.inl rfl) (by first | exact same_ne (.inl (by simpa [eqv_iff, eqv_false_iff] using hd1)) | exact same_ne (.inr (.inl (by simpa [eqv_iff, eqv_false_iff] using hd2))) | exact same_ne (.inr (.inr (fun e => hc3 (by rw [e])))) | exact same_ne (.inr (.inr (eqv_false_iff.1 (eqs_ne ha hb (by simpa [eqv_iff, eqv_false_iff] using hc5)).symm))) | exact same_eq (by simpa [eqv_iff, eqv_false_iff] using hd1) (by simpa [eqv_iff, eqv_false_iff] using hd2) (eqs_all hI.2 (by omega) (by omega)))
     ·
      replace hc5 := oF hc5
      refine AW.skip ?_
      refine AX.normal_block ?_
      refine AX.go ?_
      refine AW.region ?_
      refine st (mvT rfl) rfl ?_
      refine st (OpT.add (H rfl) (T1 rfl) (I rfl) (nw (by omega))) rfl ?_
      refine st (asT rfl) rfl ?_
      refine nn ?_
      exact AX.again (z + 1) ⟨by omega, eqs_step hI.2 ha hb (by simpa [eqv_iff, eqv_false_iff] using hc5)⟩ (by omega) (Kc 0 _ (Kv rfl rfl) <| Kc 1 _ (Kv rfl rfl) <| Kc 5 _ (Kv rfl (by omega)) <| Kn)
    ·
     replace hc4 := oF hc4
     refine AW.exit ?_
     refine xT <| xT <| AX.exit_hit ?_
     refine AX.go ?_
     refine sr ?_
     refine st (asB rfl) rfl ?_
     refine ng ?_
     refine AW.ret ?_
     exact rt1 rfl (.inl rfl) (by first | exact same_ne (.inl (by simpa [eqv_iff, eqv_false_iff] using hd1)) | exact same_ne (.inr (.inl (by simpa [eqv_iff, eqv_false_iff] using hd2))) | exact same_ne (.inr (.inr (fun e => hc3 (by rw [e])))) | exact same_ne (.inr (.inr (eqv_false_iff.1 (eqs_ne ha hb (by simpa [eqv_iff, eqv_false_iff] using hc5)).symm))) | exact same_eq (by simpa [eqv_iff, eqv_false_iff] using hd1) (by simpa [eqv_iff, eqv_false_iff] using hd2) (eqs_all hI.2 (by omega) (by omega)))

theorem c_spec_SameAnswer (x y : DAns) : AC Tryz.prog 19 [.agg kAns x, .agg kAns y] [.cel Kd.bool (eqv x y)] [] := by
 refine acI (N := 6) Tryz.func19 (Nat.le_of_ble_eq_true rfl) rfl fun w0 hd s0 ar => ?_
 refine AW.to (ka 0 rfl <| ka 1 rfl <| Kn) ?_
 refine sr ?_
 refine st (OpT.frz (OpT.boxA (E := 54) (H rfl) (T1 rfl))) rfl ?_
 refine st (OpT.frz (OpT.boxA (E := 54) (H rfl) (T1 rfl))) rfl ?_
 refine st (asB rfl) rfl ?_
 refine ng ?_
 refine sr ?_
 refine st (OpT.c1 (ms := [.flat, .flat]) (c_spec_l07Same _ _) (H rfl) (Af (T1 rfl) rfl rfl <| Af (T1 rfl) rfl rfl <| An) rfl rfl) rfl ?_
 refine st (asT rfl) rfl ?_
 refine ng ?_
 refine AW.ret ?_
 exact rt1 rfl (.inl rfl) rfl
end Go.Proofs.YtlhfmcbmlmhgaaaGreatDoor.VL
