/- Proved here: what some functions of the program take and give: walks with the words of VA..VQ. Printed by program. -/
import Derived.Test.YtfnkphllkbkfaaaDoorWT
import Derived.Test.YtfnkphllkbkfaaaDoorBpa
import Derived.Test.YtfnkphllkbkfaaaDoorWB
set_option linter.unusedVariables false
set_option linter.unusedSimpArgs false
set_option maxRecDepth 4000
namespace Go.Proofs.YtfnkphllkbkfaaaDoor.VL
open Go
/-- laws.eqInt64S -/
theorem c_laws_eqInt64S (x y : List (Int)) : AC Tryd.prog 97 [.cel (Kd.slice (Kd.int .i64)) x, .cel (Kd.slice (Kd.int .i64)) y] [.cel Kd.bool (eqv x y)] [] := by
 refine acI (N := 26) Tryd.func97 (Nat.le_of_ble_eq_true rfl) rfl fun w0 hd s0 ar => ?_
 refine AW.to (kc2 0 1 rfl <| Kn) ?_
 refine AW.fact (fun a w hr => (ok_slice (R_ok (t := 0) rfl hr)).2) (fun hl0 => ?_)
 refine AW.fact (fun a w hr => (ok_slice (R_ok (t := 1) rfl hr)).2) (fun hl1 => ?_)
 refine sr ?_
 refine st (asB rfl) rfl ?_
 refine ng ?_
 refine AW.seq ?_
 refine sr ?_
 refine st (mvT rfl) rfl ?_
 refine st (OpT.len (H rfl) (T1 rfl) el75) rfl ?_
 refine st (mvT rfl) rfl ?_
 refine st (OpT.len (H rfl) (T1 rfl) el75) rfl ?_
 refine st (OpT.neq (H rfl) (T1 rfl) (T1 rfl)) rfl ?_
 refine ng ?_
 refine cd rfl (fun hc1 => ?_) fun hc1 => ?_
 ·
  replace hc1 := oT hc1
  try simp only [bne_iff_ne, ne_eq, bne_eq_false_iff_eq] at hc1
  refine sr ?_
  refine st (asB rfl) rfl ?_
  refine ng ?_
  refine AW.ret ?_
  refine rT ?_
  exact rt1 rfl (.inl rfl) (by first | exact eqs_len (by omega) | exact eqs_ne ha hb (by simpa [eqv_iff, eqv_false_iff] using hc3) | exact eqs_all hI.2 (by omega) (by omega))
 ·
  replace hc1 := oF hc1
  try simp only [bne_iff_ne, ne_eq, bne_eq_false_iff_eq] at hc1
  refine AW.skip ?_
  refine AX.go ?_
  refine AW.seq ?_
  refine sr ?_
  refine st (asI rfl) rfl ?_
  refine ng ?_
  refine AW.block ?_
  refine AW.loop (fun z : Nat => z ≤ x.length ∧ x.take z = y.take z) (fun z : Nat => keep [(0, .cel (Kd.slice (Kd.int .i64)) x), (1, .cel (Kd.slice (Kd.int .i64)) y), (5, .cel (Kd.int .i64) (z : Int))]) (fun z : Nat => x.length - z) (0) ⟨Nat.zero_le _, rfl⟩ (Kc 0 _ (Kv rfl rfl) <| Kc 1 _ (Kv rfl rfl) <| Kc 5 _ (Kv rfl rfl) <| Kn) ?_
  intro z hI
  refine AW.seq ?_
  refine sr ?_
  refine st (mvT rfl) rfl ?_
  refine st (mvT rfl) rfl ?_
  refine st (OpT.len (H rfl) (T1 rfl) el75) rfl ?_
  refine st (OpT.lss (H rfl) (T1 rfl) (T1 rfl)) rfl ?_
  refine ng ?_
  refine cd rfl (fun hc2 => ?_) fun hc2 => ?_
  ·
   replace hc2 := oT hc2
   obtain ⟨a, ha⟩ := getI (x := x) (z := z) (by omega); obtain ⟨b, hb⟩ := getI (x := y) (z := z) (by omega)
   refine AW.skip ?_
   refine AX.go ?_
   refine AW.seq ?_
   refine AW.block ?_
   refine AW.seq ?_
   refine dh fomo ?_
   refine d1 [0] (fun ve h => OpT.move (A := .cel _ _) (.inl rfl) rfl (ok' rfl) (D1 h rfl) rfl) rfl ?_
   refine d1 [5] (fun ve h => OpT.move (A := .cel _ _) (.inl rfl) rfl (ok' rfl) (D1 h rfl) rfl) rfl ?_
   refine d1 [17, 18] (fun ve h => OpT.indexAddr (H rfl) (D1 h rfl) (D1 h rfl) el75 sz2 (by omega) (by assumption)) rfl ?_
   refine d1 [19] (fun ve h => OpT.load (H rfl) (D1 h rfl) ag2 rfl) rfl ?_
   refine d1 [1] (fun ve h => OpT.move (A := .cel _ _) (.inl rfl) rfl (ok' rfl) (D1 h rfl) rfl) rfl ?_
   refine d1 [5] (fun ve h => OpT.move (A := .cel _ _) (.inl rfl) rfl (ok' rfl) (D1 h rfl) rfl) rfl ?_
   refine d1 [21, 22] (fun ve h => OpT.indexAddr (H rfl) (D1 h rfl) (D1 h rfl) el75 sz2 (by omega) (by assumption)) rfl ?_
   refine d1 [23] (fun ve h => OpT.load (H rfl) (D1 h rfl) ag2 rfl) rfl ?_
   refine d1 [20, 24] (fun ve h => OpT.neq (H rfl) (D1 h rfl) (D1 h rfl)) rfl ?_
   refine dn ⟨by kernel_rfl, by kernel_rfl, ?_⟩
   refine AX.go ?_
   refine cd rfl (fun hc3 => ?_) fun hc3 => ?_
   ·
    replace hc3 := oT hc3
    refine sr ?_
    refine st (asB rfl) rfl ?_
    refine ng ?_
    refine AW.ret ?_
    refine rK <| rT <| rT <| rK <| rT ?_
    exact rt1 rfl (.inl rfl) (by first | exact eqs_len (by omega) | exact eqs_ne ha hb (by simpa [eqv_iff, eqv_false_iff] using hc3) | exact eqs_all hI.2 (by omega) (by omega))
   ·
    replace hc3 := oF hc3
    refine AW.skip ?_
    refine AX.normal_block ?_
    refine AX.go ?_
    refine AW.region ?_
    refine st (mvT rfl) rfl ?_
    refine st (OpT.add (H rfl) (T1 rfl) (I rfl) (nw (by omega))) rfl ?_
    refine st (asT rfl) rfl ?_
    refine nn ?_
    exact AX.again (z + 1) ⟨by omega, eqs_step hI.2 ha hb (by simpa [eqv_iff, eqv_false_iff] using hc3)⟩ (by omega) (Kc 0 _ (Kv rfl rfl) <| Kc 1 _ (Kv rfl rfl) <| Kc 5 _ (Kv rfl (by omega)) <| Kn)
  ·
   replace hc2 := oF hc2
   refine AW.exit ?_
   refine xT <| xT <| AX.exit_hit ?_
   refine AX.go ?_
   refine sr ?_
   refine st (asB rfl) rfl ?_
   refine ng ?_
   refine AW.ret ?_
   exact rt1 rfl (.inl rfl) (by first | exact eqs_len (by omega) | exact eqs_ne ha hb (by simpa [eqv_iff, eqv_false_iff] using hc3) | exact eqs_all hI.2 (by omega) (by omega))

/-- laws.eqWitness -/
theorem c_laws_eqWitness (x y : Int × Int) : AC Tryd.prog 153 [.agg kWit x, .agg kWit y] [.cel Kd.bool (eqv x y)] [] := by
 refine acI (N := 15) Tryd.func153 (Nat.le_of_ble_eq_true rfl) rfl fun w0 hd s0 ar => ?_
 refine AW.to (ka 0 rfl <| ka 1 rfl <| Kn) ?_
 refine sr ?_
 refine st (OpT.frz (OpT.boxA (E := 138) (H rfl) (T1 rfl))) rfl ?_
 refine st (OpT.frz (OpT.boxA (E := 138) (H rfl) (T1 rfl))) rfl ?_
 refine st (asB rfl) rfl ?_
 refine ng ?_
 refine AW.seq ?_
 refine sr ?_
 refine st (OpT.fieldAddr (H rfl) (T1 rfl) fd138_0 sz2 (by decide) sb138_0) rfl ?_
 refine st (OpT.load (H rfl) (T1 rfl) ag2 rfl) rfl ?_
 refine st (OpT.fieldAddr (H rfl) (T1 rfl) fd138_0 sz2 (by decide) sb138_0) rfl ?_
 refine st (OpT.load (H rfl) (T1 rfl) ag2 rfl) rfl ?_
 refine st (OpT.neq (H rfl) (T1 rfl) (T1 rfl)) rfl ?_
 refine ng ?_
 refine cd rfl (fun hc1 => ?_) fun hc1 => ?_
 ·
  replace hc1 := oT hc1
  refine sr ?_
  refine st (asB rfl) rfl ?_
  refine ng ?_
  refine AW.ret ?_
  refine rT ?_
  exact rt1 rfl (.inl rfl) (by rw [eqv_pair]; simp_all [eqv_beq, eqv_bne])
 ·
  replace hc1 := oF hc1
  refine AW.skip ?_
  refine AX.go ?_
  refine AW.seq ?_
  refine sr ?_
  refine st (OpT.fieldAddr (H rfl) (T1 rfl) fd138_1 sz48 (by decide) sb138_1) rfl ?_
  refine st (OpT.load (H rfl) (T1 rfl) ag48 rfl) rfl ?_
  refine st (OpT.fieldAddr (H rfl) (T1 rfl) fd138_1 sz48 (by decide) sb138_1) rfl ?_
  refine st (OpT.load (H rfl) (T1 rfl) ag48 rfl) rfl ?_
  refine st (OpT.neq (H rfl) (T1 rfl) (T1 rfl)) rfl ?_
  refine AWl.to (kc2 14 4 rfl <| Kn) ?_
  refine ng ?_
  refine cd rfl (fun hc2 => ?_) fun hc2 => ?_
  ·
   replace hc2 := oT hc2
   refine sr ?_
   refine st (asB rfl) rfl ?_
   refine ng ?_
   refine AW.ret ?_
   refine rT ?_
   exact rt1 rfl (.inl rfl) (by rw [eqv_pair]; simp_all [eqv_beq, eqv_bne])
  ·
   replace hc2 := oF hc2
   refine AW.skip ?_
   refine AX.go ?_
   refine sr ?_
   refine st (asB rfl) rfl ?_
   refine ng ?_
   refine AW.ret ?_
   exact rt1 rfl (.inl rfl) (by rw [eqv_pair]; simp_all [eqv_beq, eqv_bne])

/-- laws.eqWitnessS -/
theorem c_laws_eqWitnessS (x y : List (Int × Int)) : AC Tryd.prog 98 [.cel (Kd.slice kWit) x, .cel (Kd.slice kWit) y] [.cel Kd.bool (eqv x y)] [] := by
 refine acI (N := 27) Tryd.func98 (Nat.le_of_ble_eq_true rfl) rfl fun w0 hd s0 ar => ?_
 refine AW.to (kc2 0 1 rfl <| Kn) ?_
 refine AW.fact (fun a w hr => (ok_slice (R_ok (t := 0) rfl hr)).2) (fun hl0 => ?_)
 refine AW.fact (fun a w hr => (ok_slice (R_ok (t := 1) rfl hr)).2) (fun hl1 => ?_)
 refine sr ?_
 refine st (asB rfl) rfl ?_
 refine ng ?_
 refine AW.seq ?_
 refine sr ?_
 refine st (mvT rfl) rfl ?_
 refine st (OpT.len (H rfl) (T1 rfl) el76) rfl ?_
 refine st (mvT rfl) rfl ?_
 refine st (OpT.len (H rfl) (T1 rfl) el76) rfl ?_
 refine st (OpT.neq (H rfl) (T1 rfl) (T1 rfl)) rfl ?_
 refine ng ?_
 refine cd rfl (fun hc1 => ?_) fun hc1 => ?_
 ·
  replace hc1 := oT hc1
  try simp only [bne_iff_ne, ne_eq, bne_eq_false_iff_eq] at hc1
  refine sr ?_
  refine st (asB rfl) rfl ?_
  refine ng ?_
  refine AW.ret ?_
  refine rT ?_
  exact rt1 rfl (.inl rfl) (by first | exact eqs_len (by omega) | exact eqs_ne ha hb (by simpa [eqv_iff, eqv_false_iff] using hc3) | exact eqs_all hI.2 (by omega) (by omega))
 ·
  replace hc1 := oF hc1
  try simp only [bne_iff_ne, ne_eq, bne_eq_false_iff_eq] at hc1
  refine AW.skip ?_
  refine AX.go ?_
  refine AW.seq ?_
  refine sr ?_
  refine st (asI rfl) rfl ?_
  refine ng ?_
  refine AW.block ?_
  refine AW.loop (fun z : Nat => z ≤ x.length ∧ x.take z = y.take z) (fun z : Nat => keep [(0, .cel (Kd.slice kWit) x), (1, .cel (Kd.slice kWit) y), (5, .cel (Kd.int .i64) (z : Int))]) (fun z : Nat => x.length - z) (0) ⟨Nat.zero_le _, rfl⟩ (Kc 0 _ (Kv rfl rfl) <| Kc 1 _ (Kv rfl rfl) <| Kc 5 _ (Kv rfl rfl) <| Kn) ?_
  intro z hI
  refine AW.seq ?_
  refine sr ?_
  refine st (mvT rfl) rfl ?_
  refine st (mvT rfl) rfl ?_
  refine st (OpT.len (H rfl) (T1 rfl) el76) rfl ?_
  refine st (OpT.lss (H rfl) (T1 rfl) (T1 rfl)) rfl ?_
  refine ng ?_
  refine cd rfl (fun hc2 => ?_) fun hc2 => ?_
  ·
   replace hc2 := oT hc2
   obtain ⟨a, ha⟩ := getI (x := x) (z := z) (by omega); obtain ⟨b, hb⟩ := getI (x := y) (z := z) (by omega)
   refine AW.skip ?_
   refine AX.go ?_
   refine AW.seq ?_
   refine AW.block ?_
   refine AW.seq ?_
   refine dh fomo ?_
   refine d1 [0] (fun ve h => OpT.move (A := .cel _ _) (.inl rfl) rfl (ok' rfl) (D1 h rfl) rfl) rfl ?_
   refine d1 [5] (fun ve h => OpT.move (A := .cel _ _) (.inl rfl) rfl (ok' rfl) (D1 h rfl) rfl) rfl ?_
   refine d1 [17, 18] (fun ve h => OpT.indexAddr (H rfl) (D1 h rfl) (D1 h rfl) el76 sz138 (by omega) (by assumption)) rfl ?_
   refine d1 [19] (fun ve h => OpT.loadA (H rfl) (D1 h rfl) ag138 sz138) rfl ?_
   refine d1 [1] (fun ve h => OpT.move (A := .cel _ _) (.inl rfl) rfl (ok' rfl) (D1 h rfl) rfl) rfl ?_
   refine d1 [5] (fun ve h => OpT.move (A := .cel _ _) (.inl rfl) rfl (ok' rfl) (D1 h rfl) rfl) rfl ?_
   refine d1 [21, 22] (fun ve h => OpT.indexAddr (H rfl) (D1 h rfl) (D1 h rfl) el76 sz138 (by omega) (by assumption)) rfl ?_
   refine d1 [23] (fun ve h => OpT.loadA (H rfl) (D1 h rfl) ag138 sz138) rfl ?_
   refine d1 [20, 24] (fun ve h => OpT.c1 (ms := [.flat, .flat]) (c_laws_eqWitness _ _) (H rfl) (Af (D1 h rfl) rfl rfl <| Af (D1 h rfl) rfl rfl <| An) rfl rfl) rfl ?_
   refine d1 [25] (fun ve h => OpT.not (H rfl) (D1 h rfl)) rfl ?_
   refine dn ⟨by kernel_rfl, by kernel_rfl, ?_⟩
   refine AX.go ?_
   refine cd rfl (fun hc3 => ?_) fun hc3 => ?_
   ·
    replace hc3 := oT hc3
    refine sr ?_
    refine st (asB rfl) rfl ?_
    refine ng ?_
    refine AW.ret ?_
    refine rK <| rT <| rT <| rK <| rT ?_
    exact rt1 rfl (.inl rfl) (by first | exact eqs_len (by omega) | exact eqs_ne ha hb (by simpa [eqv_iff, eqv_false_iff] using hc3) | exact eqs_all hI.2 (by omega) (by omega))
   ·
    replace hc3 := oF hc3
    refine AW.skip ?_
    refine AX.normal_block ?_
    refine AX.go ?_
    refine AW.region ?_
    refine st (mvT rfl) rfl ?_
    refine st (OpT.add (H rfl) (T1 rfl) (I rfl) (nw (by omega))) rfl ?_
    refine st (asT rfl) rfl ?_
    refine nn ?_
    exact AX.again (z + 1) ⟨by omega, eqs_step hI.2 ha hb (by simpa [eqv_iff, eqv_false_iff] using hc3)⟩ (by omega) (Kc 0 _ (Kv rfl rfl) <| Kc 1 _ (Kv rfl rfl) <| Kc 5 _ (Kv rfl (by omega)) <| Kn)
  ·
   replace hc2 := oF hc2
   refine AW.exit ?_
   refine xT <| xT <| AX.exit_hit ?_
   refine AX.go ?_
   refine sr ?_
   refine st (asB rfl) rfl ?_
   refine ng ?_
   refine AW.ret ?_
   exact rt1 rfl (.inl rfl) (by first | exact eqs_len (by omega) | exact eqs_ne ha hb (by simpa [eqv_iff, eqv_false_iff] using hc3) | exact eqs_all hI.2 (by omega) (by omega))

/-- laws.eqMask -/
theorem c_laws_eqMask (x y : BitVec 64 × BitVec 64) : AC Tryd.prog 105 [.agg kMask x, .agg kMask y] [.cel Kd.bool (eqv x y)] [] := by
 refine acI (N := 17) Tryd.func105 (Nat.le_of_ble_eq_true rfl) rfl fun w0 hd s0 ar => ?_
 refine AW.to (ka 0 rfl <| ka 1 rfl <| Kn) ?_
 refine sr ?_
 refine st (OpT.frz (OpT.boxA (E := 55) (H rfl) (T1 rfl))) rfl ?_
 refine st (OpT.frz (OpT.boxA (E := 55) (H rfl) (T1 rfl))) rfl ?_
 refine st (asB rfl) rfl ?_
 refine ng ?_
 refine AW.seq ?_
 refine sr ?_
 refine st (asI rfl) rfl ?_
 refine ng ?_
 refine AW.block ?_
 refine AW.loop (fun z : Nat => z ≤ 2 ∧ (0 < z → x.1 = y.1) ∧ (1 < z → x.2 = y.2)) (fun z : Nat => keep [(2, .cel (Kd.ptr kMask) x), (3, .cel (Kd.ptr kMask) y), (5, .cel (Kd.int .i64) (z : Int))]) (fun z : Nat => 2 - z) (0) (eqM_zero x y) (Kc 2 _ (Kv rfl rfl) <| Kc 3 _ (Kv rfl rfl) <| Kc 5 _ (Kv rfl rfl) <| Kn) ?_
 intro z hI
 refine AW.seq ?_
 refine sr ?_
 refine st (mvT rfl) rfl ?_
 refine st (OpT.lss (H rfl) (T1 rfl) (I rfl)) rfl ?_
 refine ng ?_
 refine cd rfl (fun hc1 => ?_) fun hc1 => ?_
 ·
  replace hc1 := oT hc1
  refine AW.skip ?_
  refine AX.go ?_
  refine AW.seq ?_
  refine AW.block ?_
  refine AW.seq ?_
  refine dh fomo ?_
  refine d1 [5] (fun ve h => OpT.move (A := .cel _ _) (.inl rfl) rfl (ok' rfl) (D1 h rfl) rfl) rfl ?_
  refine d1 [2, 10] (fun ve h => OpT.indexAddrP (H rfl) (D1 h rfl) (D1 h rfl) ar55 sz49 (by omega) (Sub.two (by omega) rfl)) rfl ?_
  refine d1 [11] (fun ve h => OpT.load (H rfl) (D1 h rfl) ag49 rfl) rfl ?_
  refine d1 [5] (fun ve h => OpT.move (A := .cel _ _) (.inl rfl) rfl (ok' rfl) (D1 h rfl) rfl) rfl ?_
  refine d1 [3, 13] (fun ve h => OpT.indexAddrP (H rfl) (D1 h rfl) (D1 h rfl) ar55 sz49 (by omega) (Sub.two (by omega) rfl)) rfl ?_
  refine d1 [14] (fun ve h => OpT.load (H rfl) (D1 h rfl) ag49 rfl) rfl ?_
  refine d1 [12, 15] (fun ve h => OpT.uneq (H rfl) (D1 h rfl) (D1 h rfl)) rfl ?_
  refine dn ⟨by kernel_rfl, by kernel_rfl, ?_⟩
  refine AX.go ?_
  refine cd rfl (fun hc2 => ?_) fun hc2 => ?_
  ·
   replace hc2 := oT hc2
   refine sr ?_
   refine st (asB rfl) rfl ?_
   refine ng ?_
   refine AW.ret ?_
   refine rK <| rT <| rT <| rK <| rT ?_
   exact rt1 rfl (.inl rfl) (by first | exact eqM_ne (by omega) (bne_iff_ne.1 hc2) | exact eqM_all hI (by omega))
  ·
   replace hc2 := oF hc2
   refine AW.skip ?_
   refine AX.normal_block ?_
   refine AX.go ?_
   refine AW.region ?_
   refine st (mvT rfl) rfl ?_
   refine st (OpT.add (H rfl) (T1 rfl) (I rfl) (nw (by omega))) rfl ?_
   refine st (asT rfl) rfl ?_
   refine nn ?_
   exact AX.again (z + 1) (eqM_step hI (by omega) (by simpa [eqv_iff, eqv_false_iff] using hc2)) (by omega) (Kc 2 _ (Kv rfl rfl) <| Kc 3 _ (Kv rfl rfl) <| Kc 5 _ (Kv rfl (by omega)) <| Kn)
 ·
  replace hc1 := oF hc1
  refine AW.exit ?_
  refine xT <| xT <| AX.exit_hit ?_
  refine AX.go ?_
  refine sr ?_
  refine st (asB rfl) rfl ?_
  refine ng ?_
  refine AW.ret ?_
  exact rt1 rfl (.inl rfl) (by first | exact eqM_ne (by omega) (bne_iff_ne.1 hc2) | exact eqM_all hI (by omega))

/-- laws.eqQuery -/
theorem c_laws_eqQuery (x y : (BitVec 64 × BitVec 64) × (BitVec 64 × BitVec 64)) : AC Tryd.prog 96 [.agg kQuery x, .agg kQuery y] [.cel Kd.bool (eqv x y)] [] := by
 refine acI (N := 17) Tryd.func96 (Nat.le_of_ble_eq_true rfl) rfl fun w0 hd s0 ar => ?_
 refine AW.to (ka 0 rfl <| ka 1 rfl <| Kn) ?_
 refine sr ?_
 refine st (OpT.frz (OpT.boxA (E := 74) (H rfl) (T1 rfl))) rfl ?_
 refine st (OpT.frz (OpT.boxA (E := 74) (H rfl) (T1 rfl))) rfl ?_
 refine st (asB rfl) rfl ?_
 refine ng ?_
 refine AW.seq ?_
 refine sr ?_
 refine st (OpT.fieldAddr (H rfl) (T1 rfl) fd74_0 sz55 (by decide) sb74_0) rfl ?_
 refine st (OpT.loadA (H rfl) (T1 rfl) ag55 sz55) rfl ?_
 refine st (OpT.fieldAddr (H rfl) (T1 rfl) fd74_0 sz55 (by decide) sb74_0) rfl ?_
 refine st (OpT.loadA (H rfl) (T1 rfl) ag55 sz55) rfl ?_
 refine st (OpT.c1 (ms := [.flat, .flat]) (c_laws_eqMask _ _) (H rfl) (Af (T1 rfl) rfl rfl <| Af (T1 rfl) rfl rfl <| An) rfl rfl) rfl ?_
 refine st (OpT.not (H rfl) (T1 rfl)) rfl ?_
 refine ng ?_
 refine cd rfl (fun hc1 => ?_) fun hc1 => ?_
 ·
  replace hc1 := oT hc1
  refine sr ?_
  refine st (asB rfl) rfl ?_
  refine ng ?_
  refine AW.ret ?_
  refine rT ?_
  exact rt1 rfl (.inl rfl) (by rw [eqv_pair (x := x)]; simp_all [eqv_beq, eqv_bne, Bool.and_assoc])
 ·
  replace hc1 := oF hc1
  refine AW.skip ?_
  refine AX.go ?_
  refine AW.seq ?_
  refine sr ?_
  refine st (OpT.fieldAddr (H rfl) (T1 rfl) fd74_1 sz55 (by decide) sb74_1) rfl ?_
  refine st (OpT.loadA (H rfl) (T1 rfl) ag55 sz55) rfl ?_
  refine st (OpT.fieldAddr (H rfl) (T1 rfl) fd74_1 sz55 (by decide) sb74_1) rfl ?_
  refine st (OpT.loadA (H rfl) (T1 rfl) ag55 sz55) rfl ?_
  refine st (OpT.c1 (ms := [.flat, .flat]) (c_laws_eqMask _ _) (H rfl) (Af (T1 rfl) rfl rfl <| Af (T1 rfl) rfl rfl <| An) rfl rfl) rfl ?_
  refine st (OpT.not (H rfl) (T1 rfl)) rfl ?_
  refine AWl.to (kc2 16 4 rfl <| Kn) ?_
  refine ng ?_
  refine cd rfl (fun hc2 => ?_) fun hc2 => ?_
  ·
   replace hc2 := oT hc2
   refine sr ?_
   refine st (asB rfl) rfl ?_
   refine ng ?_
   refine AW.ret ?_
   refine rT ?_
   exact rt1 rfl (.inl rfl) (by rw [eqv_pair (x := x)]; simp_all [eqv_beq, eqv_bne, Bool.and_assoc])
  ·
   replace hc2 := oF hc2
   refine AW.skip ?_
   refine AX.go ?_
   refine sr ?_
   refine st (asB rfl) rfl ?_
   refine ng ?_
   refine AW.ret ?_
   exact rt1 rfl (.inl rfl) (by rw [eqv_pair (x := x)]; simp_all [eqv_beq, eqv_bne, Bool.and_assoc])

/-- laws.eqAnswer -/
theorem c_laws_eqAnswer (x y : ((BitVec 64 × BitVec 64) × (BitVec 64 × BitVec 64)) × List (Int) × List (Int × Int)) : AC Tryd.prog 50 [.agg kAns x, .agg kAns y] [.cel Kd.bool (eqv x y)] [] := by
 refine acI (N := 23) Tryd.func50 (Nat.le_of_ble_eq_true rfl) rfl fun w0 hd s0 ar => ?_
 refine AW.to (ka 0 rfl <| ka 1 rfl <| Kn) ?_
 refine sr ?_
 refine st (OpT.frz (OpT.boxA (E := 78) (H rfl) (T1 rfl))) rfl ?_
 refine st (OpT.frz (OpT.boxA (E := 78) (H rfl) (T1 rfl))) rfl ?_
 refine st (asB rfl) rfl ?_
 refine ng ?_
 refine AW.seq ?_
 refine sr ?_
 refine st (OpT.fieldAddr (H rfl) (T1 rfl) fd78_0 sz74 (by decide) sb78_0) rfl ?_
 refine st (OpT.loadA (H rfl) (T1 rfl) ag74 sz74) rfl ?_
 refine st (OpT.fieldAddr (H rfl) (T1 rfl) fd78_0 sz74 (by decide) sb78_0) rfl ?_
 refine st (OpT.loadA (H rfl) (T1 rfl) ag74 sz74) rfl ?_
 refine st (OpT.c1 (ms := [.flat, .flat]) (c_laws_eqQuery _ _) (H rfl) (Af (T1 rfl) rfl rfl <| Af (T1 rfl) rfl rfl <| An) rfl rfl) rfl ?_
 refine st (OpT.not (H rfl) (T1 rfl)) rfl ?_
 refine ng ?_
 refine cd rfl (fun hc1 => ?_) fun hc1 => ?_
 ·
  replace hc1 := oT hc1
  refine sr ?_
  refine st (asB rfl) rfl ?_
  refine ng ?_
  refine AW.ret ?_
  refine rT ?_
  exact rt1 rfl (.inl rfl) (by rw [eqv_pair (x := x), eqv_pair (x := x.2)]; simp_all [eqv_beq, eqv_bne, Bool.and_assoc])
 ·
  replace hc1 := oF hc1
  refine AW.skip ?_
  refine AX.go ?_
  refine AW.seq ?_
  refine sr ?_
  refine st (OpT.fieldAddr (H rfl) (T1 rfl) fd78_1 sz75 (by decide) sb78_1) rfl ?_
  refine st (OpT.load (H rfl) (T1 rfl) ag75 rfl) rfl ?_
  refine st (OpT.fieldAddr (H rfl) (T1 rfl) fd78_1 sz75 (by decide) sb78_1) rfl ?_
  refine st (OpT.load (H rfl) (T1 rfl) ag75 rfl) rfl ?_
  refine st (OpT.c1 (ms := [.flat, .flat]) (c_laws_eqInt64S _ _) (H rfl) (Af (T1 rfl) rfl rfl <| Af (T1 rfl) rfl rfl <| An) rfl rfl) rfl ?_
  refine st (OpT.not (H rfl) (T1 rfl)) rfl ?_
  refine AWl.to (kc4 16 4 3 2 rfl <| Kn) ?_
  refine ng ?_
  refine cd rfl (fun hc2 => ?_) fun hc2 => ?_
  ·
   replace hc2 := oT hc2
   refine sr ?_
   refine st (asB rfl) rfl ?_
   refine ng ?_
   refine AW.ret ?_
   refine rT ?_
   exact rt1 rfl (.inl rfl) (by rw [eqv_pair (x := x), eqv_pair (x := x.2)]; simp_all [eqv_beq, eqv_bne, Bool.and_assoc])
  ·
   replace hc2 := oF hc2
   refine AW.skip ?_
   refine AX.go ?_
   refine AW.seq ?_
   refine sr ?_
   refine st (OpT.fieldAddr (H rfl) (T1 rfl) fd78_2 sz76 (by decide) sb78_2) rfl ?_
   refine st (OpT.load (H rfl) (T1 rfl) ag76 rfl) rfl ?_
   refine st (OpT.fieldAddr (H rfl) (T1 rfl) fd78_2 sz76 (by decide) sb78_2) rfl ?_
   refine st (OpT.load (H rfl) (T1 rfl) ag76 rfl) rfl ?_
   refine st (OpT.c1 (ms := [.flat, .flat]) (c_laws_eqWitnessS _ _) (H rfl) (Af (T1 rfl) rfl rfl <| Af (T1 rfl) rfl rfl <| An) rfl rfl) rfl ?_
   refine st (OpT.not (H rfl) (T1 rfl)) rfl ?_
   refine ng ?_
   refine cd rfl (fun hc3 => ?_) fun hc3 => ?_
   ·
    replace hc3 := oT hc3
    refine sr ?_
    refine st (asB rfl) rfl ?_
    refine ng ?_
    refine AW.ret ?_
    refine rT ?_
    exact rt1 rfl (.inl rfl) (by rw [eqv_pair (x := x), eqv_pair (x := x.2)]; simp_all [eqv_beq, eqv_bne, Bool.and_assoc])
   ·
    replace hc3 := oF hc3
    refine AW.skip ?_
    refine AX.go ?_
    refine sr ?_
    refine st (asB rfl) rfl ?_
    refine ng ?_
    refine AW.ret ?_
    exact rt1 rfl (.inl rfl) (by rw [eqv_pair (x := x), eqv_pair (x := x.2)]; simp_all [eqv_beq, eqv_bne, Bool.and_assoc])

/-- laws.toQuery -/
theorem c_laws_toQuery (x : (BitVec 64 × BitVec 64) × (BitVec 64 × BitVec 64)) : AC Tryd.prog 48 [.agg kQuery x] [.agg kQuery x] [] := by
 refine acI (N := 13) Tryd.func48 (Nat.le_of_ble_eq_true rfl) rfl fun w0 hd s0 ar => ?_
 refine AW.to (ka 0 rfl <| Kn) ?_
 refine sr ?_
 refine st (OpT.frz (OpT.boxA (E := 72) (H rfl) (T1 rfl))) rfl ?_
 refine st (OpT.alloc (H rfl) zr74 zk74) rfl ?_
 refine ng ?_
 refine sr ?_
 refine st (OpT.alloc (H rfl) zr74 zk74) rfl ?_
 refine ng ?_
 refine sr ?_
 refine st (OpT.fieldAddr (H rfl) (T1 rfl) fd72_0 sz50 (by decide) sb72_0) rfl ?_
 refine st (OpT.loadA (H rfl) (T1 rfl) ag50 sz50) rfl ?_
 refine st (OpT.c1 (ms := [.flat]) (c_laws_toMask _) (H rfl) (Af (T1 rfl) rfl rfl <| An) rfl rfl) rfl ?_
 refine st (OpT.fieldAddrB (H rfl) (Root.self (t := 3) (by decide)) rfl (by decide) fd74_0 sz55 (by decide) sb74_0) rfl ?_
 refine sk (OpT.storeBA rfl rfl (T1 rfl) rfl sz55 (by decide) (T1 rfl)) rfl ?_
 refine ng ?_
 refine sr ?_
 refine st (OpT.fieldAddr (H rfl) (T1 rfl) fd72_1 sz50 (by decide) sb72_1) rfl ?_
 refine st (OpT.loadA (H rfl) (T1 rfl) ag50 sz50) rfl ?_
 refine st (OpT.c1 (ms := [.flat]) (c_laws_toMask _) (H rfl) (Af (T1 rfl) rfl rfl <| An) rfl rfl) rfl ?_
 refine st (OpT.fieldAddrB (H rfl) (Root.self (t := 3) (by decide)) rfl (by decide) fd74_1 sz55 (by decide) sb74_1) rfl ?_
 refine sk (OpT.storeBA rfl rfl (T1 rfl) rfl sz55 (by decide) (T1 rfl)) rfl ?_
 refine AWl.to (kb 3 rfl <| kb 2 rfl <| Kn) ?_
 refine ng ?_
 refine sr ?_
 refine st (OpT.loadB (H rfl) (Root.self (t := 3) (by decide)) rfl ag74 sz74) rfl ?_
 refine sk (OpT.storeBA rfl rfl (Opd.whole (Root.self (t := 2) (by decide)) rfl) rfl sz74 (by decide) (T1 rfl)) rfl ?_
 refine ng ?_
 refine AW.ret ?_
 exact AX.rt (rs := [.cell 2 74]) (ts := [none]) (.inl rfl) rfl (ROs.cons (RO.cellA (by decide) (Kb rfl rfl) ag74 sz74) <| ROs.nil) (by decide) OutsOK.nil
end Go.Proofs.YtfnkphllkbkfaaaDoor.VL
