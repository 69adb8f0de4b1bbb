/- Proved here: what some functions of the program take and give: walks with the words of VA..VQ. Printed by program. -/
import Derived.Test.YtfnkphllkbkfaaaGreatDoorWT
import Derived.Test.YtfnkphllkbkfaaaGreatDoorBpa
set_option linter.unusedVariables false
set_option linter.unusedSimpArgs false
set_option maxRecDepth 4000
namespace Go.Proofs.YtfnkphllkbkfaaaGreatDoor.VL
open Go
/-- laws.szInt64S -/
theorem c_laws_szInt64S (x : List (Int)) (l : Int) (hl : 0 ≤ l ∧ l ≤ 1048576) : AC Tryz.prog 34 [.cel (Kd.slice (Kd.int .i64)) x, .cel (Kd.int .i64) l] [.cel (Kd.int .i64) (szL x l)] [] := by
 refine acI (N := 12) Tryz.func34 (Nat.le_of_ble_eq_true rfl) rfl fun w0 hd s0 ar => ?_
 refine AW.to (kc2 0 1 rfl <| Kn) ?_
 refine AW.fact (fun a w hr => (ok_slice (R_ok (t := 0) rfl hr)).2) (fun hl0 => ?_)
 refine sr ?_
 refine st (asI rfl) rfl ?_
 refine ng ?_
 refine sr ?_
 refine st (mvT rfl) rfl ?_
 refine st (mvT rfl) rfl ?_
 refine st (OpT.len (H rfl) (T1 rfl) el51) rfl ?_
 refine st (OpT.sub (H rfl) (T1 rfl) (T1 rfl) (nw (by omega))) rfl ?_
 refine st (asT rfl) rfl ?_
 refine ng ?_
 refine AW.seq ?_
 refine sr ?_
 refine st (mvT rfl) rfl ?_
 refine st (OpT.lss (H rfl) (T1 rfl) (I rfl)) rfl ?_
 refine ng ?_
 refine cd rfl (fun hc1 => ?_) fun hc1 => ?_
 ·
  replace hc1 := oT hc1
  refine sr ?_
  refine st (asI rfl) rfl ?_
  refine ng ?_
  refine AW.ret ?_
  refine rT ?_
  exact rt1 rfl (.inl rfl) (by unfold szL; split <;> first | rfl | omega)
 ·
  replace hc1 := oF hc1
  refine AW.skip ?_
  refine AX.go ?_
  refine sr ?_
  refine st (mvT rfl) rfl ?_
  refine st (asT rfl) rfl ?_
  refine AWl.to (kc 4 rfl <| Kn) ?_
  refine ng ?_
  refine AW.ret ?_
  exact rt1 rfl (.inl rfl) (by unfold szL; split <;> first | rfl | omega)

/-- laws.eqInt64S -/
theorem c_laws_eqInt64S (x y : List (Int)) : AC Tryz.prog 54 [.cel (Kd.slice (Kd.int .i64)) x, .cel (Kd.slice (Kd.int .i64)) y] [.cel Kd.bool (eqv x y)] [] := by
 refine acI (N := 26) Tryz.func54 (Nat.le_of_ble_eq_true rfl) rfl fun w0 hd s0 ar => ?_
 refine AW.to (kc2 0 1 rfl <| Kn) ?_
 refine AW.fact (fun a w hr => (ok_slice (R_ok (t := 0) rfl hr)).2) (fun hl0 => ?_)
 refine AW.fact (fun a w hr => (ok_slice (R_ok (t := 1) rfl hr)).2) (fun hl1 => ?_)
 refine sr ?_
 refine st (asB rfl) rfl ?_
 refine ng ?_
 refine AW.seq ?_
 refine sr ?_
 refine st (mvT rfl) rfl ?_
 refine st (OpT.len (H rfl) (T1 rfl) el51) rfl ?_
 refine st (mvT rfl) rfl ?_
 refine st (OpT.len (H rfl) (T1 rfl) el51) rfl ?_
 refine st (OpT.neq (H rfl) (T1 rfl) (T1 rfl)) rfl ?_
 refine ng ?_
 refine cd rfl (fun hc1 => ?_) fun hc1 => ?_
 ·
  replace hc1 := oT hc1
  try simp only [bne_iff_ne, ne_eq, bne_eq_false_iff_eq] at hc1
  refine sr ?_
  refine st (asB rfl) rfl ?_
  refine ng ?_
  refine AW.ret ?_
  refine rT ?_
  exact rt1 rfl (.inl rfl) (by first | exact eqs_len (by omega) | exact eqs_ne ha hb (by simpa [eqv_iff, eqv_false_iff] using hc3) | exact eqs_all hI.2 (by omega) (by omega))
 ·
  replace hc1 := oF hc1
  try simp only [bne_iff_ne, ne_eq, bne_eq_false_iff_eq] at hc1
  refine AW.skip ?_
  refine AX.go ?_
  refine AW.seq ?_
  refine sr ?_
  refine st (asI rfl) rfl ?_
  refine ng ?_
  refine AW.block ?_
  refine AW.loop (fun z : Nat => z ≤ x.length ∧ x.take z = y.take z) (fun z : Nat => keep [(0, .cel (Kd.slice (Kd.int .i64)) x), (1, .cel (Kd.slice (Kd.int .i64)) y), (5, .cel (Kd.int .i64) (z : Int))]) (fun z : Nat => x.length - z) (0) ⟨Nat.zero_le _, rfl⟩ (Kc 0 _ (Kv rfl rfl) <| Kc 1 _ (Kv rfl rfl) <| Kc 5 _ (Kv rfl rfl) <| Kn) ?_
  intro z hI
  refine AW.seq ?_
  refine sr ?_
  refine st (mvT rfl) rfl ?_
  refine st (mvT rfl) rfl ?_
  refine st (OpT.len (H rfl) (T1 rfl) el51) rfl ?_
  refine st (OpT.lss (H rfl) (T1 rfl) (T1 rfl)) rfl ?_
  refine ng ?_
  refine cd rfl (fun hc2 => ?_) fun hc2 => ?_
  ·
   replace hc2 := oT hc2
   obtain ⟨a, ha⟩ := getI (x := x) (z := z) (by omega); obtain ⟨b, hb⟩ := getI (x := y) (z := z) (by omega)
   refine AW.skip ?_
   refine AX.go ?_
   refine AW.seq ?_
   refine AW.block ?_
   refine AW.seq ?_
   refine dh fomo ?_
   refine d1 [0] (fun ve h => OpT.move (A := .cel _ _) (.inl rfl) rfl (ok' rfl) (D1 h rfl) rfl) rfl ?_
   refine d1 [5] (fun ve h => OpT.move (A := .cel _ _) (.inl rfl) rfl (ok' rfl) (D1 h rfl) rfl) rfl ?_
   refine d1 [17, 18] (fun ve h => OpT.indexAddr (H rfl) (D1 h rfl) (D1 h rfl) el51 sz2 (by omega) (by assumption)) rfl ?_
   refine d1 [19] (fun ve h => OpT.load (H rfl) (D1 h rfl) ag2 rfl) rfl ?_
   refine d1 [1] (fun ve h => OpT.move (A := .cel _ _) (.inl rfl) rfl (ok' rfl) (D1 h rfl) rfl) rfl ?_
   refine d1 [5] (fun ve h => OpT.move (A := .cel _ _) (.inl rfl) rfl (ok' rfl) (D1 h rfl) rfl) rfl ?_
   refine d1 [21, 22] (fun ve h => OpT.indexAddr (H rfl) (D1 h rfl) (D1 h rfl) el51 sz2 (by omega) (by assumption)) rfl ?_
   refine d1 [23] (fun ve h => OpT.load (H rfl) (D1 h rfl) ag2 rfl) rfl ?_
   refine d1 [20, 24] (fun ve h => OpT.neq (H rfl) (D1 h rfl) (D1 h rfl)) rfl ?_
   refine dn ⟨by kernel_rfl, by kernel_rfl, ?_⟩
   refine AX.go ?_
   refine cd rfl (fun hc3 => ?_) fun hc3 => ?_
   ·
    replace hc3 := oT hc3
    refine sr ?_
    refine st (asB rfl) rfl ?_
    refine ng ?_
    refine AW.ret ?_
    refine rK <| rT <| rT <| rK <| rT ?_
    exact rt1 rfl (.inl rfl) (by first | exact eqs_len (by omega) | exact eqs_ne ha hb (by simpa [eqv_iff, eqv_false_iff] using hc3) | exact eqs_all hI.2 (by omega) (by omega))
   ·
    replace hc3 := oF hc3
    refine AW.skip ?_
    refine AX.normal_block ?_
    refine AX.go ?_
    refine AW.region ?_
    refine st (mvT rfl) rfl ?_
    refine st (OpT.add (H rfl) (T1 rfl) (I rfl) (nw (by omega))) rfl ?_
    refine st (asT rfl) rfl ?_
    refine nn ?_
    exact AX.again (z + 1) ⟨by omega, eqs_step hI.2 ha hb (by simpa [eqv_iff, eqv_false_iff] using hc3)⟩ (by omega) (Kc 0 _ (Kv rfl rfl) <| Kc 1 _ (Kv rfl rfl) <| Kc 5 _ (Kv rfl (by omega)) <| Kn)
  ·
   replace hc2 := oF hc2
   refine AW.exit ?_
   refine xT <| xT <| AX.exit_hit ?_
   refine AX.go ?_
   refine sr ?_
   refine st (asB rfl) rfl ?_
   refine ng ?_
   refine AW.ret ?_
   exact rt1 rfl (.inl rfl) (by first | exact eqs_len (by omega) | exact eqs_ne ha hb (by simpa [eqv_iff, eqv_false_iff] using hc3) | exact eqs_all hI.2 (by omega) (by omega))

/-- slices.Equal[[]int64,int64] -/
theorem c_slices_Equal_int64_int64 (x y : List (Int)) : AC Tryz.prog 30 [.cel (Kd.slice (Kd.int .i64)) x, .cel (Kd.slice (Kd.int .i64)) y] [.cel Kd.bool (eqv x y)] [] := by
 refine acI (N := 26) Tryz.func30 (Nat.le_of_ble_eq_true rfl) rfl fun w0 hd s0 ar => ?_
 refine AW.to (kc2 0 1 rfl <| Kn) ?_
 refine AW.fact (fun a w hr => (ok_slice (R_ok (t := 0) rfl hr)).2) (fun hl0 => ?_)
 refine AW.fact (fun a w hr => (ok_slice (R_ok (t := 1) rfl hr)).2) (fun hl1 => ?_)
 refine sr ?_
 refine st (asB rfl) rfl ?_
 refine ng ?_
 refine AW.seq ?_
 refine sr ?_
 refine st (mvT rfl) rfl ?_
 refine st (OpT.len (H rfl) (T1 rfl) el51) rfl ?_
 refine st (mvT rfl) rfl ?_
 refine st (OpT.len (H rfl) (T1 rfl) el51) rfl ?_
 refine st (OpT.neq (H rfl) (T1 rfl) (T1 rfl)) rfl ?_
 refine ng ?_
 refine cd rfl (fun hc1 => ?_) fun hc1 => ?_
 ·
  replace hc1 := oT hc1
  try simp only [bne_iff_ne, ne_eq, bne_eq_false_iff_eq] at hc1
  refine sr ?_
  refine st (asB rfl) rfl ?_
  refine ng ?_
  refine AW.ret ?_
  refine rT ?_
  exact rt1 rfl (.inl rfl) (by first | exact eqs_len (by omega) | exact eqs_ne ha hb (by simpa [eqv_iff, eqv_false_iff] using hc3) | exact eqs_all hI.2 (by omega) (by omega))
 ·
  replace hc1 := oF hc1
  try simp only [bne_iff_ne, ne_eq, bne_eq_false_iff_eq] at hc1
  refine AW.skip ?_
  refine AX.go ?_
  refine AW.seq ?_
  refine sr ?_
  refine st (mvT rfl) rfl ?_
  refine st (OpT.len (H rfl) (T1 rfl) el51) rfl ?_
  refine st (mvI rfl) rfl ?_
  refine ng ?_
  refine AW.block ?_
  refine AW.loop (fun z : Nat => z ≤ x.length ∧ x.take z = y.take z) (fun z : Nat => keep [(0, .cel (Kd.slice (Kd.int .i64)) x), (1, .cel (Kd.slice (Kd.int .i64)) y), (12, .cel (Kd.int .i64) ((x.length : Nat) : Int)), (13, .cel (Kd.int .i64) (z : Int))]) (fun z : Nat => x.length - z) (0) ⟨Nat.zero_le _, rfl⟩ (Kc 0 _ (Kv rfl rfl) <| Kc 1 _ (Kv rfl rfl) <| Kc 12 _ (Kv rfl rfl) <| Kc 13 _ (Kv rfl rfl) <| Kn) ?_
  intro z hI
  refine sr ?_
  refine st (OpT.lss (H rfl) (T1 rfl) (T1 rfl)) rfl ?_
  refine ng ?_
  refine AW.seq ?_
  refine cd rfl (fun hc2 => ?_) fun hc2 => ?_
  ·
   replace hc2 := oT hc2
   obtain ⟨a, ha⟩ := getI (x := x) (z := z) (by omega); obtain ⟨b, hb⟩ := getI (x := y) (z := z) (by omega)
   refine AW.skip ?_
   refine AX.go ?_
   refine AW.seq ?_
   refine AW.block ?_
   refine sr ?_
   refine st (mvT rfl) rfl ?_
   refine st (asT rfl) rfl ?_
   refine ng ?_
   refine AW.seq ?_
   refine dh fomo ?_
   refine d1 [0] (fun ve h => OpT.move (A := .cel _ _) (.inl rfl) rfl (ok' rfl) (D1 h rfl) rfl) rfl ?_
   refine d1 [5] (fun ve h => OpT.move (A := .cel _ _) (.inl rfl) rfl (ok' rfl) (D1 h rfl) rfl) rfl ?_
   refine d1 [16, 17] (fun ve h => OpT.indexAddr (H rfl) (D1 h rfl) (D1 h rfl) el51 sz2 (by omega) (by assumption)) rfl ?_
   refine d1 [18] (fun ve h => OpT.load (H rfl) (D1 h rfl) ag2 rfl) rfl ?_
   refine d1 [1] (fun ve h => OpT.move (A := .cel _ _) (.inl rfl) rfl (ok' rfl) (D1 h rfl) rfl) rfl ?_
   refine d1 [5] (fun ve h => OpT.move (A := .cel _ _) (.inl rfl) rfl (ok' rfl) (D1 h rfl) rfl) rfl ?_
   refine d1 [20, 21] (fun ve h => OpT.indexAddr (H rfl) (D1 h rfl) (D1 h rfl) el51 sz2 (by omega) (by assumption)) rfl ?_
   refine d1 [22] (fun ve h => OpT.load (H rfl) (D1 h rfl) ag2 rfl) rfl ?_
   refine d1 [19, 23] (fun ve h => OpT.neq (H rfl) (D1 h rfl) (D1 h rfl)) rfl ?_
   refine dn ⟨by kernel_rfl, by kernel_rfl, ?_⟩
   refine AX.go ?_
   refine cd rfl (fun hc3 => ?_) fun hc3 => ?_
   ·
    replace hc3 := oT hc3
    refine sr ?_
    refine st (asB rfl) rfl ?_
    refine ng ?_
    refine AW.ret ?_
    refine rK <| rT <| rT <| rK <| rT ?_
    exact rt1 rfl (.inl rfl) (by first | exact eqs_len (by omega) | exact eqs_ne ha hb (by simpa [eqv_iff, eqv_false_iff] using hc3) | exact eqs_all hI.2 (by omega) (by omega))
   ·
    replace hc3 := oF hc3
    refine AW.skip ?_
    refine AX.normal_block ?_
    refine AX.go ?_
    refine AW.region ?_
    refine st (OpT.add (H rfl) (T1 rfl) (I rfl) (nw (by omega))) rfl ?_
    refine st (mvT rfl) rfl ?_
    refine nn ?_
    exact AX.again (z + 1) ⟨by omega, eqs_step hI.2 ha hb (by simpa [eqv_iff, eqv_false_iff] using hc3)⟩ (by omega) (Kc 0 _ (Kv rfl rfl) <| Kc 1 _ (Kv rfl rfl) <| Kc 12 _ (Kv rfl rfl) <| Kc 13 _ (Kv rfl (by omega)) <| Kn)
  ·
   replace hc2 := oF hc2
   refine AW.exit ?_
   refine xT <| xT <| AX.exit_hit ?_
   refine AX.go ?_
   refine sr ?_
   refine st (asB rfl) rfl ?_
   refine ng ?_
   refine AW.ret ?_
   exact rt1 rfl (.inl rfl) (by first | exact eqs_len (by omega) | exact eqs_ne ha hb (by simpa [eqv_iff, eqv_false_iff] using hc3) | exact eqs_all hI.2 (by omega) (by omega))

/-- laws.toInt64S -/
theorem c_laws_toInt64S_o (x : List (Int)) (hn : x.length ≤ 1099511627776) : AC Tryz.prog 44 [.cel (Kd.slice (Kd.int .i64)) x] [.own 2 (Kd.int .i64) x] [] := by
 refine acI (N := 22) Tryz.func44 (Nat.le_of_ble_eq_true rfl) rfl fun w0 hd s0 ar => ?_
 refine AW.to (kc 0 rfl <| Kn) ?_
 refine sr ?_
 refine st (nilO (E := 2) (Kd.int .i64) rfl (.inl rfl)) rfl ?_
 refine ng ?_
 refine sr ?_
 refine st (mvT rfl) rfl ?_
 refine st (OpT.len (H rfl) (T1 rfl) el51) rfl ?_
 refine st (OpT.make (H rfl) (T1 rfl) (T1 rfl) el51 zr2 sz2 by2 (by decide) zk2 (by omega) (by omega)) rfl ?_
 refine sg (OpT.take (.inl rfl) rfl (ok' rfl) (Root.self (by decide)) rfl rfl (by decide)) (ko 3 rfl <| kc2 6 5 rfl <| ko 2 rfl <| kc 0 rfl <| Kn) rfl ?_
 refine ng ?_
 refine AW.seq ?_
 refine sr ?_
 refine st (asI rfl) rfl ?_
 refine ng ?_
 refine AW.block ?_
 refine AW.loop (fun z : Nat => z ≤ x.length) (fun z : Nat => keep [(0, .cel (Kd.slice (Kd.int .i64)) x), (3, .own 2 (Kd.int .i64) (cpy x z (0))), (4, .cel (Kd.int .i64) (z : Int))]) (fun z : Nat => x.length - z) (0) (by omega) (Kc 0 _ (Kv rfl rfl) <| Kc 3 _ (Ko rfl rfl) <| Kc 4 _ (Kv rfl rfl) <| Kn) ?_
 intro z hI
 refine AW.seq ?_
 refine sr ?_
 refine st (mvT rfl) rfl ?_
 refine st (mvT rfl) rfl ?_
 refine st (OpT.len (H rfl) (T1 rfl) el51) rfl ?_
 refine st (OpT.lss (H rfl) (T1 rfl) (T1 rfl)) rfl ?_
 refine ng ?_
 refine cd rfl (fun hc1 => ?_) fun hc1 => ?_
 ·
  replace hc1 := oT hc1
  obtain ⟨a, ha⟩ := getI (x := x) (z := z) (by omega); have hd := cpy_get (x := x) (z := z) (d := (0 : Int)) (by omega)
  refine AW.skip ?_
  refine AX.go ?_
  refine AW.seq ?_
  refine AW.block ?_
  refine AW.region ?_
  refine st (OpT.alias (H rfl) (by decide) (by decide)) rfl ?_
  refine st (mvT rfl) rfl ?_
  refine st (mvT rfl) rfl ?_
  refine st (mvT rfl) rfl ?_
  refine st (OpT.indexAddr (H rfl) (T1 rfl) (T1 rfl) el51 sz2 (by omega) (by assumption)) rfl ?_
  refine st (OpT.load (H rfl) (T1 rfl) ag2 rfl) rfl ?_
  refine st (OpT.indexAddrO (H rfl) (Root.ali rfl (by decide) (by decide)) rfl (by decide) (T1 rfl) el51 sz2 (by omega) (by assumption)) rfl ?_
  refine sk (OpT.storeO rfl rfl (T1 rfl) rfl (by assumption) sz2 rfl (T1 rfl)) rfl ?_
  refine nn ?_
  refine AX.normal_block ?_
  refine AX.go ?_
  refine AW.region ?_
  refine st (mvT rfl) rfl ?_
  refine st (OpT.add (H rfl) (T1 rfl) (I rfl) (nw (by omega))) rfl ?_
  refine st (asT rfl) rfl ?_
  refine nn ?_
  exact AX.again (z + 1) (by omega) (by omega) (Kc 0 _ (Kv rfl rfl) <| Kc 3 _ (Ko rfl (cpy_step ha)) <| Kc 4 _ (Kv rfl (by omega)) <| Kn)
 ·
  replace hc1 := oF hc1
  refine AW.exit ?_
  refine xT <| xT <| AX.exit_hit ?_
  refine AX.go ?_
  refine sr ?_
  refine st (OpT.alias (H rfl) (by decide) (by decide)) rfl ?_
  refine sg (OpT.take (.inl rfl) rfl (ok' rfl) (Root.ali rfl (by decide) (by decide)) rfl rfl (by decide)) (ko 2 rfl <| kc4 11 10 9 8 rfl <| kc2 0 4 rfl <| Kn) rfl ?_
  refine ng ?_
  refine AW.ret ?_
  exact AX.rt (rs := [.tmp 2]) (ts := [some 2]) (.inl rfl) rfl (ROs.cons (RO.tmp (At.self (by decide)) (Ko rfl (cpy_end (by omega))) rfl) <| ROs.nil) (by decide) OutsOK.nil
/-- laws.eqMask -/
theorem c_laws_eqMask (x y : BitVec 64 × BitVec 64) : AC Tryz.prog 53 [.agg kMask x, .agg kMask y] [.cel Kd.bool (eqv x y)] [] := by
 refine acI (N := 17) Tryz.func53 (Nat.le_of_ble_eq_true rfl) rfl fun w0 hd s0 ar => ?_
 refine AW.to (ka 0 rfl <| ka 1 rfl <| Kn) ?_
 refine sr ?_
 refine st (OpT.frz (OpT.boxA (E := 60) (H rfl) (T1 rfl))) rfl ?_
 refine st (OpT.frz (OpT.boxA (E := 60) (H rfl) (T1 rfl))) rfl ?_
 refine st (asB rfl) rfl ?_
 refine ng ?_
 refine AW.seq ?_
 refine sr ?_
 refine st (asI rfl) rfl ?_
 refine ng ?_
 refine AW.block ?_
 refine AW.loop (fun z : Nat => z ≤ 2 ∧ (0 < z → x.1 = y.1) ∧ (1 < z → x.2 = y.2)) (fun z : Nat => keep [(2, .cel (Kd.ptr kMask) x), (3, .cel (Kd.ptr kMask) y), (5, .cel (Kd.int .i64) (z : Int))]) (fun z : Nat => 2 - z) (0) (eqM_zero x y) (Kc 2 _ (Kv rfl rfl) <| Kc 3 _ (Kv rfl rfl) <| Kc 5 _ (Kv rfl rfl) <| Kn) ?_
 intro z hI
 refine AW.seq ?_
 refine sr ?_
 refine st (mvT rfl) rfl ?_
 refine st (OpT.lss (H rfl) (T1 rfl) (I rfl)) rfl ?_
 refine ng ?_
 refine cd rfl (fun hc1 => ?_) fun hc1 => ?_
 ·
  replace hc1 := oT hc1
  refine AW.skip ?_
  refine AX.go ?_
  refine AW.seq ?_
  refine AW.block ?_
  refine AW.seq ?_
  refine dh fomo ?_
  refine d1 [5] (fun ve h => OpT.move (A := .cel _ _) (.inl rfl) rfl (ok' rfl) (D1 h rfl) rfl) rfl ?_
  refine d1 [2, 10] (fun ve h => OpT.indexAddrP (H rfl) (D1 h rfl) (D1 h rfl) ar60 sz46 (by omega) (Sub.two (by omega) rfl)) rfl ?_
  refine d1 [11] (fun ve h => OpT.load (H rfl) (D1 h rfl) ag46 rfl) rfl ?_
  refine d1 [5] (fun ve h => OpT.move (A := .cel _ _) (.inl rfl) rfl (ok' rfl) (D1 h rfl) rfl) rfl ?_
  refine d1 [3, 13] (fun ve h => OpT.indexAddrP (H rfl) (D1 h rfl) (D1 h rfl) ar60 sz46 (by omega) (Sub.two (by omega) rfl)) rfl ?_
  refine d1 [14] (fun ve h => OpT.load (H rfl) (D1 h rfl) ag46 rfl) rfl ?_
  refine d1 [12, 15] (fun ve h => OpT.uneq (H rfl) (D1 h rfl) (D1 h rfl)) rfl ?_
  refine dn ⟨by kernel_rfl, by kernel_rfl, ?_⟩
  refine AX.go ?_
  refine cd rfl (fun hc2 => ?_) fun hc2 => ?_
  ·
   replace hc2 := oT hc2
   refine sr ?_
   refine st (asB rfl) rfl ?_
   refine ng ?_
   refine AW.ret ?_
   refine rK <| rT <| rT <| rK <| rT ?_
   exact rt1 rfl (.inl rfl) (by first | exact eqM_ne (by omega) (bne_iff_ne.1 hc2) | exact eqM_all hI (by omega))
  ·
   replace hc2 := oF hc2
   refine AW.skip ?_
   refine AX.normal_block ?_
   refine AX.go ?_
   refine AW.region ?_
   refine st (mvT rfl) rfl ?_
   refine st (OpT.add (H rfl) (T1 rfl) (I rfl) (nw (by omega))) rfl ?_
   refine st (asT rfl) rfl ?_
   refine nn ?_
   exact AX.again (z + 1) (eqM_step hI (by omega) (by simpa [eqv_iff, eqv_false_iff] using hc2)) (by omega) (Kc 2 _ (Kv rfl rfl) <| Kc 3 _ (Kv rfl rfl) <| Kc 5 _ (Kv rfl (by omega)) <| Kn)
 ·
  replace hc1 := oF hc1
  refine AW.exit ?_
  refine xT <| xT <| AX.exit_hit ?_
  refine AX.go ?_
  refine sr ?_
  refine st (asB rfl) rfl ?_
  refine ng ?_
  refine AW.ret ?_
  exact rt1 rfl (.inl rfl) (by first | exact eqM_ne (by omega) (bne_iff_ne.1 hc2) | exact eqM_all hI (by omega))
end Go.Proofs.YtfnkphllkbkfaaaGreatDoor.VL
