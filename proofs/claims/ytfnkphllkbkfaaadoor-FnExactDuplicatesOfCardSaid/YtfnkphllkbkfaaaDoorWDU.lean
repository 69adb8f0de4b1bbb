/- Proved here: what some functions of the program take and give: walks with the words of VA..VQ. Printed by program. -/
import Derived.Test.YtfnkphllkbkfaaaDoorWT
import Derived.Test.YtfnkphllkbkfaaaDoorBpa
import Derived.Test.YtfnkphllkbkfaaaDoorWD
import Derived.Test.YtfnkphllkbkfaaaDoorWM
import Derived.Test.YtfnkphllkbkfaaaDoorWL
set_option linter.unusedVariables false
set_option linter.unusedSimpArgs false
set_option maxRecDepth 4000
namespace Go.Proofs.YtfnkphllkbkfaaaDoor.VL
open Go
/-- laws.eqInt64SS -/
theorem c_laws_eqInt64SS (x y : List (List (Int))) : AC Tryd.prog 55 [.cel (Kd.slice (Kd.slice (Kd.int .i64))) x, .cel (Kd.slice (Kd.slice (Kd.int .i64))) y] [.cel Kd.bool (eqv x y)] [] := by
 refine acI (N := 27) Tryd.func55 (Nat.le_of_ble_eq_true rfl) rfl fun w0 hd s0 ar => ?_
 refine AW.to (kc2 0 1 rfl <| Kn) ?_
 refine AW.fact (fun a w hr => (ok_slice (R_ok (t := 0) rfl hr)).2) (fun hl0 => ?_)
 refine AW.fact (fun a w hr => (ok_slice (R_ok (t := 1) rfl hr)).2) (fun hl1 => ?_)
 refine sr ?_
 refine st (asB rfl) rfl ?_
 refine ng ?_
 refine AW.seq ?_
 refine sr ?_
 refine st (mvT rfl) rfl ?_
 refine st (OpT.len (H rfl) (T1 rfl) el85) rfl ?_
 refine st (mvT rfl) rfl ?_
 refine st (OpT.len (H rfl) (T1 rfl) el85) rfl ?_
 refine st (OpT.neq (H rfl) (T1 rfl) (T1 rfl)) rfl ?_
 refine ng ?_
 refine cd rfl (fun hc1 => ?_) fun hc1 => ?_
 ·
  replace hc1 := oT hc1
  try simp only [bne_iff_ne, ne_eq, bne_eq_false_iff_eq] at hc1
  refine sr ?_
  refine st (asB rfl) rfl ?_
  refine ng ?_
  refine AW.ret ?_
  refine rT ?_
  exact rt1 rfl (.inl rfl) (by first | exact eqs_len (by omega) | exact eqs_ne ha hb (by simpa [eqv_iff, eqv_false_iff] using hc3) | exact eqs_all hI.2 (by omega) (by omega))
 ·
  replace hc1 := oF hc1
  try simp only [bne_iff_ne, ne_eq, bne_eq_false_iff_eq] at hc1
  refine AW.skip ?_
  refine AX.go ?_
  refine AW.seq ?_
  refine sr ?_
  refine st (asI rfl) rfl ?_
  refine ng ?_
  refine AW.block ?_
  refine AW.loop (fun z : Nat => z ≤ x.length ∧ x.take z = y.take z) (fun z : Nat => keep [(0, .cel (Kd.slice (Kd.slice (Kd.int .i64))) x), (1, .cel (Kd.slice (Kd.slice (Kd.int .i64))) y), (5, .cel (Kd.int .i64) (z : Int))]) (fun z : Nat => x.length - z) (0) ⟨Nat.zero_le _, rfl⟩ (Kc 0 _ (Kv rfl rfl) <| Kc 1 _ (Kv rfl rfl) <| Kc 5 _ (Kv rfl rfl) <| Kn) ?_
  intro z hI
  refine AW.seq ?_
  refine sr ?_
  refine st (mvT rfl) rfl ?_
  refine st (mvT rfl) rfl ?_
  refine st (OpT.len (H rfl) (T1 rfl) el85) rfl ?_
  refine st (OpT.lss (H rfl) (T1 rfl) (T1 rfl)) rfl ?_
  refine ng ?_
  refine cd rfl (fun hc2 => ?_) fun hc2 => ?_
  ·
   replace hc2 := oT hc2
   obtain ⟨a, ha⟩ := getI (x := x) (z := z) (by omega); obtain ⟨b, hb⟩ := getI (x := y) (z := z) (by omega)
   refine AW.skip ?_
   refine AX.go ?_
   refine AW.seq ?_
   refine AW.block ?_
   refine AW.seq ?_
   refine dh fomo ?_
   refine d1 [0] (fun ve h => OpT.move (A := .cel _ _) (.inl rfl) rfl (ok' rfl) (D1 h rfl) rfl) rfl ?_
   refine d1 [5] (fun ve h => OpT.move (A := .cel _ _) (.inl rfl) rfl (ok' rfl) (D1 h rfl) rfl) rfl ?_
   refine d1 [17, 18] (fun ve h => OpT.indexAddr (H rfl) (D1 h rfl) (D1 h rfl) el85 sz75 (by omega) (by assumption)) rfl ?_
   refine d1 [19] (fun ve h => OpT.load (H rfl) (D1 h rfl) ag75 rfl) rfl ?_
   refine d1 [1] (fun ve h => OpT.move (A := .cel _ _) (.inl rfl) rfl (ok' rfl) (D1 h rfl) rfl) rfl ?_
   refine d1 [5] (fun ve h => OpT.move (A := .cel _ _) (.inl rfl) rfl (ok' rfl) (D1 h rfl) rfl) rfl ?_
   refine d1 [21, 22] (fun ve h => OpT.indexAddr (H rfl) (D1 h rfl) (D1 h rfl) el85 sz75 (by omega) (by assumption)) rfl ?_
   refine d1 [23] (fun ve h => OpT.load (H rfl) (D1 h rfl) ag75 rfl) rfl ?_
   refine d1 [20, 24] (fun ve h => OpT.c1 (ms := [.flat, .flat]) (c_laws_eqInt64S _ _) (H rfl) (Af (D1 h rfl) rfl rfl <| Af (D1 h rfl) rfl rfl <| An) rfl rfl) rfl ?_
   refine d1 [25] (fun ve h => OpT.not (H rfl) (D1 h rfl)) rfl ?_
   refine dn ⟨by kernel_rfl, by kernel_rfl, ?_⟩
   refine AX.go ?_
   refine cd rfl (fun hc3 => ?_) fun hc3 => ?_
   ·
    replace hc3 := oT hc3
    refine sr ?_
    refine st (asB rfl) rfl ?_
    refine ng ?_
    refine AW.ret ?_
    refine rK <| rT <| rT <| rK <| rT ?_
    exact rt1 rfl (.inl rfl) (by first | exact eqs_len (by omega) | exact eqs_ne ha hb (by simpa [eqv_iff, eqv_false_iff] using hc3) | exact eqs_all hI.2 (by omega) (by omega))
   ·
    replace hc3 := oF hc3
    refine AW.skip ?_
    refine AX.normal_block ?_
    refine AX.go ?_
    refine AW.region ?_
    refine st (mvT rfl) rfl ?_
    refine st (OpT.add (H rfl) (T1 rfl) (I rfl) (nw (by omega))) rfl ?_
    refine st (asT rfl) rfl ?_
    refine nn ?_
    exact AX.again (z + 1) ⟨by omega, eqs_step hI.2 ha hb (by simpa [eqv_iff, eqv_false_iff] using hc3)⟩ (by omega) (Kc 0 _ (Kv rfl rfl) <| Kc 1 _ (Kv rfl rfl) <| Kc 5 _ (Kv rfl (by omega)) <| Kn)
  ·
   replace hc2 := oF hc2
   refine AW.exit ?_
   refine xT <| xT <| AX.exit_hit ?_
   refine AX.go ?_
   refine sr ?_
   refine st (asB rfl) rfl ?_
   refine ng ?_
   refine AW.ret ?_
   exact rt1 rfl (.inl rfl) (by first | exact eqs_len (by omega) | exact eqs_ne ha hb (by simpa [eqv_iff, eqv_false_iff] using hc3) | exact eqs_all hI.2 (by omega) (by omega))

/-- laws.markInt64SS -/
theorem c_laws_markInt64SS (x : List (List Int)) (k : Int) (h : 0 ≤ k ∧ k ≤ 1000000000000 ∧ tot x ≤ 1000000000 ∧ x.length ≤ 1000000000) : AC Tryd.prog 56 [.deep (OSh.rows 75 (Inn.row 2 (Kd.int .i64)) x), .cel (Kd.int .i64) k] [.cel (Kd.int .i64) (k + (tot x : Int))] [.deep (OSh.rows 75 (Inn.row 2 (Kd.int .i64)) (mmk x k)), .any] := by
 refine acI (N := 19) Tryd.func56 (Nat.le_of_ble_eq_true rfl) rfl fun w0 hd s0 ar => ?_
 refine AW.to (Kc 0 (.deep _) rfl <| kc 1 rfl <| Kn) ?_
 refine AW.vw (vunrows 0 9000 rfl rfl (by decide)) fun ⟨rs, hrs⟩ => ?_
 refine AW.to (Kc 9000 (.deep _) rfl <| ko 0 rfl <| kc 1 rfl <| Kn) ?_
 refine sr ?_
 refine st (asI rfl) rfl ?_
 refine ng ?_
 refine AW.seq ?_
 refine sr ?_
 refine st (asI rfl) rfl ?_
 refine ng ?_
 refine AW.block ?_
 refine AW.loop (fun z : Nat => z ≤ x.length) (fun z : Nat => keep [(0, .own 75 Kd.raw rs), (1, .cel (Kd.int .i64) (k + (tot (x.take z) : Int))), (5, .cel (Kd.int .i64) (z : Int)), (9000, .deep (OSh.gh (Inn.all (Inn.row 2 (Kd.int .i64)) rs (mmR x z k))))]) (fun z : Nat => x.length - z) (0) (Nat.zero_le _) (Kc 0 _ (Ko rfl rfl) <| Kc 1 _ (Kv rfl (by simp [tot])) <| Kc 5 _ (Kv rfl rfl) <| Kc 9000 _ (Kg rfl mmR_zero) <| Kn) ?_
 intro z hI
 refine AW.seq ?_
 refine sr ?_
 refine st (mvT rfl) rfl ?_
 refine st (OpT.alias (H rfl) (by decide) (by decide)) rfl ?_
 refine st (OpT.lenO (H rfl) (Root.ali rfl (by decide) (by decide)) rfl el85) rfl ?_
 refine st (OpT.lss (H rfl) (T1 rfl) (T1 rfl)) rfl ?_
 refine ng ?_
 refine cd rfl (fun hc1 => ?_) fun hc1 => ?_
 ·
  obtain ⟨hc1, hc1'⟩ := pT hc1
  obtain ⟨a, ha⟩ := getI (x := x) (z := z) (by omega)
  have htn := tot_next ha
  have htl := tot_le (x := x) (z + 1)
  have htz := tot_le (x := x) z
  obtain ⟨r, hr⟩ := getI (x := rs) (z := z) (by omega)
  have hma := mmR_get (k := k) (by omega) ha
  have hmn := mmR_len (x := x) (z := z) (k := k) (by omega)
  refine AW.skip ?_
  refine AX.go ?_
  refine AW.seq ?_
  refine AW.block ?_
  refine AW.region ?_
  refine st (OpT.alias (H rfl) (by decide) (by decide)) rfl ?_
  refine st (mvT rfl) rfl ?_
  refine st (OpT.indexAddrO (H rfl) (Root.ali rfl (by decide) (by decide)) rfl (by decide) (T1 rfl) el85 sz75 (by omega) (by assumption)) rfl ?_
  refine st (OpT.loadP (H rfl) (T1 rfl) (.inr ⟨_, _, rfl, (by assumption)⟩) ag75 rfl) rfl ?_
  refine AWl.vw (vent 9000 9001 (Inn.carve (d := (Inn.row 2 (Kd.int .i64))) hr hma) rfl rfl (by decide)) fun _ => ?_
  refine AWl.to (Kc 9000 (.deep _) rfl <| Kc 9001 (.deep _) rfl <| kc 15 rfl <| Kc 14 (.pel _ _ _ _ _ _ _) rfl <| kc 13 rfl <| Kc 12 (.ali _) rfl <| kc2 9 8 rfl <| Kc 7 (.ali _) rfl <| kc 6 rfl <| ko 0 rfl <| kc2 1 5 rfl <| Kn) ?_
  refine AWl.vw (vpin 15 9000 rfl rfl (by decide)) fun _ => ?_
  refine AWl.to (Kc 15 (.deep _) rfl <| Kc 9001 (.deep _) rfl <| Kc 14 (.pel _ _ _ _ _ _ _) rfl <| kc 13 rfl <| Kc 12 (.ali _) rfl <| kc2 9 8 rfl <| Kc 7 (.ali _) rfl <| kc 6 rfl <| ko 0 rfl <| kc2 1 5 rfl <| Kn) ?_
  refine st (mvT rfl) rfl ?_
  refine sg (OpT.cr (ms := [.root 15, .flat]) (AC.pin (c_laws_markInt64S _ _ (by omega)) _) (H rfl) (Ar (Root.self (t := 15) (by decide)) rfl rfl rfl <| Af (T1 rfl) rfl rfl <| An) rfl (.inl rfl) rfl) (kc2 17 16 rfl <| Kc 15 (.deep _) rfl <| Kc 9001 (.deep _) rfl <| Kc 14 (.pel _ _ _ _ _ _ _) rfl <| kc 13 rfl <| Kc 12 (.ali _) rfl <| kc2 9 8 rfl <| Kc 7 (.ali _) rfl <| kc 6 rfl <| ko 0 rfl <| kc2 1 5 rfl <| Kn) rfl ?_
  refine AWl.vw (vunpin 15 9000 rfl rfl (by decide)) fun _ => ?_
  refine AWl.to (Kc 9000 (.deep _) rfl <| kc3 15 17 16 rfl <| Kc 9001 (.deep _) rfl <| Kc 14 (.pel _ _ _ _ _ _ _) rfl <| kc 13 rfl <| Kc 12 (.ali _) rfl <| kc2 9 8 rfl <| Kc 7 (.ali _) rfl <| kc 6 rfl <| ko 0 rfl <| kc2 1 5 rfl <| Kn) ?_
  refine AWl.vw (vjoin 9000 9001 (Inn.fill' (d := (Inn.row 2 (Kd.int .i64))) hr (by rw [hmn]; omega)) rfl rfl (by decide)) fun _ => ?_
  refine AWl.to (Kc 9000 (.deep _) rfl <| kc3 15 17 16 rfl <| Kc 14 (.pel _ _ _ _ _ _ _) rfl <| kc 13 rfl <| Kc 12 (.ali _) rfl <| kc2 9 8 rfl <| Kc 7 (.ali _) rfl <| kc 6 rfl <| ko 0 rfl <| kc2 1 5 rfl <| Kn) ?_
  refine st (asT rfl) rfl ?_
  refine nn ?_
  refine AX.normal_block ?_
  refine AX.go ?_
  refine AW.region ?_
  refine st (mvT rfl) rfl ?_
  refine st (OpT.add (H rfl) (T1 rfl) (I rfl) (nw (by omega))) rfl ?_
  refine st (asT rfl) rfl ?_
  refine nn ?_
  exact AX.again (z + 1) (by omega) (by omega) (Kc 0 _ (Ko rfl rfl) <| Kc 1 _ (Kv rfl (by omega)) <| Kc 5 _ (Kv rfl (by omega)) <| Kc 9000 _ (Kg rfl (mmR_set (by omega) ha)) <| Kn)
 ·
  obtain ⟨hc1, hc1'⟩ := pF hc1
  refine AW.exit ?_
  refine xT <| xT <| AX.exit_hit ?_
  refine AX.go ?_
  refine sr ?_
  refine st (mvT rfl) rfl ?_
  refine st (asT rfl) rfl ?_
  refine ng ?_
  refine AW.ret ?_
  refine AX.vw (vrows (d := (Inn.row 2 (Kd.int .i64))) 0 9000 rfl rfl (by decide)) fun _ => ?_
  refine AX.pr (Kc 0 (.deep _) rfl <| kc4 4 18 9 8 rfl <| kc3 6 1 5 rfl <| Kn) ?_
  exact AX.rt (rs := [.tmp 4]) (ts := [some 4]) (.inl rfl) rfl (ROs.cons (RO.tmp (At.self (by decide)) (Kv rfl (by rw [List.take_of_length_le (by omega)])) rfl) <| ROs.nil) (by decide) (fun i => match i with | 0 => .inr ⟨rfl, Kr rfl (mmR_end (by omega)), rfl, by decide⟩ | 1 => .inl rfl | _ + 2 => .inl rfl)

/-- laws.heldInt64SS -/
theorem c_laws_heldInt64SS (x : List (List Int)) (k : Int) (h : 0 ≤ k ∧ k ≤ 1000000000000 ∧ tot x ≤ 1000000000 ∧ x.length ≤ 1000000000) : AC Tryd.prog 57 [.cel (Kd.slice (Kd.slice (Kd.int .i64))) (mmk x k), .cel (Kd.int .i64) k] [.cel (Kd.int .i64) (k + (tot x : Int))] [] := by
 refine acI (N := 21) Tryd.func57 (Nat.le_of_ble_eq_true rfl) rfl fun w0 hd s0 ar => ?_
 refine AW.to (kc2 0 1 rfl <| Kn) ?_
 refine sr ?_
 refine st (asI rfl) rfl ?_
 refine ng ?_
 refine AW.seq ?_
 refine sr ?_
 refine st (asI rfl) rfl ?_
 refine ng ?_
 refine AW.block ?_
 refine AW.loop (fun z : Nat => z ≤ x.length) (fun z : Nat => keep [(0, .cel (Kd.slice (Kd.slice (Kd.int .i64))) (mmk x k)), (1, .cel (Kd.int .i64) (k + (tot (x.take z) : Int))), (5, .cel (Kd.int .i64) (z : Int))]) (fun z : Nat => x.length - z) (0) (Nat.zero_le _) (Kc 0 _ (Kv rfl rfl) <| Kc 1 _ (Kv rfl (by simp [tot])) <| Kc 5 _ (Kv rfl rfl) <| Kn) ?_
 intro z hI
 refine AW.seq ?_
 refine sr ?_
 refine st (mvT rfl) rfl ?_
 refine st (mvT rfl) rfl ?_
 refine st (OpT.len (H rfl) (T1 rfl) el85) rfl ?_
 refine st (OpT.lss (H rfl) (T1 rfl) (T1 rfl)) rfl ?_
 refine ng ?_
 refine cd rfl (fun hc1 => ?_) fun hc1 => ?_
 ·
  obtain ⟨hc1, hc1'⟩ := pT hc1
  rw [mmk_len] at hc1'
  obtain ⟨a, ha⟩ := getI (x := x) (z := z) (by omega)
  have htn := tot_next ha
  have htl := tot_le (x := x) (z + 1)
  have htz := tot_le (x := x) z
  have hmg := mmk_get (k := k) ha
  refine AW.skip ?_
  refine AX.go ?_
  refine AW.seq ?_
  refine AW.block ?_
  refine sr ?_
  refine st (mvT rfl) rfl ?_
  refine st (mvT rfl) rfl ?_
  refine st (OpT.indexAddr (H rfl) (T1 rfl) (T1 rfl) el85 sz75 (by omega) (by assumption)) rfl ?_
  refine st (OpT.load (H rfl) (T1 rfl) ag75 rfl) rfl ?_
  refine st (mvT rfl) rfl ?_
  refine st (OpT.c1 (ms := [.flat, .flat]) (c_laws_heldInt64S a.length _ (by omega)) (H rfl) (Af (T1 rfl) rfl rfl <| Af (T1 rfl) rfl rfl <| An) rfl rfl) rfl ?_
  refine st (asT rfl) rfl ?_
  refine ng ?_
  refine sr ?_
  refine st (mvT rfl) rfl ?_
  refine st (OpT.lss (H rfl) (T1 rfl) (I rfl)) rfl ?_
  refine ng ?_
  refine cd rfl (fun hc2 => ?_) fun hc2 => ?_
  ·
   obtain ⟨hc2, hc2'⟩ := pT hc2
   exact (show False from (by omega)).elim
  ·
   obtain ⟨hc2, hc2'⟩ := pF hc2
   refine AW.skip ?_
   refine AX.normal_block ?_
   refine AX.go ?_
   refine AW.region ?_
   refine st (mvT rfl) rfl ?_
   refine st (OpT.add (H rfl) (T1 rfl) (I rfl) (nw (by omega))) rfl ?_
   refine st (asT rfl) rfl ?_
   refine nn ?_
   exact AX.again (z + 1) (by omega) (by omega) (Kc 0 _ (Kv rfl rfl) <| Kc 1 _ (Kv rfl (by omega)) <| Kc 5 _ (Kv rfl (by omega)) <| Kn)
 ·
  obtain ⟨hc1, hc1'⟩ := pF hc1
  rw [mmk_len] at hc1'
  refine AW.exit ?_
  refine xT <| xT <| AX.exit_hit ?_
  refine AX.go ?_
  refine sr ?_
  refine st (mvT rfl) rfl ?_
  refine st (asT rfl) rfl ?_
  refine ng ?_
  refine AW.ret ?_
  exact rt1 rfl (.inl rfl) (by rw [List.take_of_length_le (by omega)])

set_option maxHeartbeats 4000000 in
/-- spec.DuplicatesOf -/
theorem c_spec_DuplicatesOf (x : List DCard) : AC Tryd.prog 53 [.cel (Kd.slice kCard) x] [.cel (Kd.slice (Kd.slice (Kd.int .i64))) (dupS x).1, .cel (Kd.int .i64) (dupS x).2] [] := by
 refine acI (N := 59) Tryd.func53 (Nat.le_of_ble_eq_true rfl) rfl fun w0 hd s0 ar => ?_
 refine AW.to (kc 0 rfl <| Kn) ?_
 refine AW.fact (fun a w hr => (ok_slice (R_ok (t := 0) rfl hr)).2) (fun hl0 => ?_)
 refine sr ?_
 refine st (OpT.move (A := .cel _ _) (.inr rfl) rfl (ok' rfl) (Opd.nilslice (Kd.slice (Kd.int .i64))) rfl) rfl ?_
 refine st (asI rfl) rfl ?_
 refine ng ?_
 refine AW.seq ?_
 refine sr ?_
 refine st (mvT rfl) rfl ?_
 refine st (OpT.c1 (ms := [.flat]) (c_spec_l02Ok _) (H rfl) (Af (T1 rfl) rfl rfl <| An) rfl rfl) rfl ?_
 refine st (OpT.not (H rfl) (T1 rfl)) rfl ?_
 refine ng ?_
 refine cd rfl (fun hc1 => ?_) fun hc1 => ?_
 ·
  obtain ⟨hc1, hc1'⟩ := pT hc1
  refine sr ?_
  refine st (OpT.buildSlice0 (m := 0) (z := .bool false) (Kd.slice (Kd.int .i64)) (H rfl) el85 sz75 (by decide)) rfl ?_
  refine sg (OpT.take (.inl rfl) rfl (ok' rfl) (Root.self (by decide)) rfl rfl (by decide)) (ko 2 rfl <| kc4 11 10 9 3 rfl <| kc 0 rfl <| Kn) rfl ?_
  refine st (asI rfl) rfl ?_
  refine ng ?_
  refine AW.ret ?_
  refine rT ?_
  refine AX.freeze (t := 2) rfl ?_
  refine AX.pr (kc4 3 2 11 10 rfl <| kc3 9 3 0 rfl <| Kn) ?_
  exact rt2 rfl (.inl rfl) (by first | (rw [dup_bad hc1]; done) | (rw [dup_ok hc1]; first | done | rw [show z = x.length by omega])) (by first | (rw [dup_bad hc1]; done) | (rw [dup_ok hc1]; first | done | rw [show z = x.length by omega]))
 ·
  obtain ⟨hc1, hc1'⟩ := pF hc1
  have hxl := deck_one' hc1
  refine AW.skip ?_
  refine AX.go ?_
  refine sr ?_
  refine st (OpT.buildSlice0 (m := 0) (z := .bool false) (Kd.slice (Kd.int .i64)) (H rfl) el85 sz75 (by decide)) rfl ?_
  refine sg (OpT.take (.inl rfl) rfl (ok' rfl) (Root.self (by decide)) rfl rfl (by decide)) (ko 4 rfl <| kc4 11 10 9 3 rfl <| kc2 2 0 rfl <| Kn) rfl ?_
  refine ng ?_
  refine AW.seq ?_
  refine sr ?_
  refine st (asI rfl) rfl ?_
  refine ng ?_
  refine AW.block ?_
  refine AW.loop (fun z : Nat => z ≤ x.length) (fun z : Nat => keep [(0, .cel (Kd.slice kCard) x), (4, .own 75 (Kd.slice (Kd.int .i64)) (dupR x z)), (5, .cel (Kd.int .i64) (z : Int))]) (fun z : Nat => x.length - z) (0) (Nat.zero_le _) (Kc 0 _ (Kv rfl rfl) <| Kc 4 _ (Ko rfl rfl) <| Kc 5 _ (Kv rfl rfl) <| Kn) ?_
  intro z hI
  refine AW.seq ?_
  refine sr ?_
  refine st (mvT rfl) rfl ?_
  refine st (mvT rfl) rfl ?_
  refine st (OpT.len (H rfl) (T1 rfl) el36) rfl ?_
  refine st (OpT.lss (H rfl) (T1 rfl) (T1 rfl)) rfl ?_
  refine ng ?_
  refine cd rfl (fun hc2 => ?_) fun hc2 => ?_
  ·
   obtain ⟨hc2, hc2'⟩ := pT hc2
   obtain ⟨c, hcc⟩ := getI (x := x) (z := z) (by omega)
   refine AW.skip ?_
   refine AX.go ?_
   refine AW.seq ?_
   refine AW.block ?_
   refine sr ?_
   refine st (OpT.buildSlice0 (m := 0) (z := .bool false) (Kd.int .i64) (H rfl) el75 sz2 (by decide)) rfl ?_
   refine sg (OpT.take (.inl rfl) rfl (ok' rfl) (Root.self (by decide)) rfl rfl (by decide)) (ko 6 rfl <| kc4 17 16 15 14 rfl <| kc 0 rfl <| ko 4 rfl <| kc 5 rfl <| Kn) rfl ?_
   refine ng ?_
   refine sr ?_
   refine st (asB rfl) rfl ?_
   refine ng ?_
   refine AW.seq ?_
   refine sr ?_
   refine st (asI rfl) rfl ?_
   refine ng ?_
   refine AW.block ?_
   refine AW.loop (fun y : Nat => y ≤ x.length) (fun y : Nat => keep [(0, .cel (Kd.slice kCard) x), (4, .own 75 (Kd.slice (Kd.int .i64)) (dupR x z)), (5, .cel (Kd.int .i64) (z : Int)), (6, .own 2 (Kd.int .i64) (grp x c.2 y)), (7, .cel Kd.bool (fl x c.2 z y)), (8, .cel (Kd.int .i64) (y : Int))]) (fun y : Nat => x.length - y) (0) (Nat.zero_le _) (Kc 0 _ (Kv rfl rfl) <| Kc 4 _ (Ko rfl rfl) <| Kc 5 _ (Kv rfl rfl) <| Kc 6 _ (Ko rfl rfl) <| Kc 7 _ (Kv rfl rfl) <| Kc 8 _ (Kv rfl rfl) <| Kn) ?_
   intro y hI
   refine AW.seq ?_
   refine sr ?_
   refine st (mvT rfl) rfl ?_
   refine st (mvT rfl) rfl ?_
   refine st (OpT.len (H rfl) (T1 rfl) el36) rfl ?_
   refine st (OpT.lss (H rfl) (T1 rfl) (T1 rfl)) rfl ?_
   refine ng ?_
   refine cd rfl (fun hc3 => ?_) fun hc3 => ?_
   ·
    obtain ⟨hc3, hc3'⟩ := pT hc3
    obtain ⟨v, hv⟩ := getI (x := x) (z := y) (by omega)
    refine AW.skip ?_
    refine AX.go ?_
    refine AW.seq ?_
    refine AW.block ?_
    refine AW.seq ?_
    refine dh fomo ?_
    refine d1 [0] (fun ve h => OpT.move (A := .cel _ _) (.inl rfl) rfl (ok' rfl) (D1 h rfl) rfl) rfl ?_
    refine d1 [8] (fun ve h => OpT.move (A := .cel _ _) (.inl rfl) rfl (ok' rfl) (D1 h rfl) rfl) rfl ?_
    refine d1 [27, 28] (fun ve h => OpT.indexAddr (H rfl) (D1 h rfl) (D1 h rfl) el36 sz101 (by omega) (by assumption)) rfl ?_
    refine d1 [29] (fun ve h => OpT.fieldAddr (H rfl) (D1 h rfl) fd101_1 sz55 (by decide) sb101_1) rfl ?_
    refine d1 [30] (fun ve h => OpT.loadA (H rfl) (D1 h rfl) ag55 sz55) rfl ?_
    refine d1 [0] (fun ve h => OpT.move (A := .cel _ _) (.inl rfl) rfl (ok' rfl) (D1 h rfl) rfl) rfl ?_
    refine d1 [5] (fun ve h => OpT.move (A := .cel _ _) (.inl rfl) rfl (ok' rfl) (D1 h rfl) rfl) rfl ?_
    refine d1 [32, 33] (fun ve h => OpT.indexAddr (H rfl) (D1 h rfl) (D1 h rfl) el36 sz101 (by omega) (by assumption)) rfl ?_
    refine d1 [34] (fun ve h => OpT.fieldAddr (H rfl) (D1 h rfl) fd101_1 sz55 (by decide) sb101_1) rfl ?_
    refine d1 [35] (fun ve h => OpT.loadA (H rfl) (D1 h rfl) ag55 sz55) rfl ?_
    refine d1 [31, 36] (fun ve h => OpT.eqA (H rfl) (D1 h rfl) (D1 h rfl) eq55 ag55 rfl eg55) rfl ?_
    refine dn ⟨by kernel_rfl, by kernel_rfl, ?_⟩
    refine AX.go ?_
    refine cd rfl (fun hc4 => ?_) fun hc4 => ?_
    ·
     obtain ⟨hc4, hc4'⟩ := pT hc4
     have hm := eqv_iff.1 hc4
     refine sr ?_
     refine st (mvT rfl) rfl ?_
     refine st (mvT rfl) rfl ?_
     apply AWl.and (d := 43) (t := 39) rfl
     ·
      intro hb1 Q1 k1
      have hb1' := lT hb1
      refine rs hb1 (mvT rfl) rfl ?_
      refine rs hb1 (mvT rfl) rfl ?_
      refine rs hb1 (OpT.geq (H rfl) (T1 rfl) (T1 rfl)) rfl ?_
      refine st (OpT.pickT (A := .cel _ _) (H rfl) (T1 rfl) hb1 (T1 rfl) rfl) rfl ?_
      exact AWl.to (junk 3 rfl) k1
     ·
      intro hb1 Q1 k1
      refine ps hb1 rfl ?_
      refine ps hb1 rfl ?_
      refine ps hb1 rfl ?_
      refine st (OpT.pickF (A := .cel _ _) (H rfl) (T1 rfl) hb1 Opd.bool rfl) rfl ?_
      exact k1
     refine st (asT rfl) rfl ?_
     refine ng ?_
     refine AW.region ?_
     refine st (OpT.alias (H rfl) (by decide) (by decide)) rfl ?_
     refine st (mvT rfl) rfl ?_
     refine st (OpT.buildSlice (H rfl) el75 zr2 sz2 rfl (by decide) zk2 (by decide) (Built.cel (T1 rfl) rfl rfl (sub_arr (by decide) (0 : Int)) (Built.nil _))) rfl ?_
     refine sg (OpT.append (H rfl) (Root.ali rfl (by decide) (by decide)) rfl (Src.own (Root.self (t := 46) (by decide)) rfl) (by decide) el75 zr2 rfl sz2 by2 (by decide) (by have h72 := grp_len x c.2 y; simp only [List.length_set, List.length_replicate]; omega)) (ko 47 rfl <| ko 46 rfl <| kc4 45 7 43 39 rfl <| kc2 38 37 rfl <| ka 36 rfl <| kc4 35 34 33 32 rfl <| ka 31 rfl <| kc4 30 29 28 27 rfl <| kc4 24 23 22 21 rfl <| kc 0 rfl <| ko 4 rfl <| kc2 5 8 rfl <| Kn) rfl ?_
     refine sg (OpT.take (.inl rfl) rfl (ok' rfl) (Root.self (by decide)) rfl rfl (by decide)) (ko 6 rfl <| ko 46 rfl <| kc4 45 7 43 39 rfl <| kc2 38 37 rfl <| ka 36 rfl <| kc4 35 34 33 32 rfl <| ka 31 rfl <| kc4 30 29 28 27 rfl <| kc4 24 23 22 21 rfl <| kc 0 rfl <| ko 4 rfl <| kc2 5 8 rfl <| Kn) rfl ?_
     refine nn ?_
     refine AX.normal_block ?_
     refine AX.go ?_
     refine AW.region ?_
     refine st (mvT rfl) rfl ?_
     refine st (OpT.add (H rfl) (T1 rfl) (I rfl) (nw (by omega))) rfl ?_
     refine st (asT rfl) rfl ?_
     refine nn ?_
     exact AX.again (y + 1) (by omega) (by omega) (Kc 0 _ (Kv rfl rfl) <| Kc 4 _ (Ko rfl rfl) <| Kc 5 _ (Kv rfl rfl) <| Kc 6 _ (Ko rfl (by first | exact grp_yes hv hm | exact grp_no hv hm)) <| Kc 7 _ (Kv rfl (by first | exact fl_yes hv hm | exact fl_no hv hm)) <| Kc 8 _ (Kv rfl (by omega)) <| Kn)
    ·
     obtain ⟨hc4, hc4'⟩ := pF hc4
     have hm := eqv_false_iff.1 hc4
     refine AW.skip ?_
     refine AX.normal_block ?_
     refine AX.go ?_
     refine AW.region ?_
     refine st (mvT rfl) rfl ?_
     refine st (OpT.add (H rfl) (T1 rfl) (I rfl) (nw (by omega))) rfl ?_
     refine st (asT rfl) rfl ?_
     refine nn ?_
     exact AX.again (y + 1) (by omega) (by omega) (Kc 0 _ (Kv rfl rfl) <| Kc 4 _ (Ko rfl rfl) <| Kc 5 _ (Kv rfl rfl) <| Kc 6 _ (Ko rfl (by first | exact grp_yes hv hm | exact grp_no hv hm)) <| Kc 7 _ (Kv rfl (by first | exact fl_yes hv hm | exact fl_no hv hm)) <| Kc 8 _ (Kv rfl (by omega)) <| Kn)
   ·
    obtain ⟨hc3, hc3'⟩ := pF hc3
    refine AW.exit ?_
    refine AX.freeze (t := 6) rfl ?_
    refine AX.pr (kc4 24 23 22 21 rfl <| kc 0 rfl <| ko 4 rfl <| kc4 5 6 7 8 rfl <| Kn) ?_
    refine xT <| xT <| AX.exit_hit ?_
    refine AX.go ?_
    refine sr ?_
    refine st (mvT rfl) rfl ?_
    refine st (mvT rfl) rfl ?_
    apply AWl.and (d := 53) (t := 49) rfl
    ·
     intro hb2 Q1 k1
     have hb2' := lT hb2
     refine rs hb2 (mvT rfl) rfl ?_
     refine rs hb2 (OpT.len (H rfl) (T1 rfl) el75) rfl ?_
     refine rs hb2 (OpT.gtr (H rfl) (T1 rfl) (I rfl)) rfl ?_
     refine st (OpT.pickT (A := .cel _ _) (H rfl) (T1 rfl) hb2 (T1 rfl) rfl) rfl ?_
     exact AWl.to (junk 3 rfl) k1
    ·
     intro hb2 Q1 k1
     refine ps hb2 rfl ?_
     refine ps hb2 rfl ?_
     refine ps hb2 rfl ?_
     refine st (OpT.pickF (A := .cel _ _) (H rfl) (T1 rfl) hb2 Opd.bool rfl) rfl ?_
     exact k1
    refine ng ?_
    refine cd rfl (fun hc5 => ?_) fun hc5 => ?_
    ·
     obtain ⟨hc5, hc5'⟩ := pT hc5
     obtain rfl : y = x.length := by omega
     rw [fl_same hcc (by omega)] at hc5
     have hdu := hc5
     refine AW.region ?_
     refine st (OpT.alias (H rfl) (by decide) (by decide)) rfl ?_
     refine st (mvT rfl) rfl ?_
     refine st (OpT.buildSlice (H rfl) el85 zr75 sz75 rfl (by decide) zk75 (by decide) (Built.cel (T1 rfl) rfl rfl (sub_arr (by decide) ([] : List (Int))) (Built.nil _))) rfl ?_
     refine sg (OpT.append (H rfl) (Root.ali rfl (by decide) (by decide)) rfl (Src.own (Root.self (t := 56) (by decide)) rfl) (by decide) el85 zr75 rfl sz75 by75 (by decide) (by have h70 := dup_len x z; simp only [List.length_set, List.length_replicate]; omega)) (ko 57 rfl <| ko 56 rfl <| kc4 55 53 49 48 rfl <| kc4 24 23 22 21 rfl <| kc4 0 5 6 7 rfl <| kc 8 rfl <| Kn) rfl ?_
     refine sg (OpT.take (.inl rfl) rfl (ok' rfl) (Root.self (by decide)) rfl rfl (by decide)) (ko 4 rfl <| ko 56 rfl <| kc4 55 53 49 48 rfl <| kc4 24 23 22 21 rfl <| kc4 0 5 6 7 rfl <| kc 8 rfl <| Kn) rfl ?_
     refine nn ?_
     refine AX.normal_block ?_
     refine AX.go ?_
     refine AW.region ?_
     refine st (mvT rfl) rfl ?_
     refine st (OpT.add (H rfl) (T1 rfl) (I rfl) (nw (by omega))) rfl ?_
     refine st (asT rfl) rfl ?_
     refine nn ?_
     exact AX.again (z + 1) (by omega) (by omega) (Kc 0 _ (Kv rfl rfl) <| Kc 4 _ (Ko rfl (by first | exact dup_yes hcc hdu | exact dup_no hcc hdu)) <| Kc 5 _ (Kv rfl (by omega)) <| Kn)
    ·
     obtain ⟨hc5, hc5'⟩ := pF hc5
     obtain rfl : y = x.length := by omega
     rw [fl_same hcc (by omega)] at hc5
     have hdu := hc5
     refine AW.skip ?_
     refine AX.normal_block ?_
     refine AX.go ?_
     refine AW.region ?_
     refine st (mvT rfl) rfl ?_
     refine st (OpT.add (H rfl) (T1 rfl) (I rfl) (nw (by omega))) rfl ?_
     refine st (asT rfl) rfl ?_
     refine nn ?_
     exact AX.again (z + 1) (by omega) (by omega) (Kc 0 _ (Kv rfl rfl) <| Kc 4 _ (Ko rfl (by first | exact dup_yes hcc hdu | exact dup_no hcc hdu)) <| Kc 5 _ (Kv rfl (by omega)) <| Kn)
  ·
   obtain ⟨hc2, hc2'⟩ := pF hc2
   refine AW.exit ?_
   refine xT <| xT <| AX.exit_hit ?_
   refine AX.go ?_
   refine sr ?_
   refine st (OpT.alias (H rfl) (by decide) (by decide)) rfl ?_
   refine sg (OpT.take (.inl rfl) rfl (ok' rfl) (Root.ali rfl (by decide) (by decide)) rfl rfl (by decide)) (ko 2 rfl <| kc4 17 16 15 14 rfl <| kc2 0 5 rfl <| Kn) rfl ?_
   refine st (asI rfl) rfl ?_
   refine ng ?_
   refine AW.ret ?_
   refine AX.freeze (t := 2) rfl ?_
   refine AX.pr (kc4 3 2 17 16 rfl <| kc4 15 14 0 5 rfl <| Kn) ?_
   exact rt2 rfl (.inl rfl) (by first | (rw [dup_bad hc1]; done) | (rw [dup_ok hc1]; first | done | rw [show z = x.length by omega])) (by first | (rw [dup_bad hc1]; done) | (rw [dup_ok hc1]; first | done | rw [show z = x.length by omega]))

set_option maxHeartbeats 4000000 in
/-- impl.DuplicatesOf -/
theorem c_impl_DuplicatesOf_o (x : List DCard) : AC Tryd.prog 54 [.cel (Kd.slice kCard) x] [.deep (OSh.rows 75 (Inn.row 2 (Kd.int .i64)) (dupS x).1), .cel (Kd.int .i64) (dupS x).2] [] := by
 refine acI (N := 55) Tryd.func54 (Nat.le_of_ble_eq_true rfl) rfl fun w0 hd s0 ar => ?_
 refine AW.to (kc 0 rfl <| Kn) ?_
 refine AW.fact (fun a w hr => (ok_slice (R_ok (t := 0) rfl hr)).2) (fun hl0 => ?_)
 refine sr ?_
 refine st (nilO (E := 75) Kd.raw rfl (.inl rfl)) rfl ?_
 refine st (asI rfl) rfl ?_
 refine ng ?_
 refine AW.seq ?_
 refine sr ?_
 refine st (mvT rfl) rfl ?_
 refine st (OpT.c1 (ms := [.flat]) (c_impl_isDeck _) (H rfl) (Af (T1 rfl) rfl rfl <| An) rfl rfl) rfl ?_
 refine st (OpT.not (H rfl) (T1 rfl)) rfl ?_
 refine ng ?_
 refine cd rfl (fun hc1 => ?_) fun hc1 => ?_
 ·
  obtain ⟨hc1, hc1'⟩ := pT hc1
  refine sr ?_
  refine st (nilO (E := 75) Kd.raw rfl (.inl rfl)) rfl ?_
  refine st (asI rfl) rfl ?_
  refine ng ?_
  refine AW.ret ?_
  refine rT ?_
  refine AX.vw (vnil 9099 9000 rfl rfl (by decide)) fun _ => ?_
  refine AX.vw (vrows (d := (Inn.row 2 (Kd.int .i64))) (xs := []) 2 9000 rfl rfl (by decide)) fun _ => ?_
  refine AX.pr (kc 3 rfl <| Kc 2 (.deep _) rfl <| kc4 12 11 10 3 rfl <| Kc 2 (.deep _) rfl <| kc 0 rfl <| Kn) ?_
  exact AX.rt (rs := [.tmp 2, .tmp 3]) (ts := [some 2, some 3]) (.inl rfl) rfl (ROs.cons (RO.tmp (At.self (by decide)) (Kr rfl (by first | (rw [dup_bad hc1]; done) | (rw [dup_ok hc1]; first | done | rw [show p.1 = x.length by omega]))) rfl) <| ROs.cons (RO.tmp (At.self (by decide)) (Kv rfl (by first | (rw [dup_bad hc1]; done) | (rw [dup_ok hc1]; first | done | rw [show p.1 = x.length by omega]))) rfl) <| ROs.nil) (by decide) OutsOK.nil
 ·
  obtain ⟨hc1, hc1'⟩ := pF hc1
  have hxl := deck_one' hc1
  refine AW.skip ?_
  refine AX.go ?_
  refine sr ?_
  refine st (OpT.buildSlice0 (m := 0) (z := .bool false) Kd.raw (H rfl) el85 sz75 (by decide)) rfl ?_
  refine AWl.vw (vnil 9001 9000 rfl rfl (by decide)) fun _ => ?_
  refine AWl.to (Kc 9000 (.deep _) rfl <| ko 13 rfl <| kc4 12 11 10 3 rfl <| ko 2 rfl <| kc 0 rfl <| Kn) ?_
  refine sg (OpT.take (.inl rfl) rfl (ok' rfl) (Root.self (by decide)) rfl rfl (by decide)) (ko 4 rfl <| Kc 9000 (.deep _) rfl <| kc4 12 11 10 3 rfl <| ko 2 rfl <| kc 0 rfl <| Kn) rfl ?_
  refine ng ?_
  refine AW.seq ?_
  refine sr ?_
  refine st (mvT rfl) rfl ?_
  refine st (OpT.len (H rfl) (T1 rfl) el36) rfl ?_
  refine st (mvI rfl) rfl ?_
  refine ng ?_
  refine AW.block ?_
  refine AW.loop (fun p : Nat × List Value => p.1 ≤ x.length ∧ p.2.length ≤ p.1) (fun p : Nat × List Value => keep [(0, .cel (Kd.slice kCard) x), (4, .own 75 Kd.raw p.2), (9000, .deep (OSh.gh (Inn.all (Inn.row 2 (Kd.int .i64)) p.2 (dupR x p.1)))), (14, .cel (Kd.slice kCard) x), (15, .cel (Kd.int .i64) (x.length : Int)), (16, .cel (Kd.int .i64) (p.1 : Int))]) (fun p : Nat × List Value => x.length - p.1) ((0, [])) ⟨Nat.zero_le _, Nat.le_refl _⟩ (Kc 0 _ (Kv rfl rfl) <| Kc 4 _ (Ko rfl rfl) <| Kc 9000 _ (rfl) <| Kc 14 _ (Kv rfl rfl) <| Kc 15 _ (Kv rfl rfl) <| Kc 16 _ (Kv rfl rfl) <| Kn) ?_
  intro p hI
  have hI0 := hI
  refine sr ?_
  refine st (OpT.lss (H rfl) (T1 rfl) (T1 rfl)) rfl ?_
  refine ng ?_
  refine AW.seq ?_
  refine cd rfl (fun hc2 => ?_) fun hc2 => ?_
  ·
   obtain ⟨hc2, hc2'⟩ := pT hc2
   obtain ⟨c, hcc⟩ := getI (x := x) (z := p.1) (by omega)
   refine AW.skip ?_
   refine AX.go ?_
   refine AW.seq ?_
   refine AW.block ?_
   refine sr ?_
   refine st (mvT rfl) rfl ?_
   refine st (OpT.indexAddr (H rfl) (T1 rfl) (T1 rfl) el36 sz101 (by omega) (by assumption)) rfl ?_
   refine st (OpT.loadA (H rfl) (T1 rfl) ag101 sz101) rfl ?_
   refine st (OpT.alloc (H rfl) zr101 zk101) rfl ?_
   refine st (asT rfl) rfl ?_
   refine sk (OpT.storeBA rfl rfl (Opd.whole (Root.self (t := 6) (by decide)) rfl) rfl sz101 (by decide) (T1 rfl)) rfl ?_
   refine ng ?_
   refine sr ?_
   refine st (OpT.buildSlice0 (m := 0) (z := .bool false) (Kd.int .i64) (H rfl) el75 sz2 (by decide)) rfl ?_
   refine sg (OpT.take (.inl rfl) rfl (ok' rfl) (Root.self (by decide)) rfl rfl (by decide)) (ko 7 rfl <| kb 6 rfl <| kc 5 rfl <| ka 20 rfl <| kc4 19 18 17 0 rfl <| ko 4 rfl <| Kc 9000 (.deep _) rfl <| kc3 14 15 16 rfl <| Kn) rfl ?_
   refine ng ?_
   refine AW.seq ?_
   refine sr ?_
   refine st (mvT rfl) rfl ?_
   refine st (OpT.len (H rfl) (T1 rfl) el36) rfl ?_
   refine st (mvI rfl) rfl ?_
   refine ng ?_
   refine AW.block ?_
   refine AW.loop (fun y : Nat => y ≤ x.length) (fun y : Nat => keep [(0, .cel (Kd.slice kCard) x), (4, .own 75 Kd.raw p.2), (9000, .deep (OSh.gh (Inn.all (Inn.row 2 (Kd.int .i64)) p.2 (dupR x p.1)))), (5, .cel (Kd.int .i64) (p.1 : Int)), (6, .box 101 kCard c), (7, .own 2 (Kd.int .i64) (grp x c.2 y)), (14, .cel (Kd.slice kCard) x), (15, .cel (Kd.int .i64) (x.length : Int)), (16, .cel (Kd.int .i64) (p.1 : Int)), (22, .cel (Kd.slice kCard) x), (23, .cel (Kd.int .i64) (x.length : Int)), (24, .cel (Kd.int .i64) (y : Int))]) (fun y : Nat => x.length - y) (0) (Nat.zero_le _) (Kc 0 _ (Kv rfl rfl) <| Kc 4 _ (Ko rfl rfl) <| Kc 9000 _ (Kg rfl rfl) <| Kc 5 _ (Kv rfl rfl) <| Kc 6 _ (Kb rfl rfl) <| Kc 7 _ (Ko rfl rfl) <| Kc 14 _ (Kv rfl rfl) <| Kc 15 _ (Kv rfl rfl) <| Kc 16 _ (Kv rfl rfl) <| Kc 22 _ (Kv rfl rfl) <| Kc 23 _ (Kv rfl rfl) <| Kc 24 _ (Kv rfl rfl) <| Kn) ?_
   intro y hI
   refine sr ?_
   refine st (OpT.lss (H rfl) (T1 rfl) (T1 rfl)) rfl ?_
   refine ng ?_
   refine AW.seq ?_
   refine cd rfl (fun hc3 => ?_) fun hc3 => ?_
   ·
    obtain ⟨hc3, hc3'⟩ := pT hc3
    obtain ⟨v, hv⟩ := getI (x := x) (z := y) (by omega)
    refine AW.skip ?_
    refine AX.go ?_
    refine AW.seq ?_
    refine AW.block ?_
    refine sr ?_
    refine st (mvT rfl) rfl ?_
    refine st (OpT.indexAddr (H rfl) (T1 rfl) (T1 rfl) el36 sz101 (by omega) (by assumption)) rfl ?_
    refine st (OpT.loadA (H rfl) (T1 rfl) ag101 sz101) rfl ?_
    refine st (OpT.alloc (H rfl) zr101 zk101) rfl ?_
    refine st (asT rfl) rfl ?_
    refine sk (OpT.storeBA rfl rfl (Opd.whole (Root.self (t := 9) (by decide)) rfl) rfl sz101 (by decide) (T1 rfl)) rfl ?_
    refine ng ?_
    refine sr ?_
    refine st (OpT.fieldAddrB (H rfl) (Root.self (t := 9) (by decide)) rfl (by decide) fd101_1 sz55 (by decide) sb101_1) rfl ?_
    refine st (OpT.loadPA (H rfl) (T1 rfl) (.inl ⟨_, rfl, rfl⟩) ag55 sz55) rfl ?_
    refine st (OpT.fieldAddrB (H rfl) (Root.self (t := 6) (by decide)) rfl (by decide) fd101_1 sz55 (by decide) sb101_1) rfl ?_
    refine st (OpT.loadPA (H rfl) (T1 rfl) (.inl ⟨_, rfl, rfl⟩) ag55 sz55) rfl ?_
    refine st (OpT.eqA (H rfl) (T1 rfl) (T1 rfl) eq55 ag55 rfl eg55) rfl ?_
    refine ng ?_
    refine cd rfl (fun hc4 => ?_) fun hc4 => ?_
    ·
     obtain ⟨hc4, hc4'⟩ := pT hc4
     have hm := eqv_iff.1 hc4
     refine AW.region ?_
     refine st (OpT.alias (H rfl) (by decide) (by decide)) rfl ?_
     refine st (mvT rfl) rfl ?_
     refine st (OpT.buildSlice (H rfl) el75 zr2 sz2 rfl (by decide) zk2 (by decide) (Built.cel (T1 rfl) rfl rfl (sub_arr (by decide) (0 : Int)) (Built.nil _))) rfl ?_
     refine sg (OpT.append (H rfl) (Root.ali rfl (by decide) (by decide)) rfl (Src.own (Root.self (t := 36) (by decide)) rfl) (by decide) el75 zr2 rfl sz2 by2 (by decide) (by have h72 := grp_len x c.2 y; simp only [List.length_set, List.length_replicate]; omega)) (ko 37 rfl <| ko 36 rfl <| kc2 35 33 rfl <| ka 32 rfl <| Kc 31 (.pel _ _ _ _ _ _ _) rfl <| ka 30 rfl <| Kc 29 (.pel _ _ _ _ _ _ _) rfl <| kb 9 rfl <| kc 8 rfl <| ka 28 rfl <| kc4 27 26 25 0 rfl <| ko 4 rfl <| Kc 9000 (.deep _) rfl <| kc 5 rfl <| kb 6 rfl <| kc4 14 15 16 22 rfl <| kc2 23 24 rfl <| Kn) rfl ?_
     refine sg (OpT.take (.inl rfl) rfl (ok' rfl) (Root.self (by decide)) rfl rfl (by decide)) (ko 7 rfl <| ko 36 rfl <| kc2 35 33 rfl <| ka 32 rfl <| Kc 31 (.pel _ _ _ _ _ _ _) rfl <| ka 30 rfl <| Kc 29 (.pel _ _ _ _ _ _ _) rfl <| kb 9 rfl <| kc 8 rfl <| ka 28 rfl <| kc4 27 26 25 0 rfl <| ko 4 rfl <| Kc 9000 (.deep _) rfl <| kc 5 rfl <| kb 6 rfl <| kc4 14 15 16 22 rfl <| kc2 23 24 rfl <| Kn) rfl ?_
     refine nn ?_
     refine AX.normal_block ?_
     refine AX.go ?_
     refine AW.region ?_
     refine st (OpT.add (H rfl) (T1 rfl) (I rfl) (nw (by omega))) rfl ?_
     refine st (mvT rfl) rfl ?_
     refine nn ?_
     exact AX.again (y + 1) (by omega) (by omega) (Kc 0 _ (Kv rfl rfl) <| Kc 4 _ (Ko rfl rfl) <| Kc 9000 _ (Kg rfl rfl) <| Kc 5 _ (Kv rfl rfl) <| Kc 6 _ (Kb rfl rfl) <| Kc 7 _ (Ko rfl (by first | exact grp_yes hv hm | exact grp_no hv hm)) <| Kc 14 _ (Kv rfl rfl) <| Kc 15 _ (Kv rfl rfl) <| Kc 16 _ (Kv rfl rfl) <| Kc 22 _ (Kv rfl rfl) <| Kc 23 _ (Kv rfl rfl) <| Kc 24 _ (Kv rfl (by omega)) <| Kn)
    ·
     obtain ⟨hc4, hc4'⟩ := pF hc4
     have hm := eqv_false_iff.1 hc4
     refine AW.skip ?_
     refine AX.normal_block ?_
     refine AX.go ?_
     refine AW.region ?_
     refine st (OpT.add (H rfl) (T1 rfl) (I rfl) (nw (by omega))) rfl ?_
     refine st (mvT rfl) rfl ?_
     refine nn ?_
     exact AX.again (y + 1) (by omega) (by omega) (Kc 0 _ (Kv rfl rfl) <| Kc 4 _ (Ko rfl rfl) <| Kc 9000 _ (Kg rfl rfl) <| Kc 5 _ (Kv rfl rfl) <| Kc 6 _ (Kb rfl rfl) <| Kc 7 _ (Ko rfl (by first | exact grp_yes hv hm | exact grp_no hv hm)) <| Kc 14 _ (Kv rfl rfl) <| Kc 15 _ (Kv rfl rfl) <| Kc 16 _ (Kv rfl rfl) <| Kc 22 _ (Kv rfl rfl) <| Kc 23 _ (Kv rfl rfl) <| Kc 24 _ (Kv rfl (by omega)) <| Kn)
   ·
    obtain ⟨hc3, hc3'⟩ := pF hc3
    refine AW.exit ?_
    refine xT <| xT <| AX.exit_hit ?_
    refine AX.go ?_
    refine sr ?_
    refine st (OpT.alias (H rfl) (by decide) (by decide)) rfl ?_
    refine st (OpT.lenO (H rfl) (Root.ali rfl (by decide) (by decide)) rfl el75) rfl ?_
    refine st (OpT.gtr (H rfl) (T1 rfl) (I rfl)) rfl ?_
    refine st (mvT rfl) rfl ?_
    apply AWl.and (d := 48) (t := 42) rfl
    ·
     intro hb1 Q1 k1
     have hb1' := lT hb1
     have hg0 := get0 (l := grp x c.2 y) hb1'
     refine rs hb1 (OpT.alias (H rfl) (by decide) (by decide)) rfl ?_
     refine rs hb1 (OpT.indexAddrO (H rfl) (Root.ali rfl (by decide) (by decide)) rfl (by decide) (I rfl) el75 sz2 (by omega) (by assumption)) rfl ?_
     refine rs hb1 (OpT.loadP (H rfl) (T1 rfl) (.inr ⟨_, _, rfl, (by assumption)⟩) ag2 rfl) rfl ?_
     refine rs hb1 (mvT rfl) rfl ?_
     refine rs hb1 (OpT.eql (H rfl) (T1 rfl) (T1 rfl)) rfl ?_
     refine st (OpT.pickT (A := .cel _ _) (H rfl) (T1 rfl) hb1 (T1 rfl) rfl) rfl ?_
     exact AWl.to (junk 5 rfl) k1
    ·
     intro hb1 Q1 k1
     refine ps hb1 rfl ?_
     refine ps hb1 rfl ?_
     refine ps hb1 rfl ?_
     refine ps hb1 rfl ?_
     refine ps hb1 rfl ?_
     refine st (OpT.pickF (A := .cel _ _) (H rfl) (T1 rfl) hb1 Opd.bool rfl) rfl ?_
     exact k1
    refine ng ?_
    refine cd rfl (fun hc5 => ?_) fun hc5 => ?_
    ·
     obtain ⟨hc5, hc5'⟩ := pT hc5
     obtain rfl : y = x.length := by omega
     have hdu := hc5
     refine AW.region ?_
     refine st (OpT.alias (H rfl) (by decide) (by decide)) rfl ?_
     refine AWl.vw (vmelt 7 9001 rfl rfl (by decide)) fun v7 => ?_
     refine AWl.to (Kc 9001 (.deep _) rfl <| kc 7 rfl <| Kc 49 (.ali _) rfl <| kc4 48 42 41 40 rfl <| kc2 25 0 rfl <| ko 4 rfl <| Kc 9000 (.deep _) rfl <| kc 5 rfl <| kb 6 rfl <| kc4 14 15 16 22 rfl <| kc2 23 24 rfl <| Kn) ?_
     refine st (mvT rfl) rfl ?_
     refine st (OpT.buildSlice (H rfl) el85 zr75 sz75 rfl (by decide) zkr75 (by decide) (Built.cel (T1 rfl) rfl rfl (sub_arr (by decide) ((Value.slice none 0 0) : Value)) (Built.nil _))) rfl ?_
     refine sg (OpT.append (H rfl) (Root.ali rfl (by decide) (by decide)) rfl (Src.own (Root.self (t := 51) (by decide)) rfl) (by decide) el85 zr75 rfl sz75 by75 (by decide) (by simp only [List.length_set, List.length_replicate]; omega)) (ko 52 rfl <| ko 51 rfl <| kc 50 rfl <| Kc 9001 (.deep _) rfl <| kc4 7 48 42 41 rfl <| kc3 40 25 0 rfl <| Kc 9000 (.deep _) rfl <| kc 5 rfl <| kb 6 rfl <| kc4 14 15 16 22 rfl <| kc2 23 24 rfl <| Kn) rfl ?_
     refine AWl.vw (vjoin 9000 9001 (Inn.all_snoc (d := (Inn.row 2 (Kd.int .i64)))) rfl rfl (by decide)) fun _ => ?_
     refine AWl.to (Kc 9000 (.deep _) rfl <| ko 52 rfl <| ko 51 rfl <| kc4 50 7 48 42 rfl <| kc4 41 40 25 0 rfl <| kc 5 rfl <| kb 6 rfl <| kc4 14 15 16 22 rfl <| kc2 23 24 rfl <| Kn) ?_
     refine sg (OpT.take (.inl rfl) rfl (ok' rfl) (Root.self (by decide)) rfl rfl (by decide)) (ko 4 rfl <| Kc 9000 (.deep _) rfl <| ko 51 rfl <| kc4 50 7 48 42 rfl <| kc4 41 40 25 0 rfl <| kc 5 rfl <| kb 6 rfl <| kc4 14 15 16 22 rfl <| kc2 23 24 rfl <| Kn) rfl ?_
     refine nn ?_
     refine AX.normal_block ?_
     refine AX.go ?_
     refine AW.region ?_
     refine st (OpT.add (H rfl) (T1 rfl) (I rfl) (nw (by omega))) rfl ?_
     refine st (mvT rfl) rfl ?_
     refine nn ?_
     exact AX.again ((p.1 + 1, _)) ⟨by simp only []; omega, (by first | exact Nat.le_succ_of_le hI0.2 | exact len_step hI0.2 (Nat.le_refl 1))⟩ (by simp only []; omega) (Kc 0 _ (Kv rfl rfl) <| Kc 4 _ (Ko rfl rfl) <| Kc 9000 _ (Kg rfl (by first | exact dup_yes hcc hdu | exact dup_no hcc hdu)) <| Kc 14 _ (Kv rfl rfl) <| Kc 15 _ (Kv rfl rfl) <| Kc 16 _ (Kv rfl (by simp only []; omega)) <| Kn)
    ·
     obtain ⟨hc5, hc5'⟩ := pF hc5
     obtain rfl : y = x.length := by omega
     have hdu := hc5
     refine AW.skip ?_
     refine AX.normal_block ?_
     refine AX.go ?_
     refine AW.region ?_
     refine st (OpT.add (H rfl) (T1 rfl) (I rfl) (nw (by omega))) rfl ?_
     refine st (mvT rfl) rfl ?_
     refine nn ?_
     exact AX.again ((p.1 + 1, _)) ⟨by simp only []; omega, (by first | exact Nat.le_succ_of_le hI0.2 | exact len_step hI0.2 (Nat.le_refl 1))⟩ (by simp only []; omega) (Kc 0 _ (Kv rfl rfl) <| Kc 4 _ (Ko rfl rfl) <| Kc 9000 _ (Kg rfl (by first | exact dup_yes hcc hdu | exact dup_no hcc hdu)) <| Kc 14 _ (Kv rfl rfl) <| Kc 15 _ (Kv rfl rfl) <| Kc 16 _ (Kv rfl (by simp only []; omega)) <| Kn)
  ·
   obtain ⟨hc2, hc2'⟩ := pF hc2
   refine AW.exit ?_
   refine xT <| xT <| AX.exit_hit ?_
   refine AX.go ?_
   refine sr ?_
   refine st (OpT.alias (H rfl) (by decide) (by decide)) rfl ?_
   refine sg (OpT.take (.inl rfl) rfl (ok' rfl) (Root.ali rfl (by decide) (by decide)) rfl rfl (by decide)) (ko 2 rfl <| kc2 17 0 rfl <| Kc 9000 (.deep _) rfl <| kc3 14 15 16 rfl <| Kn) rfl ?_
   refine st (asI rfl) rfl ?_
   refine ng ?_
   refine AW.ret ?_
   refine AX.vw (vrows (d := (Inn.row 2 (Kd.int .i64))) 2 9000 rfl rfl (by decide)) fun _ => ?_
   refine AX.pr (kc 3 rfl <| Kc 2 (.deep _) rfl <| kc4 17 0 14 15 rfl <| kc 16 rfl <| Kn) ?_
   exact AX.rt (rs := [.tmp 2, .tmp 3]) (ts := [some 2, some 3]) (.inl rfl) rfl (ROs.cons (RO.tmp (At.self (by decide)) (Kr rfl (by first | (rw [dup_bad hc1]; done) | (rw [dup_ok hc1]; first | done | rw [show p.1 = x.length by omega]))) rfl) <| ROs.cons (RO.tmp (At.self (by decide)) (Kv rfl (by first | (rw [dup_bad hc1]; done) | (rw [dup_ok hc1]; first | done | rw [show p.1 = x.length by omega]))) rfl) <| ROs.nil) (by decide) OutsOK.nil
set_option maxHeartbeats 4000000 in
/-- laws.FnExactDuplicatesOf -/
theorem c_laws_FnExactDuplicatesOf (x : List DCard) : AC Tryd.prog 12 [.cel (Kd.slice kCard) x] [.cel Kd.bool true] [] := by
 refine acI (N := 96) Tryd.func12 (Nat.le_of_ble_eq_true rfl) rfl fun w0 hd s0 ar => ?_
 refine AW.to (kc 0 rfl <| Kn) ?_
 have hdb := dupS_bound x
 refine sr ?_
 refine st (asB rfl) rfl ?_
 refine ng ?_
 refine sr ?_
 refine st (asI rfl) rfl ?_
 refine ng ?_
 refine sr ?_
 refine st (mvT rfl) rfl ?_
 refine st (mvT rfl) rfl ?_
 refine st (OpT.c1 (ms := [.flat, .flat]) (c_laws_szCardS _ _ (by omega)) (H rfl) (Af (T1 rfl) rfl rfl <| Af (T1 rfl) rfl rfl <| An) rfl rfl) rfl ?_
 refine st (asT rfl) rfl ?_
 refine ng ?_
 refine AW.seq ?_
 refine sr ?_
 refine st (mvT rfl) rfl ?_
 refine st (OpT.lss (H rfl) (T1 rfl) (I rfl)) rfl ?_
 refine ng ?_
 refine cd rfl (fun hc1 => ?_) fun hc1 => ?_
 ·
  replace hc1 := oT hc1
  refine sr ?_
  refine st (asB rfl) rfl ?_
  refine ng ?_
  refine AW.ret ?_
  refine rT ?_
  exact rt1 rfl (.inl rfl) rfl
 ·
  replace hc1 := oF hc1
  have k0 := okSz_list okSzC x 1048576 (by omega)
  have k1 := k0.2.2 (by omega)
  refine AW.skip ?_
  refine AX.go ?_
  refine sr ?_
  refine st (mvT rfl) rfl ?_
  refine st (OpT.c1 (ms := [.flat]) (c_laws_toCardS x (by omega)) (H rfl) (Af (T1 rfl) rfl rfl <| An) rfl rfl) rfl ?_
  refine s2 (OpT.c2 (ms := [.flat]) (c_spec_DuplicatesOf _) (H rfl) (Af (T1 rfl) rfl rfl <| An) rfl rfl rfl) rfl ?_
  refine st (OpT.alias (H rfl) (by decide) (by decide)) rfl ?_
  refine st (OpT.extractV (m := 10022) (H rfl) rfl rfl rfl rfl rfl rfl rfl) rfl ?_
  refine st (OpT.extractV (m := 20022) (H rfl) rfl rfl rfl rfl rfl rfl rfl) rfl ?_
  refine st (asT rfl) rfl ?_
  refine st (asT rfl) rfl ?_
  refine AWl.to (kc4 5 4 2 0 rfl <| Kn) ?_
  refine ng ?_
  refine sr ?_
  refine st (mvT rfl) rfl ?_
  refine st (OpT.c1 (ms := [.flat]) (c_laws_toCardS_o x (by omega)) (H rfl) (Af (T1 rfl) rfl rfl <| An) rfl rfl) rfl ?_
  refine sg (OpT.take (.inl rfl) rfl (ok' rfl) (Root.self (by decide)) rfl rfl (by decide)) (ko 6 rfl <| kc4 25 5 4 2 rfl <| kc 0 rfl <| Kn) rfl ?_
  refine ng ?_
  refine sr ?_
  refine st (OpT.alias (H rfl) (by decide) (by decide)) rfl ?_
  refine s2 (cb2 (ms := [.bor 6]) (c_impl_DuplicatesOf_o _) (H rfl) (Ab (Root.ali rfl (by decide) (by decide)) rfl <| An) rfl (indR (Inn.Ind.row fun _ _ _ _ h => h)) (indC fun _ _ _ _ h => h)) rfl ?_
  refine st (OpT.alias (H rfl) (by decide) (by decide)) rfl ?_
  refine sg (OpT.extractVO (m := 10029) (H rfl) rfl rfl rfl rfl rfl rfl) (Kc 30 (.deep _) rfl <| Kc 27 (.ali _) rfl <| kc 20029 rfl <| Kc 28 (.ali _) rfl <| ko 6 rfl <| kc4 25 5 4 2 rfl <| kc 0 rfl <| Kn) rfl ?_
  refine st (OpT.extractV (m := 20029) (H rfl) rfl rfl rfl rfl rfl rfl rfl) rfl ?_
  refine sg (OpT.take (.inl rfl) rfl (ok' rfl) (Root.self (by decide)) rfl rfl (by decide)) (Kc 7 (.deep _) rfl <| kc 31 rfl <| Kc 27 (.ali _) rfl <| kc 20029 rfl <| Kc 28 (.ali _) rfl <| ko 6 rfl <| kc4 25 5 4 2 rfl <| kc 0 rfl <| Kn) rfl ?_
  refine st (asT rfl) rfl ?_
  refine ng ?_
  refine AW.seq ?_
  refine sr ?_
  refine st (OpT.alias (H rfl) (by decide) (by decide)) rfl ?_
  refine st (mvT rfl) rfl ?_
  refine st (cb1 (ms := [.bor 7, .flat]) (c_laws_eqInt64SS _ _) (H rfl) (Abd (Root.ali rfl (by decide) (by decide)) rfl (Bor.rows (Inn.Reads.row _ _)) <| Af (T1 rfl) rfl rfl <| An) rfl (indC fun _ _ _ _ h => h)) rfl ?_
  refine st (OpT.not (H rfl) (T1 rfl)) rfl ?_
  refine st (mvT rfl) rfl ?_
  apply AWl.or (d := 40) (t := 36) rfl
  ·
   intro hb1 Q1 k1
   refine rs hb1 (mvT rfl) rfl ?_
   refine rs hb1 (mvT rfl) rfl ?_
   refine rs hb1 (OpT.neq (H rfl) (T1 rfl) (T1 rfl)) rfl ?_
   refine st (OpT.pickF (A := .cel _ _) (H rfl) (T1 rfl) hb1 (T1 rfl) rfl) rfl ?_
   exact AWl.to (junk 3 rfl) k1
  ·
   intro hb1 Q1 k1
   refine ps hb1 rfl ?_
   refine ps hb1 rfl ?_
   refine ps hb1 rfl ?_
   refine st (OpT.pickT (A := .cel _ _) (H rfl) (T1 rfl) hb1 Opd.bool rfl) rfl ?_
   exact k1
  refine ng ?_
  refine cd rfl (fun hc2 => ?_) fun hc2 => ?_
  ·
   replace hc2 := oT hc2
   exact (show False from (by first | omega | (simp [eqv_self] at hc2 <;> omega))).elim
  ·
   replace hc2 := oF hc2
   refine AW.skip ?_
   refine AX.pr (kc 8 rfl <| Kc 7 (.deep _) rfl <| ko 6 rfl <| kc4 5 4 2 0 rfl <| Kn) ?_
   refine AX.go ?_
   refine AW.seq ?_
   refine sr ?_
   refine st (OpT.alias (H rfl) (by decide) (by decide)) rfl ?_
   refine st (mvT rfl) rfl ?_
   refine st (OpT.c1 (ms := [.flat]) (c_laws_toCardS x (by omega)) (H rfl) (Af (T1 rfl) rfl rfl <| An) rfl rfl) rfl ?_
   refine st (cb1 (ms := [.bor 6, .flat]) (c_laws_eqCardS _ _) (H rfl) (Ab (Root.ali rfl (by decide) (by decide)) rfl <| Af (T1 rfl) rfl rfl <| An) rfl (indC fun _ _ _ _ h => h)) rfl ?_
   refine st (OpT.not (H rfl) (T1 rfl)) rfl ?_
   refine ng ?_
   refine cd rfl (fun hc3 => ?_) fun hc3 => ?_
   ·
    replace hc3 := oT hc3
    exact (show False from (by first | omega | (simp [eqv_self] at hc3 <;> omega))).elim
   ·
    replace hc3 := oF hc3
    refine AW.skip ?_
    refine AX.go ?_
    refine sr ?_
    refine st (asI rfl) rfl ?_
    refine ng ?_
    refine sr ?_
    refine st (OpT.alias (H rfl) (by decide) (by decide)) rfl ?_
    refine st (mvT rfl) rfl ?_
    refine sg (OpT.cr (ms := [.root 6, .flat]) (c_laws_markCardS _ _ (by omega)) (H rfl) (Ar (Root.ali rfl (by decide) (by decide)) rfl rfl rfl <| Af (T1 rfl) rfl rfl <| An) rfl (.inl rfl) rfl) (kc2 48 47 rfl <| Kc 46 (.ali _) rfl <| kc4 9 45 44 43 rfl <| kc 42 rfl <| Kc 41 (.ali _) rfl <| kc 8 rfl <| Kc 7 (.deep _) rfl <| ko 6 rfl <| kc4 5 4 2 0 rfl <| Kn) rfl ?_
    refine st (asT rfl) rfl ?_
    refine ng ?_
    refine AW.seq ?_
    refine sr ?_
    refine st (mvT rfl) rfl ?_
    refine st (OpT.lss (H rfl) (T1 rfl) (I rfl)) rfl ?_
    refine st (mvT rfl) rfl ?_
    apply AWl.or (d := 56) (t := 51) rfl
    ·
     intro hb2 Q1 k1
     refine rs hb2 (OpT.alias (H rfl) (by decide) (by decide)) rfl ?_
     refine rs hb2 (mvT rfl) rfl ?_
     refine rs hb2 (cb1 (ms := [.bor 7, .flat]) (c_laws_eqInt64SS _ _) (H rfl) (Abd (Root.ali rfl (by decide) (by decide)) rfl (Bor.rows (Inn.Reads.row _ _)) <| Af (T1 rfl) rfl rfl <| An) rfl (indC fun _ _ _ _ h => h)) rfl ?_
     refine rs hb2 (OpT.not (H rfl) (T1 rfl)) rfl ?_
     refine st (OpT.pickF (A := .cel _ _) (H rfl) (T1 rfl) hb2 (T1 rfl) rfl) rfl ?_
     exact AWl.to (junk 4 rfl) k1
    ·
     intro hb2 Q1 k1
     refine ps hb2 rfl ?_
     refine ps hb2 rfl ?_
     refine ps hb2 rfl ?_
     refine ps hb2 rfl ?_
     refine st (OpT.pickT (A := .cel _ _) (H rfl) (T1 rfl) hb2 Opd.bool rfl) rfl ?_
     exact k1
    refine st (mvT rfl) rfl ?_
    apply AWl.or (d := 61) (t := 57) rfl
    ·
     intro hb3 Q1 k1
     refine rs hb3 (mvT rfl) rfl ?_
     refine rs hb3 (mvT rfl) rfl ?_
     refine rs hb3 (OpT.neq (H rfl) (T1 rfl) (T1 rfl)) rfl ?_
     refine st (OpT.pickF (A := .cel _ _) (H rfl) (T1 rfl) hb3 (T1 rfl) rfl) rfl ?_
     exact AWl.to (junk 3 rfl) k1
    ·
     intro hb3 Q1 k1
     refine ps hb3 rfl ?_
     refine ps hb3 rfl ?_
     refine ps hb3 rfl ?_
     refine st (OpT.pickT (A := .cel _ _) (H rfl) (T1 rfl) hb3 Opd.bool rfl) rfl ?_
     exact k1
    refine AWl.to (kc 61 rfl <| Kc 7 (.deep _) rfl <| kc4 5 4 2 0 rfl <| Kn) ?_
    refine ng ?_
    refine cd rfl (fun hc4 => ?_) fun hc4 => ?_
    ·
     replace hc4 := oT hc4
     exact (show False from (by first | omega | (simp [eqv_self] at hc4 <;> omega))).elim
    ·
     replace hc4 := oF hc4
     refine AW.skip ?_
     refine AX.go ?_
     refine sr ?_
     refine st (asI rfl) rfl ?_
     refine ng ?_
     refine sr ?_
     refine st (OpT.alias (H rfl) (by decide) (by decide)) rfl ?_
     refine st (mvT rfl) rfl ?_
     refine sg (OpT.cr (ms := [.root 7, .flat]) (c_laws_markInt64SS _ _ (by omega)) (H rfl) (Ar (Root.ali rfl (by decide) (by decide)) rfl rfl rfl <| Af (T1 rfl) rfl rfl <| An) rfl (.inl rfl) rfl) (kc2 64 63 rfl <| Kc 62 (.ali _) rfl <| kc2 10 61 rfl <| Kc 7 (.deep _) rfl <| kc4 5 4 2 0 rfl <| Kn) rfl ?_
     refine st (asT rfl) rfl ?_
     refine ng ?_
     refine sr ?_
     refine st (asI rfl) rfl ?_
     refine ng ?_
     refine sr ?_
     refine st (OpT.alias (H rfl) (by decide) (by decide)) rfl ?_
     refine st (mvT rfl) rfl ?_
     refine st (cb1 (ms := [.bor 7, .flat]) (c_laws_heldInt64SS (dupS x).1 _ (by omega)) (H rfl) (Abd (Root.ali rfl (by decide) (by decide)) rfl (Bor.rows (Inn.Reads.row _ _)) <| Af (T1 rfl) rfl rfl <| An) rfl (indC fun _ _ _ _ h => h)) rfl ?_
     refine st (asT rfl) rfl ?_
     refine ng ?_
     refine AW.seq ?_
     refine sr ?_
     refine st (mvT rfl) rfl ?_
     refine st (OpT.lss (H rfl) (T1 rfl) (I rfl)) rfl ?_
     refine ng ?_
     refine cd rfl (fun hc5 => ?_) fun hc5 => ?_
     ·
      replace hc5 := oT hc5
      exact (show False from (by first | omega | (simp [eqv_self] at hc5 <;> omega))).elim
     ·
      replace hc5 := oF hc5
      refine AW.skip ?_
      refine AX.pr (kc2 11 10 rfl <| Kc 7 (.deep _) rfl <| kc4 5 4 2 0 rfl <| Kn) ?_
      refine AX.go ?_
      refine AW.seq ?_
      refine sr ?_
      refine st (mvT rfl) rfl ?_
      refine st (mvT rfl) rfl ?_
      refine st (OpT.neq (H rfl) (T1 rfl) (T1 rfl)) rfl ?_
      refine ng ?_
      refine cd rfl (fun hc6 => ?_) fun hc6 => ?_
      ·
       replace hc6 := oT hc6
       exact (show False from (by first | omega | (simp [eqv_self] at hc6 <;> omega))).elim
      ·
       replace hc6 := oF hc6
       refine AW.skip ?_
       refine AX.go ?_
       refine sr ?_
       refine st (mvT rfl) rfl ?_
       refine st (OpT.c1 (ms := [.flat]) (c_laws_toCardS x (by omega)) (H rfl) (Af (T1 rfl) rfl rfl <| An) rfl rfl) rfl ?_
       refine s2 (OpT.c2 (ms := [.flat]) (c_impl_DuplicatesOf_o _) (H rfl) (Af (T1 rfl) rfl rfl <| An) rfl rfl rfl) rfl ?_
       refine st (OpT.alias (H rfl) (by decide) (by decide)) rfl ?_
       refine sg (OpT.extractVO (m := 10076) (H rfl) rfl rfl rfl rfl rfl rfl) (Kc 77 (.deep _) rfl <| Kc 73 (.ali _) rfl <| kc4 20076 75 74 72 rfl <| kc4 71 70 11 10 rfl <| Kc 7 (.deep _) rfl <| kc4 5 4 2 0 rfl <| Kn) rfl ?_
       refine st (OpT.extractV (m := 20076) (H rfl) rfl rfl rfl rfl rfl rfl rfl) rfl ?_
       refine sg (OpT.take (.inl rfl) rfl (ok' rfl) (Root.self (by decide)) rfl rfl (by decide)) (Kc 12 (.deep _) rfl <| kc 78 rfl <| Kc 73 (.ali _) rfl <| kc4 20076 75 74 72 rfl <| kc4 71 70 11 10 rfl <| Kc 7 (.deep _) rfl <| kc4 5 4 2 0 rfl <| Kn) rfl ?_
       refine st (asT rfl) rfl ?_
       refine ng ?_
       refine AW.seq ?_
       refine sr ?_
       refine st (OpT.alias (H rfl) (by decide) (by decide)) rfl ?_
       refine st (mvT rfl) rfl ?_
       refine st (cb1 (ms := [.bor 12, .flat]) (c_laws_eqInt64SS _ _) (H rfl) (Abd (Root.ali rfl (by decide) (by decide)) rfl (Bor.rows (Inn.Reads.row _ _)) <| Af (T1 rfl) rfl rfl <| An) rfl (indC fun _ _ _ _ h => h)) rfl ?_
       refine st (OpT.not (H rfl) (T1 rfl)) rfl ?_
       refine st (mvT rfl) rfl ?_
       apply AWl.or (d := 87) (t := 83) rfl
       ·
        intro hb4 Q1 k1
        refine rs hb4 (mvT rfl) rfl ?_
        refine rs hb4 (mvT rfl) rfl ?_
        refine rs hb4 (OpT.neq (H rfl) (T1 rfl) (T1 rfl)) rfl ?_
        refine st (OpT.pickF (A := .cel _ _) (H rfl) (T1 rfl) hb4 (T1 rfl) rfl) rfl ?_
        exact AWl.to (junk 3 rfl) k1
       ·
        intro hb4 Q1 k1
        refine ps hb4 rfl ?_
        refine ps hb4 rfl ?_
        refine ps hb4 rfl ?_
        refine st (OpT.pickT (A := .cel _ _) (H rfl) (T1 rfl) hb4 Opd.bool rfl) rfl ?_
        exact k1
       refine AWl.to (kc3 87 11 10 rfl <| Kc 7 (.deep _) rfl <| kc 2 rfl <| Kn) ?_
       refine ng ?_
       refine cd rfl (fun hc7 => ?_) fun hc7 => ?_
       ·
        replace hc7 := oT hc7
        exact (show False from (by first | omega | (simp [eqv_self] at hc7 <;> omega))).elim
       ·
        replace hc7 := oF hc7
        refine AW.skip ?_
        refine AX.go ?_
        refine sr ?_
        refine st (asI rfl) rfl ?_
        refine ng ?_
        refine sr ?_
        refine st (OpT.alias (H rfl) (by decide) (by decide)) rfl ?_
        refine st (mvT rfl) rfl ?_
        refine st (cb1 (ms := [.bor 7, .flat]) (c_laws_heldInt64SS (dupS x).1 _ (by omega)) (H rfl) (Abd (Root.ali rfl (by decide) (by decide)) rfl (Bor.rows (Inn.Reads.row _ _)) <| Af (T1 rfl) rfl rfl <| An) rfl (indC fun _ _ _ _ h => h)) rfl ?_
        refine st (asT rfl) rfl ?_
        refine ng ?_
        refine AW.seq ?_
        refine sr ?_
        refine st (mvT rfl) rfl ?_
        refine st (OpT.lss (H rfl) (T1 rfl) (I rfl)) rfl ?_
        refine ng ?_
        refine cd rfl (fun hc8 => ?_) fun hc8 => ?_
        ·
         replace hc8 := oT hc8
         exact (show False from (by first | omega | (simp [eqv_self] at hc8 <;> omega))).elim
        ·
         replace hc8 := oF hc8
         refine AW.skip ?_
         refine AX.go ?_
         refine AW.seq ?_
         refine sr ?_
         refine st (mvT rfl) rfl ?_
         refine st (mvT rfl) rfl ?_
         refine st (OpT.neq (H rfl) (T1 rfl) (T1 rfl)) rfl ?_
         refine AWl.to (kc2 95 2 rfl <| Kn) ?_
         refine ng ?_
         refine cd rfl (fun hc9 => ?_) fun hc9 => ?_
         ·
          replace hc9 := oT hc9
          exact (show False from (by first | omega | (simp [eqv_self] at hc9 <;> omega))).elim
         ·
          replace hc9 := oF hc9
          refine AW.skip ?_
          refine AX.go ?_
          refine sr ?_
          refine st (asB rfl) rfl ?_
          refine ng ?_
          refine AW.ret ?_
          exact rt1 rfl (.inl rfl) rfl
end Go.Proofs.YtfnkphllkbkfaaaDoor.VL
