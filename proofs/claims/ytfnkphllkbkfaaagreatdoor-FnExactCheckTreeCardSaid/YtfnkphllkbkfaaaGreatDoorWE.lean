/- Proved here: what some functions of the program take and give: walks with the words of VA..VQ. Printed by program. -/
import Derived.Test.YtfnkphllkbkfaaaGreatDoorWT
import Derived.Test.YtfnkphllkbkfaaaGreatDoorBpa
import Derived.Test.YtfnkphllkbkfaaaGreatDoorWD
set_option linter.unusedVariables false
set_option linter.unusedSimpArgs false
set_option maxRecDepth 4000
namespace Go.Proofs.YtfnkphllkbkfaaaGreatDoor.VL
open Go
/-- laws.szInt16S -/
theorem c_laws_szInt16S (x : List (Int)) (l : Int) (hl : 0 ≤ l ∧ l ≤ 1048576) : AC Tryz.prog 35 [.cel (Kd.slice (Kd.int .i16)) x, .cel (Kd.int .i64) l] [.cel (Kd.int .i64) (szL x l)] [] := by
 refine acI (N := 12) Tryz.func35 (Nat.le_of_ble_eq_true rfl) rfl fun w0 hd s0 ar => ?_
 refine AW.to (kc2 0 1 rfl <| Kn) ?_
 refine AW.fact (fun a w hr => (ok_slice (R_ok (t := 0) rfl hr)).2) (fun hl0 => ?_)
 refine sr ?_
 refine st (asI rfl) rfl ?_
 refine ng ?_
 refine sr ?_
 refine st (mvT rfl) rfl ?_
 refine st (mvT rfl) rfl ?_
 refine st (OpT.len (H rfl) (T1 rfl) el52) rfl ?_
 refine st (OpT.sub (H rfl) (T1 rfl) (T1 rfl) (nw (by omega))) rfl ?_
 refine st (asT rfl) rfl ?_
 refine ng ?_
 refine AW.seq ?_
 refine sr ?_
 refine st (mvT rfl) rfl ?_
 refine st (OpT.lss (H rfl) (T1 rfl) (I rfl)) rfl ?_
 refine ng ?_
 refine cd rfl (fun hc1 => ?_) fun hc1 => ?_
 ·
  replace hc1 := oT hc1
  refine sr ?_
  refine st (asI rfl) rfl ?_
  refine ng ?_
  refine AW.ret ?_
  refine rT ?_
  exact rt1 rfl (.inl rfl) (by unfold szL; split <;> first | rfl | omega)
 ·
  replace hc1 := oF hc1
  refine AW.skip ?_
  refine AX.go ?_
  refine sr ?_
  refine st (mvT rfl) rfl ?_
  refine st (asT rfl) rfl ?_
  refine AWl.to (kc 4 rfl <| Kn) ?_
  refine ng ?_
  refine AW.ret ?_
  exact rt1 rfl (.inl rfl) (by unfold szL; split <;> first | rfl | omega)

/-- laws.eqInt16S -/
theorem c_laws_eqInt16S (x y : List (Int)) : AC Tryz.prog 55 [.cel (Kd.slice (Kd.int .i16)) x, .cel (Kd.slice (Kd.int .i16)) y] [.cel Kd.bool (eqv x y)] [] := by
 refine acI (N := 26) Tryz.func55 (Nat.le_of_ble_eq_true rfl) rfl fun w0 hd s0 ar => ?_
 refine AW.to (kc2 0 1 rfl <| Kn) ?_
 refine AW.fact (fun a w hr => (ok_slice (R_ok (t := 0) rfl hr)).2) (fun hl0 => ?_)
 refine AW.fact (fun a w hr => (ok_slice (R_ok (t := 1) rfl hr)).2) (fun hl1 => ?_)
 refine sr ?_
 refine st (asB rfl) rfl ?_
 refine ng ?_
 refine AW.seq ?_
 refine sr ?_
 refine st (mvT rfl) rfl ?_
 refine st (OpT.len (H rfl) (T1 rfl) el52) rfl ?_
 refine st (mvT rfl) rfl ?_
 refine st (OpT.len (H rfl) (T1 rfl) el52) rfl ?_
 refine st (OpT.neq (H rfl) (T1 rfl) (T1 rfl)) rfl ?_
 refine ng ?_
 refine cd rfl (fun hc1 => ?_) fun hc1 => ?_
 ·
  replace hc1 := oT hc1
  try simp only [bne_iff_ne, ne_eq, bne_eq_false_iff_eq] at hc1
  refine sr ?_
  refine st (asB rfl) rfl ?_
  refine ng ?_
  refine AW.ret ?_
  refine rT ?_
  exact rt1 rfl (.inl rfl) (by first | exact eqs_len (by omega) | exact eqs_ne ha hb (by simpa [eqv_iff, eqv_false_iff] using hc3) | exact eqs_all hI.2 (by omega) (by omega))
 ·
  replace hc1 := oF hc1
  try simp only [bne_iff_ne, ne_eq, bne_eq_false_iff_eq] at hc1
  refine AW.skip ?_
  refine AX.go ?_
  refine AW.seq ?_
  refine sr ?_
  refine st (asI rfl) rfl ?_
  refine ng ?_
  refine AW.block ?_
  refine AW.loop (fun z : Nat => z ≤ x.length ∧ x.take z = y.take z) (fun z : Nat => keep [(0, .cel (Kd.slice (Kd.int .i16)) x), (1, .cel (Kd.slice (Kd.int .i16)) y), (5, .cel (Kd.int .i64) (z : Int))]) (fun z : Nat => x.length - z) (0) ⟨Nat.zero_le _, rfl⟩ (Kc 0 _ (Kv rfl rfl) <| Kc 1 _ (Kv rfl rfl) <| Kc 5 _ (Kv rfl rfl) <| Kn) ?_
  intro z hI
  refine AW.seq ?_
  refine sr ?_
  refine st (mvT rfl) rfl ?_
  refine st (mvT rfl) rfl ?_
  refine st (OpT.len (H rfl) (T1 rfl) el52) rfl ?_
  refine st (OpT.lss (H rfl) (T1 rfl) (T1 rfl)) rfl ?_
  refine ng ?_
  refine cd rfl (fun hc2 => ?_) fun hc2 => ?_
  ·
   replace hc2 := oT hc2
   obtain ⟨a, ha⟩ := getI (x := x) (z := z) (by omega); obtain ⟨b, hb⟩ := getI (x := y) (z := z) (by omega)
   refine AW.skip ?_
   refine AX.go ?_
   refine AW.seq ?_
   refine AW.block ?_
   refine AW.seq ?_
   refine dh fomo ?_
   refine d1 [0] (fun ve h => OpT.move (A := .cel _ _) (.inl rfl) rfl (ok' rfl) (D1 h rfl) rfl) rfl ?_
   refine d1 [5] (fun ve h => OpT.move (A := .cel _ _) (.inl rfl) rfl (ok' rfl) (D1 h rfl) rfl) rfl ?_
   refine d1 [17, 18] (fun ve h => OpT.indexAddr (H rfl) (D1 h rfl) (D1 h rfl) el52 sz42 (by omega) (by assumption)) rfl ?_
   refine d1 [19] (fun ve h => OpT.load (H rfl) (D1 h rfl) ag42 rfl) rfl ?_
   refine d1 [1] (fun ve h => OpT.move (A := .cel _ _) (.inl rfl) rfl (ok' rfl) (D1 h rfl) rfl) rfl ?_
   refine d1 [5] (fun ve h => OpT.move (A := .cel _ _) (.inl rfl) rfl (ok' rfl) (D1 h rfl) rfl) rfl ?_
   refine d1 [21, 22] (fun ve h => OpT.indexAddr (H rfl) (D1 h rfl) (D1 h rfl) el52 sz42 (by omega) (by assumption)) rfl ?_
   refine d1 [23] (fun ve h => OpT.load (H rfl) (D1 h rfl) ag42 rfl) rfl ?_
   refine d1 [20, 24] (fun ve h => OpT.neq (H rfl) (D1 h rfl) (D1 h rfl)) rfl ?_
   refine dn ⟨by kernel_rfl, by kernel_rfl, ?_⟩
   refine AX.go ?_
   refine cd rfl (fun hc3 => ?_) fun hc3 => ?_
   ·
    replace hc3 := oT hc3
    refine sr ?_
    refine st (asB rfl) rfl ?_
    refine ng ?_
    refine AW.ret ?_
    refine rK <| rT <| rT <| rK <| rT ?_
    exact rt1 rfl (.inl rfl) (by first | exact eqs_len (by omega) | exact eqs_ne ha hb (by simpa [eqv_iff, eqv_false_iff] using hc3) | exact eqs_all hI.2 (by omega) (by omega))
   ·
    replace hc3 := oF hc3
    refine AW.skip ?_
    refine AX.normal_block ?_
    refine AX.go ?_
    refine AW.region ?_
    refine st (mvT rfl) rfl ?_
    refine st (OpT.add (H rfl) (T1 rfl) (I rfl) (nw (by omega))) rfl ?_
    refine st (asT rfl) rfl ?_
    refine nn ?_
    exact AX.again (z + 1) ⟨by omega, eqs_step hI.2 ha hb (by simpa [eqv_iff, eqv_false_iff] using hc3)⟩ (by omega) (Kc 0 _ (Kv rfl rfl) <| Kc 1 _ (Kv rfl rfl) <| Kc 5 _ (Kv rfl (by omega)) <| Kn)
  ·
   replace hc2 := oF hc2
   refine AW.exit ?_
   refine xT <| xT <| AX.exit_hit ?_
   refine AX.go ?_
   refine sr ?_
   refine st (asB rfl) rfl ?_
   refine ng ?_
   refine AW.ret ?_
   exact rt1 rfl (.inl rfl) (by first | exact eqs_len (by omega) | exact eqs_ne ha hb (by simpa [eqv_iff, eqv_false_iff] using hc3) | exact eqs_all hI.2 (by omega) (by omega))

/-- laws.toInt16S -/
theorem c_laws_toInt16S_o (x : List (Int)) (hn : x.length ≤ 1099511627776) : AC Tryz.prog 45 [.cel (Kd.slice (Kd.int .i16)) x] [.own 42 (Kd.int .i16) x] [] := by
 refine acI (N := 22) Tryz.func45 (Nat.le_of_ble_eq_true rfl) rfl fun w0 hd s0 ar => ?_
 refine AW.to (kc 0 rfl <| Kn) ?_
 refine sr ?_
 refine st (nilO (E := 42) (Kd.int .i16) rfl (.inl rfl)) rfl ?_
 refine ng ?_
 refine sr ?_
 refine st (mvT rfl) rfl ?_
 refine st (OpT.len (H rfl) (T1 rfl) el52) rfl ?_
 refine st (OpT.make (H rfl) (T1 rfl) (T1 rfl) el52 zr42 sz42 by42 (by decide) zk42 (by omega) (by omega)) rfl ?_
 refine sg (OpT.take (.inl rfl) rfl (ok' rfl) (Root.self (by decide)) rfl rfl (by decide)) (ko 3 rfl <| kc2 6 5 rfl <| ko 2 rfl <| kc 0 rfl <| Kn) rfl ?_
 refine ng ?_
 refine AW.seq ?_
 refine sr ?_
 refine st (asI rfl) rfl ?_
 refine ng ?_
 refine AW.block ?_
 refine AW.loop (fun z : Nat => z ≤ x.length) (fun z : Nat => keep [(0, .cel (Kd.slice (Kd.int .i16)) x), (3, .own 42 (Kd.int .i16) (cpy x z (0))), (4, .cel (Kd.int .i64) (z : Int))]) (fun z : Nat => x.length - z) (0) (by omega) (Kc 0 _ (Kv rfl rfl) <| Kc 3 _ (Ko rfl rfl) <| Kc 4 _ (Kv rfl rfl) <| Kn) ?_
 intro z hI
 refine AW.seq ?_
 refine sr ?_
 refine st (mvT rfl) rfl ?_
 refine st (mvT rfl) rfl ?_
 refine st (OpT.len (H rfl) (T1 rfl) el52) rfl ?_
 refine st (OpT.lss (H rfl) (T1 rfl) (T1 rfl)) rfl ?_
 refine ng ?_
 refine cd rfl (fun hc1 => ?_) fun hc1 => ?_
 ·
  replace hc1 := oT hc1
  obtain ⟨a, ha⟩ := getI (x := x) (z := z) (by omega); have hd := cpy_get (x := x) (z := z) (d := (0 : Int)) (by omega)
  refine AW.skip ?_
  refine AX.go ?_
  refine AW.seq ?_
  refine AW.block ?_
  refine AW.region ?_
  refine st (OpT.alias (H rfl) (by decide) (by decide)) rfl ?_
  refine st (mvT rfl) rfl ?_
  refine st (mvT rfl) rfl ?_
  refine st (mvT rfl) rfl ?_
  refine st (OpT.indexAddr (H rfl) (T1 rfl) (T1 rfl) el52 sz42 (by omega) (by assumption)) rfl ?_
  refine st (OpT.load (H rfl) (T1 rfl) ag42 rfl) rfl ?_
  refine st (OpT.indexAddrO (H rfl) (Root.ali rfl (by decide) (by decide)) rfl (by decide) (T1 rfl) el52 sz42 (by omega) (by assumption)) rfl ?_
  refine sk (OpT.storeO rfl rfl (T1 rfl) rfl (by assumption) sz42 rfl (T1 rfl)) rfl ?_
  refine nn ?_
  refine AX.normal_block ?_
  refine AX.go ?_
  refine AW.region ?_
  refine st (mvT rfl) rfl ?_
  refine st (OpT.add (H rfl) (T1 rfl) (I rfl) (nw (by omega))) rfl ?_
  refine st (asT rfl) rfl ?_
  refine nn ?_
  exact AX.again (z + 1) (by omega) (by omega) (Kc 0 _ (Kv rfl rfl) <| Kc 3 _ (Ko rfl (cpy_step ha)) <| Kc 4 _ (Kv rfl (by omega)) <| Kn)
 ·
  replace hc1 := oF hc1
  refine AW.exit ?_
  refine xT <| xT <| AX.exit_hit ?_
  refine AX.go ?_
  refine sr ?_
  refine st (OpT.alias (H rfl) (by decide) (by decide)) rfl ?_
  refine sg (OpT.take (.inl rfl) rfl (ok' rfl) (Root.ali rfl (by decide) (by decide)) rfl rfl (by decide)) (ko 2 rfl <| kc4 11 10 9 8 rfl <| kc2 0 4 rfl <| Kn) rfl ?_
  refine ng ?_
  refine AW.ret ?_
  exact AX.rt (rs := [.tmp 2]) (ts := [some 2]) (.inl rfl) rfl (ROs.cons (RO.tmp (At.self (by decide)) (Ko rfl (cpy_end (by omega))) rfl) <| ROs.nil) (by decide) OutsOK.nil
/-- laws.toKnot -/
theorem c_laws_toKnot_o (x : DKnot) (hn : okK x) : AC Tryz.prog 25 [.agg kKnot x] [.deep (OSh.dagg (Inn.pair (Inn.flat (Kd.int .i16)) (Inn.pair (Inn.row 2 (Kd.int .i64)) (Inn.pair (Inn.row 42 (Kd.int .i16)) (Inn.row 2 (Kd.int .i64))))) x)] [] := by
 refine acI (N := 20) Tryz.func25 (Nat.le_of_ble_eq_true rfl) rfl fun w0 hd s0 ar => ?_
 refine AW.to (ka 0 rfl <| Kn) ?_
 refine sr ?_
 refine st (OpT.frz (OpT.boxA (E := 54) (H rfl) (T1 rfl))) rfl ?_
 refine st (OpT.alloc (H rfl) zr66 zkr66) rfl ?_
 refine ng ?_
 refine sr ?_
 refine st (OpT.alloc (H rfl) zr66 zkr66) rfl ?_
 refine ng ?_
 refine sr ?_
 refine st (OpT.fieldAddr (H rfl) (T1 rfl) fd54_0 sz42 (by decide) sb54_0) rfl ?_
 refine st (OpT.load (H rfl) (T1 rfl) ag42 rfl) rfl ?_
 refine st (OpT.fieldAddrB (H rfl) (Root.self (t := 3) (by decide)) rfl (by decide) fd66_0 sz42 (by decide) sbr66_0) rfl ?_
 refine sk (OpT.storeB rfl rfl (T1 rfl) rfl sz42 rfl (T1 rfl)) rfl ?_
 refine ng ?_
 refine sr ?_
 refine st (OpT.fieldAddr (H rfl) (T1 rfl) fd54_1 sz51 (by decide) sb54_1) rfl ?_
 refine st (OpT.load (H rfl) (T1 rfl) ag51 rfl) rfl ?_
 refine st (OpT.c1 (ms := [.flat]) (c_laws_toInt64S_o _ hn.1) (H rfl) (Af (T1 rfl) rfl rfl <| An) rfl rfl) rfl ?_
 refine AWl.vw (vmelt 9 9000 rfl rfl (by decide)) fun v1 => ?_
 refine AWl.to (Kc 9000 (.deep _) rfl <| kc3 9 8 7 rfl <| kb 3 rfl <| Kc 6 (.pel _ _ _ _ _ _ _) rfl <| kc2 5 4 rfl <| kb 2 rfl <| kc 1 rfl <| ka 0 rfl <| Kn) ?_
 refine st (OpT.fieldAddrB (H rfl) (Root.self (t := 3) (by decide)) rfl (by decide) fd66_1 sz51 (by decide) sbr66_1) rfl ?_
 refine sk (OpT.storeB rfl rfl (T1 rfl) rfl sz51 rfl (T1 rfl)) rfl ?_
 refine ng ?_
 refine sr ?_
 refine st (OpT.fieldAddr (H rfl) (T1 rfl) fd54_2 sz52 (by decide) sb54_2) rfl ?_
 refine st (OpT.load (H rfl) (T1 rfl) ag52 rfl) rfl ?_
 refine st (OpT.c1 (ms := [.flat]) (c_laws_toInt16S_o _ hn.2.1) (H rfl) (Af (T1 rfl) rfl rfl <| An) rfl rfl) rfl ?_
 refine AWl.vw (vmelt 13 9001 rfl rfl (by decide)) fun v2 => ?_
 refine AWl.to (Kc 9001 (.deep _) rfl <| kc3 13 12 11 rfl <| kb 3 rfl <| Kc 10 (.pel _ _ _ _ _ _ _) rfl <| Kc 9000 (.deep _) rfl <| kc3 9 8 7 rfl <| Kc 6 (.pel _ _ _ _ _ _ _) rfl <| kc2 5 4 rfl <| kb 2 rfl <| kc 1 rfl <| ka 0 rfl <| Kn) ?_
 refine st (OpT.fieldAddrB (H rfl) (Root.self (t := 3) (by decide)) rfl (by decide) fd66_2 sz52 (by decide) sbr66_2) rfl ?_
 refine sk (OpT.storeB rfl rfl (T1 rfl) rfl sz52 rfl (T1 rfl)) rfl ?_
 refine AWl.to (kb 3 rfl <| Kc 9001 (.deep _) rfl <| Kc 9000 (.deep _) rfl <| kb 2 rfl <| kc 1 rfl <| Kn) ?_
 refine ng ?_
 refine sr ?_
 refine st (OpT.fieldAddr (H rfl) (T1 rfl) fd54_3 sz51 (by decide) sb54_3) rfl ?_
 refine st (OpT.load (H rfl) (T1 rfl) ag51 rfl) rfl ?_
 refine st (OpT.c1 (ms := [.flat]) (c_laws_toInt64S_o _ hn.2.2) (H rfl) (Af (T1 rfl) rfl rfl <| An) rfl rfl) rfl ?_
 refine AWl.vw (vmelt 17 9002 rfl rfl (by decide)) fun v3 => ?_
 refine AWl.to (Kc 9002 (.deep _) rfl <| kc3 17 16 15 rfl <| kb 3 rfl <| Kc 9001 (.deep _) rfl <| Kc 9000 (.deep _) rfl <| kb 2 rfl <| kc 1 rfl <| Kn) ?_
 refine st (OpT.fieldAddrB (H rfl) (Root.self (t := 3) (by decide)) rfl (by decide) fd66_3 sz51 (by decide) sbr66_3) rfl ?_
 refine sk (OpT.storeB rfl rfl (T1 rfl) rfl sz51 rfl (T1 rfl)) rfl ?_
 refine ng ?_
 refine sr ?_
 refine st (OpT.loadB (H rfl) (Root.self (t := 3) (by decide)) rfl ag66 sz66) rfl ?_
 refine sk (OpT.storeBA rfl rfl (Opd.whole (Root.self (t := 2) (by decide)) rfl) rfl sz66 (by decide) (T1 rfl)) rfl ?_
 refine ng ?_
 refine AW.ret ?_
 refine AX.vw (vjoin 9001 9002 .rf rfl rfl (by decide)) fun _ => ?_
 refine AX.vw (vjoin 9000 9001 .rf rfl rfl (by decide)) fun _ => ?_
 exact AX.rt (rs := [.cell 2 66]) (ts := [some 9000]) (.inl rfl) rfl (ROs.cons (ROc (d := (Inn.pair (Inn.flat (Kd.int .i16)) (Inn.pair (Inn.row 2 (Kd.int .i64)) (Inn.pair (Inn.row 42 (Kd.int .i16)) (Inn.row 2 (Kd.int .i64)))))) (x := x) 9000 (by decide) rfl rfl ⟨fun h => GP.pure_i rfl h⟩ rfl ag66 sz66) <| ROs.nil) (by decide) OutsOK.nil
/-- laws.toKnotS -/
theorem c_laws_toKnotS_o (x : List DKnot) (hn : okKS x) : AC Tryz.prog 10 [.cel (Kd.slice kKnot) x] [.deep (OSh.rows 66 (Inn.pair (Inn.flat (Kd.int .i16)) (Inn.pair (Inn.row 2 (Kd.int .i64)) (Inn.pair (Inn.row 42 (Kd.int .i16)) (Inn.row 2 (Kd.int .i64))))) x)] [] := by
 refine acI (N := 23) Tryz.func10 (Nat.le_of_ble_eq_true rfl) rfl fun w0 hd s0 ar => ?_
 refine AW.to (kc 0 rfl <| Kn) ?_
 have hn1 := hn.1
 refine sr ?_
 refine st (nilO (E := 66) (Kd.pair (Kd.int .i16) (Kd.pair Kd.raw (Kd.pair Kd.raw Kd.raw))) rfl (.inl rfl)) rfl ?_
 refine ng ?_
 refine sr ?_
 refine st (mvT rfl) rfl ?_
 refine st (OpT.len (H rfl) (T1 rfl) el24) rfl ?_
 refine st (OpT.make (H rfl) (T1 rfl) (T1 rfl) el34 zr66 sz66 by66 (by decide) zkr66 (by omega) (by omega)) rfl ?_
 refine AWl.vw (vnew (Inn.all_rep (d := (Inn.pair (Inn.flat (Kd.int .i16)) (Inn.pair (Inn.row 2 (Kd.int .i64)) (Inn.pair (Inn.row 42 (Kd.int .i16)) (Inn.row 2 (Kd.int .i64)))))) (r := ((0 : Int), Value.slice none 0 0, Value.slice none 0 0, Value.slice none 0 0)) (x := ((0, [], [], []) : DKnot)) (GP.nil_sep (GP.nil_pure rfl) (GP.nil_sep (GP.nil_own _ _ rfl) (GP.nil_sep (GP.nil_own _ _ rfl) (GP.nil_own _ _ rfl)))) x.length) 9000 9098 rfl rfl (by decide)) fun _ => ?_
 refine AWl.to (Kc 9000 (.deep _) rfl <| ko 7 rfl <| kc2 6 5 rfl <| ko 2 rfl <| kc 0 rfl <| Kn) ?_
 refine sg (OpT.take (.inl rfl) rfl (ok' rfl) (Root.self (by decide)) rfl rfl (by decide)) (ko 3 rfl <| Kc 9000 (.deep _) rfl <| kc2 6 5 rfl <| ko 2 rfl <| kc 0 rfl <| Kn) rfl ?_
 refine ng ?_
 refine AW.seq ?_
 refine sr ?_
 refine st (asI rfl) rfl ?_
 refine ng ?_
 refine AW.block ?_
 refine AW.loop (fun p : Nat × List (Int × Value × Value × Value) => p.1 ≤ x.length ∧ p.2.length = x.length) (fun p : Nat × List (Int × Value × Value × Value) => keep [(0, .cel (Kd.slice kKnot) x), (3, .own 66 (Kd.pair (Kd.int .i16) (Kd.pair Kd.raw (Kd.pair Kd.raw Kd.raw))) p.2), (4, .cel (Kd.int .i64) (p.1 : Int)), (9000, .deep (OSh.gh (Inn.all (Inn.pair (Inn.flat (Kd.int .i16)) (Inn.pair (Inn.row 2 (Kd.int .i64)) (Inn.pair (Inn.row 42 (Kd.int .i16)) (Inn.row 2 (Kd.int .i64))))) p.2 (cpy x p.1 ((0, [], [], []) : DKnot)))))]) (fun p : Nat × List (Int × Value × Value × Value) => x.length - p.1) ((0, List.replicate x.length ((0 : Int), Value.slice none 0 0, Value.slice none 0 0, Value.slice none 0 0))) ⟨Nat.zero_le _, List.length_replicate⟩ (Kc 0 _ (Kv rfl rfl) <| Kc 3 _ (Ko rfl rfl) <| Kc 4 _ (Kv rfl rfl) <| Kc 9000 _ (rfl) <| Kn) ?_
 intro p hI
 refine AW.seq ?_
 refine sr ?_
 refine st (mvT rfl) rfl ?_
 refine st (mvT rfl) rfl ?_
 refine st (OpT.len (H rfl) (T1 rfl) el24) rfl ?_
 refine st (OpT.lss (H rfl) (T1 rfl) (T1 rfl)) rfl ?_
 refine ng ?_
 refine cd rfl (fun hc1 => ?_) fun hc1 => ?_
 ·
  obtain ⟨hc1, hc1'⟩ := pT hc1
  obtain ⟨a, ha⟩ := getI (x := x) (z := p.1) (by omega)
  have hd := cpy_get (x := x) (z := p.1) (d := ((0, [], [], []) : DKnot)) (by omega)
  obtain ⟨r0, hr0⟩ := getI (x := p.2) (z := p.1) (by omega)
  have hcl := cpy_len (x := x) (z := p.1) (d := ((0, [], [], []) : DKnot)) (by omega)
  refine AW.skip ?_
  refine AX.go ?_
  refine AW.seq ?_
  refine AW.block ?_
  refine AW.region ?_
  refine st (OpT.alias (H rfl) (by decide) (by decide)) rfl ?_
  refine st (mvT rfl) rfl ?_
  refine st (mvT rfl) rfl ?_
  refine st (mvT rfl) rfl ?_
  refine st (OpT.indexAddr (H rfl) (T1 rfl) (T1 rfl) el24 sz54 (by omega) (by assumption)) rfl ?_
  refine st (OpT.loadA (H rfl) (T1 rfl) ag54 sz54) rfl ?_
  refine st (OpT.c1 (ms := [.flat]) (c_laws_toKnot_o _ (hn.2 _ (mem_getI ha))) (H rfl) (Af (T1 rfl) rfl rfl <| An) rfl rfl) rfl ?_
  refine AWl.vw (vundagg 20 9001 rfl rfl (by decide)) fun r => ?_
  refine AWl.to (Kc 9001 (.deep _) rfl <| ka 20 rfl <| ka 19 rfl <| kc4 18 17 16 15 rfl <| Kc 14 (.ali _) rfl <| kc4 11 10 9 8 rfl <| kc 0 rfl <| ko 3 rfl <| kc 4 rfl <| Kc 9000 (.deep _) rfl <| Kn) ?_
  refine AWl.vw (vent 9000 9002 (Inn.carve (d := (Inn.pair (Inn.flat (Kd.int .i16)) (Inn.pair (Inn.row 2 (Kd.int .i64)) (Inn.pair (Inn.row 42 (Kd.int .i16)) (Inn.row 2 (Kd.int .i64)))))) hr0 hd) rfl rfl (by decide)) fun _ => ?_
  refine AWl.to (Kc 9000 (.deep _) rfl <| Kc 9002 (.deep _) rfl <| Kc 9001 (.deep _) rfl <| ka 20 rfl <| ka 19 rfl <| kc4 18 17 16 15 rfl <| Kc 14 (.ali _) rfl <| kc4 11 10 9 8 rfl <| kc 0 rfl <| ko 3 rfl <| kc 4 rfl <| Kn) ?_
  refine AWl.to (Kc 9002 (.deep _) rfl <| Kc 9001 (.deep _) rfl <| ka 20 rfl <| ka 19 rfl <| kc4 18 17 16 15 rfl <| Kc 14 (.ali _) rfl <| kc4 11 10 9 8 rfl <| kc 0 rfl <| ko 3 rfl <| kc 4 rfl <| Kn) ?_
  refine AWl.vw (vjoin 9001 9002 (Inn.fill (d := (Inn.pair (Inn.flat (Kd.int .i16)) (Inn.pair (Inn.row 2 (Kd.int .i64)) (Inn.pair (Inn.row 42 (Kd.int .i16)) (Inn.row 2 (Kd.int .i64)))))) (by omega) (by omega)) rfl rfl (by decide)) fun _ => ?_
  refine AWl.to (Kc 9001 (.deep _) rfl <| ka 20 rfl <| ka 19 rfl <| kc4 18 17 16 15 rfl <| Kc 14 (.ali _) rfl <| kc4 11 10 9 8 rfl <| kc 0 rfl <| ko 3 rfl <| kc 4 rfl <| Kn) ?_
  refine AWl.vw (vmv 9001 9000 rfl rfl (by decide)) fun _ => ?_
  refine AWl.to (Kc 9000 (.deep _) rfl <| ka 20 rfl <| ka 19 rfl <| kc4 18 17 16 15 rfl <| Kc 14 (.ali _) rfl <| kc4 11 10 9 8 rfl <| kc 0 rfl <| ko 3 rfl <| kc 4 rfl <| Kn) ?_
  refine st (OpT.indexAddrO (H rfl) (Root.ali rfl (by decide) (by decide)) rfl (by decide) (T1 rfl) el34 sz66 (by omega) (by assumption)) rfl ?_
  refine sk (OpT.storeOA rfl rfl (T1 rfl) rfl (by assumption) sz66 (by decide) (T1 rfl)) rfl ?_
  refine nn ?_
  refine AX.normal_block ?_
  refine AX.go ?_
  refine AW.region ?_
  refine st (mvT rfl) rfl ?_
  refine st (OpT.add (H rfl) (T1 rfl) (I rfl) (nw (by omega))) rfl ?_
  refine st (asT rfl) rfl ?_
  refine nn ?_
  exact AX.again ((p.1 + 1, p.2.set (Int.toNat (p.1 : Int)) r)) (by refine ⟨by simp only []; omega, ?_⟩; simp only [List.length_set]; exact hI.2) (by simp only []; omega) (Kc 0 _ (Kv rfl rfl) <| Kc 3 _ (Ko rfl rfl) <| Kc 4 _ (Kv rfl (by simp only []; omega)) <| Kc 9000 _ (Kg rfl (cpy_step ha)) <| Kn)
 ·
  obtain ⟨hc1, hc1'⟩ := pF hc1
  refine AW.exit ?_
  refine xT <| xT <| AX.exit_hit ?_
  refine AX.go ?_
  refine sr ?_
  refine st (OpT.alias (H rfl) (by decide) (by decide)) rfl ?_
  refine sg (OpT.take (.inl rfl) rfl (ok' rfl) (Root.ali rfl (by decide) (by decide)) rfl rfl (by decide)) (ko 2 rfl <| kc4 11 10 9 8 rfl <| kc2 0 4 rfl <| Kc 9000 (.deep _) rfl <| Kn) rfl ?_
  refine ng ?_
  refine AW.ret ?_
  refine AX.vw (vrows (d := (Inn.pair (Inn.flat (Kd.int .i16)) (Inn.pair (Inn.row 2 (Kd.int .i64)) (Inn.pair (Inn.row 42 (Kd.int .i16)) (Inn.row 2 (Kd.int .i64)))))) 2 9000 rfl rfl (by decide)) fun _ => ?_
  refine AX.pr (Kc 2 (.deep _) rfl <| kc4 11 10 9 8 rfl <| kc2 0 4 rfl <| Kn) ?_
  exact AX.rt (rs := [.tmp 2]) (ts := [some 2]) (.inl rfl) rfl (ROs.cons (RO.tmp (At.self (by decide)) (Kr rfl (cpy_end (by omega))) rfl) <| ROs.nil) (by decide) OutsOK.nil
theorem c_laws_toKnotS (x : List DKnot) (hn : okKS x) : AC Tryz.prog 10 [.cel (Kd.slice kKnot) x] [.cel (Kd.slice kKnot) x] [] := (c_laws_toKnotS_o x hn).shr (Shrs.cons (Shr.rows (Inn.Reads.pair (Inn.Reads.flat _) (Inn.Reads.pair (Inn.Reads.row _ _) (Inn.Reads.pair (Inn.Reads.row _ _) (Inn.Reads.row _ _))))) <| Shrs.nil)

/-- laws.szKnot -/
theorem c_laws_szKnot (x : DKnot) (l : Int) (hl : 0 ≤ l ∧ l ≤ 1048576) : AC Tryz.prog 17 [.agg kKnot x, .cel (Kd.int .i64) l] [.cel (Kd.int .i64) (szK x l)] [] := by
 refine acI (N := 24) Tryz.func17 (Nat.le_of_ble_eq_true rfl) rfl fun w0 hd s0 ar => ?_
 refine AW.to (ka 0 rfl <| kc 1 rfl <| Kn) ?_
 have h1 := szL_in x.2.1 hl
 refine sr ?_
 refine st (OpT.frz (OpT.boxA (E := 54) (H rfl) (T1 rfl))) rfl ?_
 refine st (asI rfl) rfl ?_
 refine ng ?_
 refine sr ?_
 refine st (OpT.fieldAddr (H rfl) (T1 rfl) fd54_1 sz51 (by decide) sb54_1) rfl ?_
 refine st (OpT.load (H rfl) (T1 rfl) ag51 rfl) rfl ?_
 refine st (mvT rfl) rfl ?_
 refine st (OpT.c1 (ms := [.flat, .flat]) (c_laws_szInt64S _ _ hl) (H rfl) (Af (T1 rfl) rfl rfl <| Af (T1 rfl) rfl rfl <| An) rfl rfl) rfl ?_
 refine st (asT rfl) rfl ?_
 refine ng ?_
 refine AW.seq ?_
 refine sr ?_
 refine st (mvT rfl) rfl ?_
 refine st (OpT.lss (H rfl) (T1 rfl) (I rfl)) rfl ?_
 refine ng ?_
 refine cd rfl (fun hc1 => ?_) fun hc1 => ?_
 ·
  replace hc1 := oT hc1
  refine sr ?_
  refine st (asI rfl) rfl ?_
  refine ng ?_
  refine AW.ret ?_
  refine rT ?_
  exact rt1 rfl (.inl rfl) (by unfold szK; (repeat' split) <;> first | rfl | omega)
 ·
  replace hc1 := oF hc1
  have h2 := szL_in x.2.2.1 (l := szL x.2.1 l) (by omega)
  refine AW.skip ?_
  refine AX.go ?_
  refine sr ?_
  refine st (OpT.fieldAddr (H rfl) (T1 rfl) fd54_2 sz52 (by decide) sb54_2) rfl ?_
  refine st (OpT.load (H rfl) (T1 rfl) ag52 rfl) rfl ?_
  refine st (mvT rfl) rfl ?_
  refine st (OpT.c1 (ms := [.flat, .flat]) (c_laws_szInt16S _ _ (by omega)) (H rfl) (Af (T1 rfl) rfl rfl <| Af (T1 rfl) rfl rfl <| An) rfl rfl) rfl ?_
  refine st (asT rfl) rfl ?_
  refine AWl.to (kc3 1 4 2 rfl <| Kn) ?_
  refine ng ?_
  refine AW.seq ?_
  refine sr ?_
  refine st (mvT rfl) rfl ?_
  refine st (OpT.lss (H rfl) (T1 rfl) (I rfl)) rfl ?_
  refine ng ?_
  refine cd rfl (fun hc2 => ?_) fun hc2 => ?_
  ·
   replace hc2 := oT hc2
   refine sr ?_
   refine st (asI rfl) rfl ?_
   refine ng ?_
   refine AW.ret ?_
   refine rT ?_
   exact rt1 rfl (.inl rfl) (by unfold szK; (repeat' split) <;> first | rfl | omega)
  ·
   replace hc2 := oF hc2
   have h3 := szL_in x.2.2.2 (l := szL x.2.2.1 (szL x.2.1 l)) (by omega)
   refine AW.skip ?_
   refine AX.go ?_
   refine sr ?_
   refine st (OpT.fieldAddr (H rfl) (T1 rfl) fd54_3 sz51 (by decide) sb54_3) rfl ?_
   refine st (OpT.load (H rfl) (T1 rfl) ag51 rfl) rfl ?_
   refine st (mvT rfl) rfl ?_
   refine st (OpT.c1 (ms := [.flat, .flat]) (c_laws_szInt64S _ _ (by omega)) (H rfl) (Af (T1 rfl) rfl rfl <| Af (T1 rfl) rfl rfl <| An) rfl rfl) rfl ?_
   refine st (asT rfl) rfl ?_
   refine ng ?_
   refine AW.seq ?_
   refine sr ?_
   refine st (mvT rfl) rfl ?_
   refine st (OpT.lss (H rfl) (T1 rfl) (I rfl)) rfl ?_
   refine ng ?_
   refine cd rfl (fun hc3 => ?_) fun hc3 => ?_
   ·
    replace hc3 := oT hc3
    refine sr ?_
    refine st (asI rfl) rfl ?_
    refine AWl.to (kc2 4 1 rfl <| Kn) ?_
    refine ng ?_
    refine AW.ret ?_
    refine rT ?_
    exact rt1 rfl (.inl rfl) (by unfold szK; (repeat' split) <;> first | rfl | omega)
   ·
    replace hc3 := oF hc3
    refine AW.skip ?_
    refine AX.go ?_
    refine sr ?_
    refine st (mvT rfl) rfl ?_
    refine st (asT rfl) rfl ?_
    refine AWl.to (kc 4 rfl <| Kn) ?_
    refine ng ?_
    refine AW.ret ?_
    exact rt1 rfl (.inl rfl) (by unfold szK; (repeat' split) <;> first | rfl | omega)

/-- laws.szKnotS -/
theorem c_laws_szKnotS (x : List DKnot) (l : Int) (hl : 0 ≤ l ∧ l ≤ 1048576) : AC Tryz.prog 6 [.cel (Kd.slice kKnot) x, .cel (Kd.int .i64) l] [.cel (Kd.int .i64) (szKS x l)] [] := by
 refine acI (N := 27) Tryz.func6 (Nat.le_of_ble_eq_true rfl) rfl fun w0 hd s0 ar => ?_
 refine AW.to (kc2 0 1 rfl <| Kn) ?_
 refine AW.fact (fun a w hr => (ok_slice (R_ok (t := 0) rfl hr)).2) (fun hl0 => ?_)
 refine sr ?_
 refine st (asI rfl) rfl ?_
 refine ng ?_
 refine sr ?_
 refine st (mvT rfl) rfl ?_
 refine st (mvT rfl) rfl ?_
 refine st (OpT.len (H rfl) (T1 rfl) el24) rfl ?_
 refine st (OpT.sub (H rfl) (T1 rfl) (T1 rfl) (nw (by omega))) rfl ?_
 refine st (asT rfl) rfl ?_
 refine ng ?_
 refine AW.seq ?_
 refine sr ?_
 refine st (mvT rfl) rfl ?_
 refine st (OpT.lss (H rfl) (T1 rfl) (I rfl)) rfl ?_
 refine ng ?_
 refine cd rfl (fun hc1 => ?_) fun hc1 => ?_
 ·
  replace hc1 := oT hc1
  refine sr ?_
  refine st (asI rfl) rfl ?_
  refine ng ?_
  refine AW.ret ?_
  refine rT ?_
  exact rt1 rfl (.inl rfl) (by first | exact (if_pos hc1).symm | exact szKs_ne hc1 hI ha hc3 | exact szKs_end hc1 hI (by omega))
 ·
  replace hc1 := oF hc1
  refine AW.skip ?_
  refine AX.go ?_
  refine AW.seq ?_
  refine sr ?_
  refine st (asI rfl) rfl ?_
  refine ng ?_
  refine AW.block ?_
  refine AW.loop (fun p : Nat × Int => p.1 ≤ x.length ∧ 0 ≤ p.2 ∧ p.2 ≤ 1048576 ∧ szKs (x.drop p.1) p.2 = szKs x (l - x.length)) (fun p : Nat × Int => keep [(0, .cel (Kd.slice kKnot) x), (1, .cel (Kd.int .i64) p.2), (5, .cel (Kd.int .i64) (p.1 : Int))]) (fun p : Nat × Int => x.length - p.1) ((0, l - x.length)) ⟨Nat.zero_le _, by simp only []; omega, by simp only []; omega, rfl⟩ (Kc 0 _ (Kv rfl rfl) <| Kc 1 _ (Kv rfl rfl) <| Kc 5 _ (Kv rfl rfl) <| Kn) ?_
  intro p hI
  refine AW.seq ?_
  refine sr ?_
  refine st (mvT rfl) rfl ?_
  refine st (mvT rfl) rfl ?_
  refine st (OpT.len (H rfl) (T1 rfl) el24) rfl ?_
  refine st (OpT.lss (H rfl) (T1 rfl) (T1 rfl)) rfl ?_
  refine ng ?_
  refine cd rfl (fun hc2 => ?_) fun hc2 => ?_
  ·
   replace hc2 := oT hc2
   obtain ⟨a, ha⟩ := getI (x := x) (z := p.1) (by omega)
   refine AW.skip ?_
   refine AX.go ?_
   refine AW.seq ?_
   refine AW.block ?_
   refine sr ?_
   refine st (mvT rfl) rfl ?_
   refine st (mvT rfl) rfl ?_
   refine st (OpT.indexAddr (H rfl) (T1 rfl) (T1 rfl) el24 sz54 (by omega) (by assumption)) rfl ?_
   refine st (OpT.loadA (H rfl) (T1 rfl) ag54 sz54) rfl ?_
   refine st (mvT rfl) rfl ?_
   refine st (OpT.c1 (ms := [.flat, .flat]) (c_laws_szKnot _ _ ⟨hI.2.1, hI.2.2.1⟩) (H rfl) (Af (T1 rfl) rfl rfl <| Af (T1 rfl) rfl rfl <| An) rfl rfl) rfl ?_
   refine st (asT rfl) rfl ?_
   refine ng ?_
   refine sr ?_
   refine st (mvT rfl) rfl ?_
   refine st (OpT.lss (H rfl) (T1 rfl) (I rfl)) rfl ?_
   refine ng ?_
   refine cd rfl (fun hc3 => ?_) fun hc3 => ?_
   ·
    replace hc3 := oT hc3
    refine sr ?_
    refine st (asI rfl) rfl ?_
    refine ng ?_
    refine AW.ret ?_
    refine rK <| rT <| rT <| rK <| rT ?_
    exact rt1 rfl (.inl rfl) (by first | exact (if_pos hc1).symm | exact szKs_ne hc1 hI ha hc3 | exact szKs_end hc1 hI (by omega))
   ·
    replace hc3 := oF hc3
    refine AW.skip ?_
    refine AX.normal_block ?_
    refine AX.go ?_
    refine AW.region ?_
    refine st (mvT rfl) rfl ?_
    refine st (OpT.add (H rfl) (T1 rfl) (I rfl) (nw (by omega))) rfl ?_
    refine st (asT rfl) rfl ?_
    refine nn ?_
    exact AX.again ((p.1 + 1, szK a p.2)) (szKs_step hI (by omega) ha hc3) (by simp only []; omega) (Kc 0 _ (Kv rfl rfl) <| Kc 1 _ (Kv rfl rfl) <| Kc 5 _ (Kv rfl (by simp only []; omega)) <| Kn)
  ·
   replace hc2 := oF hc2
   refine AW.exit ?_
   refine xT <| xT <| AX.exit_hit ?_
   refine AX.go ?_
   refine sr ?_
   refine st (mvT rfl) rfl ?_
   refine st (asT rfl) rfl ?_
   refine ng ?_
   refine AW.ret ?_
   exact rt1 rfl (.inl rfl) (by first | exact (if_pos hc1).symm | exact szKs_ne hc1 hI ha hc3 | exact szKs_end hc1 hI (by omega))

/-- laws.eqKnot -/
theorem c_laws_eqKnot (x y : Int × List (Int) × List (Int) × List (Int)) : AC Tryz.prog 33 [.agg kKnot x, .agg kKnot y] [.cel Kd.bool (eqv x y)] [] := by
 refine acI (N := 28) Tryz.func33 (Nat.le_of_ble_eq_true rfl) rfl fun w0 hd s0 ar => ?_
 refine AW.to (ka 0 rfl <| ka 1 rfl <| Kn) ?_
 refine sr ?_
 refine st (OpT.frz (OpT.boxA (E := 66) (H rfl) (T1 rfl))) rfl ?_
 refine st (OpT.frz (OpT.boxA (E := 66) (H rfl) (T1 rfl))) rfl ?_
 refine st (asB rfl) rfl ?_
 refine ng ?_
 refine AW.seq ?_
 refine sr ?_
 refine st (OpT.fieldAddr (H rfl) (T1 rfl) fd66_0 sz42 (by decide) sb66_0) rfl ?_
 refine st (OpT.load (H rfl) (T1 rfl) ag42 rfl) rfl ?_
 refine st (OpT.fieldAddr (H rfl) (T1 rfl) fd66_0 sz42 (by decide) sb66_0) rfl ?_
 refine st (OpT.load (H rfl) (T1 rfl) ag42 rfl) rfl ?_
 refine st (OpT.neq (H rfl) (T1 rfl) (T1 rfl)) rfl ?_
 refine ng ?_
 refine cd rfl (fun hc1 => ?_) fun hc1 => ?_
 ·
  replace hc1 := oT hc1
  refine sr ?_
  refine st (asB rfl) rfl ?_
  refine ng ?_
  refine AW.ret ?_
  refine rT ?_
  exact rt1 rfl (.inl rfl) (by rw [eqv_pair (x := x), eqv_pair (x := x.2), eqv_pair (x := x.2.2)]; simp_all [eqv_beq, eqv_bne, Bool.and_assoc])
 ·
  replace hc1 := oF hc1
  refine AW.skip ?_
  refine AX.go ?_
  refine AW.seq ?_
  refine sr ?_
  refine st (OpT.fieldAddr (H rfl) (T1 rfl) fd66_1 sz51 (by decide) sb66_1) rfl ?_
  refine st (OpT.load (H rfl) (T1 rfl) ag51 rfl) rfl ?_
  refine st (OpT.fieldAddr (H rfl) (T1 rfl) fd66_1 sz51 (by decide) sb66_1) rfl ?_
  refine st (OpT.load (H rfl) (T1 rfl) ag51 rfl) rfl ?_
  refine st (OpT.c1 (ms := [.flat, .flat]) (c_laws_eqInt64S _ _) (H rfl) (Af (T1 rfl) rfl rfl <| Af (T1 rfl) rfl rfl <| An) rfl rfl) rfl ?_
  refine st (OpT.not (H rfl) (T1 rfl)) rfl ?_
  refine AWl.to (kc4 15 4 3 2 rfl <| Kn) ?_
  refine ng ?_
  refine cd rfl (fun hc2 => ?_) fun hc2 => ?_
  ·
   replace hc2 := oT hc2
   refine sr ?_
   refine st (asB rfl) rfl ?_
   refine ng ?_
   refine AW.ret ?_
   refine rT ?_
   exact rt1 rfl (.inl rfl) (by rw [eqv_pair (x := x), eqv_pair (x := x.2), eqv_pair (x := x.2.2)]; simp_all [eqv_beq, eqv_bne, Bool.and_assoc])
  ·
   replace hc2 := oF hc2
   refine AW.skip ?_
   refine AX.go ?_
   refine AW.seq ?_
   refine sr ?_
   refine st (OpT.fieldAddr (H rfl) (T1 rfl) fd66_2 sz52 (by decide) sb66_2) rfl ?_
   refine st (OpT.load (H rfl) (T1 rfl) ag52 rfl) rfl ?_
   refine st (OpT.fieldAddr (H rfl) (T1 rfl) fd66_2 sz52 (by decide) sb66_2) rfl ?_
   refine st (OpT.load (H rfl) (T1 rfl) ag52 rfl) rfl ?_
   refine st (OpT.c1 (ms := [.flat, .flat]) (c_laws_eqInt16S _ _) (H rfl) (Af (T1 rfl) rfl rfl <| Af (T1 rfl) rfl rfl <| An) rfl rfl) rfl ?_
   refine st (OpT.not (H rfl) (T1 rfl)) rfl ?_
   refine ng ?_
   refine cd rfl (fun hc3 => ?_) fun hc3 => ?_
   ·
    replace hc3 := oT hc3
    refine sr ?_
    refine st (asB rfl) rfl ?_
    refine ng ?_
    refine AW.ret ?_
    refine rT ?_
    exact rt1 rfl (.inl rfl) (by rw [eqv_pair (x := x), eqv_pair (x := x.2), eqv_pair (x := x.2.2)]; simp_all [eqv_beq, eqv_bne, Bool.and_assoc])
   ·
    replace hc3 := oF hc3
    refine AW.skip ?_
    refine AX.go ?_
    refine AW.seq ?_
    refine sr ?_
    refine st (OpT.fieldAddr (H rfl) (T1 rfl) fd66_3 sz51 (by decide) sb66_3) rfl ?_
    refine st (OpT.load (H rfl) (T1 rfl) ag51 rfl) rfl ?_
    refine st (OpT.fieldAddr (H rfl) (T1 rfl) fd66_3 sz51 (by decide) sb66_3) rfl ?_
    refine st (OpT.load (H rfl) (T1 rfl) ag51 rfl) rfl ?_
    refine st (OpT.c1 (ms := [.flat, .flat]) (c_laws_eqInt64S _ _) (H rfl) (Af (T1 rfl) rfl rfl <| Af (T1 rfl) rfl rfl <| An) rfl rfl) rfl ?_
    refine st (OpT.not (H rfl) (T1 rfl)) rfl ?_
    refine AWl.to (kc2 27 4 rfl <| Kn) ?_
    refine ng ?_
    refine cd rfl (fun hc4 => ?_) fun hc4 => ?_
    ·
     replace hc4 := oT hc4
     refine sr ?_
     refine st (asB rfl) rfl ?_
     refine ng ?_
     refine AW.ret ?_
     refine rT ?_
     exact rt1 rfl (.inl rfl) (by rw [eqv_pair (x := x), eqv_pair (x := x.2), eqv_pair (x := x.2.2)]; simp_all [eqv_beq, eqv_bne, Bool.and_assoc])
    ·
     replace hc4 := oF hc4
     refine AW.skip ?_
     refine AX.go ?_
     refine sr ?_
     refine st (asB rfl) rfl ?_
     refine ng ?_
     refine AW.ret ?_
     exact rt1 rfl (.inl rfl) (by rw [eqv_pair (x := x), eqv_pair (x := x.2), eqv_pair (x := x.2.2)]; simp_all [eqv_beq, eqv_bne, Bool.and_assoc])

/-- laws.eqKnotS -/
theorem c_laws_eqKnotS (x y : List (Int × List (Int) × List (Int) × List (Int))) : AC Tryz.prog 14 [.cel (Kd.slice kKnot) x, .cel (Kd.slice kKnot) y] [.cel Kd.bool (eqv x y)] [] := by
 refine acI (N := 27) Tryz.func14 (Nat.le_of_ble_eq_true rfl) rfl fun w0 hd s0 ar => ?_
 refine AW.to (kc2 0 1 rfl <| Kn) ?_
 refine AW.fact (fun a w hr => (ok_slice (R_ok (t := 0) rfl hr)).2) (fun hl0 => ?_)
 refine AW.fact (fun a w hr => (ok_slice (R_ok (t := 1) rfl hr)).2) (fun hl1 => ?_)
 refine sr ?_
 refine st (asB rfl) rfl ?_
 refine ng ?_
 refine AW.seq ?_
 refine sr ?_
 refine st (mvT rfl) rfl ?_
 refine st (OpT.len (H rfl) (T1 rfl) el34) rfl ?_
 refine st (mvT rfl) rfl ?_
 refine st (OpT.len (H rfl) (T1 rfl) el34) rfl ?_
 refine st (OpT.neq (H rfl) (T1 rfl) (T1 rfl)) rfl ?_
 refine ng ?_
 refine cd rfl (fun hc1 => ?_) fun hc1 => ?_
 ·
  replace hc1 := oT hc1
  try simp only [bne_iff_ne, ne_eq, bne_eq_false_iff_eq] at hc1
  refine sr ?_
  refine st (asB rfl) rfl ?_
  refine ng ?_
  refine AW.ret ?_
  refine rT ?_
  exact rt1 rfl (.inl rfl) (by first | exact eqs_len (by omega) | exact eqs_ne ha hb (by simpa [eqv_iff, eqv_false_iff] using hc3) | exact eqs_all hI.2 (by omega) (by omega))
 ·
  replace hc1 := oF hc1
  try simp only [bne_iff_ne, ne_eq, bne_eq_false_iff_eq] at hc1
  refine AW.skip ?_
  refine AX.go ?_
  refine AW.seq ?_
  refine sr ?_
  refine st (asI rfl) rfl ?_
  refine ng ?_
  refine AW.block ?_
  refine AW.loop (fun z : Nat => z ≤ x.length ∧ x.take z = y.take z) (fun z : Nat => keep [(0, .cel (Kd.slice kKnot) x), (1, .cel (Kd.slice kKnot) y), (5, .cel (Kd.int .i64) (z : Int))]) (fun z : Nat => x.length - z) (0) ⟨Nat.zero_le _, rfl⟩ (Kc 0 _ (Kv rfl rfl) <| Kc 1 _ (Kv rfl rfl) <| Kc 5 _ (Kv rfl rfl) <| Kn) ?_
  intro z hI
  refine AW.seq ?_
  refine sr ?_
  refine st (mvT rfl) rfl ?_
  refine st (mvT rfl) rfl ?_
  refine st (OpT.len (H rfl) (T1 rfl) el34) rfl ?_
  refine st (OpT.lss (H rfl) (T1 rfl) (T1 rfl)) rfl ?_
  refine ng ?_
  refine cd rfl (fun hc2 => ?_) fun hc2 => ?_
  ·
   replace hc2 := oT hc2
   obtain ⟨a, ha⟩ := getI (x := x) (z := z) (by omega); obtain ⟨b, hb⟩ := getI (x := y) (z := z) (by omega)
   refine AW.skip ?_
   refine AX.go ?_
   refine AW.seq ?_
   refine AW.block ?_
   refine AW.seq ?_
   refine dh fomo ?_
   refine d1 [0] (fun ve h => OpT.move (A := .cel _ _) (.inl rfl) rfl (ok' rfl) (D1 h rfl) rfl) rfl ?_
   refine d1 [5] (fun ve h => OpT.move (A := .cel _ _) (.inl rfl) rfl (ok' rfl) (D1 h rfl) rfl) rfl ?_
   refine d1 [17, 18] (fun ve h => OpT.indexAddr (H rfl) (D1 h rfl) (D1 h rfl) el34 sz66 (by omega) (by assumption)) rfl ?_
   refine d1 [19] (fun ve h => OpT.loadA (H rfl) (D1 h rfl) ag66 sz66) rfl ?_
   refine d1 [1] (fun ve h => OpT.move (A := .cel _ _) (.inl rfl) rfl (ok' rfl) (D1 h rfl) rfl) rfl ?_
   refine d1 [5] (fun ve h => OpT.move (A := .cel _ _) (.inl rfl) rfl (ok' rfl) (D1 h rfl) rfl) rfl ?_
   refine d1 [21, 22] (fun ve h => OpT.indexAddr (H rfl) (D1 h rfl) (D1 h rfl) el34 sz66 (by omega) (by assumption)) rfl ?_
   refine d1 [23] (fun ve h => OpT.loadA (H rfl) (D1 h rfl) ag66 sz66) rfl ?_
   refine d1 [20, 24] (fun ve h => OpT.c1 (ms := [.flat, .flat]) (c_laws_eqKnot _ _) (H rfl) (Af (D1 h rfl) rfl rfl <| Af (D1 h rfl) rfl rfl <| An) rfl rfl) rfl ?_
   refine d1 [25] (fun ve h => OpT.not (H rfl) (D1 h rfl)) rfl ?_
   refine dn ⟨by kernel_rfl, by kernel_rfl, ?_⟩
   refine AX.go ?_
   refine cd rfl (fun hc3 => ?_) fun hc3 => ?_
   ·
    replace hc3 := oT hc3
    refine sr ?_
    refine st (asB rfl) rfl ?_
    refine ng ?_
    refine AW.ret ?_
    refine rK <| rT <| rT <| rK <| rT ?_
    exact rt1 rfl (.inl rfl) (by first | exact eqs_len (by omega) | exact eqs_ne ha hb (by simpa [eqv_iff, eqv_false_iff] using hc3) | exact eqs_all hI.2 (by omega) (by omega))
   ·
    replace hc3 := oF hc3
    refine AW.skip ?_
    refine AX.normal_block ?_
    refine AX.go ?_
    refine AW.region ?_
    refine st (mvT rfl) rfl ?_
    refine st (OpT.add (H rfl) (T1 rfl) (I rfl) (nw (by omega))) rfl ?_
    refine st (asT rfl) rfl ?_
    refine nn ?_
    exact AX.again (z + 1) ⟨by omega, eqs_step hI.2 ha hb (by simpa [eqv_iff, eqv_false_iff] using hc3)⟩ (by omega) (Kc 0 _ (Kv rfl rfl) <| Kc 1 _ (Kv rfl rfl) <| Kc 5 _ (Kv rfl (by omega)) <| Kn)
  ·
   replace hc2 := oF hc2
   refine AW.exit ?_
   refine xT <| xT <| AX.exit_hit ?_
   refine AX.go ?_
   refine sr ?_
   refine st (asB rfl) rfl ?_
   refine ng ?_
   refine AW.ret ?_
   exact rt1 rfl (.inl rfl) (by first | exact eqs_len (by omega) | exact eqs_ne ha hb (by simpa [eqv_iff, eqv_false_iff] using hc3) | exact eqs_all hI.2 (by omega) (by omega))
end Go.Proofs.YtfnkphllkbkfaaaGreatDoor.VL
