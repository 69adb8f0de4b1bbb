/- Proved here: what some functions of the program take and give: walks with the words of VA..VQ. Printed by program. -/
import Derived.Test.YtkgboidjghcegaaGreatDoorWT
import Derived.Test.YtkgboidjghcegaaGreatDoorBpa
import Derived.Test.YtkgboidjghcegaaGreatDoorWV
import Derived.Test.YtkgboidjghcegaaGreatDoorWM
set_option linter.unusedVariables false
set_option linter.unusedSimpArgs false
set_option maxRecDepth 4000
namespace Go.Proofs.YtkgboidjghcegaaGreatDoor.VL
open Go
/-- laws.szFieldS -/
theorem c_laws_szFieldS (x : List (ByteArray × Int × Int × Int)) (l : Int) (hl : 0 ≤ l ∧ l ≤ 1048576) : AC Tryz.prog 5 [.cel (Kd.slice kField) x, .cel (Kd.int .i64) l] [.cel (Kd.int .i64) (szSS szF x l)] [] := by
 refine acI (N := 27) Tryz.func5 (Nat.le_of_ble_eq_true rfl) rfl fun w0 hd s0 ar => ?_
 refine AW.to (kc2 0 1 rfl <| Kn) ?_
 refine AW.fact (fun a w hr => (ok_slice (R_ok (t := 0) rfl hr)).2) (fun hl0 => ?_)
 refine sr ?_
 refine st (asI rfl) rfl ?_
 refine ng ?_
 refine sr ?_
 refine st (mvT rfl) rfl ?_
 refine st (mvT rfl) rfl ?_
 refine st (OpT.len (H rfl) (T1 rfl) el22) rfl ?_
 refine st (OpT.sub (H rfl) (T1 rfl) (T1 rfl) (nw (by omega))) rfl ?_
 refine st (asT rfl) rfl ?_
 refine ng ?_
 refine AW.seq ?_
 refine sr ?_
 refine st (mvT rfl) rfl ?_
 refine st (OpT.lss (H rfl) (T1 rfl) (I rfl)) rfl ?_
 refine ng ?_
 refine cd rfl (fun hc1 => ?_) fun hc1 => ?_
 ·
  replace hc1 := oT hc1
  refine sr ?_
  refine st (asI rfl) rfl ?_
  refine ng ?_
  refine AW.ret ?_
  refine rT ?_
  exact rt1 rfl (.inl rfl) (by first | exact (if_pos hc1).symm | exact szs_ne hc1 hI ha hc3 | exact szs_end hc1 hI (by omega))
 ·
  replace hc1 := oF hc1
  refine AW.skip ?_
  refine AX.go ?_
  refine AW.seq ?_
  refine sr ?_
  refine st (asI rfl) rfl ?_
  refine ng ?_
  refine AW.block ?_
  refine AW.loop (fun p : Nat × Int => p.1 ≤ x.length ∧ 0 ≤ p.2 ∧ p.2 ≤ 1048576 ∧ szs szF (x.drop p.1) p.2 = szs szF x (l - x.length)) (fun p : Nat × Int => keep [(0, .cel (Kd.slice kField) x), (1, .cel (Kd.int .i64) p.2), (5, .cel (Kd.int .i64) (p.1 : Int))]) (fun p : Nat × Int => x.length - p.1) ((0, l - x.length)) ⟨Nat.zero_le _, by simp only []; omega, by simp only []; omega, rfl⟩ (Kc 0 _ (Kv rfl rfl) <| Kc 1 _ (Kv rfl rfl) <| Kc 5 _ (Kv rfl rfl) <| Kn) ?_
  intro p hI
  refine AW.seq ?_
  refine sr ?_
  refine st (mvT rfl) rfl ?_
  refine st (mvT rfl) rfl ?_
  refine st (OpT.len (H rfl) (T1 rfl) el22) rfl ?_
  refine st (OpT.lss (H rfl) (T1 rfl) (T1 rfl)) rfl ?_
  refine ng ?_
  refine cd rfl (fun hc2 => ?_) fun hc2 => ?_
  ·
   replace hc2 := oT hc2
   obtain ⟨a, ha⟩ := getI (x := x) (z := p.1) (by omega)
   refine AW.skip ?_
   refine AX.go ?_
   refine AW.seq ?_
   refine AW.block ?_
   refine sr ?_
   refine st (mvT rfl) rfl ?_
   refine st (mvT rfl) rfl ?_
   refine st (OpT.indexAddr (H rfl) (T1 rfl) (T1 rfl) el22 sz71 (by omega) (by assumption)) rfl ?_
   refine st (OpT.loadA (H rfl) (T1 rfl) ag71 sz71) rfl ?_
   refine st (mvT rfl) rfl ?_
   refine st (OpT.c1 (ms := [.flat, .flat]) (c_laws_szField _ _ ⟨hI.2.1, hI.2.2.1⟩) (H rfl) (Af (T1 rfl) rfl rfl <| Af (T1 rfl) rfl rfl <| An) rfl rfl) rfl ?_
   refine st (asT rfl) rfl ?_
   refine ng ?_
   refine sr ?_
   refine st (mvT rfl) rfl ?_
   refine st (OpT.lss (H rfl) (T1 rfl) (I rfl)) rfl ?_
   refine ng ?_
   refine cd rfl (fun hc3 => ?_) fun hc3 => ?_
   ·
    replace hc3 := oT hc3
    refine sr ?_
    refine st (asI rfl) rfl ?_
    refine ng ?_
    refine AW.ret ?_
    refine rK <| rT <| rT <| rK <| rT ?_
    exact rt1 rfl (.inl rfl) (by first | exact (if_pos hc1).symm | exact szs_ne hc1 hI ha hc3 | exact szs_end hc1 hI (by omega))
   ·
    replace hc3 := oF hc3
    refine AW.skip ?_
    refine AX.normal_block ?_
    refine AX.go ?_
    refine AW.region ?_
    refine st (mvT rfl) rfl ?_
    refine st (OpT.add (H rfl) (T1 rfl) (I rfl) (nw (by omega))) rfl ?_
    refine st (asT rfl) rfl ?_
    refine nn ?_
    exact AX.again ((p.1 + 1, szF a p.2)) (szs_step okSzF hI (by omega) ha hc3) (by simp only []; omega) (Kc 0 _ (Kv rfl rfl) <| Kc 1 _ (Kv rfl rfl) <| Kc 5 _ (Kv rfl (by simp only []; omega)) <| Kn)
  ·
   replace hc2 := oF hc2
   refine AW.exit ?_
   refine xT <| xT <| AX.exit_hit ?_
   refine AX.go ?_
   refine sr ?_
   refine st (mvT rfl) rfl ?_
   refine st (asT rfl) rfl ?_
   refine ng ?_
   refine AW.ret ?_
   exact rt1 rfl (.inl rfl) (by first | exact (if_pos hc1).symm | exact szs_ne hc1 hI ha hc3 | exact szs_end hc1 hI (by omega))

/-- laws.toFieldS -/
theorem c_laws_toFieldS_o (x : List (ByteArray × Int × Int × Int)) (hn : x.length ≤ 1099511627776) : AC Tryz.prog 8 [.cel (Kd.slice kField) x] [.own 80 kField x] [] := by
 refine acI (N := 23) Tryz.func8 (Nat.le_of_ble_eq_true rfl) rfl fun w0 hd s0 ar => ?_
 refine AW.to (kc 0 rfl <| Kn) ?_
 refine sr ?_
 refine st (nilO (E := 80) kField rfl (.inl rfl)) rfl ?_
 refine ng ?_
 refine sr ?_
 refine st (mvT rfl) rfl ?_
 refine st (OpT.len (H rfl) (T1 rfl) el22) rfl ?_
 refine st (OpT.make (H rfl) (T1 rfl) (T1 rfl) el29 zr80 sz80 by80 (by decide) zk80 (by omega) (by omega)) rfl ?_
 refine sg (OpT.take (.inl rfl) rfl (ok' rfl) (Root.self (by decide)) rfl rfl (by decide)) (ko 3 rfl <| kc2 6 5 rfl <| ko 2 rfl <| kc 0 rfl <| Kn) rfl ?_
 refine ng ?_
 refine AW.seq ?_
 refine sr ?_
 refine st (asI rfl) rfl ?_
 refine ng ?_
 refine AW.block ?_
 refine AW.loop (fun z : Nat => z ≤ x.length) (fun z : Nat => keep [(0, .cel (Kd.slice kField) x), (3, .own 80 kField (cpy x z ((.empty, 0, 0, 0)))), (4, .cel (Kd.int .i64) (z : Int))]) (fun z : Nat => x.length - z) (0) (by omega) (Kc 0 _ (Kv rfl rfl) <| Kc 3 _ (Ko rfl rfl) <| Kc 4 _ (Kv rfl rfl) <| Kn) ?_
 intro z hI
 refine AW.seq ?_
 refine sr ?_
 refine st (mvT rfl) rfl ?_
 refine st (mvT rfl) rfl ?_
 refine st (OpT.len (H rfl) (T1 rfl) el22) rfl ?_
 refine st (OpT.lss (H rfl) (T1 rfl) (T1 rfl)) rfl ?_
 refine ng ?_
 refine cd rfl (fun hc1 => ?_) fun hc1 => ?_
 ·
  replace hc1 := oT hc1
  obtain ⟨a, ha⟩ := getI (x := x) (z := z) (by omega); have hd := cpy_get (x := x) (z := z) (d := ((.empty, 0, 0, 0) : ByteArray × Int × Int × Int)) (by omega)
  refine AW.skip ?_
  refine AX.go ?_
  refine AW.seq ?_
  refine AW.block ?_
  refine AW.region ?_
  refine st (OpT.alias (H rfl) (by decide) (by decide)) rfl ?_
  refine st (mvT rfl) rfl ?_
  refine st (mvT rfl) rfl ?_
  refine st (mvT rfl) rfl ?_
  refine st (OpT.indexAddr (H rfl) (T1 rfl) (T1 rfl) el22 sz71 (by omega) (by assumption)) rfl ?_
  refine st (OpT.loadA (H rfl) (T1 rfl) ag71 sz71) rfl ?_
  refine st (OpT.c1 (ms := [.flat]) (c_laws_toField _) (H rfl) (Af (T1 rfl) rfl rfl <| An) rfl rfl) rfl ?_
  refine st (OpT.indexAddrO (H rfl) (Root.ali rfl (by decide) (by decide)) rfl (by decide) (T1 rfl) el29 sz80 (by omega) (by assumption)) rfl ?_
  refine sk (OpT.storeOA rfl rfl (T1 rfl) rfl (by assumption) sz80 (by decide) (T1 rfl)) rfl ?_
  refine nn ?_
  refine AX.normal_block ?_
  refine AX.go ?_
  refine AW.region ?_
  refine st (mvT rfl) rfl ?_
  refine st (OpT.add (H rfl) (T1 rfl) (I rfl) (nw (by omega))) rfl ?_
  refine st (asT rfl) rfl ?_
  refine nn ?_
  exact AX.again (z + 1) (by omega) (by omega) (Kc 0 _ (Kv rfl rfl) <| Kc 3 _ (Ko rfl (cpy_step ha)) <| Kc 4 _ (Kv rfl (by omega)) <| Kn)
 ·
  replace hc1 := oF hc1
  refine AW.exit ?_
  refine xT <| xT <| AX.exit_hit ?_
  refine AX.go ?_
  refine sr ?_
  refine st (OpT.alias (H rfl) (by decide) (by decide)) rfl ?_
  refine sg (OpT.take (.inl rfl) rfl (ok' rfl) (Root.ali rfl (by decide) (by decide)) rfl rfl (by decide)) (ko 2 rfl <| kc4 11 10 9 8 rfl <| kc2 0 4 rfl <| Kn) rfl ?_
  refine ng ?_
  refine AW.ret ?_
  exact AX.rt (rs := [.tmp 2]) (ts := [some 2]) (.inl rfl) rfl (ROs.cons (RO.tmp (At.self (by decide)) (Ko rfl (cpy_end (by omega))) rfl) <| ROs.nil) (by decide) OutsOK.nil
theorem c_laws_toFieldS (x : List (ByteArray × Int × Int × Int)) (hn : x.length ≤ 1099511627776) : AC Tryz.prog 8 [.cel (Kd.slice kField) x] [.cel (Kd.slice kField) x] [] := (c_laws_toFieldS_o x hn).frz rfl

/-- laws.eqField -/
theorem c_laws_eqField (x y : ByteArray × Int × Int × Int) : AC Tryz.prog 45 [.agg kField x, .agg kField y] [.cel Kd.bool (eqv x y)] [] := by
 refine acI (N := 25) Tryz.func45 (Nat.le_of_ble_eq_true rfl) rfl fun w0 hd s0 ar => ?_
 refine AW.to (ka 0 rfl <| ka 1 rfl <| Kn) ?_
 refine sr ?_
 refine st (OpT.frz (OpT.boxA (E := 80) (H rfl) (T1 rfl))) rfl ?_
 refine st (OpT.frz (OpT.boxA (E := 80) (H rfl) (T1 rfl))) rfl ?_
 refine st (asB rfl) rfl ?_
 refine ng ?_
 refine AW.seq ?_
 refine sr ?_
 refine st (OpT.fieldAddr (H rfl) (T1 rfl) fd80_0 sz9 (by decide) sb80_0) rfl ?_
 refine st (OpT.load (H rfl) (T1 rfl) ag9 rfl) rfl ?_
 refine st (OpT.fieldAddr (H rfl) (T1 rfl) fd80_0 sz9 (by decide) sb80_0) rfl ?_
 refine st (OpT.load (H rfl) (T1 rfl) ag9 rfl) rfl ?_
 refine st (OpT.snev (H rfl) (T1 rfl) (T1 rfl)) rfl ?_
 refine ng ?_
 refine cd rfl (fun hc1 => ?_) fun hc1 => ?_
 ·
  replace hc1 := oT hc1
  refine sr ?_
  refine st (asB rfl) rfl ?_
  refine ng ?_
  refine AW.ret ?_
  refine rT ?_
  exact rt1 rfl (.inl rfl) (by rw [eqv_pair (x := x), eqv_pair (x := x.2), eqv_pair (x := x.2.2)]; simp_all [eqv_beq, eqv_bne, Bool.and_assoc])
 ·
  replace hc1 := oF hc1
  refine AW.skip ?_
  refine AX.go ?_
  refine AW.seq ?_
  refine sr ?_
  refine st (OpT.fieldAddr (H rfl) (T1 rfl) fd80_1 sz68 (by decide) sb80_1) rfl ?_
  refine st (OpT.load (H rfl) (T1 rfl) ag68 rfl) rfl ?_
  refine st (OpT.fieldAddr (H rfl) (T1 rfl) fd80_1 sz68 (by decide) sb80_1) rfl ?_
  refine st (OpT.load (H rfl) (T1 rfl) ag68 rfl) rfl ?_
  refine st (OpT.neq (H rfl) (T1 rfl) (T1 rfl)) rfl ?_
  refine AWl.to (kc4 14 4 3 2 rfl <| Kn) ?_
  refine ng ?_
  refine cd rfl (fun hc2 => ?_) fun hc2 => ?_
  ·
   replace hc2 := oT hc2
   refine sr ?_
   refine st (asB rfl) rfl ?_
   refine ng ?_
   refine AW.ret ?_
   refine rT ?_
   exact rt1 rfl (.inl rfl) (by rw [eqv_pair (x := x), eqv_pair (x := x.2), eqv_pair (x := x.2.2)]; simp_all [eqv_beq, eqv_bne, Bool.and_assoc])
  ·
   replace hc2 := oF hc2
   refine AW.skip ?_
   refine AX.go ?_
   refine AW.seq ?_
   refine sr ?_
   refine st (OpT.fieldAddr (H rfl) (T1 rfl) fd80_2 sz69 (by decide) sb80_2) rfl ?_
   refine st (OpT.load (H rfl) (T1 rfl) ag69 rfl) rfl ?_
   refine st (OpT.fieldAddr (H rfl) (T1 rfl) fd80_2 sz69 (by decide) sb80_2) rfl ?_
   refine st (OpT.load (H rfl) (T1 rfl) ag69 rfl) rfl ?_
   refine st (OpT.neq (H rfl) (T1 rfl) (T1 rfl)) rfl ?_
   refine ng ?_
   refine cd rfl (fun hc3 => ?_) fun hc3 => ?_
   ·
    replace hc3 := oT hc3
    refine sr ?_
    refine st (asB rfl) rfl ?_
    refine ng ?_
    refine AW.ret ?_
    refine rT ?_
    exact rt1 rfl (.inl rfl) (by rw [eqv_pair (x := x), eqv_pair (x := x.2), eqv_pair (x := x.2.2)]; simp_all [eqv_beq, eqv_bne, Bool.and_assoc])
   ·
    replace hc3 := oF hc3
    refine AW.skip ?_
    refine AX.go ?_
    refine AW.seq ?_
    refine sr ?_
    refine st (OpT.fieldAddr (H rfl) (T1 rfl) fd80_3 sz69 (by decide) sb80_3) rfl ?_
    refine st (OpT.load (H rfl) (T1 rfl) ag69 rfl) rfl ?_
    refine st (OpT.fieldAddr (H rfl) (T1 rfl) fd80_3 sz69 (by decide) sb80_3) rfl ?_
    refine st (OpT.load (H rfl) (T1 rfl) ag69 rfl) rfl ?_
    refine st (OpT.neq (H rfl) (T1 rfl) (T1 rfl)) rfl ?_
    refine AWl.to (kc2 24 4 rfl <| Kn) ?_
    refine ng ?_
    refine cd rfl (fun hc4 => ?_) fun hc4 => ?_
    ·
     replace hc4 := oT hc4
     refine sr ?_
     refine st (asB rfl) rfl ?_
     refine ng ?_
     refine AW.ret ?_
     refine rT ?_
     exact rt1 rfl (.inl rfl) (by rw [eqv_pair (x := x), eqv_pair (x := x.2), eqv_pair (x := x.2.2)]; simp_all [eqv_beq, eqv_bne, Bool.and_assoc])
    ·
     replace hc4 := oF hc4
     refine AW.skip ?_
     refine AX.go ?_
     refine sr ?_
     refine st (asB rfl) rfl ?_
     refine ng ?_
     refine AW.ret ?_
     exact rt1 rfl (.inl rfl) (by rw [eqv_pair (x := x), eqv_pair (x := x.2), eqv_pair (x := x.2.2)]; simp_all [eqv_beq, eqv_bne, Bool.and_assoc])

/-- laws.eqFieldS -/
theorem c_laws_eqFieldS (x y : List (ByteArray × Int × Int × Int)) : AC Tryz.prog 12 [.cel (Kd.slice kField) x, .cel (Kd.slice kField) y] [.cel Kd.bool (eqv x y)] [] := by
 refine acI (N := 27) Tryz.func12 (Nat.le_of_ble_eq_true rfl) rfl fun w0 hd s0 ar => ?_
 refine AW.to (kc2 0 1 rfl <| Kn) ?_
 refine AW.fact (fun a w hr => (ok_slice (R_ok (t := 0) rfl hr)).2) (fun hl0 => ?_)
 refine AW.fact (fun a w hr => (ok_slice (R_ok (t := 1) rfl hr)).2) (fun hl1 => ?_)
 refine sr ?_
 refine st (asB rfl) rfl ?_
 refine ng ?_
 refine AW.seq ?_
 refine sr ?_
 refine st (mvT rfl) rfl ?_
 refine st (OpT.len (H rfl) (T1 rfl) el29) rfl ?_
 refine st (mvT rfl) rfl ?_
 refine st (OpT.len (H rfl) (T1 rfl) el29) rfl ?_
 refine st (OpT.neq (H rfl) (T1 rfl) (T1 rfl)) rfl ?_
 refine ng ?_
 refine cd rfl (fun hc1 => ?_) fun hc1 => ?_
 ·
  replace hc1 := oT hc1
  try simp only [bne_iff_ne, ne_eq, bne_eq_false_iff_eq] at hc1
  refine sr ?_
  refine st (asB rfl) rfl ?_
  refine ng ?_
  refine AW.ret ?_
  refine rT ?_
  exact rt1 rfl (.inl rfl) (by first | exact eqs_len (by omega) | exact eqs_ne ha hb (by simpa [eqv_iff, eqv_false_iff] using hc3) | exact eqs_all hI.2 (by omega) (by omega))
 ·
  replace hc1 := oF hc1
  try simp only [bne_iff_ne, ne_eq, bne_eq_false_iff_eq] at hc1
  refine AW.skip ?_
  refine AX.go ?_
  refine AW.seq ?_
  refine sr ?_
  refine st (asI rfl) rfl ?_
  refine ng ?_
  refine AW.block ?_
  refine AW.loop (fun z : Nat => z ≤ x.length ∧ x.take z = y.take z) (fun z : Nat => keep [(0, .cel (Kd.slice kField) x), (1, .cel (Kd.slice kField) y), (5, .cel (Kd.int .i64) (z : Int))]) (fun z : Nat => x.length - z) (0) ⟨Nat.zero_le _, rfl⟩ (Kc 0 _ (Kv rfl rfl) <| Kc 1 _ (Kv rfl rfl) <| Kc 5 _ (Kv rfl rfl) <| Kn) ?_
  intro z hI
  refine AW.seq ?_
  refine sr ?_
  refine st (mvT rfl) rfl ?_
  refine st (mvT rfl) rfl ?_
  refine st (OpT.len (H rfl) (T1 rfl) el29) rfl ?_
  refine st (OpT.lss (H rfl) (T1 rfl) (T1 rfl)) rfl ?_
  refine ng ?_
  refine cd rfl (fun hc2 => ?_) fun hc2 => ?_
  ·
   replace hc2 := oT hc2
   obtain ⟨a, ha⟩ := getI (x := x) (z := z) (by omega); obtain ⟨b, hb⟩ := getI (x := y) (z := z) (by omega)
   refine AW.skip ?_
   refine AX.go ?_
   refine AW.seq ?_
   refine AW.block ?_
   refine AW.seq ?_
   refine dh fomo ?_
   refine d1 [0] (fun ve h => OpT.move (A := .cel _ _) (.inl rfl) rfl (ok' rfl) (D1 h rfl) rfl) rfl ?_
   refine d1 [5] (fun ve h => OpT.move (A := .cel _ _) (.inl rfl) rfl (ok' rfl) (D1 h rfl) rfl) rfl ?_
   refine d1 [17, 18] (fun ve h => OpT.indexAddr (H rfl) (D1 h rfl) (D1 h rfl) el29 sz80 (by omega) (by assumption)) rfl ?_
   refine d1 [19] (fun ve h => OpT.loadA (H rfl) (D1 h rfl) ag80 sz80) rfl ?_
   refine d1 [1] (fun ve h => OpT.move (A := .cel _ _) (.inl rfl) rfl (ok' rfl) (D1 h rfl) rfl) rfl ?_
   refine d1 [5] (fun ve h => OpT.move (A := .cel _ _) (.inl rfl) rfl (ok' rfl) (D1 h rfl) rfl) rfl ?_
   refine d1 [21, 22] (fun ve h => OpT.indexAddr (H rfl) (D1 h rfl) (D1 h rfl) el29 sz80 (by omega) (by assumption)) rfl ?_
   refine d1 [23] (fun ve h => OpT.loadA (H rfl) (D1 h rfl) ag80 sz80) rfl ?_
   refine d1 [20, 24] (fun ve h => OpT.c1 (ms := [.flat, .flat]) (c_laws_eqField _ _) (H rfl) (Af (D1 h rfl) rfl rfl <| Af (D1 h rfl) rfl rfl <| An) rfl rfl) rfl ?_
   refine d1 [25] (fun ve h => OpT.not (H rfl) (D1 h rfl)) rfl ?_
   refine dn ⟨by kernel_rfl, by kernel_rfl, ?_⟩
   refine AX.go ?_
   refine cd rfl (fun hc3 => ?_) fun hc3 => ?_
   ·
    replace hc3 := oT hc3
    refine sr ?_
    refine st (asB rfl) rfl ?_
    refine ng ?_
    refine AW.ret ?_
    refine rK <| rT <| rT <| rK <| rT ?_
    exact rt1 rfl (.inl rfl) (by first | exact eqs_len (by omega) | exact eqs_ne ha hb (by simpa [eqv_iff, eqv_false_iff] using hc3) | exact eqs_all hI.2 (by omega) (by omega))
   ·
    replace hc3 := oF hc3
    refine AW.skip ?_
    refine AX.normal_block ?_
    refine AX.go ?_
    refine AW.region ?_
    refine st (mvT rfl) rfl ?_
    refine st (OpT.add (H rfl) (T1 rfl) (I rfl) (nw (by omega))) rfl ?_
    refine st (asT rfl) rfl ?_
    refine nn ?_
    exact AX.again (z + 1) ⟨by omega, eqs_step hI.2 ha hb (by simpa [eqv_iff, eqv_false_iff] using hc3)⟩ (by omega) (Kc 0 _ (Kv rfl rfl) <| Kc 1 _ (Kv rfl rfl) <| Kc 5 _ (Kv rfl (by omega)) <| Kn)
  ·
   replace hc2 := oF hc2
   refine AW.exit ?_
   refine xT <| xT <| AX.exit_hit ?_
   refine AX.go ?_
   refine sr ?_
   refine st (asB rfl) rfl ?_
   refine ng ?_
   refine AW.ret ?_
   exact rt1 rfl (.inl rfl) (by first | exact eqs_len (by omega) | exact eqs_ne ha hb (by simpa [eqv_iff, eqv_false_iff] using hc3) | exact eqs_all hI.2 (by omega) (by omega))

/-- laws.markFieldS -/
theorem c_laws_markFieldS (x : List (ByteArray × Int × Int × Int)) (k : Int) (h : 0 ≤ k ∧ k ≤ 1152921504606846976 ∧ x.length ≤ 115292150460684697) : AC Tryz.prog 14 [.own 80 kField x, .cel (Kd.int .i64) k] [.cel (Kd.int .i64) (k + 4 * (x.length : Int))] [.own 80 kField (mkL fFl 4 x.length k), .any] := by
 refine acI (N := 45) Tryz.func14 (Nat.le_of_ble_eq_true rfl) rfl fun w0 hd s0 ar => ?_
 refine AW.to (ko 0 rfl <| kc 1 rfl <| Kn) ?_
 refine sr ?_
 refine st (asI rfl) rfl ?_
 refine ng ?_
 refine AW.seq ?_
 refine sr ?_
 refine st (asI rfl) rfl ?_
 refine ng ?_
 refine AW.block ?_
 refine AW.loop (fun z : Nat => z ≤ x.length) (fun z : Nat => keep [(0, .own 80 kField (mkR fFl 4 x z k)), (1, .cel (Kd.int .i64) (k + 4 * (z : Int))), (5, .cel (Kd.int .i64) (z : Int))]) (fun z : Nat => x.length - z) (0) (Nat.zero_le _) (Kc 0 _ (Ko rfl mkR_zero) <| Kc 1 _ (Kv rfl (by omega)) <| Kc 5 _ (Kv rfl rfl) <| Kn) ?_
 intro z hI
 refine AW.seq ?_
 refine sr ?_
 refine st (mvT rfl) rfl ?_
 refine st (OpT.alias (H rfl) (by decide) (by decide)) rfl ?_
 refine st (OpT.lenO (H rfl) (Root.ali rfl (by decide) (by decide)) rfl el29) rfl ?_
 refine st (OpT.lss (H rfl) (T1 rfl) (T1 rfl)) rfl ?_
 refine ng ?_
 refine cd rfl (fun hc1 => ?_) fun hc1 => ?_
 ·
  obtain ⟨hc1, hc1'⟩ := pT hc1
  rw [mkR_len hI] at hc1'
  obtain ⟨a, ha⟩ := getI (x := (mkR fFl 4 x z k)) (z := z) (by rw [mkR_len (by omega)]; omega)
  have hln := mkR_len (f := fFl) (w := 4) (x := x) (z := z) (k := k) (by omega)
  have hs0 := set_get (l := (mkR fFl 4 x z k)) (z := z) (by simp only [set_len, hln]; omega) ((mtx (k + 4 * (z : Int)), a.2) : ByteArray × Int × Int × Int)
  have hs1 := set_get (l := (List.set (mkR fFl 4 x z k) (Int.toNat (z : Int)) ((mtx (k + 4 * (z : Int)), a.2) : ByteArray × Int × Int × Int))) (z := z) (by simp only [set_len, hln]; omega) ((mtx (k + 4 * (z : Int)), IntKind.i8.wrap ((k + 4 * (z : Int)) + 1), a.2.2) : ByteArray × Int × Int × Int)
  have hs2 := set_get (l := (List.set (List.set (mkR fFl 4 x z k) (Int.toNat (z : Int)) ((mtx (k + 4 * (z : Int)), a.2) : ByteArray × Int × Int × Int)) (Int.toNat (z : Int)) ((mtx (k + 4 * (z : Int)), IntKind.i8.wrap ((k + 4 * (z : Int)) + 1), a.2.2) : ByteArray × Int × Int × Int))) (z := z) (by simp only [set_len, hln]; omega) ((mtx (k + 4 * (z : Int)), IntKind.i8.wrap ((k + 4 * (z : Int)) + 1), IntKind.i16.wrap ((k + 4 * (z : Int)) + 1 + 1), a.2.2.2) : ByteArray × Int × Int × Int)
  have hs3 := set_get (l := (List.set (List.set (List.set (mkR fFl 4 x z k) (Int.toNat (z : Int)) ((mtx (k + 4 * (z : Int)), a.2) : ByteArray × Int × Int × Int)) (Int.toNat (z : Int)) ((mtx (k + 4 * (z : Int)), IntKind.i8.wrap ((k + 4 * (z : Int)) + 1), a.2.2) : ByteArray × Int × Int × Int)) (Int.toNat (z : Int)) ((mtx (k + 4 * (z : Int)), IntKind.i8.wrap ((k + 4 * (z : Int)) + 1), IntKind.i16.wrap ((k + 4 * (z : Int)) + 1 + 1), a.2.2.2) : ByteArray × Int × Int × Int))) (z := z) (by simp only [set_len, hln]; omega) ((mtx (k + 4 * (z : Int)), IntKind.i8.wrap ((k + 4 * (z : Int)) + 1), IntKind.i16.wrap ((k + 4 * (z : Int)) + 1 + 1), IntKind.i16.wrap ((k + 4 * (z : Int)) + 1 + 1 + 1)) : ByteArray × Int × Int × Int)
  refine AW.skip ?_
  refine AX.go ?_
  refine AW.seq ?_
  refine AW.block ?_
  refine sr ?_
  refine st (OpT.alias (H rfl) (by decide) (by decide)) rfl ?_
  refine st (mvT rfl) rfl ?_
  refine st (mvT rfl) rfl ?_
  refine st (OpT.c1 (ms := [.flat]) (c_laws_markText _ (by omega)) (H rfl) (Af (T1 rfl) rfl rfl <| An) rfl rfl) rfl ?_
  refine st (OpT.indexAddrO (H rfl) (Root.ali rfl (by decide) (by decide)) rfl (by decide) (T1 rfl) el29 sz80 (by omega) (by assumption)) rfl ?_
  refine st (OpT.fieldAddrE (H rfl) (T1 rfl) (.inr ⟨_, _, rfl, (by assumption)⟩) (by decide) fd80_0 sz9 (by decide) sb80_0 (by decide)) rfl ?_
  refine sk (OpT.storeO rfl rfl (T1 rfl) rfl (by assumption) sz9 rfl (T1 rfl)) rfl ?_
  refine ng ?_
  refine sr ?_
  refine st (mvT rfl) rfl ?_
  refine st (OpT.add (H rfl) (T1 rfl) (I rfl) (nw (by omega))) rfl ?_
  refine st (asT rfl) rfl ?_
  refine ng ?_
  refine sr ?_
  refine st (OpT.alias (H rfl) (by decide) (by decide)) rfl ?_
  refine st (mvT rfl) rfl ?_
  refine st (mvT rfl) rfl ?_
  refine st (OpT.conv (H rfl) us3 Tryz.underlying68 (T1 rfl) rfl) rfl ?_
  refine st (OpT.indexAddrO (H rfl) (Root.ali rfl (by decide) (by decide)) rfl (by decide) (T1 rfl) el29 sz80 (by omega) (by assumption)) rfl ?_
  refine st (OpT.fieldAddrE (H rfl) (T1 rfl) (.inr ⟨_, _, rfl, (by assumption)⟩) (by decide) fd80_1 sz68 (by decide) sb80_1 (by decide)) rfl ?_
  refine sk (OpT.storeO rfl rfl (T1 rfl) rfl (by assumption) sz68 rfl (T1 rfl)) rfl ?_
  refine ng ?_
  refine sr ?_
  refine st (mvT rfl) rfl ?_
  refine st (OpT.add (H rfl) (T1 rfl) (I rfl) (nw (by omega))) rfl ?_
  refine st (asT rfl) rfl ?_
  refine ng ?_
  refine sr ?_
  refine st (OpT.alias (H rfl) (by decide) (by decide)) rfl ?_
  refine st (mvT rfl) rfl ?_
  refine st (mvT rfl) rfl ?_
  refine st (OpT.conv (H rfl) us3 Tryz.underlying69 (T1 rfl) rfl) rfl ?_
  refine st (OpT.indexAddrO (H rfl) (Root.ali rfl (by decide) (by decide)) rfl (by decide) (T1 rfl) el29 sz80 (by omega) (by assumption)) rfl ?_
  refine st (OpT.fieldAddrE (H rfl) (T1 rfl) (.inr ⟨_, _, rfl, (by assumption)⟩) (by decide) fd80_2 sz69 (by decide) sb80_2 (by decide)) rfl ?_
  refine sk (OpT.storeO rfl rfl (T1 rfl) rfl (by assumption) sz69 rfl (T1 rfl)) rfl ?_
  refine ng ?_
  refine sr ?_
  refine st (mvT rfl) rfl ?_
  refine st (OpT.add (H rfl) (T1 rfl) (I rfl) (nw (by omega))) rfl ?_
  refine st (asT rfl) rfl ?_
  refine ng ?_
  refine sr ?_
  refine st (OpT.alias (H rfl) (by decide) (by decide)) rfl ?_
  refine st (mvT rfl) rfl ?_
  refine st (mvT rfl) rfl ?_
  refine st (OpT.conv (H rfl) us3 Tryz.underlying69 (T1 rfl) rfl) rfl ?_
  refine st (OpT.indexAddrO (H rfl) (Root.ali rfl (by decide) (by decide)) rfl (by decide) (T1 rfl) el29 sz80 (by omega) (by assumption)) rfl ?_
  refine st (OpT.fieldAddrE (H rfl) (T1 rfl) (.inr ⟨_, _, rfl, (by assumption)⟩) (by decide) fd80_3 sz69 (by decide) sb80_3 (by decide)) rfl ?_
  refine sk (OpT.storeO rfl rfl (T1 rfl) rfl (by assumption) sz69 rfl (T1 rfl)) rfl ?_
  refine ng ?_
  refine AW.region ?_
  refine st (mvT rfl) rfl ?_
  refine st (OpT.add (H rfl) (T1 rfl) (I rfl) (nw (by omega))) rfl ?_
  refine st (asT rfl) rfl ?_
  refine nn ?_
  refine AX.normal_block ?_
  refine AX.go ?_
  refine AW.region ?_
  refine st (mvT rfl) rfl ?_
  refine st (OpT.add (H rfl) (T1 rfl) (I rfl) (nw (by omega))) rfl ?_
  refine st (asT rfl) rfl ?_
  refine nn ?_
  exact AX.again (z + 1) (by omega) (by omega) (Kc 0 _ (Ko rfl (by (try simp only [List.set_set]); exact mkR_step (by omega))) <| Kc 1 _ (Kv rfl (by omega)) <| Kc 5 _ (Kv rfl (by omega)) <| Kn)
 ·
  obtain ⟨hc1, hc1'⟩ := pF hc1
  rw [mkR_len hI] at hc1'
  refine AW.exit ?_
  refine xT <| xT <| AX.exit_hit ?_
  refine AX.go ?_
  refine sr ?_
  refine st (mvT rfl) rfl ?_
  refine st (asT rfl) rfl ?_
  refine ng ?_
  refine AW.ret ?_
  exact AX.rt (rs := [.tmp 4]) (ts := [some 4]) (.inl rfl) rfl (ROs.cons (RO.tmp (At.self (by decide)) (Kv rfl (by omega)) rfl) <| ROs.nil) (by decide) (fun i => match i with | 0 => .inr ⟨rfl, Ko rfl (mkR_end (by omega) hI), rfl, by decide⟩ | 1 => .inl rfl | _ + 2 => .inl rfl)
end Go.Proofs.YtkgboidjghcegaaGreatDoor.VL
