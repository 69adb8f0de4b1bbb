/- Proved here: what some functions of the program take and give: walks with the words of VA..VQ. Printed by program. -/
import Derived.Test.YtohcpnobmknglaaGreatDoorWT
import Derived.Test.YtohcpnobmknglaaGreatDoorBpa
import Derived.Test.YtohcpnobmknglaaGreatDoorWV
import Derived.Test.YtohcpnobmknglaaGreatDoorWM
import Derived.Test.YtohcpnobmknglaaGreatDoorWTA
import Derived.Test.YtohcpnobmknglaaGreatDoorWL
import Derived.Test.YtohcpnobmknglaaGreatDoorWI
set_option linter.unusedVariables false
set_option linter.unusedSimpArgs false
set_option maxRecDepth 4000
namespace Go.Proofs.YtohcpnobmknglaaGreatDoor.VL
open Go
/-- laws.szFieldS -/
theorem c_laws_szFieldS (x : List (ByteArray × Int × Int × Int)) (l : Int) (hl : 0 ≤ l ∧ l ≤ 1048576) : AC Tryz.prog 27 [.cel (Kd.slice kField) x, .cel (Kd.int .i64) l] [.cel (Kd.int .i64) (szSS szF x l)] [] := by
 refine acI (N := 27) Tryz.func27 (Nat.le_of_ble_eq_true rfl) rfl fun w0 hd s0 ar => ?_
 refine AW.to (kc2 0 1 rfl <| Kn) ?_
 refine AW.fact (fun a w hr => (ok_slice (R_ok (t := 0) rfl hr)).2) (fun hl0 => ?_)
 refine sr ?_
 refine st (asI rfl) rfl ?_
 refine ng ?_
 refine sr ?_
 refine st (mvT rfl) rfl ?_
 refine st (mvT rfl) rfl ?_
 refine st (OpT.len (H rfl) (T1 rfl) el56) rfl ?_
 refine st (OpT.sub (H rfl) (T1 rfl) (T1 rfl) (nw (by omega))) rfl ?_
 refine st (asT rfl) rfl ?_
 refine ng ?_
 refine AW.seq ?_
 refine sr ?_
 refine st (mvT rfl) rfl ?_
 refine st (OpT.lss (H rfl) (T1 rfl) (I rfl)) rfl ?_
 refine ng ?_
 refine cd rfl (fun hc1 => ?_) fun hc1 => ?_
 ·
  replace hc1 := oT hc1
  refine sr ?_
  refine st (asI rfl) rfl ?_
  refine ng ?_
  refine AW.ret ?_
  refine rT ?_
  exact rt1 rfl (.inl rfl) (by first | exact (if_pos hc1).symm | exact szs_ne hc1 hI ha hc3 | exact szs_end hc1 hI (by omega))
 ·
  replace hc1 := oF hc1
  refine AW.skip ?_
  refine AX.go ?_
  refine AW.seq ?_
  refine sr ?_
  refine st (asI rfl) rfl ?_
  refine ng ?_
  refine AW.block ?_
  refine AW.loop (fun p : Nat × Int => p.1 ≤ x.length ∧ 0 ≤ p.2 ∧ p.2 ≤ 1048576 ∧ szs szF (x.drop p.1) p.2 = szs szF x (l - x.length)) (fun p : Nat × Int => keep [(0, .cel (Kd.slice kField) x), (1, .cel (Kd.int .i64) p.2), (5, .cel (Kd.int .i64) (p.1 : Int))]) (fun p : Nat × Int => x.length - p.1) ((0, l - x.length)) ⟨Nat.zero_le _, by simp only []; omega, by simp only []; omega, rfl⟩ (Kc 0 _ (Kv rfl rfl) <| Kc 1 _ (Kv rfl rfl) <| Kc 5 _ (Kv rfl rfl) <| Kn) ?_
  intro p hI
  refine AW.seq ?_
  refine sr ?_
  refine st (mvT rfl) rfl ?_
  refine st (mvT rfl) rfl ?_
  refine st (OpT.len (H rfl) (T1 rfl) el56) rfl ?_
  refine st (OpT.lss (H rfl) (T1 rfl) (T1 rfl)) rfl ?_
  refine ng ?_
  refine cd rfl (fun hc2 => ?_) fun hc2 => ?_
  ·
   replace hc2 := oT hc2
   obtain ⟨a, ha⟩ := getI (x := x) (z := p.1) (by omega)
   refine AW.skip ?_
   refine AX.go ?_
   refine AW.seq ?_
   refine AW.block ?_
   refine sr ?_
   refine st (mvT rfl) rfl ?_
   refine st (mvT rfl) rfl ?_
   refine st (OpT.indexAddr (H rfl) (T1 rfl) (T1 rfl) el56 sz113 (by omega) (by assumption)) rfl ?_
   refine st (OpT.loadA (H rfl) (T1 rfl) ag113 sz113) rfl ?_
   refine st (mvT rfl) rfl ?_
   refine st (OpT.c1 (ms := [.flat, .flat]) (c_laws_szField _ _ ⟨hI.2.1, hI.2.2.1⟩) (H rfl) (Af (T1 rfl) rfl rfl <| Af (T1 rfl) rfl rfl <| An) rfl rfl) rfl ?_
   refine st (asT rfl) rfl ?_
   refine ng ?_
   refine sr ?_
   refine st (mvT rfl) rfl ?_
   refine st (OpT.lss (H rfl) (T1 rfl) (I rfl)) rfl ?_
   refine ng ?_
   refine cd rfl (fun hc3 => ?_) fun hc3 => ?_
   ·
    replace hc3 := oT hc3
    refine sr ?_
    refine st (asI rfl) rfl ?_
    refine ng ?_
    refine AW.ret ?_
    refine rK <| rT <| rT <| rK <| rT ?_
    exact rt1 rfl (.inl rfl) (by first | exact (if_pos hc1).symm | exact szs_ne hc1 hI ha hc3 | exact szs_end hc1 hI (by omega))
   ·
    replace hc3 := oF hc3
    refine AW.skip ?_
    refine AX.normal_block ?_
    refine AX.go ?_
    refine AW.region ?_
    refine st (mvT rfl) rfl ?_
    refine st (OpT.add (H rfl) (T1 rfl) (I rfl) (nw (by omega))) rfl ?_
    refine st (asT rfl) rfl ?_
    refine nn ?_
    exact AX.again ((p.1 + 1, szF a p.2)) (szs_step okSzF hI (by omega) ha hc3) (by simp only []; omega) (Kc 0 _ (Kv rfl rfl) <| Kc 1 _ (Kv rfl rfl) <| Kc 5 _ (Kv rfl (by simp only []; omega)) <| Kn)
  ·
   replace hc2 := oF hc2
   refine AW.exit ?_
   refine xT <| xT <| AX.exit_hit ?_
   refine AX.go ?_
   refine sr ?_
   refine st (mvT rfl) rfl ?_
   refine st (asT rfl) rfl ?_
   refine ng ?_
   refine AW.ret ?_
   exact rt1 rfl (.inl rfl) (by first | exact (if_pos hc1).symm | exact szs_ne hc1 hI ha hc3 | exact szs_end hc1 hI (by omega))

/-- laws.toFieldS -/
theorem c_laws_toFieldS_o (x : List (ByteArray × Int × Int × Int)) (hn : x.length ≤ 1099511627776) : AC Tryz.prog 30 [.cel (Kd.slice kField) x] [.own 120 kField x] [] := by
 refine acI (N := 23) Tryz.func30 (Nat.le_of_ble_eq_true rfl) rfl fun w0 hd s0 ar => ?_
 refine AW.to (kc 0 rfl <| Kn) ?_
 refine sr ?_
 refine st (nilO (E := 120) kField rfl (.inl rfl)) rfl ?_
 refine ng ?_
 refine sr ?_
 refine st (mvT rfl) rfl ?_
 refine st (OpT.len (H rfl) (T1 rfl) el56) rfl ?_
 refine st (OpT.make (H rfl) (T1 rfl) (T1 rfl) el24 zr120 sz120 by120 (by decide) zk120 (by omega) (by omega)) rfl ?_
 refine sg (OpT.take (.inl rfl) rfl (ok' rfl) (Root.self (by decide)) rfl rfl (by decide)) (ko 3 rfl <| kc2 6 5 rfl <| ko 2 rfl <| kc 0 rfl <| Kn) rfl ?_
 refine ng ?_
 refine AW.seq ?_
 refine sr ?_
 refine st (asI rfl) rfl ?_
 refine ng ?_
 refine AW.block ?_
 refine AW.loop (fun z : Nat => z ≤ x.length) (fun z : Nat => keep [(0, .cel (Kd.slice kField) x), (3, .own 120 kField (cpy x z ((.empty, 0, 0, 0)))), (4, .cel (Kd.int .i64) (z : Int))]) (fun z : Nat => x.length - z) (0) (by omega) (Kc 0 _ (Kv rfl rfl) <| Kc 3 _ (Ko rfl rfl) <| Kc 4 _ (Kv rfl rfl) <| Kn) ?_
 intro z hI
 refine AW.seq ?_
 refine sr ?_
 refine st (mvT rfl) rfl ?_
 refine st (mvT rfl) rfl ?_
 refine st (OpT.len (H rfl) (T1 rfl) el56) rfl ?_
 refine st (OpT.lss (H rfl) (T1 rfl) (T1 rfl)) rfl ?_
 refine ng ?_
 refine cd rfl (fun hc1 => ?_) fun hc1 => ?_
 ·
  replace hc1 := oT hc1
  obtain ⟨a, ha⟩ := getI (x := x) (z := z) (by omega); have hd := cpy_get (x := x) (z := z) (d := ((.empty, 0, 0, 0) : ByteArray × Int × Int × Int)) (by omega)
  refine AW.skip ?_
  refine AX.go ?_
  refine AW.seq ?_
  refine AW.block ?_
  refine AW.region ?_
  refine st (OpT.alias (H rfl) (by decide) (by decide)) rfl ?_
  refine st (mvT rfl) rfl ?_
  refine st (mvT rfl) rfl ?_
  refine st (mvT rfl) rfl ?_
  refine st (OpT.indexAddr (H rfl) (T1 rfl) (T1 rfl) el56 sz113 (by omega) (by assumption)) rfl ?_
  refine st (OpT.loadA (H rfl) (T1 rfl) ag113 sz113) rfl ?_
  refine st (OpT.c1 (ms := [.flat]) (c_laws_toField _) (H rfl) (Af (T1 rfl) rfl rfl <| An) rfl rfl) rfl ?_
  refine st (OpT.indexAddrO (H rfl) (Root.ali rfl (by decide) (by decide)) rfl (by decide) (T1 rfl) el24 sz120 (by omega) (by assumption)) rfl ?_
  refine sk (OpT.storeOA rfl rfl (T1 rfl) rfl (by assumption) sz120 (by decide) (T1 rfl)) rfl ?_
  refine nn ?_
  refine AX.normal_block ?_
  refine AX.go ?_
  refine AW.region ?_
  refine st (mvT rfl) rfl ?_
  refine st (OpT.add (H rfl) (T1 rfl) (I rfl) (nw (by omega))) rfl ?_
  refine st (asT rfl) rfl ?_
  refine nn ?_
  exact AX.again (z + 1) (by omega) (by omega) (Kc 0 _ (Kv rfl rfl) <| Kc 3 _ (Ko rfl (cpy_step ha)) <| Kc 4 _ (Kv rfl (by omega)) <| Kn)
 ·
  replace hc1 := oF hc1
  refine AW.exit ?_
  refine xT <| xT <| AX.exit_hit ?_
  refine AX.go ?_
  refine sr ?_
  refine st (OpT.alias (H rfl) (by decide) (by decide)) rfl ?_
  refine sg (OpT.take (.inl rfl) rfl (ok' rfl) (Root.ali rfl (by decide) (by decide)) rfl rfl (by decide)) (ko 2 rfl <| kc4 11 10 9 8 rfl <| kc2 0 4 rfl <| Kn) rfl ?_
  refine ng ?_
  refine AW.ret ?_
  exact AX.rt (rs := [.tmp 2]) (ts := [some 2]) (.inl rfl) rfl (ROs.cons (RO.tmp (At.self (by decide)) (Ko rfl (cpy_end (by omega))) rfl) <| ROs.nil) (by decide) OutsOK.nil
theorem c_laws_toFieldS (x : List (ByteArray × Int × Int × Int)) (hn : x.length ≤ 1099511627776) : AC Tryz.prog 30 [.cel (Kd.slice kField) x] [.cel (Kd.slice kField) x] [] := (c_laws_toFieldS_o x hn).frz rfl

/-- laws.eqField -/
theorem c_laws_eqField (x y : ByteArray × Int × Int × Int) : AC Tryz.prog 86 [.agg kField x, .agg kField y] [.cel Kd.bool (eqv x y)] [] := by
 refine acI (N := 25) Tryz.func86 (Nat.le_of_ble_eq_true rfl) rfl fun w0 hd s0 ar => ?_
 refine AW.to (ka 0 rfl <| ka 1 rfl <| Kn) ?_
 refine sr ?_
 refine st (OpT.frz (OpT.boxA (E := 120) (H rfl) (T1 rfl))) rfl ?_
 refine st (OpT.frz (OpT.boxA (E := 120) (H rfl) (T1 rfl))) rfl ?_
 refine st (asB rfl) rfl ?_
 refine ng ?_
 refine AW.seq ?_
 refine sr ?_
 refine st (OpT.fieldAddr (H rfl) (T1 rfl) fd120_0 sz9 (by decide) sb120_0) rfl ?_
 refine st (OpT.load (H rfl) (T1 rfl) ag9 rfl) rfl ?_
 refine st (OpT.fieldAddr (H rfl) (T1 rfl) fd120_0 sz9 (by decide) sb120_0) rfl ?_
 refine st (OpT.load (H rfl) (T1 rfl) ag9 rfl) rfl ?_
 refine st (OpT.snev (H rfl) (T1 rfl) (T1 rfl)) rfl ?_
 refine ng ?_
 refine cd rfl (fun hc1 => ?_) fun hc1 => ?_
 ·
  replace hc1 := oT hc1
  refine sr ?_
  refine st (asB rfl) rfl ?_
  refine ng ?_
  refine AW.ret ?_
  refine rT ?_
  exact rt1 rfl (.inl rfl) (by rw [eqv_pair (x := x), eqv_pair (x := x.2), eqv_pair (x := x.2.2)]; simp_all [eqv_beq, eqv_bne, Bool.and_assoc])
 ·
  replace hc1 := oF hc1
  refine AW.skip ?_
  refine AX.go ?_
  refine AW.seq ?_
  refine sr ?_
  refine st (OpT.fieldAddr (H rfl) (T1 rfl) fd120_1 sz111 (by decide) sb120_1) rfl ?_
  refine st (OpT.load (H rfl) (T1 rfl) ag111 rfl) rfl ?_
  refine st (OpT.fieldAddr (H rfl) (T1 rfl) fd120_1 sz111 (by decide) sb120_1) rfl ?_
  refine st (OpT.load (H rfl) (T1 rfl) ag111 rfl) rfl ?_
  refine st (OpT.neq (H rfl) (T1 rfl) (T1 rfl)) rfl ?_
  refine AWl.to (kc4 14 4 3 2 rfl <| Kn) ?_
  refine ng ?_
  refine cd rfl (fun hc2 => ?_) fun hc2 => ?_
  ·
   replace hc2 := oT hc2
   refine sr ?_
   refine st (asB rfl) rfl ?_
   refine ng ?_
   refine AW.ret ?_
   refine rT ?_
   exact rt1 rfl (.inl rfl) (by rw [eqv_pair (x := x), eqv_pair (x := x.2), eqv_pair (x := x.2.2)]; simp_all [eqv_beq, eqv_bne, Bool.and_assoc])
  ·
   replace hc2 := oF hc2
   refine AW.skip ?_
   refine AX.go ?_
   refine AW.seq ?_
   refine sr ?_
   refine st (OpT.fieldAddr (H rfl) (T1 rfl) fd120_2 sz45 (by decide) sb120_2) rfl ?_
   refine st (OpT.load (H rfl) (T1 rfl) ag45 rfl) rfl ?_
   refine st (OpT.fieldAddr (H rfl) (T1 rfl) fd120_2 sz45 (by decide) sb120_2) rfl ?_
   refine st (OpT.load (H rfl) (T1 rfl) ag45 rfl) rfl ?_
   refine st (OpT.neq (H rfl) (T1 rfl) (T1 rfl)) rfl ?_
   refine ng ?_
   refine cd rfl (fun hc3 => ?_) fun hc3 => ?_
   ·
    replace hc3 := oT hc3
    refine sr ?_
    refine st (asB rfl) rfl ?_
    refine ng ?_
    refine AW.ret ?_
    refine rT ?_
    exact rt1 rfl (.inl rfl) (by rw [eqv_pair (x := x), eqv_pair (x := x.2), eqv_pair (x := x.2.2)]; simp_all [eqv_beq, eqv_bne, Bool.and_assoc])
   ·
    replace hc3 := oF hc3
    refine AW.skip ?_
    refine AX.go ?_
    refine AW.seq ?_
    refine sr ?_
    refine st (OpT.fieldAddr (H rfl) (T1 rfl) fd120_3 sz45 (by decide) sb120_3) rfl ?_
    refine st (OpT.load (H rfl) (T1 rfl) ag45 rfl) rfl ?_
    refine st (OpT.fieldAddr (H rfl) (T1 rfl) fd120_3 sz45 (by decide) sb120_3) rfl ?_
    refine st (OpT.load (H rfl) (T1 rfl) ag45 rfl) rfl ?_
    refine st (OpT.neq (H rfl) (T1 rfl) (T1 rfl)) rfl ?_
    refine AWl.to (kc2 24 4 rfl <| Kn) ?_
    refine ng ?_
    refine cd rfl (fun hc4 => ?_) fun hc4 => ?_
    ·
     replace hc4 := oT hc4
     refine sr ?_
     refine st (asB rfl) rfl ?_
     refine ng ?_
     refine AW.ret ?_
     refine rT ?_
     exact rt1 rfl (.inl rfl) (by rw [eqv_pair (x := x), eqv_pair (x := x.2), eqv_pair (x := x.2.2)]; simp_all [eqv_beq, eqv_bne, Bool.and_assoc])
    ·
     replace hc4 := oF hc4
     refine AW.skip ?_
     refine AX.go ?_
     refine sr ?_
     refine st (asB rfl) rfl ?_
     refine ng ?_
     refine AW.ret ?_
     exact rt1 rfl (.inl rfl) (by rw [eqv_pair (x := x), eqv_pair (x := x.2), eqv_pair (x := x.2.2)]; simp_all [eqv_beq, eqv_bne, Bool.and_assoc])

/-- laws.eqFieldS -/
theorem c_laws_eqFieldS (x y : List (ByteArray × Int × Int × Int)) : AC Tryz.prog 34 [.cel (Kd.slice kField) x, .cel (Kd.slice kField) y] [.cel Kd.bool (eqv x y)] [] := by
 refine acI (N := 27) Tryz.func34 (Nat.le_of_ble_eq_true rfl) rfl fun w0 hd s0 ar => ?_
 refine AW.to (kc2 0 1 rfl <| Kn) ?_
 refine AW.fact (fun a w hr => (ok_slice (R_ok (t := 0) rfl hr)).2) (fun hl0 => ?_)
 refine AW.fact (fun a w hr => (ok_slice (R_ok (t := 1) rfl hr)).2) (fun hl1 => ?_)
 refine sr ?_
 refine st (asB rfl) rfl ?_
 refine ng ?_
 refine AW.seq ?_
 refine sr ?_
 refine st (mvT rfl) rfl ?_
 refine st (OpT.len (H rfl) (T1 rfl) el24) rfl ?_
 refine st (mvT rfl) rfl ?_
 refine st (OpT.len (H rfl) (T1 rfl) el24) rfl ?_
 refine st (OpT.neq (H rfl) (T1 rfl) (T1 rfl)) rfl ?_
 refine ng ?_
 refine cd rfl (fun hc1 => ?_) fun hc1 => ?_
 ·
  replace hc1 := oT hc1
  try simp only [bne_iff_ne, ne_eq, bne_eq_false_iff_eq] at hc1
  refine sr ?_
  refine st (asB rfl) rfl ?_
  refine ng ?_
  refine AW.ret ?_
  refine rT ?_
  exact rt1 rfl (.inl rfl) (by first | exact eqs_len (by omega) | exact eqs_ne ha hb (by simpa [eqv_iff, eqv_false_iff] using hc3) | exact eqs_all hI.2 (by omega) (by omega))
 ·
  replace hc1 := oF hc1
  try simp only [bne_iff_ne, ne_eq, bne_eq_false_iff_eq] at hc1
  refine AW.skip ?_
  refine AX.go ?_
  refine AW.seq ?_
  refine sr ?_
  refine st (asI rfl) rfl ?_
  refine ng ?_
  refine AW.block ?_
  refine AW.loop (fun z : Nat => z ≤ x.length ∧ x.take z = y.take z) (fun z : Nat => keep [(0, .cel (Kd.slice kField) x), (1, .cel (Kd.slice kField) y), (5, .cel (Kd.int .i64) (z : Int))]) (fun z : Nat => x.length - z) (0) ⟨Nat.zero_le _, rfl⟩ (Kc 0 _ (Kv rfl rfl) <| Kc 1 _ (Kv rfl rfl) <| Kc 5 _ (Kv rfl rfl) <| Kn) ?_
  intro z hI
  refine AW.seq ?_
  refine sr ?_
  refine st (mvT rfl) rfl ?_
  refine st (mvT rfl) rfl ?_
  refine st (OpT.len (H rfl) (T1 rfl) el24) rfl ?_
  refine st (OpT.lss (H rfl) (T1 rfl) (T1 rfl)) rfl ?_
  refine ng ?_
  refine cd rfl (fun hc2 => ?_) fun hc2 => ?_
  ·
   replace hc2 := oT hc2
   obtain ⟨a, ha⟩ := getI (x := x) (z := z) (by omega); obtain ⟨b, hb⟩ := getI (x := y) (z := z) (by omega)
   refine AW.skip ?_
   refine AX.go ?_
   refine AW.seq ?_
   refine AW.block ?_
   refine AW.seq ?_
   refine dh fomo ?_
   refine d1 [0] (fun ve h => OpT.move (A := .cel _ _) (.inl rfl) rfl (ok' rfl) (D1 h rfl) rfl) rfl ?_
   refine d1 [5] (fun ve h => OpT.move (A := .cel _ _) (.inl rfl) rfl (ok' rfl) (D1 h rfl) rfl) rfl ?_
   refine d1 [17, 18] (fun ve h => OpT.indexAddr (H rfl) (D1 h rfl) (D1 h rfl) el24 sz120 (by omega) (by assumption)) rfl ?_
   refine d1 [19] (fun ve h => OpT.loadA (H rfl) (D1 h rfl) ag120 sz120) rfl ?_
   refine d1 [1] (fun ve h => OpT.move (A := .cel _ _) (.inl rfl) rfl (ok' rfl) (D1 h rfl) rfl) rfl ?_
   refine d1 [5] (fun ve h => OpT.move (A := .cel _ _) (.inl rfl) rfl (ok' rfl) (D1 h rfl) rfl) rfl ?_
   refine d1 [21, 22] (fun ve h => OpT.indexAddr (H rfl) (D1 h rfl) (D1 h rfl) el24 sz120 (by omega) (by assumption)) rfl ?_
   refine d1 [23] (fun ve h => OpT.loadA (H rfl) (D1 h rfl) ag120 sz120) rfl ?_
   refine d1 [20, 24] (fun ve h => OpT.c1 (ms := [.flat, .flat]) (c_laws_eqField _ _) (H rfl) (Af (D1 h rfl) rfl rfl <| Af (D1 h rfl) rfl rfl <| An) rfl rfl) rfl ?_
   refine d1 [25] (fun ve h => OpT.not (H rfl) (D1 h rfl)) rfl ?_
   refine dn ⟨by kernel_rfl, by kernel_rfl, ?_⟩
   refine AX.go ?_
   refine cd rfl (fun hc3 => ?_) fun hc3 => ?_
   ·
    replace hc3 := oT hc3
    refine sr ?_
    refine st (asB rfl) rfl ?_
    refine ng ?_
    refine AW.ret ?_
    refine rK <| rT <| rT <| rK <| rT ?_
    exact rt1 rfl (.inl rfl) (by first | exact eqs_len (by omega) | exact eqs_ne ha hb (by simpa [eqv_iff, eqv_false_iff] using hc3) | exact eqs_all hI.2 (by omega) (by omega))
   ·
    replace hc3 := oF hc3
    refine AW.skip ?_
    refine AX.normal_block ?_
    refine AX.go ?_
    refine AW.region ?_
    refine st (mvT rfl) rfl ?_
    refine st (OpT.add (H rfl) (T1 rfl) (I rfl) (nw (by omega))) rfl ?_
    refine st (asT rfl) rfl ?_
    refine nn ?_
    exact AX.again (z + 1) ⟨by omega, eqs_step hI.2 ha hb (by simpa [eqv_iff, eqv_false_iff] using hc3)⟩ (by omega) (Kc 0 _ (Kv rfl rfl) <| Kc 1 _ (Kv rfl rfl) <| Kc 5 _ (Kv rfl (by omega)) <| Kn)
  ·
   replace hc2 := oF hc2
   refine AW.exit ?_
   refine xT <| xT <| AX.exit_hit ?_
   refine AX.go ?_
   refine sr ?_
   refine st (asB rfl) rfl ?_
   refine ng ?_
   refine AW.ret ?_
   exact rt1 rfl (.inl rfl) (by first | exact eqs_len (by omega) | exact eqs_ne ha hb (by simpa [eqv_iff, eqv_false_iff] using hc3) | exact eqs_all hI.2 (by omega) (by omega))

/-- laws.eqTally -/
theorem c_laws_eqTally (x y : Int × Int) : AC Tryz.prog 85 [.agg kShare x, .agg kShare y] [.cel Kd.bool (eqv x y)] [] := by
 refine acI (N := 15) Tryz.func85 (Nat.le_of_ble_eq_true rfl) rfl fun w0 hd s0 ar => ?_
 refine AW.to (ka 0 rfl <| ka 1 rfl <| Kn) ?_
 refine sr ?_
 refine st (OpT.frz (OpT.boxA (E := 127) (H rfl) (T1 rfl))) rfl ?_
 refine st (OpT.frz (OpT.boxA (E := 127) (H rfl) (T1 rfl))) rfl ?_
 refine st (asB rfl) rfl ?_
 refine ng ?_
 refine AW.seq ?_
 refine sr ?_
 refine st (OpT.fieldAddr (H rfl) (T1 rfl) fd127_0 sz2 (by decide) sb127_0) rfl ?_
 refine st (OpT.load (H rfl) (T1 rfl) ag2 rfl) rfl ?_
 refine st (OpT.fieldAddr (H rfl) (T1 rfl) fd127_0 sz2 (by decide) sb127_0) rfl ?_
 refine st (OpT.load (H rfl) (T1 rfl) ag2 rfl) rfl ?_
 refine st (OpT.neq (H rfl) (T1 rfl) (T1 rfl)) rfl ?_
 refine ng ?_
 refine cd rfl (fun hc1 => ?_) fun hc1 => ?_
 ·
  replace hc1 := oT hc1
  refine sr ?_
  refine st (asB rfl) rfl ?_
  refine ng ?_
  refine AW.ret ?_
  refine rT ?_
  exact rt1 rfl (.inl rfl) (by rw [eqv_pair (x := x)]; simp_all [eqv_beq, eqv_bne, Bool.and_assoc])
 ·
  replace hc1 := oF hc1
  refine AW.skip ?_
  refine AX.go ?_
  refine AW.seq ?_
  refine sr ?_
  refine st (OpT.fieldAddr (H rfl) (T1 rfl) fd127_1 sz2 (by decide) sb127_1) rfl ?_
  refine st (OpT.load (H rfl) (T1 rfl) ag2 rfl) rfl ?_
  refine st (OpT.fieldAddr (H rfl) (T1 rfl) fd127_1 sz2 (by decide) sb127_1) rfl ?_
  refine st (OpT.load (H rfl) (T1 rfl) ag2 rfl) rfl ?_
  refine st (OpT.neq (H rfl) (T1 rfl) (T1 rfl)) rfl ?_
  refine AWl.to (kc2 14 4 rfl <| Kn) ?_
  refine ng ?_
  refine cd rfl (fun hc2 => ?_) fun hc2 => ?_
  ·
   replace hc2 := oT hc2
   refine sr ?_
   refine st (asB rfl) rfl ?_
   refine ng ?_
   refine AW.ret ?_
   refine rT ?_
   exact rt1 rfl (.inl rfl) (by rw [eqv_pair (x := x)]; simp_all [eqv_beq, eqv_bne, Bool.and_assoc])
  ·
   replace hc2 := oF hc2
   refine AW.skip ?_
   refine AX.go ?_
   refine sr ?_
   refine st (asB rfl) rfl ?_
   refine ng ?_
   refine AW.ret ?_
   exact rt1 rfl (.inl rfl) (by rw [eqv_pair (x := x)]; simp_all [eqv_beq, eqv_bne, Bool.and_assoc])

/-- laws.eqTallyS -/
theorem c_laws_eqTallyS (x y : List (Int × Int)) : AC Tryz.prog 33 [.cel (Kd.slice kShare) x, .cel (Kd.slice kShare) y] [.cel Kd.bool (eqv x y)] [] := by
 refine acI (N := 27) Tryz.func33 (Nat.le_of_ble_eq_true rfl) rfl fun w0 hd s0 ar => ?_
 refine AW.to (kc2 0 1 rfl <| Kn) ?_
 refine AW.fact (fun a w hr => (ok_slice (R_ok (t := 0) rfl hr)).2) (fun hl0 => ?_)
 refine AW.fact (fun a w hr => (ok_slice (R_ok (t := 1) rfl hr)).2) (fun hl1 => ?_)
 refine sr ?_
 refine st (asB rfl) rfl ?_
 refine ng ?_
 refine AW.seq ?_
 refine sr ?_
 refine st (mvT rfl) rfl ?_
 refine st (OpT.len (H rfl) (T1 rfl) el60) rfl ?_
 refine st (mvT rfl) rfl ?_
 refine st (OpT.len (H rfl) (T1 rfl) el60) rfl ?_
 refine st (OpT.neq (H rfl) (T1 rfl) (T1 rfl)) rfl ?_
 refine ng ?_
 refine cd rfl (fun hc1 => ?_) fun hc1 => ?_
 ·
  replace hc1 := oT hc1
  try simp only [bne_iff_ne, ne_eq, bne_eq_false_iff_eq] at hc1
  refine sr ?_
  refine st (asB rfl) rfl ?_
  refine ng ?_
  refine AW.ret ?_
  refine rT ?_
  exact rt1 rfl (.inl rfl) (by first | exact eqs_len (by omega) | exact eqs_ne ha hb (by simpa [eqv_iff, eqv_false_iff] using hc3) | exact eqs_all hI.2 (by omega) (by omega))
 ·
  replace hc1 := oF hc1
  try simp only [bne_iff_ne, ne_eq, bne_eq_false_iff_eq] at hc1
  refine AW.skip ?_
  refine AX.go ?_
  refine AW.seq ?_
  refine sr ?_
  refine st (asI rfl) rfl ?_
  refine ng ?_
  refine AW.block ?_
  refine AW.loop (fun z : Nat => z ≤ x.length ∧ x.take z = y.take z) (fun z : Nat => keep [(0, .cel (Kd.slice kShare) x), (1, .cel (Kd.slice kShare) y), (5, .cel (Kd.int .i64) (z : Int))]) (fun z : Nat => x.length - z) (0) ⟨Nat.zero_le _, rfl⟩ (Kc 0 _ (Kv rfl rfl) <| Kc 1 _ (Kv rfl rfl) <| Kc 5 _ (Kv rfl rfl) <| Kn) ?_
  intro z hI
  refine AW.seq ?_
  refine sr ?_
  refine st (mvT rfl) rfl ?_
  refine st (mvT rfl) rfl ?_
  refine st (OpT.len (H rfl) (T1 rfl) el60) rfl ?_
  refine st (OpT.lss (H rfl) (T1 rfl) (T1 rfl)) rfl ?_
  refine ng ?_
  refine cd rfl (fun hc2 => ?_) fun hc2 => ?_
  ·
   replace hc2 := oT hc2
   obtain ⟨a, ha⟩ := getI (x := x) (z := z) (by omega); obtain ⟨b, hb⟩ := getI (x := y) (z := z) (by omega)
   refine AW.skip ?_
   refine AX.go ?_
   refine AW.seq ?_
   refine AW.block ?_
   refine AW.seq ?_
   refine dh fomo ?_
   refine d1 [0] (fun ve h => OpT.move (A := .cel _ _) (.inl rfl) rfl (ok' rfl) (D1 h rfl) rfl) rfl ?_
   refine d1 [5] (fun ve h => OpT.move (A := .cel _ _) (.inl rfl) rfl (ok' rfl) (D1 h rfl) rfl) rfl ?_
   refine d1 [17, 18] (fun ve h => OpT.indexAddr (H rfl) (D1 h rfl) (D1 h rfl) el60 sz127 (by omega) (by assumption)) rfl ?_
   refine d1 [19] (fun ve h => OpT.loadA (H rfl) (D1 h rfl) ag127 sz127) rfl ?_
   refine d1 [1] (fun ve h => OpT.move (A := .cel _ _) (.inl rfl) rfl (ok' rfl) (D1 h rfl) rfl) rfl ?_
   refine d1 [5] (fun ve h => OpT.move (A := .cel _ _) (.inl rfl) rfl (ok' rfl) (D1 h rfl) rfl) rfl ?_
   refine d1 [21, 22] (fun ve h => OpT.indexAddr (H rfl) (D1 h rfl) (D1 h rfl) el60 sz127 (by omega) (by assumption)) rfl ?_
   refine d1 [23] (fun ve h => OpT.loadA (H rfl) (D1 h rfl) ag127 sz127) rfl ?_
   refine d1 [20, 24] (fun ve h => OpT.c1 (ms := [.flat, .flat]) (c_laws_eqTally _ _) (H rfl) (Af (D1 h rfl) rfl rfl <| Af (D1 h rfl) rfl rfl <| An) rfl rfl) rfl ?_
   refine d1 [25] (fun ve h => OpT.not (H rfl) (D1 h rfl)) rfl ?_
   refine dn ⟨by kernel_rfl, by kernel_rfl, ?_⟩
   refine AX.go ?_
   refine cd rfl (fun hc3 => ?_) fun hc3 => ?_
   ·
    replace hc3 := oT hc3
    refine sr ?_
    refine st (asB rfl) rfl ?_
    refine ng ?_
    refine AW.ret ?_
    refine rK <| rT <| rT <| rK <| rT ?_
    exact rt1 rfl (.inl rfl) (by first | exact eqs_len (by omega) | exact eqs_ne ha hb (by simpa [eqv_iff, eqv_false_iff] using hc3) | exact eqs_all hI.2 (by omega) (by omega))
   ·
    replace hc3 := oF hc3
    refine AW.skip ?_
    refine AX.normal_block ?_
    refine AX.go ?_
    refine AW.region ?_
    refine st (mvT rfl) rfl ?_
    refine st (OpT.add (H rfl) (T1 rfl) (I rfl) (nw (by omega))) rfl ?_
    refine st (asT rfl) rfl ?_
    refine nn ?_
    exact AX.again (z + 1) ⟨by omega, eqs_step hI.2 ha hb (by simpa [eqv_iff, eqv_false_iff] using hc3)⟩ (by omega) (Kc 0 _ (Kv rfl rfl) <| Kc 1 _ (Kv rfl rfl) <| Kc 5 _ (Kv rfl (by omega)) <| Kn)
  ·
   replace hc2 := oF hc2
   refine AW.exit ?_
   refine xT <| xT <| AX.exit_hit ?_
   refine AX.go ?_
   refine sr ?_
   refine st (asB rfl) rfl ?_
   refine ng ?_
   refine AW.ret ?_
   exact rt1 rfl (.inl rfl) (by first | exact eqs_len (by omega) | exact eqs_ne ha hb (by simpa [eqv_iff, eqv_false_iff] using hc3) | exact eqs_all hI.2 (by omega) (by omega))

/-- laws.markFieldS -/
theorem c_laws_markFieldS (x : List (ByteArray × Int × Int × Int)) (k : Int) (h : 0 ≤ k ∧ k ≤ 1152921504606846976 ∧ x.length ≤ 115292150460684697) : AC Tryz.prog 36 [.own 120 kField x, .cel (Kd.int .i64) k] [.cel (Kd.int .i64) (k + 4 * (x.length : Int))] [.own 120 kField (mkL fFl 4 x.length k), .any] := by
 refine acI (N := 45) Tryz.func36 (Nat.le_of_ble_eq_true rfl) rfl fun w0 hd s0 ar => ?_
 refine AW.to (ko 0 rfl <| kc 1 rfl <| Kn) ?_
 refine sr ?_
 refine st (asI rfl) rfl ?_
 refine ng ?_
 refine AW.seq ?_
 refine sr ?_
 refine st (asI rfl) rfl ?_
 refine ng ?_
 refine AW.block ?_
 refine AW.loop (fun z : Nat => z ≤ x.length) (fun z : Nat => keep [(0, .own 120 kField (mkR fFl 4 x z k)), (1, .cel (Kd.int .i64) (k + 4 * (z : Int))), (5, .cel (Kd.int .i64) (z : Int))]) (fun z : Nat => x.length - z) (0) (Nat.zero_le _) (Kc 0 _ (Ko rfl mkR_zero) <| Kc 1 _ (Kv rfl (by omega)) <| Kc 5 _ (Kv rfl rfl) <| Kn) ?_
 intro z hI
 refine AW.seq ?_
 refine sr ?_
 refine st (mvT rfl) rfl ?_
 refine st (OpT.alias (H rfl) (by decide) (by decide)) rfl ?_
 refine st (OpT.lenO (H rfl) (Root.ali rfl (by decide) (by decide)) rfl el24) rfl ?_
 refine st (OpT.lss (H rfl) (T1 rfl) (T1 rfl)) rfl ?_
 refine ng ?_
 refine cd rfl (fun hc1 => ?_) fun hc1 => ?_
 ·
  obtain ⟨hc1, hc1'⟩ := pT hc1
  rw [mkR_len hI] at hc1'
  obtain ⟨a, ha⟩ := getI (x := (mkR fFl 4 x z k)) (z := z) (by rw [mkR_len (by omega)]; omega)
  have hln := mkR_len (f := fFl) (w := 4) (x := x) (z := z) (k := k) (by omega)
  have hs0 := set_get (l := (mkR fFl 4 x z k)) (z := z) (by simp only [set_len, hln]; omega) ((mtx (k + 4 * (z : Int)), a.2) : ByteArray × Int × Int × Int)
  have hs1 := set_get (l := (List.set (mkR fFl 4 x z k) (Int.toNat (z : Int)) ((mtx (k + 4 * (z : Int)), a.2) : ByteArray × Int × Int × Int))) (z := z) (by simp only [set_len, hln]; omega) ((mtx (k + 4 * (z : Int)), IntKind.i8.wrap ((k + 4 * (z : Int)) + 1), a.2.2) : ByteArray × Int × Int × Int)
  have hs2 := set_get (l := (List.set (List.set (mkR fFl 4 x z k) (Int.toNat (z : Int)) ((mtx (k + 4 * (z : Int)), a.2) : ByteArray × Int × Int × Int)) (Int.toNat (z : Int)) ((mtx (k + 4 * (z : Int)), IntKind.i8.wrap ((k + 4 * (z : Int)) + 1), a.2.2) : ByteArray × Int × Int × Int))) (z := z) (by simp only [set_len, hln]; omega) ((mtx (k + 4 * (z : Int)), IntKind.i8.wrap ((k + 4 * (z : Int)) + 1), IntKind.i16.wrap ((k + 4 * (z : Int)) + 1 + 1), a.2.2.2) : ByteArray × Int × Int × Int)
  have hs3 := set_get (l := (List.set (List.set (List.set (mkR fFl 4 x z k) (Int.toNat (z : Int)) ((mtx (k + 4 * (z : Int)), a.2) : ByteArray × Int × Int × Int)) (Int.toNat (z : Int)) ((mtx (k + 4 * (z : Int)), IntKind.i8.wrap ((k + 4 * (z : Int)) + 1), a.2.2) : ByteArray × Int × Int × Int)) (Int.toNat (z : Int)) ((mtx (k + 4 * (z : Int)), IntKind.i8.wrap ((k + 4 * (z : Int)) + 1), IntKind.i16.wrap ((k + 4 * (z : Int)) + 1 + 1), a.2.2.2) : ByteArray × Int × Int × Int))) (z := z) (by simp only [set_len, hln]; omega) ((mtx (k + 4 * (z : Int)), IntKind.i8.wrap ((k + 4 * (z : Int)) + 1), IntKind.i16.wrap ((k + 4 * (z : Int)) + 1 + 1), IntKind.i16.wrap ((k + 4 * (z : Int)) + 1 + 1 + 1)) : ByteArray × Int × Int × Int)
  refine AW.skip ?_
  refine AX.go ?_
  refine AW.seq ?_
  refine AW.block ?_
  refine sr ?_
  refine st (OpT.alias (H rfl) (by decide) (by decide)) rfl ?_
  refine st (mvT rfl) rfl ?_
  refine st (mvT rfl) rfl ?_
  refine st (OpT.c1 (ms := [.flat]) (c_laws_markText _ (by omega)) (H rfl) (Af (T1 rfl) rfl rfl <| An) rfl rfl) rfl ?_
  refine st (OpT.indexAddrO (H rfl) (Root.ali rfl (by decide) (by decide)) rfl (by decide) (T1 rfl) el24 sz120 (by omega) (by assumption)) rfl ?_
  refine st (OpT.fieldAddrE (H rfl) (T1 rfl) (.inr ⟨_, _, rfl, (by assumption)⟩) (by decide) fd120_0 sz9 (by decide) sb120_0 (by decide)) rfl ?_
  refine sk (OpT.storeO rfl rfl (T1 rfl) rfl (by assumption) sz9 rfl (T1 rfl)) rfl ?_
  refine ng ?_
  refine sr ?_
  refine st (mvT rfl) rfl ?_
  refine st (OpT.add (H rfl) (T1 rfl) (I rfl) (nw (by omega))) rfl ?_
  refine st (asT rfl) rfl ?_
  refine ng ?_
  refine sr ?_
  refine st (OpT.alias (H rfl) (by decide) (by decide)) rfl ?_
  refine st (mvT rfl) rfl ?_
  refine st (mvT rfl) rfl ?_
  refine st (OpT.conv (H rfl) us3 Tryz.underlying111 (T1 rfl) rfl) rfl ?_
  refine st (OpT.indexAddrO (H rfl) (Root.ali rfl (by decide) (by decide)) rfl (by decide) (T1 rfl) el24 sz120 (by omega) (by assumption)) rfl ?_
  refine st (OpT.fieldAddrE (H rfl) (T1 rfl) (.inr ⟨_, _, rfl, (by assumption)⟩) (by decide) fd120_1 sz111 (by decide) sb120_1 (by decide)) rfl ?_
  refine sk (OpT.storeO rfl rfl (T1 rfl) rfl (by assumption) sz111 rfl (T1 rfl)) rfl ?_
  refine ng ?_
  refine sr ?_
  refine st (mvT rfl) rfl ?_
  refine st (OpT.add (H rfl) (T1 rfl) (I rfl) (nw (by omega))) rfl ?_
  refine st (asT rfl) rfl ?_
  refine ng ?_
  refine sr ?_
  refine st (OpT.alias (H rfl) (by decide) (by decide)) rfl ?_
  refine st (mvT rfl) rfl ?_
  refine st (mvT rfl) rfl ?_
  refine st (OpT.conv (H rfl) us3 Tryz.underlying45 (T1 rfl) rfl) rfl ?_
  refine st (OpT.indexAddrO (H rfl) (Root.ali rfl (by decide) (by decide)) rfl (by decide) (T1 rfl) el24 sz120 (by omega) (by assumption)) rfl ?_
  refine st (OpT.fieldAddrE (H rfl) (T1 rfl) (.inr ⟨_, _, rfl, (by assumption)⟩) (by decide) fd120_2 sz45 (by decide) sb120_2 (by decide)) rfl ?_
  refine sk (OpT.storeO rfl rfl (T1 rfl) rfl (by assumption) sz45 rfl (T1 rfl)) rfl ?_
  refine ng ?_
  refine sr ?_
  refine st (mvT rfl) rfl ?_
  refine st (OpT.add (H rfl) (T1 rfl) (I rfl) (nw (by omega))) rfl ?_
  refine st (asT rfl) rfl ?_
  refine ng ?_
  refine sr ?_
  refine st (OpT.alias (H rfl) (by decide) (by decide)) rfl ?_
  refine st (mvT rfl) rfl ?_
  refine st (mvT rfl) rfl ?_
  refine st (OpT.conv (H rfl) us3 Tryz.underlying45 (T1 rfl) rfl) rfl ?_
  refine st (OpT.indexAddrO (H rfl) (Root.ali rfl (by decide) (by decide)) rfl (by decide) (T1 rfl) el24 sz120 (by omega) (by assumption)) rfl ?_
  refine st (OpT.fieldAddrE (H rfl) (T1 rfl) (.inr ⟨_, _, rfl, (by assumption)⟩) (by decide) fd120_3 sz45 (by decide) sb120_3 (by decide)) rfl ?_
  refine sk (OpT.storeO rfl rfl (T1 rfl) rfl (by assumption) sz45 rfl (T1 rfl)) rfl ?_
  refine ng ?_
  refine AW.region ?_
  refine st (mvT rfl) rfl ?_
  refine st (OpT.add (H rfl) (T1 rfl) (I rfl) (nw (by omega))) rfl ?_
  refine st (asT rfl) rfl ?_
  refine nn ?_
  refine AX.normal_block ?_
  refine AX.go ?_
  refine AW.region ?_
  refine st (mvT rfl) rfl ?_
  refine st (OpT.add (H rfl) (T1 rfl) (I rfl) (nw (by omega))) rfl ?_
  refine st (asT rfl) rfl ?_
  refine nn ?_
  exact AX.again (z + 1) (by omega) (by omega) (Kc 0 _ (Ko rfl (by (try simp only [List.set_set]); exact mkR_step (by omega))) <| Kc 1 _ (Kv rfl (by omega)) <| Kc 5 _ (Kv rfl (by omega)) <| Kn)
 ·
  obtain ⟨hc1, hc1'⟩ := pF hc1
  rw [mkR_len hI] at hc1'
  refine AW.exit ?_
  refine xT <| xT <| AX.exit_hit ?_
  refine AX.go ?_
  refine sr ?_
  refine st (mvT rfl) rfl ?_
  refine st (asT rfl) rfl ?_
  refine ng ?_
  refine AW.ret ?_
  exact AX.rt (rs := [.tmp 4]) (ts := [some 4]) (.inl rfl) rfl (ROs.cons (RO.tmp (At.self (by decide)) (Kv rfl (by omega)) rfl) <| ROs.nil) (by decide) (fun i => match i with | 0 => .inr ⟨rfl, Ko rfl (mkR_end (by omega) hI), rfl, by decide⟩ | 1 => .inl rfl | _ + 2 => .inl rfl)

/-- laws.markTallyS -/
theorem c_laws_markTallyS (x : List (Int × Int)) (k : Int) (h : 0 ≤ k ∧ k ≤ 1152921504606846976 ∧ x.length ≤ 115292150460684697) : AC Tryz.prog 38 [.own 127 kShare x, .cel (Kd.int .i64) k] [.cel (Kd.int .i64) (k + 2 * (x.length : Int))] [.own 127 kShare (mkL fTa 2 x.length k), .any] := by
 refine acI (N := 27) Tryz.func38 (Nat.le_of_ble_eq_true rfl) rfl fun w0 hd s0 ar => ?_
 refine AW.to (ko 0 rfl <| kc 1 rfl <| Kn) ?_
 refine sr ?_
 refine st (asI rfl) rfl ?_
 refine ng ?_
 refine AW.seq ?_
 refine sr ?_
 refine st (asI rfl) rfl ?_
 refine ng ?_
 refine AW.block ?_
 refine AW.loop (fun z : Nat => z ≤ x.length) (fun z : Nat => keep [(0, .own 127 kShare (mkR fTa 2 x z k)), (1, .cel (Kd.int .i64) (k + 2 * (z : Int))), (5, .cel (Kd.int .i64) (z : Int))]) (fun z : Nat => x.length - z) (0) (Nat.zero_le _) (Kc 0 _ (Ko rfl mkR_zero) <| Kc 1 _ (Kv rfl (by omega)) <| Kc 5 _ (Kv rfl rfl) <| Kn) ?_
 intro z hI
 refine AW.seq ?_
 refine sr ?_
 refine st (mvT rfl) rfl ?_
 refine st (OpT.alias (H rfl) (by decide) (by decide)) rfl ?_
 refine st (OpT.lenO (H rfl) (Root.ali rfl (by decide) (by decide)) rfl el60) rfl ?_
 refine st (OpT.lss (H rfl) (T1 rfl) (T1 rfl)) rfl ?_
 refine ng ?_
 refine cd rfl (fun hc1 => ?_) fun hc1 => ?_
 ·
  obtain ⟨hc1, hc1'⟩ := pT hc1
  rw [mkR_len hI] at hc1'
  obtain ⟨a, ha⟩ := getI (x := (mkR fTa 2 x z k)) (z := z) (by rw [mkR_len (by omega)]; omega)
  have hln := mkR_len (f := fTa) (w := 2) (x := x) (z := z) (k := k) (by omega)
  have hs0 := set_get (l := (mkR fTa 2 x z k)) (z := z) (by simp only [set_len, hln]; omega) (((k + 2 * (z : Int)), a.2) : Int × Int)
  have hs1 := set_get (l := (List.set (mkR fTa 2 x z k) (Int.toNat (z : Int)) (((k + 2 * (z : Int)), a.2) : Int × Int))) (z := z) (by simp only [set_len, hln]; omega) (((k + 2 * (z : Int)), ((k + 2 * (z : Int)) + 1)) : Int × Int)
  refine AW.skip ?_
  refine AX.go ?_
  refine AW.seq ?_
  refine AW.block ?_
  refine sr ?_
  refine st (OpT.alias (H rfl) (by decide) (by decide)) rfl ?_
  refine st (mvT rfl) rfl ?_
  refine st (mvT rfl) rfl ?_
  refine st (OpT.indexAddrO (H rfl) (Root.ali rfl (by decide) (by decide)) rfl (by decide) (T1 rfl) el60 sz127 (by omega) (by assumption)) rfl ?_
  refine st (OpT.fieldAddrE (H rfl) (T1 rfl) (.inr ⟨_, _, rfl, (by assumption)⟩) (by decide) fd127_0 sz2 (by decide) sb127_0 (by decide)) rfl ?_
  refine sk (OpT.storeO rfl rfl (T1 rfl) rfl (by assumption) sz2 rfl (T1 rfl)) rfl ?_
  refine ng ?_
  refine sr ?_
  refine st (mvT rfl) rfl ?_
  refine st (OpT.add (H rfl) (T1 rfl) (I rfl) (nw (by omega))) rfl ?_
  refine st (asT rfl) rfl ?_
  refine ng ?_
  refine sr ?_
  refine st (OpT.alias (H rfl) (by decide) (by decide)) rfl ?_
  refine st (mvT rfl) rfl ?_
  refine st (mvT rfl) rfl ?_
  refine st (OpT.indexAddrO (H rfl) (Root.ali rfl (by decide) (by decide)) rfl (by decide) (T1 rfl) el60 sz127 (by omega) (by assumption)) rfl ?_
  refine st (OpT.fieldAddrE (H rfl) (T1 rfl) (.inr ⟨_, _, rfl, (by assumption)⟩) (by decide) fd127_1 sz2 (by decide) sb127_1 (by decide)) rfl ?_
  refine sk (OpT.storeO rfl rfl (T1 rfl) rfl (by assumption) sz2 rfl (T1 rfl)) rfl ?_
  refine ng ?_
  refine AW.region ?_
  refine st (mvT rfl) rfl ?_
  refine st (OpT.add (H rfl) (T1 rfl) (I rfl) (nw (by omega))) rfl ?_
  refine st (asT rfl) rfl ?_
  refine nn ?_
  refine AX.normal_block ?_
  refine AX.go ?_
  refine AW.region ?_
  refine st (mvT rfl) rfl ?_
  refine st (OpT.add (H rfl) (T1 rfl) (I rfl) (nw (by omega))) rfl ?_
  refine st (asT rfl) rfl ?_
  refine nn ?_
  exact AX.again (z + 1) (by omega) (by omega) (Kc 0 _ (Ko rfl (by (try simp only [List.set_set]); exact mkR_step (by omega))) <| Kc 1 _ (Kv rfl (by omega)) <| Kc 5 _ (Kv rfl (by omega)) <| Kn)
 ·
  obtain ⟨hc1, hc1'⟩ := pF hc1
  rw [mkR_len hI] at hc1'
  refine AW.exit ?_
  refine xT <| xT <| AX.exit_hit ?_
  refine AX.go ?_
  refine sr ?_
  refine st (mvT rfl) rfl ?_
  refine st (asT rfl) rfl ?_
  refine ng ?_
  refine AW.ret ?_
  exact AX.rt (rs := [.tmp 4]) (ts := [some 4]) (.inl rfl) rfl (ROs.cons (RO.tmp (At.self (by decide)) (Kv rfl (by omega)) rfl) <| ROs.nil) (by decide) (fun i => match i with | 0 => .inr ⟨rfl, Ko rfl (mkR_end (by omega) hI), rfl, by decide⟩ | 1 => .inl rfl | _ + 2 => .inl rfl)

/-- laws.heldTallyS -/
theorem c_laws_heldTallyS (n : Nat) (k : Int) (h : 0 ≤ k ∧ k ≤ 1152921504606846976 ∧ n ≤ 115292150460684697) : AC Tryz.prog 39 [.cel (Kd.slice kShare) (mkL fTa 2 n k), .cel (Kd.int .i64) k] [.cel (Kd.int .i64) (k + 2 * (n : Int))] [] := by
 refine acI (N := 31) Tryz.func39 (Nat.le_of_ble_eq_true rfl) rfl fun w0 hd s0 ar => ?_
 refine AW.to (kc2 0 1 rfl <| Kn) ?_
 refine sr ?_
 refine st (asI rfl) rfl ?_
 refine ng ?_
 refine AW.seq ?_
 refine sr ?_
 refine st (asI rfl) rfl ?_
 refine ng ?_
 refine AW.block ?_
 refine AW.loop (fun z : Nat => z ≤ n) (fun z : Nat => keep [(0, .cel (Kd.slice kShare) (mkL fTa 2 n k)), (1, .cel (Kd.int .i64) (k + 2 * (z : Int))), (5, .cel (Kd.int .i64) (z : Int))]) (fun z : Nat => n - z) (0) (Nat.zero_le _) (Kc 0 _ (Kv rfl rfl) <| Kc 1 _ (Kv rfl (by omega)) <| Kc 5 _ (Kv rfl rfl) <| Kn) ?_
 intro z hI
 refine AW.seq ?_
 refine sr ?_
 refine st (mvT rfl) rfl ?_
 refine st (mvT rfl) rfl ?_
 refine st (OpT.len (H rfl) (T1 rfl) el60) rfl ?_
 refine st (OpT.lss (H rfl) (T1 rfl) (T1 rfl)) rfl ?_
 refine ng ?_
 refine cd rfl (fun hc1 => ?_) fun hc1 => ?_
 ·
  obtain ⟨hc1, hc1'⟩ := pT hc1
  rw [mkL_len] at hc1'
  have hv := mkL_get (f := fTa) (w := 2) (k := k) (n := n) (z := z) (by omega)
  refine AW.skip ?_
  refine AX.go ?_
  refine AW.seq ?_
  refine AW.block ?_
  refine AW.seq ?_
  refine sr ?_
  refine st (mvT rfl) rfl ?_
  refine st (mvT rfl) rfl ?_
  refine st (OpT.indexAddr (H rfl) (T1 rfl) (T1 rfl) el60 sz127 (by omega) (by assumption)) rfl ?_
  refine st (OpT.fieldAddr (H rfl) (T1 rfl) fd127_0 sz2 (by decide) sb127_0) rfl ?_
  refine st (OpT.load (H rfl) (T1 rfl) ag2 rfl) rfl ?_
  refine st (mvT rfl) rfl ?_
  refine st (OpT.neq (H rfl) (T1 rfl) (T1 rfl)) rfl ?_
  refine ng ?_
  refine cd rfl (fun hc2 => ?_) fun hc2 => ?_
  ·
   obtain ⟨hc2, hc2'⟩ := pT hc2
   exact (show False from (hc2' rfl)).elim
  ·
   obtain ⟨hc2, hc2'⟩ := pF hc2
   refine AW.skip ?_
   refine AX.go ?_
   refine sr ?_
   refine st (mvT rfl) rfl ?_
   refine st (OpT.add (H rfl) (T1 rfl) (I rfl) (nw (by omega))) rfl ?_
   refine st (asT rfl) rfl ?_
   refine ng ?_
   refine AW.seq ?_
   refine sr ?_
   refine st (mvT rfl) rfl ?_
   refine st (mvT rfl) rfl ?_
   refine st (OpT.indexAddr (H rfl) (T1 rfl) (T1 rfl) el60 sz127 (by omega) (by assumption)) rfl ?_
   refine st (OpT.fieldAddr (H rfl) (T1 rfl) fd127_1 sz2 (by decide) sb127_1) rfl ?_
   refine st (OpT.load (H rfl) (T1 rfl) ag2 rfl) rfl ?_
   refine st (mvT rfl) rfl ?_
   refine st (OpT.neq (H rfl) (T1 rfl) (T1 rfl)) rfl ?_
   refine ng ?_
   refine cd rfl (fun hc3 => ?_) fun hc3 => ?_
   ·
    obtain ⟨hc3, hc3'⟩ := pT hc3
    exact (show False from (hc3' rfl)).elim
   ·
    obtain ⟨hc3, hc3'⟩ := pF hc3
    refine AW.skip ?_
    refine AX.go ?_
    refine AW.region ?_
    refine st (mvT rfl) rfl ?_
    refine st (OpT.add (H rfl) (T1 rfl) (I rfl) (nw (by omega))) rfl ?_
    refine st (asT rfl) rfl ?_
    refine nn ?_
    refine AX.normal_block ?_
    refine AX.go ?_
    refine AW.region ?_
    refine st (mvT rfl) rfl ?_
    refine st (OpT.add (H rfl) (T1 rfl) (I rfl) (nw (by omega))) rfl ?_
    refine st (asT rfl) rfl ?_
    refine nn ?_
    exact AX.again (z + 1) (by omega) (by omega) (Kc 0 _ (Kv rfl rfl) <| Kc 1 _ (Kv rfl (by omega)) <| Kc 5 _ (Kv rfl (by omega)) <| Kn)
 ·
  obtain ⟨hc1, hc1'⟩ := pF hc1
  rw [mkL_len] at hc1'
  refine AW.exit ?_
  refine xT <| xT <| AX.exit_hit ?_
  refine AX.go ?_
  refine sr ?_
  refine st (mvT rfl) rfl ?_
  refine st (asT rfl) rfl ?_
  refine ng ?_
  refine AW.ret ?_
  exact rt1 rfl (.inl rfl) (by omega)

set_option maxHeartbeats 4000000 in
/-- laws.FnExactTallyOf -/
theorem c_laws_FnExactTallyOf (s : List DField) (x : List DCard) (i : Int) : AC Tryz.prog 4 [.cel (Kd.slice kField) s, .cel (Kd.slice kCard) x, .cel (Kd.int .i64) i] [.cel Kd.bool true] [] := by
 refine acI (N := 124) Tryz.func4 (Nat.le_of_ble_eq_true rfl) rfl fun w0 hd s0 ar => ?_
 refine AW.to (kc3 0 1 2 rfl <| Kn) ?_
 have htl := tlyS_len s x i
 refine sr ?_
 refine st (asB rfl) rfl ?_
 refine ng ?_
 refine sr ?_
 refine st (asI rfl) rfl ?_
 refine ng ?_
 refine sr ?_
 refine st (mvT rfl) rfl ?_
 refine st (mvT rfl) rfl ?_
 refine st (OpT.c1 (ms := [.flat, .flat]) (c_laws_szFieldS _ _ (by omega)) (H rfl) (Af (T1 rfl) rfl rfl <| Af (T1 rfl) rfl rfl <| An) rfl rfl) rfl ?_
 refine st (asT rfl) rfl ?_
 refine ng ?_
 refine AW.seq ?_
 refine sr ?_
 refine st (mvT rfl) rfl ?_
 refine st (OpT.lss (H rfl) (T1 rfl) (I rfl)) rfl ?_
 refine ng ?_
 refine cd rfl (fun hc1 => ?_) fun hc1 => ?_
 ·
  replace hc1 := oT hc1
  refine sr ?_
  refine st (asB rfl) rfl ?_
  refine ng ?_
  refine AW.ret ?_
  refine rT ?_
  exact rt1 rfl (.inl rfl) rfl
 ·
  replace hc1 := oF hc1
  have f0 := okSz_list okSzF s 1048576 (by omega)
  have f1 := f0.2.2 (by omega)
  refine AW.skip ?_
  refine AX.go ?_
  refine sr ?_
  refine st (mvT rfl) rfl ?_
  refine st (mvT rfl) rfl ?_
  refine st (OpT.c1 (ms := [.flat, .flat]) (c_laws_szCardS _ _ (by omega)) (H rfl) (Af (T1 rfl) rfl rfl <| Af (T1 rfl) rfl rfl <| An) rfl rfl) rfl ?_
  refine st (asT rfl) rfl ?_
  refine ng ?_
  refine AW.seq ?_
  refine sr ?_
  refine st (mvT rfl) rfl ?_
  refine st (OpT.lss (H rfl) (T1 rfl) (I rfl)) rfl ?_
  refine AWl.to (kc4 28 6 0 1 rfl <| kc 2 rfl <| Kn) ?_
  refine ng ?_
  refine cd rfl (fun hc2 => ?_) fun hc2 => ?_
  ·
   replace hc2 := oT hc2
   refine sr ?_
   refine st (asB rfl) rfl ?_
   refine ng ?_
   refine AW.ret ?_
   refine rT ?_
   exact rt1 rfl (.inl rfl) rfl
  ·
   replace hc2 := oF hc2
   have k0 := okSz_list okSzC x (szSS szF s 1048576) (by omega)
   have k1 := k0.2.2 (by omega)
   refine AW.skip ?_
   refine AX.go ?_
   refine sr ?_
   refine st (mvT rfl) rfl ?_
   refine st (OpT.c1 (ms := [.flat]) (c_laws_toFieldS s (by omega)) (H rfl) (Af (T1 rfl) rfl rfl <| An) rfl rfl) rfl ?_
   refine st (mvT rfl) rfl ?_
   refine st (OpT.c1 (ms := [.flat]) (c_laws_toCardS x (by omega)) (H rfl) (Af (T1 rfl) rfl rfl <| An) rfl rfl) rfl ?_
   refine st (mvT rfl) rfl ?_
   refine s2 (OpT.c2 (ms := [.flat, .flat, .flat]) (c_spec_TallyOf _ _ _) (H rfl) (Af (T1 rfl) rfl rfl <| Af (T1 rfl) rfl rfl <| Af (T1 rfl) rfl rfl <| An) rfl rfl rfl) rfl ?_
   refine st (OpT.alias (H rfl) (by decide) (by decide)) rfl ?_
   refine st (OpT.extractV (m := 10035) (H rfl) rfl rfl rfl rfl rfl rfl rfl) rfl ?_
   refine st (OpT.extractV (m := 20035) (H rfl) rfl rfl rfl rfl rfl rfl rfl) rfl ?_
   refine st (asT rfl) rfl ?_
   refine st (asT rfl) rfl ?_
   refine AWl.to (kc4 9 8 6 0 rfl <| kc2 1 2 rfl <| Kn) ?_
   refine ng ?_
   refine sr ?_
   refine st (mvT rfl) rfl ?_
   refine st (OpT.c1 (ms := [.flat]) (c_laws_toFieldS_o s (by omega)) (H rfl) (Af (T1 rfl) rfl rfl <| An) rfl rfl) rfl ?_
   refine sg (OpT.take (.inl rfl) rfl (ok' rfl) (Root.self (by decide)) rfl rfl (by decide)) (ko 10 rfl <| kc4 38 9 8 6 rfl <| kc3 0 1 2 rfl <| Kn) rfl ?_
   refine ng ?_
   refine sr ?_
   refine st (mvT rfl) rfl ?_
   refine st (OpT.c1 (ms := [.flat]) (c_laws_toCardS_o x (by omega)) (H rfl) (Af (T1 rfl) rfl rfl <| An) rfl rfl) rfl ?_
   refine sg (OpT.take (.inl rfl) rfl (ok' rfl) (Root.self (by decide)) rfl rfl (by decide)) (ko 11 rfl <| kc 40 rfl <| ko 10 rfl <| kc4 38 9 8 6 rfl <| kc3 0 1 2 rfl <| Kn) rfl ?_
   refine ng ?_
   refine sr ?_
   refine st (OpT.alias (H rfl) (by decide) (by decide)) rfl ?_
   refine st (OpT.alias (H rfl) (by decide) (by decide)) rfl ?_
   refine st (mvT rfl) rfl ?_
   refine s2 (cb2 (ms := [.bor 10, .bor 11, .flat]) (c_impl_TallyOf_o _ _ _) (H rfl) (Ab (Root.ali rfl (by decide) (by decide)) rfl <| Ab (Root.ali rfl (by decide) (by decide)) rfl <| Af (T1 rfl) rfl rfl <| An) rfl (indO fun _ _ _ _ h => h) (indC fun _ _ _ _ h => h)) rfl ?_
   refine st (OpT.alias (H rfl) (by decide) (by decide)) rfl ?_
   refine sg (OpT.extractVO (m := 10046) (H rfl) rfl rfl rfl rfl rfl rfl) (ko 47 rfl <| Kc 42 (.ali _) rfl <| kc2 20046 45 rfl <| Kc 44 (.ali _) rfl <| Kc 43 (.ali _) rfl <| ko 11 rfl <| kc 40 rfl <| ko 10 rfl <| kc4 38 9 8 6 rfl <| kc3 0 1 2 rfl <| Kn) rfl ?_
   refine st (OpT.extractV (m := 20046) (H rfl) rfl rfl rfl rfl rfl rfl rfl) rfl ?_
   refine sg (OpT.take (.inl rfl) rfl (ok' rfl) (Root.self (by decide)) rfl rfl (by decide)) (ko 12 rfl <| kc 48 rfl <| Kc 42 (.ali _) rfl <| kc2 20046 45 rfl <| Kc 44 (.ali _) rfl <| Kc 43 (.ali _) rfl <| ko 11 rfl <| kc 40 rfl <| ko 10 rfl <| kc4 38 9 8 6 rfl <| kc3 0 1 2 rfl <| Kn) rfl ?_
   refine st (asT rfl) rfl ?_
   refine ng ?_
   refine AW.seq ?_
   refine sr ?_
   refine st (OpT.alias (H rfl) (by decide) (by decide)) rfl ?_
   refine st (mvT rfl) rfl ?_
   refine st (cb1 (ms := [.bor 12, .flat]) (c_laws_eqTallyS _ _) (H rfl) (Ab (Root.ali rfl (by decide) (by decide)) rfl <| Af (T1 rfl) rfl rfl <| An) rfl (indC fun _ _ _ _ h => h)) rfl ?_
   refine st (OpT.not (H rfl) (T1 rfl)) rfl ?_
   refine st (mvT rfl) rfl ?_
   apply AWl.or (d := 57) (t := 53) rfl
   ·
    intro hb1 Q1 k1
    refine rs hb1 (mvT rfl) rfl ?_
    refine rs hb1 (mvT rfl) rfl ?_
    refine rs hb1 (OpT.neq (H rfl) (T1 rfl) (T1 rfl)) rfl ?_
    refine st (OpT.pickF (A := .cel _ _) (H rfl) (T1 rfl) hb1 (T1 rfl) rfl) rfl ?_
    exact AWl.to (junk 3 rfl) k1
   ·
    intro hb1 Q1 k1
    refine ps hb1 rfl ?_
    refine ps hb1 rfl ?_
    refine ps hb1 rfl ?_
    refine st (OpT.pickT (A := .cel _ _) (H rfl) (T1 rfl) hb1 Opd.bool rfl) rfl ?_
    exact k1
   refine AWl.to (kc2 57 13 rfl <| ko 12 rfl <| ko 11 rfl <| ko 10 rfl <| kc4 9 8 6 0 rfl <| kc2 1 2 rfl <| Kn) ?_
   refine ng ?_
   refine cd rfl (fun hc3 => ?_) fun hc3 => ?_
   ·
    replace hc3 := oT hc3
    exact (show False from (by first | omega | (simp [eqv_self] at hc3 <;> omega))).elim
   ·
    replace hc3 := oF hc3
    refine AW.skip ?_
    refine AX.go ?_
    refine AW.seq ?_
    refine sr ?_
    refine st (OpT.alias (H rfl) (by decide) (by decide)) rfl ?_
    refine st (mvT rfl) rfl ?_
    refine st (OpT.c1 (ms := [.flat]) (c_laws_toFieldS s (by omega)) (H rfl) (Af (T1 rfl) rfl rfl <| An) rfl rfl) rfl ?_
    refine st (cb1 (ms := [.bor 10, .flat]) (c_laws_eqFieldS _ _) (H rfl) (Ab (Root.ali rfl (by decide) (by decide)) rfl <| Af (T1 rfl) rfl rfl <| An) rfl (indC fun _ _ _ _ h => h)) rfl ?_
    refine st (OpT.not (H rfl) (T1 rfl)) rfl ?_
    refine ng ?_
    refine cd rfl (fun hc4 => ?_) fun hc4 => ?_
    ·
     replace hc4 := oT hc4
     exact (show False from (by first | omega | (simp [eqv_self] at hc4 <;> omega))).elim
    ·
     replace hc4 := oF hc4
     refine AW.skip ?_
     refine AX.go ?_
     refine AW.seq ?_
     refine sr ?_
     refine st (OpT.alias (H rfl) (by decide) (by decide)) rfl ?_
     refine st (mvT rfl) rfl ?_
     refine st (OpT.c1 (ms := [.flat]) (c_laws_toCardS x (by omega)) (H rfl) (Af (T1 rfl) rfl rfl <| An) rfl rfl) rfl ?_
     refine st (cb1 (ms := [.bor 11, .flat]) (c_laws_eqCardS _ _) (H rfl) (Ab (Root.ali rfl (by decide) (by decide)) rfl <| Af (T1 rfl) rfl rfl <| An) rfl (indC fun _ _ _ _ h => h)) rfl ?_
     refine st (OpT.not (H rfl) (T1 rfl)) rfl ?_
     refine ng ?_
     refine cd rfl (fun hc5 => ?_) fun hc5 => ?_
     ·
      replace hc5 := oT hc5
      exact (show False from (by first | omega | (simp [eqv_self] at hc5 <;> omega))).elim
     ·
      replace hc5 := oF hc5
      refine AW.skip ?_
      refine AX.pr (kc 13 rfl <| ko 12 rfl <| ko 11 rfl <| ko 10 rfl <| kc4 9 8 6 0 rfl <| kc2 1 2 rfl <| Kn) ?_
      refine AX.go ?_
      refine sr ?_
      refine st (asI rfl) rfl ?_
      refine ng ?_
      refine sr ?_
      refine st (OpT.alias (H rfl) (by decide) (by decide)) rfl ?_
      refine st (mvT rfl) rfl ?_
      refine sg (OpT.cr (ms := [.root 10, .flat]) (c_laws_markFieldS _ _ (by omega)) (H rfl) (Ar (Root.ali rfl (by decide) (by decide)) rfl rfl rfl <| Af (T1 rfl) rfl rfl <| An) rfl (.inl rfl) rfl) (kc2 70 69 rfl <| Kc 68 (.ali _) rfl <| kc2 14 13 rfl <| ko 12 rfl <| ko 11 rfl <| ko 10 rfl <| kc4 9 8 6 0 rfl <| kc2 1 2 rfl <| Kn) rfl ?_
      refine st (asT rfl) rfl ?_
      refine ng ?_
      refine sr ?_
      refine st (OpT.alias (H rfl) (by decide) (by decide)) rfl ?_
      refine st (mvT rfl) rfl ?_
      refine sg (OpT.cr (ms := [.root 11, .flat]) (c_laws_markCardS _ _ (by omega)) (H rfl) (Ar (Root.ali rfl (by decide) (by decide)) rfl rfl rfl <| Af (T1 rfl) rfl rfl <| An) rfl (.inl rfl) rfl) (kc2 73 72 rfl <| Kc 71 (.ali _) rfl <| kc3 14 70 69 rfl <| Kc 68 (.ali _) rfl <| kc 13 rfl <| ko 12 rfl <| ko 11 rfl <| ko 10 rfl <| kc4 9 8 6 0 rfl <| kc2 1 2 rfl <| Kn) rfl ?_
      refine st (asT rfl) rfl ?_
      refine ng ?_
      refine AW.seq ?_
      refine sr ?_
      refine st (mvT rfl) rfl ?_
      refine st (OpT.lss (H rfl) (T1 rfl) (I rfl)) rfl ?_
      refine st (mvT rfl) rfl ?_
      apply AWl.or (d := 81) (t := 76) rfl
      ·
       intro hb2 Q1 k1
       refine rs hb2 (OpT.alias (H rfl) (by decide) (by decide)) rfl ?_
       refine rs hb2 (mvT rfl) rfl ?_
       refine rs hb2 (cb1 (ms := [.bor 12, .flat]) (c_laws_eqTallyS _ _) (H rfl) (Ab (Root.ali rfl (by decide) (by decide)) rfl <| Af (T1 rfl) rfl rfl <| An) rfl (indC fun _ _ _ _ h => h)) rfl ?_
       refine rs hb2 (OpT.not (H rfl) (T1 rfl)) rfl ?_
       refine st (OpT.pickF (A := .cel _ _) (H rfl) (T1 rfl) hb2 (T1 rfl) rfl) rfl ?_
       exact AWl.to (junk 4 rfl) k1
      ·
       intro hb2 Q1 k1
       refine ps hb2 rfl ?_
       refine ps hb2 rfl ?_
       refine ps hb2 rfl ?_
       refine ps hb2 rfl ?_
       refine st (OpT.pickT (A := .cel _ _) (H rfl) (T1 rfl) hb2 Opd.bool rfl) rfl ?_
       exact k1
      refine st (mvT rfl) rfl ?_
      apply AWl.or (d := 86) (t := 82) rfl
      ·
       intro hb3 Q1 k1
       refine rs hb3 (mvT rfl) rfl ?_
       refine rs hb3 (mvT rfl) rfl ?_
       refine rs hb3 (OpT.neq (H rfl) (T1 rfl) (T1 rfl)) rfl ?_
       refine st (OpT.pickF (A := .cel _ _) (H rfl) (T1 rfl) hb3 (T1 rfl) rfl) rfl ?_
       exact AWl.to (junk 3 rfl) k1
      ·
       intro hb3 Q1 k1
       refine ps hb3 rfl ?_
       refine ps hb3 rfl ?_
       refine ps hb3 rfl ?_
       refine st (OpT.pickT (A := .cel _ _) (H rfl) (T1 rfl) hb3 Opd.bool rfl) rfl ?_
       exact k1
      refine AWl.to (kc 86 rfl <| ko 12 rfl <| kc4 9 8 6 0 rfl <| kc2 1 2 rfl <| Kn) ?_
      refine ng ?_
      refine cd rfl (fun hc6 => ?_) fun hc6 => ?_
      ·
       replace hc6 := oT hc6
       exact (show False from (by first | omega | (simp [eqv_self] at hc6 <;> omega))).elim
      ·
       replace hc6 := oF hc6
       refine AW.skip ?_
       refine AX.go ?_
       refine sr ?_
       refine st (asI rfl) rfl ?_
       refine ng ?_
       refine sr ?_
       refine st (OpT.alias (H rfl) (by decide) (by decide)) rfl ?_
       refine st (mvT rfl) rfl ?_
       refine sg (OpT.cr (ms := [.root 12, .flat]) (c_laws_markTallyS _ _ (by omega)) (H rfl) (Ar (Root.ali rfl (by decide) (by decide)) rfl rfl rfl <| Af (T1 rfl) rfl rfl <| An) rfl (.inl rfl) rfl) (kc2 89 88 rfl <| Kc 87 (.ali _) rfl <| kc2 15 86 rfl <| ko 12 rfl <| kc4 9 8 6 0 rfl <| kc2 1 2 rfl <| Kn) rfl ?_
       refine st (asT rfl) rfl ?_
       refine ng ?_
       refine sr ?_
       refine st (asI rfl) rfl ?_
       refine ng ?_
       refine sr ?_
       refine st (OpT.alias (H rfl) (by decide) (by decide)) rfl ?_
       refine st (mvT rfl) rfl ?_
       refine st (cb1 (ms := [.bor 12, .flat]) (c_laws_heldTallyS (tlyS s x i).1.length _ (by omega)) (H rfl) (Ab (Root.ali rfl (by decide) (by decide)) rfl <| Af (T1 rfl) rfl rfl <| An) rfl (indC fun _ _ _ _ h => h)) rfl ?_
       refine st (asT rfl) rfl ?_
       refine ng ?_
       refine AW.seq ?_
       refine sr ?_
       refine st (mvT rfl) rfl ?_
       refine st (OpT.lss (H rfl) (T1 rfl) (I rfl)) rfl ?_
       refine ng ?_
       refine cd rfl (fun hc7 => ?_) fun hc7 => ?_
       ·
        replace hc7 := oT hc7
        exact (show False from (by first | omega | (simp [eqv_self] at hc7 <;> omega))).elim
       ·
        replace hc7 := oF hc7
        refine AW.skip ?_
        refine AX.pr (kc2 16 15 rfl <| ko 12 rfl <| kc4 9 8 6 0 rfl <| kc2 1 2 rfl <| Kn) ?_
        refine AX.go ?_
        refine AW.seq ?_
        refine sr ?_
        refine st (mvT rfl) rfl ?_
        refine st (mvT rfl) rfl ?_
        refine st (OpT.neq (H rfl) (T1 rfl) (T1 rfl)) rfl ?_
        refine ng ?_
        refine cd rfl (fun hc8 => ?_) fun hc8 => ?_
        ·
         replace hc8 := oT hc8
         exact (show False from (by first | omega | (simp [eqv_self] at hc8 <;> omega))).elim
        ·
         replace hc8 := oF hc8
         refine AW.skip ?_
         refine AX.go ?_
         refine sr ?_
         refine st (mvT rfl) rfl ?_
         refine st (OpT.c1 (ms := [.flat]) (c_laws_toFieldS s (by omega)) (H rfl) (Af (T1 rfl) rfl rfl <| An) rfl rfl) rfl ?_
         refine st (mvT rfl) rfl ?_
         refine st (OpT.c1 (ms := [.flat]) (c_laws_toCardS x (by omega)) (H rfl) (Af (T1 rfl) rfl rfl <| An) rfl rfl) rfl ?_
         refine st (mvT rfl) rfl ?_
         refine s2 (OpT.c2 (ms := [.flat, .flat, .flat]) (c_impl_TallyOf_o _ _ _) (H rfl) (Af (T1 rfl) rfl rfl <| Af (T1 rfl) rfl rfl <| Af (T1 rfl) rfl rfl <| An) rfl rfl rfl) rfl ?_
         refine st (OpT.alias (H rfl) (by decide) (by decide)) rfl ?_
         refine sg (OpT.extractVO (m := 10104) (H rfl) rfl rfl rfl rfl rfl rfl) (ko 105 rfl <| Kc 98 (.ali _) rfl <| kc4 20104 103 102 101 rfl <| kc4 100 99 97 96 rfl <| kc3 95 16 15 rfl <| ko 12 rfl <| kc4 9 8 6 0 rfl <| kc2 1 2 rfl <| Kn) rfl ?_
         refine st (OpT.extractV (m := 20104) (H rfl) rfl rfl rfl rfl rfl rfl rfl) rfl ?_
         refine sg (OpT.take (.inl rfl) rfl (ok' rfl) (Root.self (by decide)) rfl rfl (by decide)) (ko 17 rfl <| kc 106 rfl <| Kc 98 (.ali _) rfl <| kc4 20104 103 102 101 rfl <| kc4 100 99 97 96 rfl <| kc3 95 16 15 rfl <| ko 12 rfl <| kc4 9 8 6 0 rfl <| kc2 1 2 rfl <| Kn) rfl ?_
         refine st (asT rfl) rfl ?_
         refine AWl.to (kc 18 rfl <| ko 17 rfl <| kc2 16 15 rfl <| ko 12 rfl <| kc3 9 8 6 rfl <| Kn) ?_
         refine ng ?_
         refine AW.seq ?_
         refine sr ?_
         refine st (OpT.alias (H rfl) (by decide) (by decide)) rfl ?_
         refine st (mvT rfl) rfl ?_
         refine st (cb1 (ms := [.bor 17, .flat]) (c_laws_eqTallyS _ _) (H rfl) (Ab (Root.ali rfl (by decide) (by decide)) rfl <| Af (T1 rfl) rfl rfl <| An) rfl (indC fun _ _ _ _ h => h)) rfl ?_
         refine st (OpT.not (H rfl) (T1 rfl)) rfl ?_
         refine st (mvT rfl) rfl ?_
         apply AWl.or (d := 115) (t := 111) rfl
         ·
          intro hb4 Q1 k1
          refine rs hb4 (mvT rfl) rfl ?_
          refine rs hb4 (mvT rfl) rfl ?_
          refine rs hb4 (OpT.neq (H rfl) (T1 rfl) (T1 rfl)) rfl ?_
          refine st (OpT.pickF (A := .cel _ _) (H rfl) (T1 rfl) hb4 (T1 rfl) rfl) rfl ?_
          exact AWl.to (junk 3 rfl) k1
         ·
          intro hb4 Q1 k1
          refine ps hb4 rfl ?_
          refine ps hb4 rfl ?_
          refine ps hb4 rfl ?_
          refine st (OpT.pickT (A := .cel _ _) (H rfl) (T1 rfl) hb4 Opd.bool rfl) rfl ?_
          exact k1
         refine ng ?_
         refine cd rfl (fun hc9 => ?_) fun hc9 => ?_
         ·
          replace hc9 := oT hc9
          exact (show False from (by first | omega | (simp [eqv_self] at hc9 <;> omega))).elim
         ·
          replace hc9 := oF hc9
          refine AW.skip ?_
          refine AX.go ?_
          refine sr ?_
          refine st (asI rfl) rfl ?_
          refine AWl.to (kc2 16 15 rfl <| ko 12 rfl <| kc 6 rfl <| Kn) ?_
          refine ng ?_
          refine sr ?_
          refine st (OpT.alias (H rfl) (by decide) (by decide)) rfl ?_
          refine st (mvT rfl) rfl ?_
          refine st (cb1 (ms := [.bor 12, .flat]) (c_laws_heldTallyS (tlyS s x i).1.length _ (by omega)) (H rfl) (Ab (Root.ali rfl (by decide) (by decide)) rfl <| Af (T1 rfl) rfl rfl <| An) rfl (indC fun _ _ _ _ h => h)) rfl ?_
          refine st (asT rfl) rfl ?_
          refine ng ?_
          refine AW.seq ?_
          refine sr ?_
          refine st (mvT rfl) rfl ?_
          refine st (OpT.lss (H rfl) (T1 rfl) (I rfl)) rfl ?_
          refine ng ?_
          refine cd rfl (fun hc10 => ?_) fun hc10 => ?_
          ·
           replace hc10 := oT hc10
           exact (show False from (by first | omega | (simp [eqv_self] at hc10 <;> omega))).elim
          ·
           replace hc10 := oF hc10
           refine AW.skip ?_
           refine AX.go ?_
           refine AW.seq ?_
           refine sr ?_
           refine st (mvT rfl) rfl ?_
           refine st (mvT rfl) rfl ?_
           refine st (OpT.neq (H rfl) (T1 rfl) (T1 rfl)) rfl ?_
           refine AWl.to (kc2 123 6 rfl <| Kn) ?_
           refine ng ?_
           refine cd rfl (fun hc11 => ?_) fun hc11 => ?_
           ·
            replace hc11 := oT hc11
            exact (show False from (by first | omega | (simp [eqv_self] at hc11 <;> omega))).elim
           ·
            replace hc11 := oF hc11
            refine AW.skip ?_
            refine AX.go ?_
            refine sr ?_
            refine st (asB rfl) rfl ?_
            refine ng ?_
            refine AW.ret ?_
            exact rt1 rfl (.inl rfl) rfl

end Go.Proofs.YtohcpnobmknglaaGreatDoor.VL
