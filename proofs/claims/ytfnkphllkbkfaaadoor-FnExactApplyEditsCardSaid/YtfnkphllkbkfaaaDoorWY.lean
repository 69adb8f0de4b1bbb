/- Proved here: what some functions of the program take and give: walks with the words of VA..VQ. Printed by program. -/
import Derived.Test.YtfnkphllkbkfaaaDoorWT
import Derived.Test.YtfnkphllkbkfaaaDoorPQ
import Derived.Test.YtfnkphllkbkfaaaDoorPR
import Derived.Test.YtfnkphllkbkfaaaDoorWX
import Derived.Test.YtfnkphllkbkfaaaDoorWD
import Derived.Test.YtfnkphllkbkfaaaDoorWM
import Derived.Test.YtfnkphllkbkfaaaDoorWL
set_option linter.unusedVariables false
set_option linter.unusedSimpArgs false
set_option maxRecDepth 4000
namespace Go.Proofs.YtfnkphllkbkfaaaDoor.VL
open Go
/-- impl.Edit] -/
theorem c_slices_IndexFunc_impl_Edit_impl_Edit {γ : Type} {g : FuncId} {kg : Kd γ} {y : γ} {cs : List As} (q : (Int × ByteArray × Int × (BitVec 64 × BitVec 64)) → Bool) (hcs : CloArgs kg y cs) (hg : ∀ a, AC Tryd.prog g ([.agg kEdit a] ++ cs) [.cel Kd.bool (q a)] []) (x : List (Int × ByteArray × Int × (BitVec 64 × BitVec 64))) : AC Tryd.prog 154 [.cel (Kd.slice kEdit) x, .clo g kg y] [.cel (Kd.int .i64) (idxQ q x)] [] := by
 refine acI (N := 19) Tryd.func154 (Nat.le_of_ble_eq_true rfl) rfl fun w0 hd s0 ar => ?_
 refine AW.to (kc 0 rfl <| Kc 1 (.clo _ _ _) rfl <| Kn) ?_
 refine AW.fact (fun a w hr => (ok_slice (R_ok (t := 0) rfl hr)).2) (fun hl0 => ?_)
 refine sr ?_
 refine st (asI rfl) rfl ?_
 refine ng ?_
 refine AW.seq ?_
 refine sr ?_
 refine st (mvT rfl) rfl ?_
 refine st (OpT.len (H rfl) (T1 rfl) el24) rfl ?_
 refine st (mvI rfl) rfl ?_
 refine ng ?_
 refine AW.block ?_
 refine AW.loop (fun z : Nat => z ≤ x.length ∧ ∀ i, i < z → nI q x i) (fun z : Nat => keep [(0, .cel (Kd.slice kEdit) x), (1, .clo g kg y), (7, .cel (Kd.int .i64) ((x.length : Nat) : Int)), (8, .cel (Kd.int .i64) (z : Int))]) (fun z : Nat => x.length - z) (0) ⟨Nat.zero_le _, all_none⟩ (Kc 0 _ (Kv rfl rfl) <| Kc 1 _ (rfl) <| Kc 7 _ (Kv rfl rfl) <| Kc 8 _ (Kv rfl rfl) <| Kn) ?_
 intro z hI
 refine sr ?_
 refine st (OpT.lss (H rfl) (T1 rfl) (T1 rfl)) rfl ?_
 refine ng ?_
 refine AW.seq ?_
 refine cd rfl (fun hc1 => ?_) fun hc1 => ?_
 ·
  replace hc1 := oT hc1
  obtain ⟨a, ha⟩ := getI (x := x) (z := z) (by omega)
  refine AW.skip ?_
  refine AX.go ?_
  refine AW.seq ?_
  refine AW.block ?_
  refine sr ?_
  refine st (mvT rfl) rfl ?_
  refine st (asT rfl) rfl ?_
  refine ng ?_
  refine sr ?_
  refine st (OpT.move (A := .clo _ _ _) (.inl rfl) rfl (ok' rfl) (T1 rfl) rfl) rfl ?_
  refine st (mvT rfl) rfl ?_
  refine st (mvT rfl) rfl ?_
  refine st (OpT.indexAddr (H rfl) (T1 rfl) (T1 rfl) el24 sz57 (by omega) (by assumption)) rfl ?_
  refine st (OpT.loadA (H rfl) (T1 rfl) ag57 sz57) rfl ?_
  refine st (OpT.vg (ms := [.flat]) (T1 rfl) hcs ((hg _)) (H rfl) (Af (T1 rfl) rfl rfl <| An) rfl rfl) rfl ?_
  refine ng ?_
  refine cd rfl (fun hc2 => ?_) fun hc2 => ?_
  ·
   replace hc2 := oT hc2
   refine sr ?_
   refine st (mvT rfl) rfl ?_
   refine st (asT rfl) rfl ?_
   refine ng ?_
   refine AW.ret ?_
   refine rK <| rT <| rT <| rK <| rT ?_
   exact rt1 rfl (.inl rfl) (by first | exact idxQ_at hI.2 ha hc2 | exact idxQ_end hI.2 (by omega))
  ·
   replace hc2 := oF hc2
   refine AW.skip ?_
   refine AX.normal_block ?_
   refine AX.go ?_
   refine AW.region ?_
   refine st (OpT.add (H rfl) (T1 rfl) (I rfl) (nw (by omega))) rfl ?_
   refine st (mvT rfl) rfl ?_
   refine nn ?_
   exact AX.again (z + 1) ⟨by omega, all_step hI.2 ((nI_iff ha).2 (by simpa using hc2))⟩ (by omega) (Kc 0 _ (Kv rfl rfl) <| Kc 1 _ (rfl) <| Kc 7 _ (Kv rfl rfl) <| Kc 8 _ (Kv rfl (by omega)) <| Kn)
 ·
  replace hc1 := oF hc1
  refine AW.exit ?_
  refine xT <| xT <| AX.exit_hit ?_
  refine AX.go ?_
  refine sr ?_
  refine st (asI rfl) rfl ?_
  refine ng ?_
  refine AW.ret ?_
  exact rt1 rfl (.inl rfl) (by first | exact idxQ_at hI.2 ha hc2 | exact idxQ_end hI.2 (by omega))

/-- impl.Edit] -/
theorem c_slices_ContainsFunc_impl_Edit_impl_Edit {γ : Type} {g : FuncId} {kg : Kd γ} {y : γ} {cs : List As} (q : (Int × ByteArray × Int × (BitVec 64 × BitVec 64)) → Bool) (hcs : CloArgs kg y cs) (hg : ∀ a, AC Tryd.prog g ([.agg kEdit a] ++ cs) [.cel Kd.bool (q a)] []) (x : List (Int × ByteArray × Int × (BitVec 64 × BitVec 64))) : AC Tryd.prog 103 [.cel (Kd.slice kEdit) x, .clo g kg y] [.cel Kd.bool (x.any q)] [] := by
 refine acI (N := 9) Tryd.func103 (Nat.le_of_ble_eq_true rfl) rfl fun w0 hd s0 ar => ?_
 refine AW.to (kc 0 rfl <| Kc 1 (.clo _ _ _) rfl <| Kn) ?_
 refine sr ?_
 refine st (asB rfl) rfl ?_
 refine ng ?_
 refine sr ?_
 refine st (mvT rfl) rfl ?_
 refine st (OpT.move (A := .clo _ _ _) (.inl rfl) rfl (ok' rfl) (T1 rfl) rfl) rfl ?_
 refine st (OpT.c1 (ms := [.flat, .flat]) (c_slices_IndexFunc_impl_Edit_impl_Edit q hcs hg x) (H rfl) (Af (T1 rfl) rfl rfl <| Af (T1 rfl) rfl rfl <| An) rfl rfl) rfl ?_
 refine st (OpT.geq (H rfl) (T1 rfl) (I rfl)) rfl ?_
 refine st (asT rfl) rfl ?_
 refine ng ?_
 refine AW.ret ?_
 exact rt1 rfl (.inl rfl) idxQ_any

/-- laws.szEditS -/
theorem c_laws_szEditS (x : List (Int × ByteArray × Int × (BitVec 64 × BitVec 64))) (l : Int) (hl : 0 ≤ l ∧ l ≤ 1048576) : AC Tryd.prog 13 [.cel (Kd.slice kEdit) x, .cel (Kd.int .i64) l] [.cel (Kd.int .i64) (szSS szE x l)] [] := by
 refine acI (N := 27) Tryd.func13 (Nat.le_of_ble_eq_true rfl) rfl fun w0 hd s0 ar => ?_
 refine AW.to (kc2 0 1 rfl <| Kn) ?_
 refine AW.fact (fun a w hr => (ok_slice (R_ok (t := 0) rfl hr)).2) (fun hl0 => ?_)
 refine sr ?_
 refine st (asI rfl) rfl ?_
 refine ng ?_
 refine sr ?_
 refine st (mvT rfl) rfl ?_
 refine st (mvT rfl) rfl ?_
 refine st (OpT.len (H rfl) (T1 rfl) el22) rfl ?_
 refine st (OpT.sub (H rfl) (T1 rfl) (T1 rfl) (nw (by omega))) rfl ?_
 refine st (asT rfl) rfl ?_
 refine ng ?_
 refine AW.seq ?_
 refine sr ?_
 refine st (mvT rfl) rfl ?_
 refine st (OpT.lss (H rfl) (T1 rfl) (I rfl)) rfl ?_
 refine ng ?_
 refine cd rfl (fun hc1 => ?_) fun hc1 => ?_
 ·
  replace hc1 := oT hc1
  refine sr ?_
  refine st (asI rfl) rfl ?_
  refine ng ?_
  refine AW.ret ?_
  refine rT ?_
  exact rt1 rfl (.inl rfl) (by first | exact (if_pos hc1).symm | exact szs_ne hc1 hI ha hc3 | exact szs_end hc1 hI (by omega))
 ·
  replace hc1 := oF hc1
  refine AW.skip ?_
  refine AX.go ?_
  refine AW.seq ?_
  refine sr ?_
  refine st (asI rfl) rfl ?_
  refine ng ?_
  refine AW.block ?_
  refine AW.loop (fun p : Nat × Int => p.1 ≤ x.length ∧ 0 ≤ p.2 ∧ p.2 ≤ 1048576 ∧ szs szE (x.drop p.1) p.2 = szs szE x (l - x.length)) (fun p : Nat × Int => keep [(0, .cel (Kd.slice kEdit) x), (1, .cel (Kd.int .i64) p.2), (5, .cel (Kd.int .i64) (p.1 : Int))]) (fun p : Nat × Int => x.length - p.1) ((0, l - x.length)) ⟨Nat.zero_le _, by simp only []; omega, by simp only []; omega, rfl⟩ (Kc 0 _ (Kv rfl rfl) <| Kc 1 _ (Kv rfl rfl) <| Kc 5 _ (Kv rfl rfl) <| Kn) ?_
  intro p hI
  refine AW.seq ?_
  refine sr ?_
  refine st (mvT rfl) rfl ?_
  refine st (mvT rfl) rfl ?_
  refine st (OpT.len (H rfl) (T1 rfl) el22) rfl ?_
  refine st (OpT.lss (H rfl) (T1 rfl) (T1 rfl)) rfl ?_
  refine ng ?_
  refine cd rfl (fun hc2 => ?_) fun hc2 => ?_
  ·
   replace hc2 := oT hc2
   obtain ⟨a, ha⟩ := getI (x := x) (z := p.1) (by omega)
   refine AW.skip ?_
   refine AX.go ?_
   refine AW.seq ?_
   refine AW.block ?_
   refine sr ?_
   refine st (mvT rfl) rfl ?_
   refine st (mvT rfl) rfl ?_
   refine st (OpT.indexAddr (H rfl) (T1 rfl) (T1 rfl) el22 sz52 (by omega) (by assumption)) rfl ?_
   refine st (OpT.loadA (H rfl) (T1 rfl) ag52 sz52) rfl ?_
   refine st (mvT rfl) rfl ?_
   refine st (OpT.c1 (ms := [.flat, .flat]) (c_laws_szEdit _ _ ⟨hI.2.1, hI.2.2.1⟩) (H rfl) (Af (T1 rfl) rfl rfl <| Af (T1 rfl) rfl rfl <| An) rfl rfl) rfl ?_
   refine st (asT rfl) rfl ?_
   refine ng ?_
   refine sr ?_
   refine st (mvT rfl) rfl ?_
   refine st (OpT.lss (H rfl) (T1 rfl) (I rfl)) rfl ?_
   refine ng ?_
   refine cd rfl (fun hc3 => ?_) fun hc3 => ?_
   ·
    replace hc3 := oT hc3
    refine sr ?_
    refine st (asI rfl) rfl ?_
    refine ng ?_
    refine AW.ret ?_
    refine rK <| rT <| rT <| rK <| rT ?_
    exact rt1 rfl (.inl rfl) (by first | exact (if_pos hc1).symm | exact szs_ne hc1 hI ha hc3 | exact szs_end hc1 hI (by omega))
   ·
    replace hc3 := oF hc3
    refine AW.skip ?_
    refine AX.normal_block ?_
    refine AX.go ?_
    refine AW.region ?_
    refine st (mvT rfl) rfl ?_
    refine st (OpT.add (H rfl) (T1 rfl) (I rfl) (nw (by omega))) rfl ?_
    refine st (asT rfl) rfl ?_
    refine nn ?_
    exact AX.again ((p.1 + 1, szE a p.2)) (szs_step okSzE hI (by omega) ha hc3) (by simp only []; omega) (Kc 0 _ (Kv rfl rfl) <| Kc 1 _ (Kv rfl rfl) <| Kc 5 _ (Kv rfl (by simp only []; omega)) <| Kn)
  ·
   replace hc2 := oF hc2
   refine AW.exit ?_
   refine xT <| xT <| AX.exit_hit ?_
   refine AX.go ?_
   refine sr ?_
   refine st (mvT rfl) rfl ?_
   refine st (asT rfl) rfl ?_
   refine ng ?_
   refine AW.ret ?_
   exact rt1 rfl (.inl rfl) (by first | exact (if_pos hc1).symm | exact szs_ne hc1 hI ha hc3 | exact szs_end hc1 hI (by omega))

/-- laws.toEditS -/
theorem c_laws_toEditS_o (x : List (Int × ByteArray × Int × (BitVec 64 × BitVec 64))) (hn : x.length ≤ 1099511627776) : AC Tryd.prog 15 [.cel (Kd.slice kEdit) x] [.own 57 kEdit x] [] := by
 refine acI (N := 23) Tryd.func15 (Nat.le_of_ble_eq_true rfl) rfl fun w0 hd s0 ar => ?_
 refine AW.to (kc 0 rfl <| Kn) ?_
 refine sr ?_
 refine st (nilO (E := 57) kEdit rfl (.inl rfl)) rfl ?_
 refine ng ?_
 refine sr ?_
 refine st (mvT rfl) rfl ?_
 refine st (OpT.len (H rfl) (T1 rfl) el22) rfl ?_
 refine st (OpT.make (H rfl) (T1 rfl) (T1 rfl) el24 zr57 sz57 by57 (by decide) zk57 (by omega) (by omega)) rfl ?_
 refine sg (OpT.take (.inl rfl) rfl (ok' rfl) (Root.self (by decide)) rfl rfl (by decide)) (ko 3 rfl <| kc2 6 5 rfl <| ko 2 rfl <| kc 0 rfl <| Kn) rfl ?_
 refine ng ?_
 refine AW.seq ?_
 refine sr ?_
 refine st (asI rfl) rfl ?_
 refine ng ?_
 refine AW.block ?_
 refine AW.loop (fun z : Nat => z ≤ x.length) (fun z : Nat => keep [(0, .cel (Kd.slice kEdit) x), (3, .own 57 kEdit (cpy x z ((0, .empty, 0, (0, 0))))), (4, .cel (Kd.int .i64) (z : Int))]) (fun z : Nat => x.length - z) (0) (by omega) (Kc 0 _ (Kv rfl rfl) <| Kc 3 _ (Ko rfl rfl) <| Kc 4 _ (Kv rfl rfl) <| Kn) ?_
 intro z hI
 refine AW.seq ?_
 refine sr ?_
 refine st (mvT rfl) rfl ?_
 refine st (mvT rfl) rfl ?_
 refine st (OpT.len (H rfl) (T1 rfl) el22) rfl ?_
 refine st (OpT.lss (H rfl) (T1 rfl) (T1 rfl)) rfl ?_
 refine ng ?_
 refine cd rfl (fun hc1 => ?_) fun hc1 => ?_
 ·
  replace hc1 := oT hc1
  obtain ⟨a, ha⟩ := getI (x := x) (z := z) (by omega); have hd := cpy_get (x := x) (z := z) (d := ((0, .empty, 0, (0, 0)) : Int × ByteArray × Int × (BitVec 64 × BitVec 64))) (by omega)
  refine AW.skip ?_
  refine AX.go ?_
  refine AW.seq ?_
  refine AW.block ?_
  refine AW.region ?_
  refine st (OpT.alias (H rfl) (by decide) (by decide)) rfl ?_
  refine st (mvT rfl) rfl ?_
  refine st (mvT rfl) rfl ?_
  refine st (mvT rfl) rfl ?_
  refine st (OpT.indexAddr (H rfl) (T1 rfl) (T1 rfl) el22 sz52 (by omega) (by assumption)) rfl ?_
  refine st (OpT.loadA (H rfl) (T1 rfl) ag52 sz52) rfl ?_
  refine st (OpT.c1 (ms := [.flat]) (c_laws_toEdit _) (H rfl) (Af (T1 rfl) rfl rfl <| An) rfl rfl) rfl ?_
  refine st (OpT.indexAddrO (H rfl) (Root.ali rfl (by decide) (by decide)) rfl (by decide) (T1 rfl) el24 sz57 (by omega) (by assumption)) rfl ?_
  refine sk (OpT.storeOA rfl rfl (T1 rfl) rfl (by assumption) sz57 (by decide) (T1 rfl)) rfl ?_
  refine nn ?_
  refine AX.normal_block ?_
  refine AX.go ?_
  refine AW.region ?_
  refine st (mvT rfl) rfl ?_
  refine st (OpT.add (H rfl) (T1 rfl) (I rfl) (nw (by omega))) rfl ?_
  refine st (asT rfl) rfl ?_
  refine nn ?_
  exact AX.again (z + 1) (by omega) (by omega) (Kc 0 _ (Kv rfl rfl) <| Kc 3 _ (Ko rfl (cpy_step ha)) <| Kc 4 _ (Kv rfl (by omega)) <| Kn)
 ·
  replace hc1 := oF hc1
  refine AW.exit ?_
  refine xT <| xT <| AX.exit_hit ?_
  refine AX.go ?_
  refine sr ?_
  refine st (OpT.alias (H rfl) (by decide) (by decide)) rfl ?_
  refine sg (OpT.take (.inl rfl) rfl (ok' rfl) (Root.ali rfl (by decide) (by decide)) rfl rfl (by decide)) (ko 2 rfl <| kc4 11 10 9 8 rfl <| kc2 0 4 rfl <| Kn) rfl ?_
  refine ng ?_
  refine AW.ret ?_
  exact AX.rt (rs := [.tmp 2]) (ts := [some 2]) (.inl rfl) rfl (ROs.cons (RO.tmp (At.self (by decide)) (Ko rfl (cpy_end (by omega))) rfl) <| ROs.nil) (by decide) OutsOK.nil
theorem c_laws_toEditS (x : List (Int × ByteArray × Int × (BitVec 64 × BitVec 64))) (hn : x.length ≤ 1099511627776) : AC Tryd.prog 15 [.cel (Kd.slice kEdit) x] [.cel (Kd.slice kEdit) x] [] := (c_laws_toEditS_o x hn).frz rfl

/-- laws.eqEdit -/
theorem c_laws_eqEdit (x y : Int × ByteArray × Int × (BitVec 64 × BitVec 64)) : AC Tryd.prog 60 [.agg kEdit x, .agg kEdit y] [.cel Kd.bool (eqv x y)] [] := by
 refine acI (N := 26) Tryd.func60 (Nat.le_of_ble_eq_true rfl) rfl fun w0 hd s0 ar => ?_
 refine AW.to (ka 0 rfl <| ka 1 rfl <| Kn) ?_
 refine sr ?_
 refine st (OpT.frz (OpT.boxA (E := 57) (H rfl) (T1 rfl))) rfl ?_
 refine st (OpT.frz (OpT.boxA (E := 57) (H rfl) (T1 rfl))) rfl ?_
 refine st (asB rfl) rfl ?_
 refine ng ?_
 refine AW.seq ?_
 refine sr ?_
 refine st (OpT.fieldAddr (H rfl) (T1 rfl) fd57_0 sz47 (by decide) sb57_0) rfl ?_
 refine st (OpT.load (H rfl) (T1 rfl) ag47 rfl) rfl ?_
 refine st (OpT.fieldAddr (H rfl) (T1 rfl) fd57_0 sz47 (by decide) sb57_0) rfl ?_
 refine st (OpT.load (H rfl) (T1 rfl) ag47 rfl) rfl ?_
 refine st (OpT.neq (H rfl) (T1 rfl) (T1 rfl)) rfl ?_
 refine ng ?_
 refine cd rfl (fun hc1 => ?_) fun hc1 => ?_
 ·
  replace hc1 := oT hc1
  refine sr ?_
  refine st (asB rfl) rfl ?_
  refine ng ?_
  refine AW.ret ?_
  refine rT ?_
  exact rt1 rfl (.inl rfl) (by rw [eqv_pair (x := x), eqv_pair (x := x.2), eqv_pair (x := x.2.2)]; simp_all [eqv_beq, eqv_bne, Bool.and_assoc])
 ·
  replace hc1 := oF hc1
  refine AW.skip ?_
  refine AX.go ?_
  refine AW.seq ?_
  refine sr ?_
  refine st (OpT.fieldAddr (H rfl) (T1 rfl) fd57_1 sz9 (by decide) sb57_1) rfl ?_
  refine st (OpT.load (H rfl) (T1 rfl) ag9 rfl) rfl ?_
  refine st (OpT.fieldAddr (H rfl) (T1 rfl) fd57_1 sz9 (by decide) sb57_1) rfl ?_
  refine st (OpT.load (H rfl) (T1 rfl) ag9 rfl) rfl ?_
  refine st (OpT.snev (H rfl) (T1 rfl) (T1 rfl)) rfl ?_
  refine AWl.to (kc4 14 4 3 2 rfl <| Kn) ?_
  refine ng ?_
  refine cd rfl (fun hc2 => ?_) fun hc2 => ?_
  ·
   replace hc2 := oT hc2
   refine sr ?_
   refine st (asB rfl) rfl ?_
   refine ng ?_
   refine AW.ret ?_
   refine rT ?_
   exact rt1 rfl (.inl rfl) (by rw [eqv_pair (x := x), eqv_pair (x := x.2), eqv_pair (x := x.2.2)]; simp_all [eqv_beq, eqv_bne, Bool.and_assoc])
  ·
   replace hc2 := oF hc2
   refine AW.skip ?_
   refine AX.go ?_
   refine AW.seq ?_
   refine sr ?_
   refine st (OpT.fieldAddr (H rfl) (T1 rfl) fd57_2 sz48 (by decide) sb57_2) rfl ?_
   refine st (OpT.load (H rfl) (T1 rfl) ag48 rfl) rfl ?_
   refine st (OpT.fieldAddr (H rfl) (T1 rfl) fd57_2 sz48 (by decide) sb57_2) rfl ?_
   refine st (OpT.load (H rfl) (T1 rfl) ag48 rfl) rfl ?_
   refine st (OpT.neq (H rfl) (T1 rfl) (T1 rfl)) rfl ?_
   refine ng ?_
   refine cd rfl (fun hc3 => ?_) fun hc3 => ?_
   ·
    replace hc3 := oT hc3
    refine sr ?_
    refine st (asB rfl) rfl ?_
    refine ng ?_
    refine AW.ret ?_
    refine rT ?_
    exact rt1 rfl (.inl rfl) (by rw [eqv_pair (x := x), eqv_pair (x := x.2), eqv_pair (x := x.2.2)]; simp_all [eqv_beq, eqv_bne, Bool.and_assoc])
   ·
    replace hc3 := oF hc3
    refine AW.skip ?_
    refine AX.go ?_
    refine AW.seq ?_
    refine sr ?_
    refine st (OpT.fieldAddr (H rfl) (T1 rfl) fd57_3 sz55 (by decide) sb57_3) rfl ?_
    refine st (OpT.loadA (H rfl) (T1 rfl) ag55 sz55) rfl ?_
    refine st (OpT.fieldAddr (H rfl) (T1 rfl) fd57_3 sz55 (by decide) sb57_3) rfl ?_
    refine st (OpT.loadA (H rfl) (T1 rfl) ag55 sz55) rfl ?_
    refine st (OpT.c1 (ms := [.flat, .flat]) (c_laws_eqMask _ _) (H rfl) (Af (T1 rfl) rfl rfl <| Af (T1 rfl) rfl rfl <| An) rfl rfl) rfl ?_
    refine st (OpT.not (H rfl) (T1 rfl)) rfl ?_
    refine AWl.to (kc2 25 4 rfl <| Kn) ?_
    refine ng ?_
    refine cd rfl (fun hc4 => ?_) fun hc4 => ?_
    ·
     replace hc4 := oT hc4
     refine sr ?_
     refine st (asB rfl) rfl ?_
     refine ng ?_
     refine AW.ret ?_
     refine rT ?_
     exact rt1 rfl (.inl rfl) (by rw [eqv_pair (x := x), eqv_pair (x := x.2), eqv_pair (x := x.2.2)]; simp_all [eqv_beq, eqv_bne, Bool.and_assoc])
    ·
     replace hc4 := oF hc4
     refine AW.skip ?_
     refine AX.go ?_
     refine sr ?_
     refine st (asB rfl) rfl ?_
     refine ng ?_
     refine AW.ret ?_
     exact rt1 rfl (.inl rfl) (by rw [eqv_pair (x := x), eqv_pair (x := x.2), eqv_pair (x := x.2.2)]; simp_all [eqv_beq, eqv_bne, Bool.and_assoc])

/-- laws.eqEditS -/
theorem c_laws_eqEditS (x y : List (Int × ByteArray × Int × (BitVec 64 × BitVec 64))) : AC Tryd.prog 17 [.cel (Kd.slice kEdit) x, .cel (Kd.slice kEdit) y] [.cel Kd.bool (eqv x y)] [] := by
 refine acI (N := 27) Tryd.func17 (Nat.le_of_ble_eq_true rfl) rfl fun w0 hd s0 ar => ?_
 refine AW.to (kc2 0 1 rfl <| Kn) ?_
 refine AW.fact (fun a w hr => (ok_slice (R_ok (t := 0) rfl hr)).2) (fun hl0 => ?_)
 refine AW.fact (fun a w hr => (ok_slice (R_ok (t := 1) rfl hr)).2) (fun hl1 => ?_)
 refine sr ?_
 refine st (asB rfl) rfl ?_
 refine ng ?_
 refine AW.seq ?_
 refine sr ?_
 refine st (mvT rfl) rfl ?_
 refine st (OpT.len (H rfl) (T1 rfl) el24) rfl ?_
 refine st (mvT rfl) rfl ?_
 refine st (OpT.len (H rfl) (T1 rfl) el24) rfl ?_
 refine st (OpT.neq (H rfl) (T1 rfl) (T1 rfl)) rfl ?_
 refine ng ?_
 refine cd rfl (fun hc1 => ?_) fun hc1 => ?_
 ·
  replace hc1 := oT hc1
  try simp only [bne_iff_ne, ne_eq, bne_eq_false_iff_eq] at hc1
  refine sr ?_
  refine st (asB rfl) rfl ?_
  refine ng ?_
  refine AW.ret ?_
  refine rT ?_
  exact rt1 rfl (.inl rfl) (by first | exact eqs_len (by omega) | exact eqs_ne ha hb (by simpa [eqv_iff, eqv_false_iff] using hc3) | exact eqs_all hI.2 (by omega) (by omega))
 ·
  replace hc1 := oF hc1
  try simp only [bne_iff_ne, ne_eq, bne_eq_false_iff_eq] at hc1
  refine AW.skip ?_
  refine AX.go ?_
  refine AW.seq ?_
  refine sr ?_
  refine st (asI rfl) rfl ?_
  refine ng ?_
  refine AW.block ?_
  refine AW.loop (fun z : Nat => z ≤ x.length ∧ x.take z = y.take z) (fun z : Nat => keep [(0, .cel (Kd.slice kEdit) x), (1, .cel (Kd.slice kEdit) y), (5, .cel (Kd.int .i64) (z : Int))]) (fun z : Nat => x.length - z) (0) ⟨Nat.zero_le _, rfl⟩ (Kc 0 _ (Kv rfl rfl) <| Kc 1 _ (Kv rfl rfl) <| Kc 5 _ (Kv rfl rfl) <| Kn) ?_
  intro z hI
  refine AW.seq ?_
  refine sr ?_
  refine st (mvT rfl) rfl ?_
  refine st (mvT rfl) rfl ?_
  refine st (OpT.len (H rfl) (T1 rfl) el24) rfl ?_
  refine st (OpT.lss (H rfl) (T1 rfl) (T1 rfl)) rfl ?_
  refine ng ?_
  refine cd rfl (fun hc2 => ?_) fun hc2 => ?_
  ·
   replace hc2 := oT hc2
   obtain ⟨a, ha⟩ := getI (x := x) (z := z) (by omega); obtain ⟨b, hb⟩ := getI (x := y) (z := z) (by omega)
   refine AW.skip ?_
   refine AX.go ?_
   refine AW.seq ?_
   refine AW.block ?_
   refine AW.seq ?_
   refine dh fomo ?_
   refine d1 [0] (fun ve h => OpT.move (A := .cel _ _) (.inl rfl) rfl (ok' rfl) (D1 h rfl) rfl) rfl ?_
   refine d1 [5] (fun ve h => OpT.move (A := .cel _ _) (.inl rfl) rfl (ok' rfl) (D1 h rfl) rfl) rfl ?_
   refine d1 [17, 18] (fun ve h => OpT.indexAddr (H rfl) (D1 h rfl) (D1 h rfl) el24 sz57 (by omega) (by assumption)) rfl ?_
   refine d1 [19] (fun ve h => OpT.loadA (H rfl) (D1 h rfl) ag57 sz57) rfl ?_
   refine d1 [1] (fun ve h => OpT.move (A := .cel _ _) (.inl rfl) rfl (ok' rfl) (D1 h rfl) rfl) rfl ?_
   refine d1 [5] (fun ve h => OpT.move (A := .cel _ _) (.inl rfl) rfl (ok' rfl) (D1 h rfl) rfl) rfl ?_
   refine d1 [21, 22] (fun ve h => OpT.indexAddr (H rfl) (D1 h rfl) (D1 h rfl) el24 sz57 (by omega) (by assumption)) rfl ?_
   refine d1 [23] (fun ve h => OpT.loadA (H rfl) (D1 h rfl) ag57 sz57) rfl ?_
   refine d1 [20, 24] (fun ve h => OpT.c1 (ms := [.flat, .flat]) (c_laws_eqEdit _ _) (H rfl) (Af (D1 h rfl) rfl rfl <| Af (D1 h rfl) rfl rfl <| An) rfl rfl) rfl ?_
   refine d1 [25] (fun ve h => OpT.not (H rfl) (D1 h rfl)) rfl ?_
   refine dn ⟨by kernel_rfl, by kernel_rfl, ?_⟩
   refine AX.go ?_
   refine cd rfl (fun hc3 => ?_) fun hc3 => ?_
   ·
    replace hc3 := oT hc3
    refine sr ?_
    refine st (asB rfl) rfl ?_
    refine ng ?_
    refine AW.ret ?_
    refine rK <| rT <| rT <| rK <| rT ?_
    exact rt1 rfl (.inl rfl) (by first | exact eqs_len (by omega) | exact eqs_ne ha hb (by simpa [eqv_iff, eqv_false_iff] using hc3) | exact eqs_all hI.2 (by omega) (by omega))
   ·
    replace hc3 := oF hc3
    refine AW.skip ?_
    refine AX.normal_block ?_
    refine AX.go ?_
    refine AW.region ?_
    refine st (mvT rfl) rfl ?_
    refine st (OpT.add (H rfl) (T1 rfl) (I rfl) (nw (by omega))) rfl ?_
    refine st (asT rfl) rfl ?_
    refine nn ?_
    exact AX.again (z + 1) ⟨by omega, eqs_step hI.2 ha hb (by simpa [eqv_iff, eqv_false_iff] using hc3)⟩ (by omega) (Kc 0 _ (Kv rfl rfl) <| Kc 1 _ (Kv rfl rfl) <| Kc 5 _ (Kv rfl (by omega)) <| Kn)
  ·
   replace hc2 := oF hc2
   refine AW.exit ?_
   refine xT <| xT <| AX.exit_hit ?_
   refine AX.go ?_
   refine sr ?_
   refine st (asB rfl) rfl ?_
   refine ng ?_
   refine AW.ret ?_
   exact rt1 rfl (.inl rfl) (by first | exact eqs_len (by omega) | exact eqs_ne ha hb (by simpa [eqv_iff, eqv_false_iff] using hc3) | exact eqs_all hI.2 (by omega) (by omega))

/-- laws.markEditS -/
theorem c_laws_markEditS (x : List (Int × ByteArray × Int × (BitVec 64 × BitVec 64))) (k : Int) (h : 0 ≤ k ∧ k ≤ 1152921504606846976 ∧ x.length ≤ 115292150460684697) : AC Tryd.prog 18 [.own 57 kEdit x, .cel (Kd.int .i64) k] [.cel (Kd.int .i64) (k + 5 * (x.length : Int))] [.own 57 kEdit (mkL fEd 5 x.length k), .any] := by
 refine acI (N := 52) Tryd.func18 (Nat.le_of_ble_eq_true rfl) rfl fun w0 hd s0 ar => ?_
 refine AW.to (ko 0 rfl <| kc 1 rfl <| Kn) ?_
 refine sr ?_
 refine st (asI rfl) rfl ?_
 refine ng ?_
 refine AW.seq ?_
 refine sr ?_
 refine st (asI rfl) rfl ?_
 refine ng ?_
 refine AW.block ?_
 refine AW.loop (fun z : Nat => z ≤ x.length) (fun z : Nat => keep [(0, .own 57 kEdit (mkR fEd 5 x z k)), (1, .cel (Kd.int .i64) (k + 5 * (z : Int))), (5, .cel (Kd.int .i64) (z : Int))]) (fun z : Nat => x.length - z) (0) (Nat.zero_le _) (Kc 0 _ (Ko rfl mkR_zero) <| Kc 1 _ (Kv rfl (by omega)) <| Kc 5 _ (Kv rfl rfl) <| Kn) ?_
 intro z hI
 refine AW.seq ?_
 refine sr ?_
 refine st (mvT rfl) rfl ?_
 refine st (OpT.alias (H rfl) (by decide) (by decide)) rfl ?_
 refine st (OpT.lenO (H rfl) (Root.ali rfl (by decide) (by decide)) rfl el24) rfl ?_
 refine st (OpT.lss (H rfl) (T1 rfl) (T1 rfl)) rfl ?_
 refine ng ?_
 refine cd rfl (fun hc1 => ?_) fun hc1 => ?_
 ·
  obtain ⟨hc1, hc1'⟩ := pT hc1
  rw [mkR_len hI] at hc1'
  obtain ⟨a, ha⟩ := getI (x := (mkR fEd 5 x z k)) (z := z) (by rw [mkR_len (by omega)]; omega)
  have hln := mkR_len (f := fEd) (w := 5) (x := x) (z := z) (k := k) (by omega)
  have hs0 := set_get (l := (mkR fEd 5 x z k)) (z := z) (by simp only [set_len, hln]; omega) ((IntKind.i8.wrap (k + 5 * (z : Int)), a.2) : Int × ByteArray × Int × (BitVec 64 × BitVec 64))
  have hs1 := set_get (l := (List.set (mkR fEd 5 x z k) (Int.toNat (z : Int)) ((IntKind.i8.wrap (k + 5 * (z : Int)), a.2) : Int × ByteArray × Int × (BitVec 64 × BitVec 64)))) (z := z) (by simp only [set_len, hln]; omega) ((IntKind.i8.wrap (k + 5 * (z : Int)), mtx ((k + 5 * (z : Int)) + 1), a.2.2) : Int × ByteArray × Int × (BitVec 64 × BitVec 64))
  have hs2 := set_get (l := (List.set (List.set (mkR fEd 5 x z k) (Int.toNat (z : Int)) ((IntKind.i8.wrap (k + 5 * (z : Int)), a.2) : Int × ByteArray × Int × (BitVec 64 × BitVec 64))) (Int.toNat (z : Int)) ((IntKind.i8.wrap (k + 5 * (z : Int)), mtx ((k + 5 * (z : Int)) + 1), a.2.2) : Int × ByteArray × Int × (BitVec 64 × BitVec 64)))) (z := z) (by simp only [set_len, hln]; omega) ((IntKind.i8.wrap (k + 5 * (z : Int)), mtx ((k + 5 * (z : Int)) + 1), IntKind.i16.wrap ((k + 5 * (z : Int)) + 1 + 1), a.2.2.2) : Int × ByteArray × Int × (BitVec 64 × BitVec 64))
  refine AW.skip ?_
  refine AX.go ?_
  refine AW.seq ?_
  refine AW.block ?_
  refine sr ?_
  refine st (OpT.alias (H rfl) (by decide) (by decide)) rfl ?_
  refine st (mvT rfl) rfl ?_
  refine st (mvT rfl) rfl ?_
  refine st (OpT.conv (H rfl) us3 Tryd.underlying47 (T1 rfl) rfl) rfl ?_
  refine st (OpT.indexAddrO (H rfl) (Root.ali rfl (by decide) (by decide)) rfl (by decide) (T1 rfl) el24 sz57 (by omega) (by assumption)) rfl ?_
  refine st (OpT.fieldAddrE (H rfl) (T1 rfl) (.inr ⟨_, _, rfl, (by assumption)⟩) (by decide) fd57_0 sz47 (by decide) sb57_0 (by decide)) rfl ?_
  refine sk (OpT.storeO rfl rfl (T1 rfl) rfl (by assumption) sz47 rfl (T1 rfl)) rfl ?_
  refine ng ?_
  refine sr ?_
  refine st (mvT rfl) rfl ?_
  refine st (OpT.add (H rfl) (T1 rfl) (I rfl) (nw (by omega))) rfl ?_
  refine st (asT rfl) rfl ?_
  refine ng ?_
  refine sr ?_
  refine st (OpT.alias (H rfl) (by decide) (by decide)) rfl ?_
  refine st (mvT rfl) rfl ?_
  refine st (mvT rfl) rfl ?_
  refine st (OpT.c1 (ms := [.flat]) (c_laws_markText _ (by omega)) (H rfl) (Af (T1 rfl) rfl rfl <| An) rfl rfl) rfl ?_
  refine st (OpT.indexAddrO (H rfl) (Root.ali rfl (by decide) (by decide)) rfl (by decide) (T1 rfl) el24 sz57 (by omega) (by assumption)) rfl ?_
  refine st (OpT.fieldAddrE (H rfl) (T1 rfl) (.inr ⟨_, _, rfl, (by assumption)⟩) (by decide) fd57_1 sz9 (by decide) sb57_1 (by decide)) rfl ?_
  refine sk (OpT.storeO rfl rfl (T1 rfl) rfl (by assumption) sz9 rfl (T1 rfl)) rfl ?_
  refine ng ?_
  refine sr ?_
  refine st (mvT rfl) rfl ?_
  refine st (OpT.add (H rfl) (T1 rfl) (I rfl) (nw (by omega))) rfl ?_
  refine st (asT rfl) rfl ?_
  refine ng ?_
  refine sr ?_
  refine st (OpT.alias (H rfl) (by decide) (by decide)) rfl ?_
  refine st (mvT rfl) rfl ?_
  refine st (mvT rfl) rfl ?_
  refine st (OpT.conv (H rfl) us3 Tryd.underlying48 (T1 rfl) rfl) rfl ?_
  refine st (OpT.indexAddrO (H rfl) (Root.ali rfl (by decide) (by decide)) rfl (by decide) (T1 rfl) el24 sz57 (by omega) (by assumption)) rfl ?_
  refine st (OpT.fieldAddrE (H rfl) (T1 rfl) (.inr ⟨_, _, rfl, (by assumption)⟩) (by decide) fd57_2 sz48 (by decide) sb57_2 (by decide)) rfl ?_
  refine sk (OpT.storeO rfl rfl (T1 rfl) rfl (by assumption) sz48 rfl (T1 rfl)) rfl ?_
  refine ng ?_
  refine sr ?_
  refine st (mvT rfl) rfl ?_
  refine st (OpT.add (H rfl) (T1 rfl) (I rfl) (nw (by omega))) rfl ?_
  refine st (asT rfl) rfl ?_
  refine ng ?_
  refine sr ?_
  refine st (asI rfl) rfl ?_
  refine ng ?_
  refine AW.block ?_
  refine AW.loop (fun y : Nat => y ≤ 2 ∧ z < x.length) (fun y : Nat => keep [(0, .own 57 kEdit (List.set (mkR fEd 5 x z k) (Int.toNat (z : Int)) (IntKind.i8.wrap (k + 5 * (z : Int)), mtx ((k + 5 * (z : Int)) + 1), IntKind.i16.wrap ((k + 5 * (z : Int)) + 1 + 1), mj a.2.2.2 (k + 5 * (z : Int) + 1 + 1 + 1) y))), (1, .cel (Kd.int .i64) (k + 5 * (z : Int) + 1 + 1 + 1 + (y : Int))), (5, .cel (Kd.int .i64) (z : Int)), (6, .cel (Kd.int .i64) (y : Int))]) (fun y : Nat => 2 - y) (0) (by omega) (Kc 0 _ (Ko rfl (by (try simp only [List.set_set]); rfl)) <| Kc 1 _ (Kv rfl (by omega)) <| Kc 5 _ (Kv rfl rfl) <| Kc 6 _ (Kv rfl rfl) <| Kn) ?_
  intro y hI
  have hb := set_get (l := (mkR fEd 5 x z k)) (z := z) (by rw [hln]; omega) ((IntKind.i8.wrap (k + 5 * (z : Int)), mtx ((k + 5 * (z : Int)) + 1), IntKind.i16.wrap ((k + 5 * (z : Int)) + 1 + 1), mj a.2.2.2 (k + 5 * (z : Int) + 1 + 1 + 1) y) : Int × ByteArray × Int × (BitVec 64 × BitVec 64))
  refine AW.seq ?_
  refine sr ?_
  refine st (mvT rfl) rfl ?_
  refine st (OpT.lss (H rfl) (T1 rfl) (I rfl)) rfl ?_
  refine ng ?_
  refine cd rfl (fun hc2 => ?_) fun hc2 => ?_
  ·
   obtain ⟨hc2, hc2'⟩ := pT hc2
   refine AW.skip ?_
   refine AX.go ?_
   refine AW.seq ?_
   refine AW.block ?_
   refine sr ?_
   refine st (OpT.alias (H rfl) (by decide) (by decide)) rfl ?_
   refine st (mvT rfl) rfl ?_
   refine st (mvT rfl) rfl ?_
   refine st (mvT rfl) rfl ?_
   refine st (OpT.convu (H rfl) us3 Tryd.underlying49 (T1 rfl)) rfl ?_
   refine st (OpT.indexAddrO (H rfl) (Root.ali rfl (by decide) (by decide)) rfl (by decide) (T1 rfl) el24 sz57 (by omega) (by assumption)) rfl ?_
   refine st (OpT.fieldAddrE (H rfl) (T1 rfl) (.inr ⟨_, _, rfl, (by assumption)⟩) (by decide) fd57_3 sz55 (by decide) sb57_3 (by decide)) rfl ?_
   refine st (OpT.indexAddrE (H rfl) (T1 rfl) (.inr ⟨_, _, rfl, (by assumption)⟩) (by decide) (T1 rfl) ar55 sz49 (by omega) (Sub.two (by omega) rfl) (by decide)) rfl ?_
   refine sk (OpT.storeO rfl rfl (T1 rfl) rfl (by assumption) sz49 rfl (T1 rfl)) rfl ?_
   refine ng ?_
   refine AW.region ?_
   refine st (mvT rfl) rfl ?_
   refine st (OpT.add (H rfl) (T1 rfl) (I rfl) (nw (by omega))) rfl ?_
   refine st (asT rfl) rfl ?_
   refine nn ?_
   refine AX.normal_block ?_
   refine AX.go ?_
   refine AW.region ?_
   refine st (mvT rfl) rfl ?_
   refine st (OpT.add (H rfl) (T1 rfl) (I rfl) (nw (by omega))) rfl ?_
   refine st (asT rfl) rfl ?_
   refine nn ?_
   exact AX.again (y + 1) (by omega) (by omega) (Kc 0 _ (Ko rfl (by rw [List.set_set, ← mj_step (by omega)])) <| Kc 1 _ (Kv rfl (by omega)) <| Kc 5 _ (Kv rfl rfl) <| Kc 6 _ (Kv rfl (by omega)) <| Kn)
  ·
   obtain ⟨hc2, hc2'⟩ := pF hc2
   refine AW.exit ?_
   refine xT <| xT <| AX.exit_hit ?_
   refine AX.normal_block ?_
   refine AX.go ?_
   refine AW.region ?_
   refine st (mvT rfl) rfl ?_
   refine st (OpT.add (H rfl) (T1 rfl) (I rfl) (nw (by omega))) rfl ?_
   refine st (asT rfl) rfl ?_
   refine nn ?_
   exact AX.again (z + 1) (by omega) (by omega) (Kc 0 _ (Ko rfl (by rw [show y = 2 by omega]; exact mkR_step (by omega))) <| Kc 1 _ (Kv rfl (by omega)) <| Kc 5 _ (Kv rfl (by omega)) <| Kn)
 ·
  obtain ⟨hc1, hc1'⟩ := pF hc1
  rw [mkR_len hI] at hc1'
  refine AW.exit ?_
  refine xT <| xT <| AX.exit_hit ?_
  refine AX.go ?_
  refine sr ?_
  refine st (mvT rfl) rfl ?_
  refine st (asT rfl) rfl ?_
  refine ng ?_
  refine AW.ret ?_
  exact AX.rt (rs := [.tmp 4]) (ts := [some 4]) (.inl rfl) rfl (ROs.cons (RO.tmp (At.self (by decide)) (Kv rfl (by omega)) rfl) <| ROs.nil) (by decide) (fun i => match i with | 0 => .inr ⟨rfl, Ko rfl (mkR_end (by omega) hI), rfl, by decide⟩ | 1 => .inl rfl | _ + 2 => .inl rfl)

/-- spec.l07Edits -/
theorem c_spec_l07Edits (x : List DEdit) : AC Tryd.prog 58 [.cel (Kd.slice kEdit) x] [.cel Kd.bool (x.all editB)] [] := by
 refine acI (N := 15) Tryd.func58 (Nat.le_of_ble_eq_true rfl) rfl fun w0 hd s0 ar => ?_
 refine AW.to (kc 0 rfl <| Kn) ?_
 refine AW.fact (fun a w hr => (ok_slice (R_ok (t := 0) rfl hr)).2) (fun hl0 => ?_)
 refine sr ?_
 refine st (asB rfl) rfl ?_
 refine ng ?_
 refine AW.seq ?_
 refine sr ?_
 refine st (asI rfl) rfl ?_
 refine ng ?_
 refine AW.block ?_
 refine AW.loop (fun z : Nat => z ≤ x.length ∧ ∀ i, i < z → qI editB x i) (fun z : Nat => keep [(0, .cel (Kd.slice kEdit) x), (3, .cel (Kd.int .i64) (z : Int))]) (fun z : Nat => x.length - z) (0) ⟨Nat.zero_le _, all_none⟩ (Kc 0 _ (Kv rfl rfl) <| Kc 3 _ (Kv rfl rfl) <| Kn) ?_
 intro z hI
 refine AW.seq ?_
 refine sr ?_
 refine st (mvT rfl) rfl ?_
 refine st (mvT rfl) rfl ?_
 refine st (OpT.len (H rfl) (T1 rfl) el24) rfl ?_
 refine st (OpT.lss (H rfl) (T1 rfl) (T1 rfl)) rfl ?_
 refine ng ?_
 refine cd rfl (fun hc1 => ?_) fun hc1 => ?_
 ·
  obtain ⟨hc1, hc1'⟩ := pT hc1
  obtain ⟨e, he⟩ := getI (x := x) (z := z) (by omega)
  refine AW.skip ?_
  refine AX.go ?_
  refine AW.seq ?_
  refine AW.block ?_
  refine sr ?_
  refine st (mvT rfl) rfl ?_
  refine st (mvT rfl) rfl ?_
  refine st (OpT.indexAddr (H rfl) (T1 rfl) (T1 rfl) el24 sz57 (by omega) (by assumption)) rfl ?_
  refine st (OpT.c1 (ms := [.flat]) (c_spec_l07Edit _) (H rfl) (Af (T1 rfl) rfl rfl <| An) rfl rfl) rfl ?_
  refine st (OpT.not (H rfl) (T1 rfl)) rfl ?_
  refine ng ?_
  refine cd rfl (fun hc2 => ?_) fun hc2 => ?_
  ·
   obtain ⟨hc2, hc2'⟩ := pT hc2
   have hne : editB e = false := by simpa using hc2
   refine sr ?_
   refine st (asB rfl) rfl ?_
   refine ng ?_
   refine AW.ret ?_
   refine rK <| rT <| rT <| rK <| rT ?_
   exact rt1 rfl (.inl rfl) (by first | exact all_no he hne | exact all_yes hI.2 (by omega))
  ·
   obtain ⟨hc2, hc2'⟩ := pF hc2
   have hne : editB e = true := by simpa using hc2
   refine AW.skip ?_
   refine AX.normal_block ?_
   refine AX.go ?_
   refine AW.region ?_
   refine st (mvT rfl) rfl ?_
   refine st (OpT.add (H rfl) (T1 rfl) (I rfl) (nw (by omega))) rfl ?_
   refine st (asT rfl) rfl ?_
   refine nn ?_
   exact AX.again (z + 1) ⟨by omega, all_step hI.2 ((qI_iff he).2 hne)⟩ (by omega) (Kc 0 _ (Kv rfl rfl) <| Kc 3 _ (Kv rfl (by omega)) <| Kn)
 ·
  obtain ⟨hc1, hc1'⟩ := pF hc1
  refine AW.exit ?_
  refine xT <| xT <| AX.exit_hit ?_
  refine AX.go ?_
  refine sr ?_
  refine st (asB rfl) rfl ?_
  refine ng ?_
  refine AW.ret ?_
  exact rt1 rfl (.inl rfl) (by first | exact all_no he hne | exact all_yes hI.2 (by omega))

/-- impl.areEdits$1 -/
theorem c_impl_areEdits_1 (e : DEdit) : AC Tryd.prog 104 [.agg kEdit e] [.cel Kd.bool (!(editB e))] [] := by
 refine acI (N := 6) Tryd.func104 (Nat.le_of_ble_eq_true rfl) rfl fun w0 hd s0 ar => ?_
 refine AW.to (ka 0 rfl <| Kn) ?_
 refine sr ?_
 refine st (OpT.frz (OpT.boxA (E := 57) (H rfl) (T1 rfl))) rfl ?_
 refine st (asB rfl) rfl ?_
 refine ng ?_
 refine sr ?_
 refine st (OpT.loadA (H rfl) (T1 rfl) ag57 sz57) rfl ?_
 refine st (OpT.c1 (ms := [.flat]) (c_impl_isEdit _) (H rfl) (Af (T1 rfl) rfl rfl <| An) rfl rfl) rfl ?_
 refine st (OpT.not (H rfl) (T1 rfl)) rfl ?_
 refine st (asT rfl) rfl ?_
 refine ng ?_
 refine AW.ret ?_
 exact rt1 rfl (.inl rfl) rfl

/-- impl.areEdits -/
theorem c_impl_areEdits (x : List DEdit) : AC Tryd.prog 59 [.cel (Kd.slice kEdit) x] [.cel Kd.bool (x.all editB)] [] := by
 refine acI (N := 6) Tryd.func59 (Nat.le_of_ble_eq_true rfl) rfl fun w0 hd s0 ar => ?_
 refine AW.to (kc 0 rfl <| Kn) ?_
 refine AW.fact (fun a w hr => (ok_slice (R_ok (t := 0) rfl hr)).2) (fun hl0 => ?_)
 refine sr ?_
 refine st (asB rfl) rfl ?_
 refine ng ?_
 refine sr ?_
 refine st (mvT rfl) rfl ?_
 refine st (OpT.c1 (ms := [.flat, .flat]) (c_slices_ContainsFunc_impl_Edit_impl_Edit (fun e => !(editB e)) CloArgs.unit (fun e => c_impl_areEdits_1 e) _) (H rfl) (Af (T1 rfl) rfl rfl <| Af Opd.func rfl rfl <| An) rfl rfl) rfl ?_
 refine st (OpT.not (H rfl) (T1 rfl)) rfl ?_
 refine st (asT rfl) rfl ?_
 refine ng ?_
 refine AW.ret ?_
 exact rt1 rfl (.inl rfl) any_not

/-- spec.ApplyEdits -/
theorem c_spec_ApplyEdits_o (x : List DCard) (l : List DEdit) : AC Tryd.prog 38 [.cel (Kd.slice kCard) x, .cel (Kd.slice kEdit) l] [.own 101 kCard (manyS x l).1, .cel (Kd.int .i64) (manyS x l).2.1, .cel (Kd.int .i64) (manyS x l).2.2] [] := by
 refine acI (N := 49) Tryd.func38 (Nat.le_of_ble_eq_true rfl) rfl fun w0 hd s0 ar => ?_
 refine AW.to (kc2 0 1 rfl <| Kn) ?_
 refine AW.fact (fun a w hr => (ok_slice (R_ok (t := 1) rfl hr)).2) (fun hl1 => ?_)
 refine sr ?_
 refine st (nilO (E := 101) kCard rfl (.inl rfl)) rfl ?_
 refine st (asI rfl) rfl ?_
 refine st (asI rfl) rfl ?_
 refine ng ?_
 refine AW.seq ?_
 refine sr ?_
 refine st (mvT rfl) rfl ?_
 refine st (OpT.c1 (ms := [.flat]) (c_spec_l02Ok _) (H rfl) (Af (T1 rfl) rfl rfl <| An) rfl rfl) rfl ?_
 refine st (OpT.not (H rfl) (T1 rfl)) rfl ?_
 refine st (mvT rfl) rfl ?_
 apply AWl.or (d := 18) (t := 14) rfl
 ·
  intro hb1 Q1 k1
  have hb1' := lF hb1
  refine rs hb1 (mvT rfl) rfl ?_
  refine rs hb1 (OpT.c1 (ms := [.flat]) (c_spec_l07Edits _) (H rfl) (Af (T1 rfl) rfl rfl <| An) rfl rfl) rfl ?_
  refine rs hb1 (OpT.not (H rfl) (T1 rfl)) rfl ?_
  refine st (OpT.pickF (A := .cel _ _) (H rfl) (T1 rfl) hb1 (T1 rfl) rfl) rfl ?_
  exact AWl.to (junk 3 rfl) k1
 ·
  intro hb1 Q1 k1
  refine ps hb1 rfl ?_
  refine ps hb1 rfl ?_
  refine ps hb1 rfl ?_
  refine st (OpT.pickT (A := .cel _ _) (H rfl) (T1 rfl) hb1 Opd.bool rfl) rfl ?_
  exact k1
 refine ng ?_
 refine cd rfl (fun hc1 => ?_) fun hc1 => ?_
 ·
  obtain ⟨hc1, hc1'⟩ := pT hc1
  refine sr ?_
  refine st (OpT.buildSlice0 (m := 0) (z := .bool false) kCard (H rfl) el36 sz101 (by decide)) rfl ?_
  refine sg (OpT.take (.inl rfl) rfl (ok' rfl) (Root.self (by decide)) rfl rfl (by decide)) (ko 4 rfl <| kc4 18 14 13 12 rfl <| kc4 11 6 5 0 rfl <| kc 1 rfl <| Kn) rfl ?_
  refine st (asI rfl) rfl ?_
  refine st (asI rfl) rfl ?_
  refine ng ?_
  refine AW.ret ?_
  refine rT ?_
  exact AX.rt (rs := [.tmp 4, .tmp 5, .tmp 6]) (ts := [some 4, some 5, some 6]) (.inl rfl) rfl (ROs.cons (RO.tmp (At.self (by decide)) (Ko rfl (by first | (rw [many_bad hc1]; done) | (rw [many_long hc1 (by omega)]; done) | (rw [many_code hc1 (by omega) hcz (am_code he hI.2.2 hcz)]; done) | (rw [many_ok hc1 (by omega) (am_end hI.2.2 (by omega))]; done))) rfl) <| ROs.cons (RO.tmp (At.self (by decide)) (Kv rfl (by first | (rw [many_bad hc1]; done) | (rw [many_long hc1 (by omega)]; done) | (rw [many_code hc1 (by omega) hcz (am_code he hI.2.2 hcz)]; done) | (rw [many_ok hc1 (by omega) (am_end hI.2.2 (by omega))]; done))) rfl) <| ROs.cons (RO.tmp (At.self (by decide)) (Kv rfl (by first | (rw [many_bad hc1]; done) | (rw [many_long hc1 (by omega)]; done) | (rw [many_code hc1 (by omega) hcz (am_code he hI.2.2 hcz)]; done) | (rw [many_ok hc1 (by omega) (am_end hI.2.2 (by omega))]; done))) rfl) <| ROs.nil) (by decide) OutsOK.nil
 ·
  obtain ⟨hc1, hc1'⟩ := pF hc1
  have hds := deck_edits hc1
  refine AW.skip ?_
  refine AX.go ?_
  refine AW.seq ?_
  refine sr ?_
  refine st (mvT rfl) rfl ?_
  refine st (OpT.len (H rfl) (T1 rfl) el24) rfl ?_
  refine st (OpT.gtr (H rfl) (T1 rfl) (I rfl)) rfl ?_
  refine ng ?_
  refine cd rfl (fun hc2 => ?_) fun hc2 => ?_
  ·
   obtain ⟨hc2, hc2'⟩ := pT hc2
   refine sr ?_
   refine st (OpT.buildSlice0 (m := 0) (z := .bool false) kCard (H rfl) el36 sz101 (by decide)) rfl ?_
   refine sg (OpT.take (.inl rfl) rfl (ok' rfl) (Root.self (by decide)) rfl rfl (by decide)) (ko 4 rfl <| kc4 22 21 20 18 rfl <| kc4 14 13 12 11 rfl <| kc4 6 5 0 1 rfl <| Kn) rfl ?_
   refine st (asI rfl) rfl ?_
   refine st (asI rfl) rfl ?_
   refine ng ?_
   refine AW.ret ?_
   refine rT ?_
   exact AX.rt (rs := [.tmp 4, .tmp 5, .tmp 6]) (ts := [some 4, some 5, some 6]) (.inl rfl) rfl (ROs.cons (RO.tmp (At.self (by decide)) (Ko rfl (by first | (rw [many_bad hc1]; done) | (rw [many_long hc1 (by omega)]; done) | (rw [many_code hc1 (by omega) hcz (am_code he hI.2.2 hcz)]; done) | (rw [many_ok hc1 (by omega) (am_end hI.2.2 (by omega))]; done))) rfl) <| ROs.cons (RO.tmp (At.self (by decide)) (Kv rfl (by first | (rw [many_bad hc1]; done) | (rw [many_long hc1 (by omega)]; done) | (rw [many_code hc1 (by omega) hcz (am_code he hI.2.2 hcz)]; done) | (rw [many_ok hc1 (by omega) (am_end hI.2.2 (by omega))]; done))) rfl) <| ROs.cons (RO.tmp (At.self (by decide)) (Kv rfl (by first | (rw [many_bad hc1]; done) | (rw [many_long hc1 (by omega)]; done) | (rw [many_code hc1 (by omega) hcz (am_code he hI.2.2 hcz)]; done) | (rw [many_ok hc1 (by omega) (am_end hI.2.2 (by omega))]; done))) rfl) <| ROs.nil) (by decide) OutsOK.nil
  ·
   obtain ⟨hc2, hc2'⟩ := pF hc2
   refine AW.skip ?_
   refine AX.go ?_
   refine sr ?_
   refine st (OpT.buildSlice0 (m := 0) (z := .bool false) kCard (H rfl) el36 sz101 (by decide)) rfl ?_
   refine st (mvT rfl) rfl ?_
   refine sg (OpT.append (H rfl) (Root.self (t := 24) (by decide)) rfl (Src.shared (T1 rfl)) (by decide) el36 zr101 rfl sz101 by101 (by decide) (by (try simp only [List.length_cons, List.length_nil, List.length_append, List.length_set, List.length_replicate, List.length_drop, List.length_take]); omega)) (ko 26 rfl <| kc4 25 22 21 20 rfl <| kc4 18 14 13 12 rfl <| kc3 11 6 5 rfl <| ko 4 rfl <| kc2 0 1 rfl <| Kn) rfl ?_
   refine sg (OpT.take (.inl rfl) rfl (ok' rfl) (Root.self (by decide)) rfl rfl (by decide)) (ko 7 rfl <| kc4 25 22 21 20 rfl <| kc4 18 14 13 12 rfl <| kc3 11 6 5 rfl <| ko 4 rfl <| kc2 0 1 rfl <| Kn) rfl ?_
   refine ng ?_
   refine AW.seq ?_
   refine sr ?_
   refine st (asI rfl) rfl ?_
   refine ng ?_
   refine AW.block ?_
   refine AW.loop (fun p : Nat × List DCard => p.1 ≤ l.length ∧ p.2.length ≤ 80 + p.1 ∧ amS p.2 (l.drop p.1) = amS x l) (fun p : Nat × List DCard => keep [(1, .cel (Kd.slice kEdit) l), (7, .own 101 kCard p.2), (8, .cel (Kd.int .i64) (p.1 : Int))]) (fun p : Nat × List DCard => l.length - p.1) ((0, x)) ⟨Nat.zero_le _, by simp only []; omega, rfl⟩ (Kc 1 _ (Kv rfl rfl) <| Kc 7 _ (Ko rfl rfl) <| Kc 8 _ (Kv rfl rfl) <| Kn) ?_
   intro p hI
   refine AW.seq ?_
   refine sr ?_
   refine st (mvT rfl) rfl ?_
   refine st (mvT rfl) rfl ?_
   refine st (OpT.len (H rfl) (T1 rfl) el24) rfl ?_
   refine st (OpT.lss (H rfl) (T1 rfl) (T1 rfl)) rfl ?_
   refine ng ?_
   refine cd rfl (fun hc3 => ?_) fun hc3 => ?_
   ·
    obtain ⟨hc3, hc3'⟩ := pT hc3
    obtain ⟨e, he⟩ := getI (x := l) (z := p.1) (by omega)
    have hed := all_get hds.2 he
    refine AW.skip ?_
    refine AX.go ?_
    refine AW.seq ?_
    refine AW.block ?_
    refine sr ?_
    refine st (OpT.alias (H rfl) (by decide) (by decide)) rfl ?_
    refine st (mvT rfl) rfl ?_
    refine st (mvT rfl) rfl ?_
    refine st (OpT.indexAddr (H rfl) (T1 rfl) (T1 rfl) el24 sz57 (by omega) (by assumption)) rfl ?_
    refine s2 (cb2 (ms := [.bor 7, .flat]) (c_spec_l07Apply_o _ _ (by omega) hed) (H rfl) (Ab (Root.ali rfl (by decide) (by decide)) rfl <| Af (T1 rfl) rfl rfl <| An) rfl (indO fun _ _ _ _ h => h) (indC fun _ _ _ _ h => h)) rfl ?_
    refine st (OpT.alias (H rfl) (by decide) (by decide)) rfl ?_
    refine sg (OpT.extractVO (m := 10038) (H rfl) rfl rfl rfl rfl rfl rfl) (ko 39 rfl <| Kc 33 (.ali _) rfl <| kc4 20038 37 36 35 rfl <| Kc 34 (.ali _) rfl <| kc4 30 29 28 27 rfl <| kc 1 rfl <| ko 7 rfl <| kc 8 rfl <| Kn) rfl ?_
    refine st (OpT.extractV (m := 20038) (H rfl) rfl rfl rfl rfl rfl rfl rfl) rfl ?_
    refine sg (OpT.take (.inl rfl) rfl (ok' rfl) (Root.self (by decide)) rfl rfl (by decide)) (ko 9 rfl <| kc 40 rfl <| Kc 33 (.ali _) rfl <| kc4 20038 37 36 35 rfl <| Kc 34 (.ali _) rfl <| kc4 30 29 28 27 rfl <| kc 1 rfl <| ko 7 rfl <| kc 8 rfl <| Kn) rfl ?_
    refine st (asT rfl) rfl ?_
    refine ng ?_
    refine AW.seq ?_
    refine sr ?_
    refine st (mvT rfl) rfl ?_
    refine st (OpT.neq (H rfl) (T1 rfl) (I rfl)) rfl ?_
    refine ng ?_
    refine cd rfl (fun hc4 => ?_) fun hc4 => ?_
    ·
     obtain ⟨hc4, hc4'⟩ := pT hc4
     have hcz := hc4'
     refine sr ?_
     refine st (OpT.buildSlice0 (m := 0) (z := .bool false) kCard (H rfl) el36 sz101 (by decide)) rfl ?_
     refine st (mvT rfl) rfl ?_
     refine sg (OpT.take (.inl rfl) rfl (ok' rfl) (Root.self (by decide)) rfl rfl (by decide)) (ko 4 rfl <| kc4 44 42 41 10 rfl <| ko 9 rfl <| kc 40 rfl <| Kc 33 (.ali _) rfl <| kc4 20038 37 36 35 rfl <| Kc 34 (.ali _) rfl <| kc4 30 29 28 27 rfl <| kc 1 rfl <| ko 7 rfl <| kc 8 rfl <| Kn) rfl ?_
     refine st (asI rfl) rfl ?_
     refine st (asT rfl) rfl ?_
     refine ng ?_
     refine AW.ret ?_
     refine rT <| rK <| rT <| rT <| rK <| rT ?_
     exact AX.rt (rs := [.tmp 4, .tmp 5, .tmp 6]) (ts := [some 4, some 5, some 6]) (.inl rfl) rfl (ROs.cons (RO.tmp (At.self (by decide)) (Ko rfl (by first | (rw [many_bad hc1]; done) | (rw [many_long hc1 (by omega)]; done) | (rw [many_code hc1 (by omega) hcz (am_code he hI.2.2 hcz)]; done) | (rw [many_ok hc1 (by omega) (am_end hI.2.2 (by omega))]; done))) rfl) <| ROs.cons (RO.tmp (At.self (by decide)) (Kv rfl (by first | (rw [many_bad hc1]; done) | (rw [many_long hc1 (by omega)]; done) | (rw [many_code hc1 (by omega) hcz (am_code he hI.2.2 hcz)]; done) | (rw [many_ok hc1 (by omega) (am_end hI.2.2 (by omega))]; done))) rfl) <| ROs.cons (RO.tmp (At.self (by decide)) (Kv rfl (by first | (rw [many_bad hc1]; done) | (rw [many_long hc1 (by omega)]; done) | (rw [many_code hc1 (by omega) hcz (am_code he hI.2.2 hcz)]; done) | (rw [many_ok hc1 (by omega) (am_end hI.2.2 (by omega))]; done))) rfl) <| ROs.nil) (by decide) OutsOK.nil
    ·
     obtain ⟨hc4, hc4'⟩ := pF hc4
     have hcz := hc4'
     refine AW.skip ?_
     refine AX.go ?_
     refine AW.region ?_
     refine st (OpT.alias (H rfl) (by decide) (by decide)) rfl ?_
     refine sg (OpT.take (.inl rfl) rfl (ok' rfl) (Root.ali rfl (by decide) (by decide)) rfl rfl (by decide)) (ko 7 rfl <| kc4 42 41 10 40 rfl <| Kc 33 (.ali _) rfl <| kc4 20038 37 36 35 rfl <| kc4 30 29 28 27 rfl <| kc2 1 8 rfl <| Kn) rfl ?_
     refine nn ?_
     refine AX.normal_block ?_
     refine AX.go ?_
     refine AW.region ?_
     refine st (mvT rfl) rfl ?_
     refine st (OpT.add (H rfl) (T1 rfl) (I rfl) (nw (by omega))) rfl ?_
     refine st (asT rfl) rfl ?_
     refine nn ?_
     exact AX.again ((p.1 + 1, (applyS p.2 e).1)) ⟨by simp only []; omega, by (have := applyS_len p.2 e; simp only []; omega), am_next he hI.2.2 hcz⟩ (by simp only []; omega) (Kc 1 _ (Kv rfl rfl) <| Kc 7 _ (Ko rfl rfl) <| Kc 8 _ (Kv rfl (by simp only []; omega)) <| Kn)
   ·
    obtain ⟨hc3, hc3'⟩ := pF hc3
    refine AW.exit ?_
    refine xT <| xT <| AX.exit_hit ?_
    refine AX.go ?_
    refine sr ?_
    refine st (OpT.alias (H rfl) (by decide) (by decide)) rfl ?_
    refine st (mvT rfl) rfl ?_
    refine st (OpT.len (H rfl) (T1 rfl) el24) rfl ?_
    refine sg (OpT.take (.inl rfl) rfl (ok' rfl) (Root.ali rfl (by decide) (by decide)) rfl rfl (by decide)) (ko 4 rfl <| kc4 48 47 30 29 rfl <| kc4 28 27 1 8 rfl <| Kn) rfl ?_
    refine st (asT rfl) rfl ?_
    refine st (asI rfl) rfl ?_
    refine ng ?_
    refine AW.ret ?_
    exact AX.rt (rs := [.tmp 4, .tmp 5, .tmp 6]) (ts := [some 4, some 5, some 6]) (.inl rfl) rfl (ROs.cons (RO.tmp (At.self (by decide)) (Ko rfl (by first | (rw [many_bad hc1]; done) | (rw [many_long hc1 (by omega)]; done) | (rw [many_code hc1 (by omega) hcz (am_code he hI.2.2 hcz)]; done) | (rw [many_ok hc1 (by omega) (am_end hI.2.2 (by omega))]; done))) rfl) <| ROs.cons (RO.tmp (At.self (by decide)) (Kv rfl (by first | (rw [many_bad hc1]; done) | (rw [many_long hc1 (by omega)]; done) | (rw [many_code hc1 (by omega) hcz (am_code he hI.2.2 hcz)]; done) | (rw [many_ok hc1 (by omega) (am_end hI.2.2 (by omega))]; done))) rfl) <| ROs.cons (RO.tmp (At.self (by decide)) (Kv rfl (by first | (rw [many_bad hc1]; done) | (rw [many_long hc1 (by omega)]; done) | (rw [many_code hc1 (by omega) hcz (am_code he hI.2.2 hcz)]; done) | (rw [many_ok hc1 (by omega) (am_end hI.2.2 (by omega))]; done))) rfl) <| ROs.nil) (by decide) OutsOK.nil
theorem c_spec_ApplyEdits (x : List DCard) (l : List DEdit) : AC Tryd.prog 38 [.cel (Kd.slice kCard) x, .cel (Kd.slice kEdit) l] [.cel (Kd.slice kCard) (manyS x l).1, .cel (Kd.int .i64) (manyS x l).2.1, .cel (Kd.int .i64) (manyS x l).2.2] [] := (c_spec_ApplyEdits_o x l).frz rfl

/-- impl.ApplyEdits -/
theorem c_impl_ApplyEdits_o (x : List DCard) (l : List DEdit) : AC Tryd.prog 39 [.cel (Kd.slice kCard) x, .cel (Kd.slice kEdit) l] [.own 101 kCard (manyS x l).1, .cel (Kd.int .i64) (manyS x l).2.1, .cel (Kd.int .i64) (manyS x l).2.2] [] := by
 refine acI (N := 46) Tryd.func39 (Nat.le_of_ble_eq_true rfl) rfl fun w0 hd s0 ar => ?_
 refine AW.to (kc2 0 1 rfl <| Kn) ?_
 refine AW.fact (fun a w hr => (ok_slice (R_ok (t := 1) rfl hr)).2) (fun hl1 => ?_)
 refine sr ?_
 refine st (nilO (E := 101) kCard rfl (.inl rfl)) rfl ?_
 refine st (asI rfl) rfl ?_
 refine st (asI rfl) rfl ?_
 refine ng ?_
 refine AW.seq ?_
 refine sr ?_
 refine st (mvT rfl) rfl ?_
 refine st (OpT.c1 (ms := [.flat]) (c_impl_isDeck _) (H rfl) (Af (T1 rfl) rfl rfl <| An) rfl rfl) rfl ?_
 refine st (OpT.not (H rfl) (T1 rfl)) rfl ?_
 refine st (mvT rfl) rfl ?_
 apply AWl.or (d := 19) (t := 15) rfl
 ·
  intro hb1 Q1 k1
  have hb1' := lF hb1
  refine rs hb1 (mvT rfl) rfl ?_
  refine rs hb1 (OpT.c1 (ms := [.flat]) (c_impl_areEdits _) (H rfl) (Af (T1 rfl) rfl rfl <| An) rfl rfl) rfl ?_
  refine rs hb1 (OpT.not (H rfl) (T1 rfl)) rfl ?_
  refine st (OpT.pickF (A := .cel _ _) (H rfl) (T1 rfl) hb1 (T1 rfl) rfl) rfl ?_
  exact AWl.to (junk 3 rfl) k1
 ·
  intro hb1 Q1 k1
  refine ps hb1 rfl ?_
  refine ps hb1 rfl ?_
  refine ps hb1 rfl ?_
  refine st (OpT.pickT (A := .cel _ _) (H rfl) (T1 rfl) hb1 Opd.bool rfl) rfl ?_
  exact k1
 refine ng ?_
 refine cd rfl (fun hc1 => ?_) fun hc1 => ?_
 ·
  obtain ⟨hc1, hc1'⟩ := pT hc1
  refine sr ?_
  refine st (nilO (E := 101) kCard rfl (.inl rfl)) rfl ?_
  refine st (asI rfl) rfl ?_
  refine st (asI rfl) rfl ?_
  refine ng ?_
  refine AW.ret ?_
  refine rT ?_
  exact AX.rt (rs := [.tmp 4, .tmp 5, .tmp 6]) (ts := [some 4, some 5, some 6]) (.inl rfl) rfl (ROs.cons (RO.tmp (At.self (by decide)) (Ko rfl (by first | (rw [many_bad hc1]; done) | (rw [many_long hc1 (by omega)]; done) | (rw [many_code hc1 (by omega) hcz (am_code he hI.2.2 hcz)]; done) | (rw [many_ok hc1 (by omega) (am_end hI.2.2 (by omega))]; done))) rfl) <| ROs.cons (RO.tmp (At.self (by decide)) (Kv rfl (by first | (rw [many_bad hc1]; done) | (rw [many_long hc1 (by omega)]; done) | (rw [many_code hc1 (by omega) hcz (am_code he hI.2.2 hcz)]; done) | (rw [many_ok hc1 (by omega) (am_end hI.2.2 (by omega))]; done))) rfl) <| ROs.cons (RO.tmp (At.self (by decide)) (Kv rfl (by first | (rw [many_bad hc1]; done) | (rw [many_long hc1 (by omega)]; done) | (rw [many_code hc1 (by omega) hcz (am_code he hI.2.2 hcz)]; done) | (rw [many_ok hc1 (by omega) (am_end hI.2.2 (by omega))]; done))) rfl) <| ROs.nil) (by decide) OutsOK.nil
 ·
  obtain ⟨hc1, hc1'⟩ := pF hc1
  have hds := deck_edits hc1
  refine AW.skip ?_
  refine AX.go ?_
  refine AW.seq ?_
  refine sr ?_
  refine st (mvT rfl) rfl ?_
  refine st (OpT.len (H rfl) (T1 rfl) el24) rfl ?_
  refine st (OpT.gtr (H rfl) (T1 rfl) (I rfl)) rfl ?_
  refine ng ?_
  refine cd rfl (fun hc2 => ?_) fun hc2 => ?_
  ·
   obtain ⟨hc2, hc2'⟩ := pT hc2
   refine sr ?_
   refine st (nilO (E := 101) kCard rfl (.inl rfl)) rfl ?_
   refine st (asI rfl) rfl ?_
   refine st (asI rfl) rfl ?_
   refine AWl.to (kc2 6 5 rfl <| ko 4 rfl <| kc2 0 1 rfl <| Kn) ?_
   refine ng ?_
   refine AW.ret ?_
   refine rT ?_
   exact AX.rt (rs := [.tmp 4, .tmp 5, .tmp 6]) (ts := [some 4, some 5, some 6]) (.inl rfl) rfl (ROs.cons (RO.tmp (At.self (by decide)) (Ko rfl (by first | (rw [many_bad hc1]; done) | (rw [many_long hc1 (by omega)]; done) | (rw [many_code hc1 (by omega) hcz (am_code he hI.2.2 hcz)]; done) | (rw [many_ok hc1 (by omega) (am_end hI.2.2 (by omega))]; done))) rfl) <| ROs.cons (RO.tmp (At.self (by decide)) (Kv rfl (by first | (rw [many_bad hc1]; done) | (rw [many_long hc1 (by omega)]; done) | (rw [many_code hc1 (by omega) hcz (am_code he hI.2.2 hcz)]; done) | (rw [many_ok hc1 (by omega) (am_end hI.2.2 (by omega))]; done))) rfl) <| ROs.cons (RO.tmp (At.self (by decide)) (Kv rfl (by first | (rw [many_bad hc1]; done) | (rw [many_long hc1 (by omega)]; done) | (rw [many_code hc1 (by omega) hcz (am_code he hI.2.2 hcz)]; done) | (rw [many_ok hc1 (by omega) (am_end hI.2.2 (by omega))]; done))) rfl) <| ROs.nil) (by decide) OutsOK.nil
  ·
   obtain ⟨hc2, hc2'⟩ := pF hc2
   refine AW.skip ?_
   refine AX.go ?_
   refine sr ?_
   refine st (OpT.buildSlice0 (m := 0) (z := .bool false) kCard (H rfl) el36 sz101 (by decide)) rfl ?_
   refine st (mvT rfl) rfl ?_
   refine sg (OpT.append (H rfl) (Root.self (t := 23) (by decide)) rfl (Src.shared (T1 rfl)) (by decide) el36 zr101 rfl sz101 by101 (by decide) (by (try simp only [List.length_cons, List.length_nil, List.length_append, List.length_set, List.length_replicate, List.length_drop, List.length_take]); omega)) (ko 25 rfl <| kc4 24 22 21 20 rfl <| kc4 19 15 14 13 rfl <| kc3 12 6 5 rfl <| ko 4 rfl <| kc2 0 1 rfl <| Kn) rfl ?_
   refine sg (OpT.take (.inl rfl) rfl (ok' rfl) (Root.self (by decide)) rfl rfl (by decide)) (ko 7 rfl <| kc4 24 22 21 20 rfl <| kc4 19 15 14 13 rfl <| kc3 12 6 5 rfl <| ko 4 rfl <| kc2 0 1 rfl <| Kn) rfl ?_
   refine ng ?_
   refine AW.seq ?_
   refine sr ?_
   refine st (mvT rfl) rfl ?_
   refine st (OpT.len (H rfl) (T1 rfl) el24) rfl ?_
   refine st (mvI rfl) rfl ?_
   refine ng ?_
   refine AW.block ?_
   refine AW.loop (fun p : Nat × List DCard => p.1 ≤ l.length ∧ p.2.length ≤ 80 + p.1 ∧ amS p.2 (l.drop p.1) = amS x l) (fun p : Nat × List DCard => keep [(1, .cel (Kd.slice kEdit) l), (7, .own 101 kCard p.2), (26, .cel (Kd.slice kEdit) l), (27, .cel (Kd.int .i64) (l.length : Int)), (28, .cel (Kd.int .i64) (p.1 : Int))]) (fun p : Nat × List DCard => l.length - p.1) ((0, x)) ⟨Nat.zero_le _, by simp only []; omega, rfl⟩ (Kc 1 _ (Kv rfl rfl) <| Kc 7 _ (Ko rfl rfl) <| Kc 26 _ (Kv rfl rfl) <| Kc 27 _ (Kv rfl rfl) <| Kc 28 _ (Kv rfl rfl) <| Kn) ?_
   intro p hI
   refine sr ?_
   refine st (OpT.lss (H rfl) (T1 rfl) (T1 rfl)) rfl ?_
   refine ng ?_
   refine AW.seq ?_
   refine cd rfl (fun hc3 => ?_) fun hc3 => ?_
   ·
    obtain ⟨hc3, hc3'⟩ := pT hc3
    obtain ⟨e, he⟩ := getI (x := l) (z := p.1) (by omega)
    have hed := all_get hds.2 he
    refine AW.skip ?_
    refine AX.go ?_
    refine AW.seq ?_
    refine AW.block ?_
    refine sr ?_
    refine st (OpT.indexAddr (H rfl) (T1 rfl) (T1 rfl) el24 sz57 (by omega) (by assumption)) rfl ?_
    refine st (OpT.loadA (H rfl) (T1 rfl) ag57 sz57) rfl ?_
    refine st (OpT.alloc (H rfl) zr57 zk57) rfl ?_
    refine sk (OpT.storeBA rfl rfl (Opd.whole (Root.self (t := 9) (by decide)) rfl) rfl sz57 (by decide) (T1 rfl)) rfl ?_
    refine ng ?_
    refine sr ?_
    refine st (OpT.alias (H rfl) (by decide) (by decide)) rfl ?_
    refine st (OpT.loadB (H rfl) (Root.self (t := 9) (by decide)) rfl ag57 sz57) rfl ?_
    refine s2 (cb2 (ms := [.bor 7, .flat]) (c_impl_applyEdit_o _ _ (by omega) hed) (H rfl) (Ab (Root.ali rfl (by decide) (by decide)) rfl <| Af (T1 rfl) rfl rfl <| An) rfl (indO fun _ _ _ _ h => h) (indC fun _ _ _ _ h => h)) rfl ?_
    refine st (OpT.alias (H rfl) (by decide) (by decide)) rfl ?_
    refine sg (OpT.extractVO (m := 10035) (H rfl) rfl rfl rfl rfl rfl rfl) (ko 36 rfl <| Kc 32 (.ali _) rfl <| kc 20035 rfl <| ka 34 rfl <| Kc 33 (.ali _) rfl <| kb 9 rfl <| ka 31 rfl <| kc3 30 29 1 rfl <| ko 7 rfl <| kc3 26 27 28 rfl <| Kn) rfl ?_
    refine st (OpT.extractV (m := 20035) (H rfl) rfl rfl rfl rfl rfl rfl rfl) rfl ?_
    refine sg (OpT.take (.inl rfl) rfl (ok' rfl) (Root.self (by decide)) rfl rfl (by decide)) (ko 10 rfl <| kc 37 rfl <| Kc 32 (.ali _) rfl <| kc 20035 rfl <| ka 34 rfl <| Kc 33 (.ali _) rfl <| kb 9 rfl <| ka 31 rfl <| kc3 30 29 1 rfl <| ko 7 rfl <| kc3 26 27 28 rfl <| Kn) rfl ?_
    refine st (asT rfl) rfl ?_
    refine ng ?_
    refine AW.seq ?_
    refine sr ?_
    refine st (mvT rfl) rfl ?_
    refine st (OpT.neq (H rfl) (T1 rfl) (I rfl)) rfl ?_
    refine ng ?_
    refine cd rfl (fun hc4 => ?_) fun hc4 => ?_
    ·
     obtain ⟨hc4, hc4'⟩ := pT hc4
     have hcz := hc4'
     refine sr ?_
     refine st (mvT rfl) rfl ?_
     refine st (nilO (E := 101) kCard rfl (.inl rfl)) rfl ?_
     refine st (asI rfl) rfl ?_
     refine st (asT rfl) rfl ?_
     refine ng ?_
     refine AW.ret ?_
     refine rT <| rK <| rT <| rT <| rK <| rT ?_
     exact AX.rt (rs := [.tmp 4, .tmp 5, .tmp 6]) (ts := [some 4, some 5, some 6]) (.inl rfl) rfl (ROs.cons (RO.tmp (At.self (by decide)) (Ko rfl (by first | (rw [many_bad hc1]; done) | (rw [many_long hc1 (by omega)]; done) | (rw [many_code hc1 (by omega) hcz (am_code he hI.2.2 hcz)]; done) | (rw [many_ok hc1 (by omega) (am_end hI.2.2 (by omega))]; done))) rfl) <| ROs.cons (RO.tmp (At.self (by decide)) (Kv rfl (by first | (rw [many_bad hc1]; done) | (rw [many_long hc1 (by omega)]; done) | (rw [many_code hc1 (by omega) hcz (am_code he hI.2.2 hcz)]; done) | (rw [many_ok hc1 (by omega) (am_end hI.2.2 (by omega))]; done))) rfl) <| ROs.cons (RO.tmp (At.self (by decide)) (Kv rfl (by first | (rw [many_bad hc1]; done) | (rw [many_long hc1 (by omega)]; done) | (rw [many_code hc1 (by omega) hcz (am_code he hI.2.2 hcz)]; done) | (rw [many_ok hc1 (by omega) (am_end hI.2.2 (by omega))]; done))) rfl) <| ROs.nil) (by decide) OutsOK.nil
    ·
     obtain ⟨hc4, hc4'⟩ := pF hc4
     have hcz := hc4'
     refine AW.skip ?_
     refine AX.go ?_
     refine AW.region ?_
     refine st (OpT.alias (H rfl) (by decide) (by decide)) rfl ?_
     refine sg (OpT.take (.inl rfl) rfl (ok' rfl) (Root.ali rfl (by decide) (by decide)) rfl rfl (by decide)) (ko 7 rfl <| kc4 39 38 11 37 rfl <| Kc 32 (.ali _) rfl <| kc 20035 rfl <| ka 34 rfl <| kb 9 rfl <| ka 31 rfl <| kc4 30 29 1 26 rfl <| kc2 27 28 rfl <| Kn) rfl ?_
     refine nn ?_
     refine AX.normal_block ?_
     refine AX.go ?_
     refine AW.region ?_
     refine st (OpT.add (H rfl) (T1 rfl) (I rfl) (nw (by omega))) rfl ?_
     refine st (mvT rfl) rfl ?_
     refine nn ?_
     exact AX.again ((p.1 + 1, (applyS p.2 e).1)) ⟨by simp only []; omega, by (have := applyS_len p.2 e; simp only []; omega), am_next he hI.2.2 hcz⟩ (by simp only []; omega) (Kc 1 _ (Kv rfl rfl) <| Kc 7 _ (Ko rfl rfl) <| Kc 26 _ (Kv rfl rfl) <| Kc 27 _ (Kv rfl rfl) <| Kc 28 _ (Kv rfl (by simp only []; omega)) <| Kn)
   ·
    obtain ⟨hc3, hc3'⟩ := pF hc3
    refine AW.exit ?_
    refine xT <| xT <| AX.exit_hit ?_
    refine AX.go ?_
    refine sr ?_
    refine st (OpT.alias (H rfl) (by decide) (by decide)) rfl ?_
    refine st (mvT rfl) rfl ?_
    refine st (OpT.len (H rfl) (T1 rfl) el24) rfl ?_
    refine sg (OpT.take (.inl rfl) rfl (ok' rfl) (Root.ali rfl (by decide) (by decide)) rfl rfl (by decide)) (ko 4 rfl <| kc4 45 44 29 1 rfl <| kc3 26 27 28 rfl <| Kn) rfl ?_
    refine st (asT rfl) rfl ?_
    refine st (asI rfl) rfl ?_
    refine ng ?_
    refine AW.ret ?_
    exact AX.rt (rs := [.tmp 4, .tmp 5, .tmp 6]) (ts := [some 4, some 5, some 6]) (.inl rfl) rfl (ROs.cons (RO.tmp (At.self (by decide)) (Ko rfl (by first | (rw [many_bad hc1]; done) | (rw [many_long hc1 (by omega)]; done) | (rw [many_code hc1 (by omega) hcz (am_code he hI.2.2 hcz)]; done) | (rw [many_ok hc1 (by omega) (am_end hI.2.2 (by omega))]; done))) rfl) <| ROs.cons (RO.tmp (At.self (by decide)) (Kv rfl (by first | (rw [many_bad hc1]; done) | (rw [many_long hc1 (by omega)]; done) | (rw [many_code hc1 (by omega) hcz (am_code he hI.2.2 hcz)]; done) | (rw [many_ok hc1 (by omega) (am_end hI.2.2 (by omega))]; done))) rfl) <| ROs.cons (RO.tmp (At.self (by decide)) (Kv rfl (by first | (rw [many_bad hc1]; done) | (rw [many_long hc1 (by omega)]; done) | (rw [many_code hc1 (by omega) hcz (am_code he hI.2.2 hcz)]; done) | (rw [many_ok hc1 (by omega) (am_end hI.2.2 (by omega))]; done))) rfl) <| ROs.nil) (by decide) OutsOK.nil
set_option maxHeartbeats 4000000 in
/-- laws.FnExactApplyEdits -/
theorem c_laws_FnExactApplyEdits (x : List DCard) (l : List DEdit) : AC Tryd.prog 8 [.cel (Kd.slice kCard) x, .cel (Kd.slice kEdit) l] [.cel Kd.bool true] [] := by
 refine acI (N := 140) Tryd.func8 (Nat.le_of_ble_eq_true rfl) rfl fun w0 hd s0 ar => ?_
 refine AW.to (kc2 0 1 rfl <| Kn) ?_
 have htl := many_len x l
 refine sr ?_
 refine st (asB rfl) rfl ?_
 refine ng ?_
 refine sr ?_
 refine st (asI rfl) rfl ?_
 refine ng ?_
 refine sr ?_
 refine st (mvT rfl) rfl ?_
 refine st (mvT rfl) rfl ?_
 refine st (OpT.c1 (ms := [.flat, .flat]) (c_laws_szCardS _ _ (by omega)) (H rfl) (Af (T1 rfl) rfl rfl <| Af (T1 rfl) rfl rfl <| An) rfl rfl) rfl ?_
 refine st (asT rfl) rfl ?_
 refine ng ?_
 refine AW.seq ?_
 refine sr ?_
 refine st (mvT rfl) rfl ?_
 refine st (OpT.lss (H rfl) (T1 rfl) (I rfl)) rfl ?_
 refine ng ?_
 refine cd rfl (fun hc1 => ?_) fun hc1 => ?_
 ·
  replace hc1 := oT hc1
  refine sr ?_
  refine st (asB rfl) rfl ?_
  refine ng ?_
  refine AW.ret ?_
  refine rT ?_
  exact rt1 rfl (.inl rfl) rfl
 ·
  replace hc1 := oF hc1
  have k0 := okSz_list okSzC x 1048576 (by omega)
  have k1 := k0.2.2 (by omega)
  refine AW.skip ?_
  refine AX.go ?_
  refine sr ?_
  refine st (mvT rfl) rfl ?_
  refine st (mvT rfl) rfl ?_
  refine st (OpT.c1 (ms := [.flat, .flat]) (c_laws_szEditS _ _ (by omega)) (H rfl) (Af (T1 rfl) rfl rfl <| Af (T1 rfl) rfl rfl <| An) rfl rfl) rfl ?_
  refine st (asT rfl) rfl ?_
  refine ng ?_
  refine AW.seq ?_
  refine sr ?_
  refine st (mvT rfl) rfl ?_
  refine st (OpT.lss (H rfl) (T1 rfl) (I rfl)) rfl ?_
  refine AWl.to (kc4 29 4 0 1 rfl <| Kn) ?_
  refine ng ?_
  refine cd rfl (fun hc2 => ?_) fun hc2 => ?_
  ·
   replace hc2 := oT hc2
   refine sr ?_
   refine st (asB rfl) rfl ?_
   refine ng ?_
   refine AW.ret ?_
   refine rT ?_
   exact rt1 rfl (.inl rfl) rfl
  ·
   replace hc2 := oF hc2
   have k2 := (okSz_list okSzE l (szSS szC x 1048576) (by omega)).2.2 (by omega)
   refine AW.skip ?_
   refine AX.go ?_
   refine sr ?_
   refine st (mvT rfl) rfl ?_
   refine st (OpT.c1 (ms := [.flat]) (c_laws_toCardS x (by omega)) (H rfl) (Af (T1 rfl) rfl rfl <| An) rfl rfl) rfl ?_
   refine st (mvT rfl) rfl ?_
   refine st (OpT.c1 (ms := [.flat]) (c_laws_toEditS l (by omega)) (H rfl) (Af (T1 rfl) rfl rfl <| An) rfl rfl) rfl ?_
   refine s3 (cN (ms := [.flat, .flat]) (c_spec_ApplyEdits _ _) (H rfl) (Af (T1 rfl) rfl rfl <| Af (T1 rfl) rfl rfl <| An) rfl (.inl rfl)) rfl ?_
   refine st (OpT.alias (H rfl) (by decide) (by decide)) rfl ?_
   refine st (OpT.extractV (m := 10035) (H rfl) rfl rfl rfl rfl rfl rfl rfl) rfl ?_
   refine st (OpT.extractV (m := 20035) (H rfl) rfl rfl rfl rfl rfl rfl rfl) rfl ?_
   refine st (OpT.extractV (m := 30035) (H rfl) rfl rfl rfl rfl rfl rfl rfl) rfl ?_
   refine st (asT rfl) rfl ?_
   refine st (asT rfl) rfl ?_
   refine st (asT rfl) rfl ?_
   refine AWl.to (kc4 8 7 6 4 rfl <| kc2 0 1 rfl <| Kn) ?_
   refine ng ?_
   refine sr ?_
   refine st (mvT rfl) rfl ?_
   refine st (OpT.c1 (ms := [.flat]) (c_laws_toCardS_o x (by omega)) (H rfl) (Af (T1 rfl) rfl rfl <| An) rfl rfl) rfl ?_
   refine sg (OpT.take (.inl rfl) rfl (ok' rfl) (Root.self (by decide)) rfl rfl (by decide)) (ko 9 rfl <| kc4 39 8 7 6 rfl <| kc3 4 0 1 rfl <| Kn) rfl ?_
   refine ng ?_
   refine sr ?_
   refine st (mvT rfl) rfl ?_
   refine st (OpT.c1 (ms := [.flat]) (c_laws_toEditS_o l (by omega)) (H rfl) (Af (T1 rfl) rfl rfl <| An) rfl rfl) rfl ?_
   refine sg (OpT.take (.inl rfl) rfl (ok' rfl) (Root.self (by decide)) rfl rfl (by decide)) (ko 10 rfl <| kc 41 rfl <| ko 9 rfl <| kc4 39 8 7 6 rfl <| kc3 4 0 1 rfl <| Kn) rfl ?_
   refine ng ?_
   refine sr ?_
   refine st (OpT.alias (H rfl) (by decide) (by decide)) rfl ?_
   refine st (OpT.alias (H rfl) (by decide) (by decide)) rfl ?_
   refine s3 (cN (ms := [.bor 9, .bor 10]) (c_impl_ApplyEdits_o _ _) (H rfl) (Ab (Root.ali rfl (by decide) (by decide)) rfl <| Ab (Root.ali rfl (by decide) (by decide)) rfl <| An) rfl (.inr (ind3 (indO fun _ _ _ _ h => h) (indC fun _ _ _ _ h => h) (indC fun _ _ _ _ h => h)))) rfl ?_
   refine st (OpT.alias (H rfl) (by decide) (by decide)) rfl ?_
   refine sg (OpT.extractVO (m := 10046) (H rfl) rfl rfl rfl rfl rfl rfl) (ko 47 rfl <| Kc 43 (.ali _) rfl <| kc2 20046 30046 rfl <| Kc 45 (.ali _) rfl <| Kc 44 (.ali _) rfl <| ko 10 rfl <| kc 41 rfl <| ko 9 rfl <| kc4 39 8 7 6 rfl <| kc3 4 0 1 rfl <| Kn) rfl ?_
   refine st (OpT.extractV (m := 20046) (H rfl) rfl rfl rfl rfl rfl rfl rfl) rfl ?_
   refine st (OpT.extractV (m := 30046) (H rfl) rfl rfl rfl rfl rfl rfl rfl) rfl ?_
   refine sg (OpT.take (.inl rfl) rfl (ok' rfl) (Root.self (by decide)) rfl rfl (by decide)) (ko 11 rfl <| kc2 49 48 rfl <| Kc 43 (.ali _) rfl <| kc2 20046 30046 rfl <| Kc 45 (.ali _) rfl <| Kc 44 (.ali _) rfl <| ko 10 rfl <| kc 41 rfl <| ko 9 rfl <| kc4 39 8 7 6 rfl <| kc3 4 0 1 rfl <| Kn) rfl ?_
   refine st (asT rfl) rfl ?_
   refine st (asT rfl) rfl ?_
   refine ng ?_
   refine AW.seq ?_
   refine sr ?_
   refine st (OpT.alias (H rfl) (by decide) (by decide)) rfl ?_
   refine st (mvT rfl) rfl ?_
   refine st (cb1 (ms := [.bor 11, .flat]) (c_laws_eqCardS _ _) (H rfl) (Ab (Root.ali rfl (by decide) (by decide)) rfl <| Af (T1 rfl) rfl rfl <| An) rfl (indC fun _ _ _ _ h => h)) rfl ?_
   refine st (OpT.not (H rfl) (T1 rfl)) rfl ?_
   refine st (mvT rfl) rfl ?_
   apply AWl.or (d := 58) (t := 54) rfl
   ·
    intro hb1 Q1 k1
    refine rs hb1 (mvT rfl) rfl ?_
    refine rs hb1 (mvT rfl) rfl ?_
    refine rs hb1 (OpT.neq (H rfl) (T1 rfl) (T1 rfl)) rfl ?_
    refine st (OpT.pickF (A := .cel _ _) (H rfl) (T1 rfl) hb1 (T1 rfl) rfl) rfl ?_
    exact AWl.to (junk 3 rfl) k1
   ·
    intro hb1 Q1 k1
    refine ps hb1 rfl ?_
    refine ps hb1 rfl ?_
    refine ps hb1 rfl ?_
    refine st (OpT.pickT (A := .cel _ _) (H rfl) (T1 rfl) hb1 Opd.bool rfl) rfl ?_
    exact k1
   refine st (mvT rfl) rfl ?_
   apply AWl.or (d := 63) (t := 59) rfl
   ·
    intro hb2 Q1 k1
    refine rs hb2 (mvT rfl) rfl ?_
    refine rs hb2 (mvT rfl) rfl ?_
    refine rs hb2 (OpT.neq (H rfl) (T1 rfl) (T1 rfl)) rfl ?_
    refine st (OpT.pickF (A := .cel _ _) (H rfl) (T1 rfl) hb2 (T1 rfl) rfl) rfl ?_
    exact AWl.to (junk 3 rfl) k1
   ·
    intro hb2 Q1 k1
    refine ps hb2 rfl ?_
    refine ps hb2 rfl ?_
    refine ps hb2 rfl ?_
    refine st (OpT.pickT (A := .cel _ _) (H rfl) (T1 rfl) hb2 Opd.bool rfl) rfl ?_
    exact k1
   refine AWl.to (kc3 63 13 12 rfl <| ko 11 rfl <| ko 10 rfl <| ko 9 rfl <| kc4 8 7 6 4 rfl <| kc2 0 1 rfl <| Kn) ?_
   refine ng ?_
   refine cd rfl (fun hc3 => ?_) fun hc3 => ?_
   ·
    replace hc3 := oT hc3
    exact (show False from (by first | omega | (simp [eqv_self] at hc3 <;> omega))).elim
   ·
    replace hc3 := oF hc3
    refine AW.skip ?_
    refine AX.go ?_
    refine AW.seq ?_
    refine sr ?_
    refine st (OpT.alias (H rfl) (by decide) (by decide)) rfl ?_
    refine st (mvT rfl) rfl ?_
    refine st (OpT.c1 (ms := [.flat]) (c_laws_toCardS x (by omega)) (H rfl) (Af (T1 rfl) rfl rfl <| An) rfl rfl) rfl ?_
    refine st (cb1 (ms := [.bor 9, .flat]) (c_laws_eqCardS _ _) (H rfl) (Ab (Root.ali rfl (by decide) (by decide)) rfl <| Af (T1 rfl) rfl rfl <| An) rfl (indC fun _ _ _ _ h => h)) rfl ?_
    refine st (OpT.not (H rfl) (T1 rfl)) rfl ?_
    refine ng ?_
    refine cd rfl (fun hc4 => ?_) fun hc4 => ?_
    ·
     replace hc4 := oT hc4
     exact (show False from (by first | omega | (simp [eqv_self] at hc4 <;> omega))).elim
    ·
     replace hc4 := oF hc4
     refine AW.skip ?_
     refine AX.go ?_
     refine AW.seq ?_
     refine sr ?_
     refine st (OpT.alias (H rfl) (by decide) (by decide)) rfl ?_
     refine st (mvT rfl) rfl ?_
     refine st (OpT.c1 (ms := [.flat]) (c_laws_toEditS l (by omega)) (H rfl) (Af (T1 rfl) rfl rfl <| An) rfl rfl) rfl ?_
     refine st (cb1 (ms := [.bor 10, .flat]) (c_laws_eqEditS _ _) (H rfl) (Ab (Root.ali rfl (by decide) (by decide)) rfl <| Af (T1 rfl) rfl rfl <| An) rfl (indC fun _ _ _ _ h => h)) rfl ?_
     refine st (OpT.not (H rfl) (T1 rfl)) rfl ?_
     refine ng ?_
     refine cd rfl (fun hc5 => ?_) fun hc5 => ?_
     ·
      replace hc5 := oT hc5
      exact (show False from (by first | omega | (simp [eqv_self] at hc5 <;> omega))).elim
     ·
      replace hc5 := oF hc5
      refine AW.skip ?_
      refine AX.pr (kc2 13 12 rfl <| ko 11 rfl <| ko 10 rfl <| ko 9 rfl <| kc4 8 7 6 4 rfl <| kc2 0 1 rfl <| Kn) ?_
      refine AX.go ?_
      refine sr ?_
      refine st (asI rfl) rfl ?_
      refine ng ?_
      refine sr ?_
      refine st (OpT.alias (H rfl) (by decide) (by decide)) rfl ?_
      refine st (mvT rfl) rfl ?_
      refine sg (OpT.cr (ms := [.root 9, .flat]) (c_laws_markCardS _ _ (by omega)) (H rfl) (Ar (Root.ali rfl (by decide) (by decide)) rfl rfl rfl <| Af (T1 rfl) rfl rfl <| An) rfl (.inl rfl) rfl) (kc2 76 75 rfl <| Kc 74 (.ali _) rfl <| kc3 14 13 12 rfl <| ko 11 rfl <| ko 10 rfl <| ko 9 rfl <| kc4 8 7 6 4 rfl <| kc2 0 1 rfl <| Kn) rfl ?_
      refine st (asT rfl) rfl ?_
      refine ng ?_
      refine sr ?_
      refine st (OpT.alias (H rfl) (by decide) (by decide)) rfl ?_
      refine st (mvT rfl) rfl ?_
      refine sg (OpT.cr (ms := [.root 10, .flat]) (c_laws_markEditS _ _ (by omega)) (H rfl) (Ar (Root.ali rfl (by decide) (by decide)) rfl rfl rfl <| Af (T1 rfl) rfl rfl <| An) rfl (.inl rfl) rfl) (kc2 79 78 rfl <| Kc 77 (.ali _) rfl <| kc3 14 76 75 rfl <| Kc 74 (.ali _) rfl <| kc2 13 12 rfl <| ko 11 rfl <| ko 10 rfl <| ko 9 rfl <| kc4 8 7 6 4 rfl <| kc2 0 1 rfl <| Kn) rfl ?_
      refine st (asT rfl) rfl ?_
      refine ng ?_
      refine AW.seq ?_
      refine sr ?_
      refine st (mvT rfl) rfl ?_
      refine st (OpT.lss (H rfl) (T1 rfl) (I rfl)) rfl ?_
      refine st (mvT rfl) rfl ?_
      apply AWl.or (d := 87) (t := 82) rfl
      ·
       intro hb3 Q1 k1
       refine rs hb3 (OpT.alias (H rfl) (by decide) (by decide)) rfl ?_
       refine rs hb3 (mvT rfl) rfl ?_
       refine rs hb3 (cb1 (ms := [.bor 11, .flat]) (c_laws_eqCardS _ _) (H rfl) (Ab (Root.ali rfl (by decide) (by decide)) rfl <| Af (T1 rfl) rfl rfl <| An) rfl (indC fun _ _ _ _ h => h)) rfl ?_
       refine rs hb3 (OpT.not (H rfl) (T1 rfl)) rfl ?_
       refine st (OpT.pickF (A := .cel _ _) (H rfl) (T1 rfl) hb3 (T1 rfl) rfl) rfl ?_
       exact AWl.to (junk 4 rfl) k1
      ·
       intro hb3 Q1 k1
       refine ps hb3 rfl ?_
       refine ps hb3 rfl ?_
       refine ps hb3 rfl ?_
       refine ps hb3 rfl ?_
       refine st (OpT.pickT (A := .cel _ _) (H rfl) (T1 rfl) hb3 Opd.bool rfl) rfl ?_
       exact k1
      refine st (mvT rfl) rfl ?_
      apply AWl.or (d := 92) (t := 88) rfl
      ·
       intro hb4 Q1 k1
       refine rs hb4 (mvT rfl) rfl ?_
       refine rs hb4 (mvT rfl) rfl ?_
       refine rs hb4 (OpT.neq (H rfl) (T1 rfl) (T1 rfl)) rfl ?_
       refine st (OpT.pickF (A := .cel _ _) (H rfl) (T1 rfl) hb4 (T1 rfl) rfl) rfl ?_
       exact AWl.to (junk 3 rfl) k1
      ·
       intro hb4 Q1 k1
       refine ps hb4 rfl ?_
       refine ps hb4 rfl ?_
       refine ps hb4 rfl ?_
       refine st (OpT.pickT (A := .cel _ _) (H rfl) (T1 rfl) hb4 Opd.bool rfl) rfl ?_
       exact k1
      refine st (mvT rfl) rfl ?_
      apply AWl.or (d := 97) (t := 93) rfl
      ·
       intro hb5 Q1 k1
       refine rs hb5 (mvT rfl) rfl ?_
       refine rs hb5 (mvT rfl) rfl ?_
       refine rs hb5 (OpT.neq (H rfl) (T1 rfl) (T1 rfl)) rfl ?_
       refine st (OpT.pickF (A := .cel _ _) (H rfl) (T1 rfl) hb5 (T1 rfl) rfl) rfl ?_
       exact AWl.to (junk 3 rfl) k1
      ·
       intro hb5 Q1 k1
       refine ps hb5 rfl ?_
       refine ps hb5 rfl ?_
       refine ps hb5 rfl ?_
       refine st (OpT.pickT (A := .cel _ _) (H rfl) (T1 rfl) hb5 Opd.bool rfl) rfl ?_
       exact k1
      refine AWl.to (kc 97 rfl <| ko 11 rfl <| kc4 8 7 6 4 rfl <| kc2 0 1 rfl <| Kn) ?_
      refine ng ?_
      refine cd rfl (fun hc6 => ?_) fun hc6 => ?_
      ·
       replace hc6 := oT hc6
       exact (show False from (by first | omega | (simp [eqv_self] at hc6 <;> omega))).elim
      ·
       replace hc6 := oF hc6
       refine AW.skip ?_
       refine AX.go ?_
       refine sr ?_
       refine st (asI rfl) rfl ?_
       refine ng ?_
       refine sr ?_
       refine st (OpT.alias (H rfl) (by decide) (by decide)) rfl ?_
       refine st (mvT rfl) rfl ?_
       refine sg (OpT.cr (ms := [.root 11, .flat]) (c_laws_markCardS _ _ (by omega)) (H rfl) (Ar (Root.ali rfl (by decide) (by decide)) rfl rfl rfl <| Af (T1 rfl) rfl rfl <| An) rfl (.inl rfl) rfl) (kc2 100 99 rfl <| Kc 98 (.ali _) rfl <| kc2 15 97 rfl <| ko 11 rfl <| kc4 8 7 6 4 rfl <| kc2 0 1 rfl <| Kn) rfl ?_
       refine st (asT rfl) rfl ?_
       refine ng ?_
       refine sr ?_
       refine st (asI rfl) rfl ?_
       refine ng ?_
       refine sr ?_
       refine st (OpT.alias (H rfl) (by decide) (by decide)) rfl ?_
       refine st (mvT rfl) rfl ?_
       refine st (cb1 (ms := [.bor 11, .flat]) (c_laws_heldCardS (manyS x l).1.length _ (by omega)) (H rfl) (Ab (Root.ali rfl (by decide) (by decide)) rfl <| Af (T1 rfl) rfl rfl <| An) rfl (indC fun _ _ _ _ h => h)) rfl ?_
       refine st (asT rfl) rfl ?_
       refine ng ?_
       refine AW.seq ?_
       refine sr ?_
       refine st (mvT rfl) rfl ?_
       refine st (OpT.lss (H rfl) (T1 rfl) (I rfl)) rfl ?_
       refine ng ?_
       refine cd rfl (fun hc7 => ?_) fun hc7 => ?_
       ·
        replace hc7 := oT hc7
        exact (show False from (by first | omega | (simp [eqv_self] at hc7 <;> omega))).elim
       ·
        replace hc7 := oF hc7
        refine AW.skip ?_
        refine AX.pr (kc2 16 15 rfl <| ko 11 rfl <| kc4 8 7 6 4 rfl <| kc2 0 1 rfl <| Kn) ?_
        refine AX.go ?_
        refine AW.seq ?_
        refine sr ?_
        refine st (mvT rfl) rfl ?_
        refine st (mvT rfl) rfl ?_
        refine st (OpT.neq (H rfl) (T1 rfl) (T1 rfl)) rfl ?_
        refine ng ?_
        refine cd rfl (fun hc8 => ?_) fun hc8 => ?_
        ·
         replace hc8 := oT hc8
         exact (show False from (by first | omega | (simp [eqv_self] at hc8 <;> omega))).elim
        ·
         replace hc8 := oF hc8
         refine AW.skip ?_
         refine AX.go ?_
         refine sr ?_
         refine st (mvT rfl) rfl ?_
         refine st (OpT.c1 (ms := [.flat]) (c_laws_toCardS x (by omega)) (H rfl) (Af (T1 rfl) rfl rfl <| An) rfl rfl) rfl ?_
         refine st (mvT rfl) rfl ?_
         refine st (OpT.c1 (ms := [.flat]) (c_laws_toEditS l (by omega)) (H rfl) (Af (T1 rfl) rfl rfl <| An) rfl rfl) rfl ?_
         refine s3 (cN (ms := [.flat, .flat]) (c_impl_ApplyEdits_o _ _) (H rfl) (Af (T1 rfl) rfl rfl <| Af (T1 rfl) rfl rfl <| An) rfl (.inl rfl)) rfl ?_
         refine st (OpT.alias (H rfl) (by decide) (by decide)) rfl ?_
         refine sg (OpT.extractVO (m := 10114) (H rfl) rfl rfl rfl rfl rfl rfl) (ko 115 rfl <| Kc 109 (.ali _) rfl <| kc4 20114 30114 113 112 rfl <| kc4 111 110 108 107 rfl <| kc3 106 16 15 rfl <| ko 11 rfl <| kc4 8 7 6 4 rfl <| kc2 0 1 rfl <| Kn) rfl ?_
         refine st (OpT.extractV (m := 20114) (H rfl) rfl rfl rfl rfl rfl rfl rfl) rfl ?_
         refine st (OpT.extractV (m := 30114) (H rfl) rfl rfl rfl rfl rfl rfl rfl) rfl ?_
         refine sg (OpT.take (.inl rfl) rfl (ok' rfl) (Root.self (by decide)) rfl rfl (by decide)) (ko 17 rfl <| kc2 117 116 rfl <| Kc 109 (.ali _) rfl <| kc4 20114 30114 113 112 rfl <| kc4 111 110 108 107 rfl <| kc3 106 16 15 rfl <| ko 11 rfl <| kc4 8 7 6 4 rfl <| kc2 0 1 rfl <| Kn) rfl ?_
         refine st (asT rfl) rfl ?_
         refine st (asT rfl) rfl ?_
         refine AWl.to (kc2 19 18 rfl <| ko 17 rfl <| kc2 16 15 rfl <| ko 11 rfl <| kc4 8 7 6 4 rfl <| Kn) ?_
         refine ng ?_
         refine AW.seq ?_
         refine sr ?_
         refine st (OpT.alias (H rfl) (by decide) (by decide)) rfl ?_
         refine st (mvT rfl) rfl ?_
         refine st (cb1 (ms := [.bor 17, .flat]) (c_laws_eqCardS _ _) (H rfl) (Ab (Root.ali rfl (by decide) (by decide)) rfl <| Af (T1 rfl) rfl rfl <| An) rfl (indC fun _ _ _ _ h => h)) rfl ?_
         refine st (OpT.not (H rfl) (T1 rfl)) rfl ?_
         refine st (mvT rfl) rfl ?_
         apply AWl.or (d := 126) (t := 122) rfl
         ·
          intro hb6 Q1 k1
          refine rs hb6 (mvT rfl) rfl ?_
          refine rs hb6 (mvT rfl) rfl ?_
          refine rs hb6 (OpT.neq (H rfl) (T1 rfl) (T1 rfl)) rfl ?_
          refine st (OpT.pickF (A := .cel _ _) (H rfl) (T1 rfl) hb6 (T1 rfl) rfl) rfl ?_
          exact AWl.to (junk 3 rfl) k1
         ·
          intro hb6 Q1 k1
          refine ps hb6 rfl ?_
          refine ps hb6 rfl ?_
          refine ps hb6 rfl ?_
          refine st (OpT.pickT (A := .cel _ _) (H rfl) (T1 rfl) hb6 Opd.bool rfl) rfl ?_
          exact k1
         refine st (mvT rfl) rfl ?_
         apply AWl.or (d := 131) (t := 127) rfl
         ·
          intro hb7 Q1 k1
          refine rs hb7 (mvT rfl) rfl ?_
          refine rs hb7 (mvT rfl) rfl ?_
          refine rs hb7 (OpT.neq (H rfl) (T1 rfl) (T1 rfl)) rfl ?_
          refine st (OpT.pickF (A := .cel _ _) (H rfl) (T1 rfl) hb7 (T1 rfl) rfl) rfl ?_
          exact AWl.to (junk 3 rfl) k1
         ·
          intro hb7 Q1 k1
          refine ps hb7 rfl ?_
          refine ps hb7 rfl ?_
          refine ps hb7 rfl ?_
          refine st (OpT.pickT (A := .cel _ _) (H rfl) (T1 rfl) hb7 Opd.bool rfl) rfl ?_
          exact k1
         refine AWl.to (kc3 131 16 15 rfl <| ko 11 rfl <| kc 4 rfl <| Kn) ?_
         refine ng ?_
         refine cd rfl (fun hc9 => ?_) fun hc9 => ?_
         ·
          replace hc9 := oT hc9
          exact (show False from (by first | omega | (simp [eqv_self] at hc9 <;> omega))).elim
         ·
          replace hc9 := oF hc9
          refine AW.skip ?_
          refine AX.go ?_
          refine sr ?_
          refine st (asI rfl) rfl ?_
          refine ng ?_
          refine sr ?_
          refine st (OpT.alias (H rfl) (by decide) (by decide)) rfl ?_
          refine st (mvT rfl) rfl ?_
          refine st (cb1 (ms := [.bor 11, .flat]) (c_laws_heldCardS (manyS x l).1.length _ (by omega)) (H rfl) (Ab (Root.ali rfl (by decide) (by decide)) rfl <| Af (T1 rfl) rfl rfl <| An) rfl (indC fun _ _ _ _ h => h)) rfl ?_
          refine st (asT rfl) rfl ?_
          refine ng ?_
          refine AW.seq ?_
          refine sr ?_
          refine st (mvT rfl) rfl ?_
          refine st (OpT.lss (H rfl) (T1 rfl) (I rfl)) rfl ?_
          refine ng ?_
          refine cd rfl (fun hc10 => ?_) fun hc10 => ?_
          ·
           replace hc10 := oT hc10
           exact (show False from (by first | omega | (simp [eqv_self] at hc10 <;> omega))).elim
          ·
           replace hc10 := oF hc10
           refine AW.skip ?_
           refine AX.go ?_
           refine AW.seq ?_
           refine sr ?_
           refine st (mvT rfl) rfl ?_
           refine st (mvT rfl) rfl ?_
           refine st (OpT.neq (H rfl) (T1 rfl) (T1 rfl)) rfl ?_
           refine AWl.to (kc2 139 4 rfl <| Kn) ?_
           refine ng ?_
           refine cd rfl (fun hc11 => ?_) fun hc11 => ?_
           ·
            replace hc11 := oT hc11
            exact (show False from (by first | omega | (simp [eqv_self] at hc11 <;> omega))).elim
           ·
            replace hc11 := oF hc11
            refine AW.skip ?_
            refine AX.go ?_
            refine sr ?_
            refine st (asB rfl) rfl ?_
            refine ng ?_
            refine AW.ret ?_
            exact rt1 rfl (.inl rfl) rfl
end Go.Proofs.YtfnkphllkbkfaaaDoor.VL
