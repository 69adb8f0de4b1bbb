/- Proved here: what some functions of the program take and give: walks with the words of VA..VQ. Printed by program. -/
import Derived.Test.YtfnkphllkbkfaaaDoorWT
import Derived.Test.YtfnkphllkbkfaaaDoorPQ
import Derived.Test.YtfnkphllkbkfaaaDoorPR
import Derived.Test.YtfnkphllkbkfaaaDoorWX
import Derived.Test.YtfnkphllkbkfaaaDoorWD
import Derived.Test.YtfnkphllkbkfaaaDoorWM
import Derived.Test.YtfnkphllkbkfaaaDoorWL
set_option linter.unusedVariables false
set_option linter.unusedSimpArgs false
set_option maxRecDepth 4000
namespace Go.Proofs.YtfnkphllkbkfaaaDoor.VL
open Go
/-- impl.Edit] -/
theorem c_slices_IndexFunc_impl_Edit_impl_Edit {γ : Type} {g : FuncId} {kg : Kd γ} {y : γ} {cs : List As} (q : (Int × ByteArray × Int × (BitVec 64 × BitVec 64)) → Bool) (hcs : CloArgs kg y cs) (hg : ∀ a, AC Tryd.prog g ([.agg kEdit a] ++ cs) [.cel Kd.bool (q a)] []) (x : List (Int × ByteArray × Int × (BitVec 64 × BitVec 64))) : AC Tryd.prog 154 [.cel (Kd.slice kEdit) x, .clo g kg y] [.cel (Kd.int .i64) (idxQ q x)] [] := by
 refine acI (N := 19) Tryd.func154 (Nat.le_of_ble_eq_true rfl) rfl fun w0 hd s0 ar => ?_
 refine AW.to (kc 0 rfl <| Kc 1 (.clo _ _ _) rfl <| Kn) ?_
 refine AW.fact (fun a w hr => (ok_slice (R_ok (t := 0) rfl hr)).2) (fun hl0 => ?_)
 refine sr ?_
 refine st (asI rfl) rfl ?_
 refine ng ?_
 refine AW.seq ?_
 refine sr ?_
 refine st (mvT rfl) rfl ?_
 refine st (OpT.len (H rfl) (T1 rfl) el24) rfl ?_
 refine st (mvI rfl) rfl ?_
 refine ng ?_
 refine AW.block ?_
 refine AW.loop (fun z : Nat => z ≤ x.length ∧ ∀ i, i < z → nI q x i) (fun z : Nat => keep [(0, .cel (Kd.slice kEdit) x), (1, .clo g kg y), (7, .cel (Kd.int .i64) ((x.length : Nat) : Int)), (8, .cel (Kd.int .i64) (z : Int))]) (fun z : Nat => x.length - z) (0) ⟨Nat.zero_le _, all_none⟩ (Kc 0 _ (Kv rfl rfl) <| Kc 1 _ (rfl) <| Kc 7 _ (Kv rfl rfl) <| Kc 8 _ (Kv rfl rfl) <| Kn) ?_
 intro z hI
 refine sr ?_
 refine st (OpT.lss (H rfl) (T1 rfl) (T1 rfl)) rfl ?_
 refine ng ?_
 refine AW.seq ?_
 refine cd rfl (fun hc1 => ?_) fun hc1 => ?_
 ·
  replace hc1 := oT hc1
  obtain ⟨a, ha⟩ := getI (x := x) (z := z) (by omega)
  refine AW.skip ?_
  refine AX.go ?_
  refine AW.seq ?_
  refine AW.block ?_
  refine sr ?_
  refine st (mvT rfl) rfl ?_
  refine st (asT rfl) rfl ?_
  refine ng ?_
  refine sr ?_
  refine st (OpT.move (A := .clo _ _ _) (.inl rfl) rfl (ok' rfl) (T1 rfl) rfl) rfl ?_
  refine st (mvT rfl) rfl ?_
  refine st (mvT rfl) rfl ?_
  refine st (OpT.indexAddr (H rfl) (T1 rfl) (T1 rfl) el24 sz57 (by omega) (by assumption)) rfl ?_
  refine st (OpT.loadA (H rfl) (T1 rfl) ag57 sz57) rfl ?_
  refine st (OpT.vg (ms := [.flat]) (T1 rfl) hcs ((hg _)) (H rfl) (Af (T1 rfl) rfl rfl <| An) rfl rfl) rfl ?_
  refine ng ?_
  refine cd rfl (fun hc2 => ?_) fun hc2 => ?_
  ·
   replace hc2 := oT hc2
   refine sr ?_
   refine st (mvT rfl) rfl ?_
   refine st (asT rfl) rfl ?_
   refine ng ?_
   refine AW.ret ?_
   refine rK <| rT <| rT <| rK <| rT ?_
   exact rt1 rfl (.inl rfl) (by first | exact idxQ_at hI.2 ha hc2 | exact idxQ_end hI.2 (by omega))
  ·
   replace hc2 := oF hc2
   refine AW.skip ?_
   refine AX.normal_block ?_
   refine AX.go ?_
   refine AW.region ?_
   refine st (OpT.add (H rfl) (T1 rfl) (I rfl) (nw (by omega))) rfl ?_
   refine st (mvT rfl) rfl ?_
   refine nn ?_
   exact AX.again (z + 1) ⟨by omega, all_step hI.2 ((nI_iff ha).2 (by simpa using hc2))⟩ (by omega) (Kc 0 _ (Kv rfl rfl) <| Kc 1 _ (rfl) <| Kc 7 _ (Kv rfl rfl) <| Kc 8 _ (Kv rfl (by omega)) <| Kn)
 ·
  replace hc1 := oF hc1
  refine AW.exit ?_
  refine xT <| xT <| AX.exit_hit ?_
  refine AX.go ?_
  refine sr ?_
  refine st (asI rfl) rfl ?_
  refine ng ?_
  refine AW.ret ?_
  exact rt1 rfl (.inl rfl) (by first | exact idxQ_at hI.2 ha hc2 | exact idxQ_end hI.2 (by omega))

/-- impl.Edit] -/
theorem c_slices_ContainsFunc_impl_Edit_impl_Edit {γ : Type} {g : FuncId} {kg : Kd γ} {y : γ} {cs : List As} (q : (Int × ByteArray × Int × (BitVec 64 × BitVec 64)) → Bool) (hcs : CloArgs kg y cs) (hg : ∀ a, AC Tryd.prog g ([.agg kEdit a] ++ cs) [.cel Kd.bool (q a)] []) (x : List (Int × ByteArray × Int × (BitVec 64 × BitVec 64))) : AC Tryd.prog 103 [.cel (Kd.slice kEdit) x, .clo g kg y] [.cel Kd.bool (x.any q)] [] := by
 refine acI (N := 9) Tryd.func103 (Nat.le_of_ble_eq_true rfl) rfl fun w0 hd s0 ar => ?_
 refine AW.to (kc 0 rfl <| Kc 1 (.clo _ _ _) rfl <| Kn) ?_
 refine sr ?_
 refine st (asB rfl) rfl ?_
 refine ng ?_
 refine sr ?_
 refine st (mvT rfl) rfl ?_
 refine st (OpT.move (A := .clo _ _ _) (.inl rfl) rfl (ok' rfl) (T1 rfl) rfl) rfl ?_
 refine st (OpT.c1 (ms := [.flat, .flat]) (c_slices_IndexFunc_impl_Edit_impl_Edit q hcs hg x) (H rfl) (Af (T1 rfl) rfl rfl <| Af (T1 rfl) rfl rfl <| An) rfl rfl) rfl ?_
 refine st (OpT.geq (H rfl) (T1 rfl) (I rfl)) rfl ?_
 refine st (asT rfl) rfl ?_
 refine ng ?_
 refine AW.ret ?_
 exact rt1 rfl (.inl rfl) idxQ_any

/-- laws.szEditS -/
theorem c_laws_szEditS (x : List (Int × ByteArray × Int × (BitVec 64 × BitVec 64))) (l : Int) (hl : 0 ≤ l ∧ l ≤ 1048576) : AC Tryd.prog 13 [.cel (Kd.slice kEdit) x, .cel (Kd.int .i64) l] [.cel (Kd.int .i64) (szSS szE x l)] [] := by
 refine acI (N := 27) Tryd.func13 (Nat.le_of_ble_eq_true rfl) rfl fun w0 hd s0 ar => ?_
 refine AW.to (kc2 0 1 rfl <| Kn) ?_
 refine AW.fact (fun a w hr => (ok_slice (R_ok (t := 0) rfl hr)).2) (fun hl0 => ?_)
 refine sr ?_
 refine st (asI rfl) rfl ?_
 refine ng ?_
 refine sr ?_
 refine st (mvT rfl) rfl ?_
 refine st (mvT rfl) rfl ?_
 refine st (OpT.len (H rfl) (T1 rfl) el22) rfl ?_
 refine st (OpT.sub (H rfl) (T1 rfl) (T1 rfl) (nw (by omega))) rfl ?_
 refine st (asT rfl) rfl ?_
 refine ng ?_
 refine AW.seq ?_
 refine sr ?_
 refine st (mvT rfl) rfl ?_
 refine st (OpT.lss (H rfl) (T1 rfl) (I rfl)) rfl ?_
 refine ng ?_
 refine cd rfl (fun hc1 => ?_) fun hc1 => ?_
 ·
  replace hc1 := oT hc1
  refine sr ?_
  refine st (asI rfl) rfl ?_
  refine ng ?_
  refine AW.ret ?_
  refine rT ?_
  exact rt1 rfl (.inl rfl) (by first | exact (if_pos hc1).symm | exact szs_ne hc1 hI ha hc3 | exact szs_end hc1 hI (by omega))
 ·
  replace hc1 := oF hc1
  refine AW.skip ?_
  refine AX.go ?_
  refine AW.seq ?_
  refine sr ?_
  refine st (asI rfl) rfl ?_
  refine ng ?_
  refine AW.block ?_
  refine AW.loop (fun p : Nat × Int => p.1 ≤ x.length ∧ 0 ≤ p.2 ∧ p.2 ≤ 1048576 ∧ szs szE (x.drop p.1) p.2 = szs szE x (l - x.length)) (fun p : Nat × Int => keep [(0, .cel (Kd.slice kEdit) x), (1, .cel (Kd.int .i64) p.2), (5, .cel (Kd.int .i64) (p.1 : Int))]) (fun p : Nat × Int => x.length - p.1) ((0, l - x.length)) ⟨Nat.zero_le _, by simp only []; omega, by simp only []; omega, rfl⟩ (Kc 0 _ (Kv rfl rfl) <| Kc 1 _ (Kv rfl rfl) <| Kc 5 _ (Kv rfl rfl) <| Kn) ?_
  intro p hI
  refine AW.seq ?_
  refine sr ?_
  refine st (mvT rfl) rfl ?_
  refine st (mvT rfl) rfl ?_
  refine st (OpT.len (H rfl) (T1 rfl) el22) rfl ?_
  refine st (OpT.lss (H rfl) (T1 rfl) (T1 rfl)) rfl ?_
  refine ng ?_
  refine cd rfl (fun hc2 => ?_) fun hc2 => ?_
  ·
   replace hc2 := oT hc2
   obtain ⟨a, ha⟩ := getI (x := x) (z := p.1) (by omega)
   refine AW.skip ?_
   refine AX.go ?_
   refine AW.seq ?_
   refine AW.block ?_
   refine sr ?_
   refine st (mvT rfl) rfl ?_
   refine st (mvT rfl) rfl ?_
   refine st (OpT.indexAddr (H rfl) (T1 rfl) (T1 rfl) el22 sz52 (by omega) (by assumption)) rfl ?_
   refine st (OpT.loadA (H rfl) (T1 rfl) ag52 sz52) rfl ?_
   refine st (mvT rfl) rfl ?_
   refine st (OpT.c1 (ms := [.flat, .flat]) (c_laws_szEdit _ _ ⟨hI.2.1, hI.2.2.1⟩) (H rfl) (Af (T1 rfl) rfl rfl <| Af (T1 rfl) rfl rfl <| An) rfl rfl) rfl ?_
   refine st (asT rfl) rfl ?_
   refine ng ?_
   refine sr ?_
   refine st (mvT rfl) rfl ?_
   refine st (OpT.lss (H rfl) (T1 rfl) (I rfl)) rfl ?_
   refine ng ?_
   refine cd rfl (fun hc3 => ?_) fun hc3 => ?_
   ·
    replace hc3 := oT hc3
    refine sr ?_
    refine st (asI rfl) rfl ?_
    refine ng ?_
    refine AW.ret ?_
    refine rK <| rT <| rT <| rK <| rT ?_
    exact rt1 rfl (.inl rfl) (by first | exact (if_pos hc1).symm | exact szs_ne hc1 hI ha hc3 | exact szs_end hc1 hI (by omega))
   ·
    replace hc3 := oF hc3
    refine AW.skip ?_
    refine AX.normal_block ?_
    refine AX.go ?_
    refine AW.region ?_
    refine st (mvT rfl) rfl ?_
    refine st (OpT.add (H rfl) (T1 rfl) (I rfl) (nw (by omega))) rfl ?_
    refine st (asT rfl) rfl ?_
    refine nn ?_
    exact AX.again ((p.1 + 1, szE a p.2)) (szs_step okSzE hI (by omega) ha hc3) (by simp only []; omega) (Kc 0 _ (Kv rfl rfl) <| Kc 1 _ (Kv rfl rfl) <| Kc 5 _ (Kv rfl (by simp only []; omega)) <| Kn)
  ·
   replace hc2 := oF hc2
   refine AW.exit ?_
   refine xT <| xT <| AX.exit_hit ?_
   refine AX.go ?_
   refine sr ?_
   refine st (mvT rfl) rfl ?_
   refine st (asT rfl) rfl ?_
   refine ng ?_
   refine AW.ret ?_
   exact rt1 rfl (.inl rfl) (by first | exact (if_pos hc1).symm | exact szs_ne hc1 hI ha hc3 | exact szs_end hc1 hI (by omega))

/-- laws.toEditS -/
theorem c_laws_toEditS_o (x : List (Int × ByteArray × Int × (BitVec 64 × BitVec 64))) (hn : x.length ≤ 1099511627776) : AC Tryd.prog 15 [.cel (Kd.slice kEdit) x] [.own 57 kEdit x] [] := by
 refine acI (N := 23) Tryd.func15 (Nat.le_of_ble_eq_true rfl) rfl fun w0 hd s0 ar => ?_
 refine AW.to (kc 0 rfl <| Kn) ?_
 refine sr ?_
 refine st (nilO (E := 57) kEdit rfl (.inl rfl)) rfl ?_
 refine ng ?_
 refine sr ?_
 refine st (mvT rfl) rfl ?_
 refine st (OpT.len (H rfl) (T1 rfl) el22) rfl ?_
 refine st (OpT.make (H rfl) (T1 rfl) (T1 rfl) el24 zr57 sz57 by57 (by decide) zk57 (by omega) (by omega)) rfl ?_
 refine sg (OpT.take (.inl rfl) rfl (ok' rfl) (Root.self (by decide)) rfl rfl (by decide)) (ko 3 rfl <| kc2 6 5 rfl <| ko 2 rfl <| kc 0 rfl <| Kn) rfl ?_
 refine ng ?_
 refine AW.seq ?_
 refine sr ?_
 refine st (asI rfl) rfl ?_
 refine ng ?_
 refine AW.block ?_
 refine AW.loop (fun z : Nat => z ≤ x.length) (fun z : Nat => keep [(0, .cel (Kd.slice kEdit) x), (3, .own 57 kEdit (cpy x z ((0, .empty, 0, (0, 0))))), (4, .cel (Kd.int .i64) (z : Int))]) (fun z : Nat => x.length - z) (0) (by omega) (Kc 0 _ (Kv rfl rfl) <| Kc 3 _ (Ko rfl rfl) <| Kc 4 _ (Kv rfl rfl) <| Kn) ?_
 intro z hI
 refine AW.seq ?_
 refine sr ?_
 refine st (mvT rfl) rfl ?_
 refine st (mvT rfl) rfl ?_
 refine st (OpT.len (H rfl) (T1 rfl) el22) rfl ?_
 refine st (OpT.lss (H rfl) (T1 rfl) (T1 rfl)) rfl ?_
 refine ng ?_
 refine cd rfl (fun hc1 => ?_) fun hc1 => ?_
 ·
  replace hc1 := oT hc1
  obtain ⟨a, ha⟩ := getI (x := x) (z := z) (by omega); have hd := cpy_get (x := x) (z := z) (d := ((0, .empty, 0, (0, 0)) : Int × ByteArray × Int × (BitVec 64 × BitVec 64))) (by omega)
  refine AW.skip ?_
  refine AX.go ?_
  refine AW.seq ?_
  refine AW.block ?_
  refine AW.region ?_
  refine st (OpT.alias (H rfl) (by decide) (by decide)) rfl ?_
  refine st (mvT rfl) rfl ?_
  refine st (mvT rfl) rfl ?_
  refine st (mvT rfl) rfl ?_
  refine st (OpT.indexAddr (H rfl) (T1 rfl) (T1 rfl) el22 sz52 (by omega) (by assumption)) rfl ?_
  refine st (OpT.loadA (H rfl) (T1 rfl) ag52 sz52) rfl ?_
  refine st (OpT.c1 (ms := [.flat]) (c_laws_toEdit _) (H rfl) (Af (T1 rfl) rfl rfl <| An) rfl rfl) rfl ?_
  refine st (OpT.indexAddrO (H rfl) (Root.ali rfl (by decide) (by decide)) rfl (by decide) (T1 rfl) el24 sz57 (by omega) (by assumption)) rfl ?_
  refine sk (OpT.storeOA rfl rfl (T1 rfl) rfl (by assumption) sz57 (by decide) (T1 rfl)) rfl ?_
  refine nn ?_
  refine AX.normal_block ?_
  refine AX.go ?_
  refine AW.region ?_
  refine st (mvT rfl) rfl ?_
  refine st (OpT.add (H rfl) (T1 rfl) (I rfl) (nw (by omega))) rfl ?_
  refine st (asT rfl) rfl ?_
  refine nn ?_
  exact AX.again (z + 1) (by omega) (by omega) (Kc 0 _ (Kv rfl rfl) <| Kc 3 _ (Ko rfl (cpy_step ha)) <| Kc 4 _ (Kv rfl (by omega)) <| Kn)
 ·
  replace hc1 := oF hc1
  refine AW.exit ?_
  refine xT <| xT <| AX.exit_hit ?_
  refine AX.go ?_
  refine sr ?_
  refine st (OpT.alias (H rfl) (by decide) (by decide)) rfl ?_
  refine sg (OpT.take (.inl rfl) rfl (ok' rfl) (Root.ali rfl (by decide) (by decide)) rfl rfl (by decide)) (ko 2 rfl <| kc4 11 10 9 8 rfl <| kc2 0 4 rfl <| Kn) rfl ?_
  refine ng ?_
  refine AW.ret ?_
  exact AX.rt (rs := [.tmp 2]) (ts := [some 2]) (.inl rfl) rfl (ROs.cons (RO.tmp (At.self (by decide)) (Ko rfl (cpy_end (by omega))) rfl) <| ROs.nil) (by decide) OutsOK.nil
theorem c_laws_toEditS (x : List (Int × ByteArray × Int × (BitVec 64 × BitVec 64))) (hn : x.length ≤ 1099511627776) : AC Tryd.prog 15 [.cel (Kd.slice kEdit) x] [.cel (Kd.slice kEdit) x] [] := (c_laws_toEditS_o x hn).frz rfl

/-- laws.eqEdit -/
theorem c_laws_eqEdit (x y : Int × ByteArray × Int × (BitVec 64 × BitVec 64)) : AC Tryd.prog 60 [.agg kEdit x, .agg kEdit y] [.cel Kd.bool (eqv x y)] [] := by
 refine acI (N := 26) Tryd.func60 (Nat.le_of_ble_eq_true rfl) rfl fun w0 hd s0 ar => ?_
 refine AW.to (ka 0 rfl <| ka 1 rfl <| Kn) ?_
 refine sr ?_
 refine st (OpT.frz (OpT.boxA (E := 57) (H rfl) (T1 rfl))) rfl ?_
 refine st (OpT.frz (OpT.boxA (E := 57) (H rfl) (T1 rfl))) rfl ?_
 refine st (asB rfl) rfl ?_
 refine ng ?_
 refine AW.seq ?_
 refine sr ?_
 refine st (OpT.fieldAddr (H rfl) (T1 rfl) fd57_0 sz47 (by decide) sb57_0) rfl ?_
 refine st (OpT.load (H rfl) (T1 rfl) ag47 rfl) rfl ?_
 refine st (OpT.fieldAddr (H rfl) (T1 rfl) fd57_0 sz47 (by decide) sb57_0) rfl ?_
 refine st (OpT.load (H rfl) (T1 rfl) ag47 rfl) rfl ?_
 refine st (OpT.neq (H rfl) (T1 rfl) (T1 rfl)) rfl ?_
 refine ng ?_
 refine cd rfl (fun hc1 => ?_) fun hc1 => ?_
 ·
  replace hc1 := oT hc1
  refine sr ?_
  refine st (asB rfl) rfl ?_
  refine ng ?_
  refine AW.ret ?_
  refine rT ?_
  exact rt1 rfl (.inl rfl) (by rw [eqv_pair (x := x), eqv_pair (x := x.2), eqv_pair (x := x.2.2)]; simp_all [eqv_beq, eqv_bne, Bool.and_assoc])
 ·
  replace hc1 := oF hc1
  refine AW.skip ?_
  refine AX.go ?_
  refine AW.seq ?_
  refine sr ?_
  refine st (OpT.fieldAddr (H rfl) (T1 rfl) fd57_1 sz9 (by decide) sb57_1) rfl ?_
  refine st (OpT.load (H rfl) (T1 rfl) ag9 rfl) rfl ?_
  refine st (OpT.fieldAddr (H rfl) (T1 rfl) fd57_1 sz9 (by decide) sb57_1) rfl ?_
  refine st (OpT.load (H rfl) (T1 rfl) ag9 rfl) rfl ?_
  refine st (OpT.snev (H rfl) (T1 rfl) (T1 rfl)) rfl ?_
  refine AWl.to (kc4 14 4 3 2 rfl <| Kn) ?_
  refine ng ?_
  refine cd rfl (fun hc2 => ?_) fun hc2 => ?_
  ·
   replace hc2 := oT hc2
   refine sr ?_
   refine st (asB rfl) rfl ?_
   refine ng ?_
   refine AW.ret ?_
   refine rT ?_
   exact rt1 rfl (.inl rfl) (by rw [eqv_pair (x := x), eqv_pair (x := x.2), eqv_pair (x := x.2.2)]; simp_all [eqv_beq, eqv_bne, Bool.and_assoc])
  ·
   replace hc2 := oF hc2
   refine AW.skip ?_
   refine AX.go ?_
   refine AW.seq ?_
   refine sr ?_
   refine st (OpT.fieldAddr (H rfl) (T1 rfl) fd57_2 sz48 (by decide) sb57_2) rfl ?_
   refine st (OpT.load (H rfl) (T1 rfl) ag48 rfl) rfl ?_
   refine st (OpT.fieldAddr (H rfl) (T1 rfl) fd57_2 sz48 (by decide) sb57_2) rfl ?_
   refine st (OpT.load (H rfl) (T1 rfl) ag48 rfl) rfl ?_
   refine st (OpT.neq (H rfl) (T1 rfl) (T1 rfl)) rfl ?_
   refine ng ?_
   refine cd rfl (fun hc3 => ?_) fun hc3 => ?_
   ·
    replace hc3 := oT hc3
    refine sr ?_
    refine st (asB rfl) rfl ?_
    refine ng ?_
    refine AW.ret ?_
    refine rT ?_
    exact rt1 rfl (.inl rfl) (by rw [eqv_pair (x := x), eqv_pair (x := x.2), eqv_pair (x := x.2.2)]; simp_all [eqv_beq, eqv_bne, Bool.and_assoc])
   ·
    replace hc3 := oF hc3
    refine AW.skip ?_
    refine AX.go ?_
    refine AW.seq ?_
    refine sr ?_
    refine st (OpT.fieldAddr (H rfl) (T1 rfl) fd57_3 sz55 (by decide) sb57_3) rfl ?_
    refine st (OpT.loadA (H rfl) (T1 rfl) ag55 sz55) rfl ?_
    refine st (OpT.fieldAddr (H rfl) (T1 rfl) fd57_3 sz55 (by decide) sb57_3) rfl ?_
    refine st (OpT.loadA (H rfl) (T1 rfl) ag55 sz55) rfl ?_
    refine st (OpT.c1 (ms := [.flat, .flat]) (c_laws_eqMask _ _) (H rfl) (Af (T1 rfl) rfl rfl <| Af (T1 rfl) rfl rfl <| An) rfl rfl) rfl ?_
    refine st (OpT.not (H rfl) (T1 rfl)) rfl ?_
    refine AWl.to (kc2 25 4 rfl <| Kn) ?_
    refine ng ?_
    refine cd rfl (fun hc4 => ?_) fun hc4 => ?_
    ·
     replace hc4 := oT hc4
     refine sr ?_
     refine st (asB rfl) rfl ?_
     refine ng ?_
     refine AW.ret ?_
     refine rT ?_
     exact rt1 rfl (.inl rfl) (by rw [eqv_pair (x := x), eqv_pair (x := x.2), eqv_pair (x := x.2.2)]; simp_all [eqv_beq, eqv_bne, Bool.and_assoc])
    ·
     replace hc4 := oF hc4
     refine AW.skip ?_
     refine AX.go ?_
     refine sr ?_
     refine st (asB rfl) rfl ?_
     refine ng ?_
     refine AW.ret ?_
     exact rt1 rfl (.inl rfl) (by rw [eqv_pair (x := x), eqv_pair (x := x.2), eqv_pair (x := x.2.2)]; simp_all [eqv_beq, eqv_bne, Bool.and_assoc])

/-- laws.eqEditS -/
theorem c_laws_eqEditS (x y : List (Int × ByteArray × Int × (BitVec 64 × BitVec 64))) : AC Tryd.prog 17 [.cel (Kd.slice kEdit) x, .cel (Kd.slice kEdit) y] [.cel Kd.bool (eqv x y)] [] := by
 refine acI (N := 27) Tryd.func17 (Nat.le_of_ble_eq_true rfl) rfl fun w0 hd s0 ar => ?_
 refine AW.to (kc2 0 1 rfl <| Kn) ?_
 refine AW.fact (fun a w hr => (ok_slice (R_ok (t := 0) rfl hr)).2) (fun hl0 => ?_)
 refine AW.fact (fun a w hr => (ok_slice (R_ok (t := 1) rfl hr)).2) (fun hl1 => ?_)
 refine sr ?_
 refine st (asB rfl) rfl ?_
 refine ng ?_
 refine AW.seq ?_
 refine sr ?_
 refine st (mvT rfl) rfl ?_
 refine st (OpT.len (H rfl) (T1 rfl) el24) rfl ?_
 refine st (mvT rfl) rfl ?_
 refine st (OpT.len (H rfl) (T1 rfl) el24) rfl ?_
 refine st (OpT.neq (H rfl) (T1 rfl) (T1 rfl)) rfl ?_
 refine ng ?_
 refine cd rfl (fun hc1 => ?_) fun hc1 => ?_
 ·
  replace hc1 := oT hc1
  try simp only [bne_iff_ne, ne_eq, bne_eq_false_iff_eq] at hc1
  refine sr ?_
  refine st (asB rfl) rfl ?_
  refine ng ?_
  refine AW.ret ?_
  refine rT ?_
  exact rt1 rfl (.inl rfl) (by first | exact eqs_len (by omega) | exact eqs_ne ha hb (by simpa [eqv_iff, eqv_false_iff] using hc3) | exact eqs_all hI.2 (by omega) (by omega))
 ·
  replace hc1 := oF hc1
  try simp only [bne_iff_ne, ne_eq, bne_eq_false_iff_eq] at hc1
  refine AW.skip ?_
  refine AX.go ?_
  refine AW.seq ?_
  refine sr ?_
  refine st (asI rfl) rfl ?_
  refine ng ?_
  refine AW.block ?_
  refine AW.loop (fun z : Nat => z ≤ x.length ∧ x.take z = y.take z) (fun z : Nat => keep [(0, .cel (Kd.slice kEdit) x), (1, .cel (Kd.slice kEdit) y), (5, .cel (Kd.int .i64) (z : Int))]) (fun z : Nat => x.length - z) (0) ⟨Nat.zero_le _, rfl⟩ (Kc 0 _ (Kv rfl rfl) <| Kc 1 _ (Kv rfl rfl) <| Kc 5 _ (Kv rfl rfl) <| Kn) ?_
  intro z hI
  refine AW.seq ?_
  refine sr ?_
  refine st (mvT rfl) rfl ?_
  refine st (mvT rfl) rfl ?_
  refine st (OpT.len (H rfl) (T1 rfl) el24) rfl ?_
  refine st (OpT.lss (H rfl) (T1 rfl) (T1 rfl)) rfl ?_
  refine ng ?_
  refine cd rfl (fun hc2 => ?_) fun hc2 => ?_
  ·
   replace hc2 := oT hc2
   obtain ⟨a, ha⟩ := getI (x := x) (z := z) (by omega); obtain ⟨b, hb⟩ := getI (x := y) (z := z) (by omega)
   refine AW.skip ?_
   refine AX.go ?_
   refine AW.seq ?_
   refine AW.block ?_
   refine AW.seq ?_
   refine dh fomo ?_
   refine d1 [0] (fun ve h => OpT.move (A := .cel _ _) (.inl rfl) rfl (ok' rfl) (D1 h rfl) rfl) rfl ?_
   refine d1 [5] (fun ve h => OpT.move (A := .cel _ _) (.inl rfl) rfl (ok' rfl) (D1 h rfl) rfl) rfl ?_
   refine d1 [17, 18] (fun ve h => OpT.indexAddr (H rfl) (D1 h rfl) (D1 h rfl) el24 sz57 (by omega) (by assumption)) rfl ?_
   refine d1 [19] (fun ve h => OpT.loadA (H rfl) (D1 h rfl) ag57 sz57) rfl ?_
   refine d1 [1] (fun ve h => OpT.move (A := .cel _ _) (.inl rfl) rfl (ok' rfl) (D1 h rfl) rfl) rfl ?_
   refine d1 [5] (fun ve h => OpT.move (A := .cel _ _) (.inl rfl) rfl (ok' rfl) (D1 h rfl) rfl) rfl ?_
   refine d1 [21, 22] (fun ve h => OpT.indexAddr (H rfl) (D1 h rfl) (D1 h rfl) el24 sz57 (by omega) (by assumption)) rfl ?_
   refine d1 [23] (fun ve h => OpT.loadA (H rfl) (D1 h rfl) ag57 sz57) rfl ?_
   refine d1 [20, 24] (fun ve h => OpT.c1 (ms := [.flat, .flat]) (c_laws_eqEdit _ _) (H rfl) (Af (D1 h rfl) rfl rfl <| Af (D1 h rfl) rfl rfl <| An) rfl rfl) rfl ?_
   refine d1 [25] (fun ve h => OpT.not (H rfl) (D1 h rfl)) rfl ?_
   refine dn ⟨by kernel_rfl, by kernel_rfl, ?_⟩
   refine AX.go ?_
   refine cd rfl (fun hc3 => ?_) fun hc3 => ?_
   ·
    replace hc3 := oT hc3
    refine sr ?_
    refine st (asB rfl) rfl ?_
    refine ng ?_
    refine AW.ret ?_
    refine rK <| rT <| rT <| rK <| rT ?_
    exact rt1 rfl (.inl rfl) (by first | exact eqs_len (by omega) | exact eqs_ne ha hb (by simpa [eqv_iff, eqv_false_iff] using hc3) | exact eqs_all hI.2 (by omega) (by omega))
   ·
    replace hc3 := oF hc3
    refine AW.skip ?_
    refine AX.normal_block ?_
    refine AX.go ?_
    refine AW.region ?_
    refine st (mvT rfl) rfl ?_
    refine st (OpT.add (H rfl) (T1 rfl) (I rfl) (nw (by omega))) rfl ?_
    refine st (asT rfl) rfl ?_
    refine nn ?_
    exact AX.again (z + 1) ⟨by omega, eqs_step hI.2 ha hb (by simpa [eqv_iff, eqv_false_iff] using hc3)⟩ (by omega) (Kc 0 _ (Kv rfl rfl) <| Kc 1 _ (Kv rfl rfl) <| Kc 5 _ (Kv rfl (by omega)) <| Kn)
  ·
   replace hc2 := oF hc2
   refine AW.exit ?_
   refine xT <| xT <| AX.exit_hit ?_
   refine AX.go ?_
   refine sr ?_
   refine st (asB rfl) rfl ?_
   refine ng ?_
   refine AW.ret ?_
   exact rt1 rfl (.inl rfl) (by first | exact eqs_len (by omega) | exact eqs_ne ha hb (by simpa [eqv_iff, eqv_false_iff] using hc3) | exact eqs_all hI.2 (by omega) (by omega))

/-- laws.markEditS -/
theorem c_laws_markEditS (x : List (Int × ByteArray × Int × (BitVec 64 × BitVec 64))) (k : Int) (h : 0 ≤ k ∧ k ≤ 1152921504606846976 ∧ x.length ≤ 115292150460684697) : AC Tryd.prog 18 [.own 57 kEdit x, .cel (Kd.int .i64) k] [.cel (Kd.int .i64) (k + 5 * (x.length : Int))] [.own 57 kEdit (mkL fEd 5 x.length k), .any] := by
 refine acI (N := 52) Tryd.func18 (Nat.le_of_ble_eq_true rfl) rfl fun w0 hd s0 ar => ?_
 refine AW.to (ko 0 rfl <| kc 1 rfl <| Kn) ?_
 refine sr ?_
 refine st (asI rfl) rfl ?_
 refine ng ?_
 refine AW.seq ?_
 refine sr ?_
 refine st (asI rfl) rfl ?_
 refine ng ?_
 refine AW.block ?_
 refine AW.loop (fun z : Nat => z ≤ x.length) (fun z : Nat => keep [(0, .own 57 kEdit (mkR fEd 5 x z k)), (1, .cel (Kd.int .i64) (k + 5 * (z : Int))), (5, .cel (Kd.int .i64) (z : Int))]) (fun z : Nat => x.length - z) (0) (Nat.zero_le _) (Kc 0 _ (Ko rfl mkR_zero) <| Kc 1 _ (Kv rfl (by omega)) <| Kc 5 _ (Kv rfl rfl) <| Kn) ?_
 intro z hI
 refine AW.seq ?_
 refine sr ?_
 refine st (mvT rfl) rfl ?_
 refine st (OpT.alias (H rfl) (by decide) (by decide)) rfl ?_
 refine st (OpT.lenO (H rfl) (Root.ali rfl (by decide) (by decide)) rfl el24) rfl ?_
 refine st (OpT.lss (H rfl) (T1 rfl) (T1 rfl)) rfl ?_
 refine ng ?_
 refine cd rfl (fun hc1 => ?_) fun hc1 => ?_
 ·
  obtain ⟨hc1, hc1'⟩ := pT hc1
  rw [mkR_len hI] at hc1'
  obtain ⟨a, ha⟩ := getI (x := (mkR fEd 5 x z k)) (z := z) (by rw [mkR_len (by omega)]; omega)
  have hln := mkR_len (f := fEd) (w := 5) (x := x) (z := z) (k := k) (by omega)
  have hs0 := set_get (l := (mkR fEd 5 x z k)) (z := z) (by simp only [set_len, hln]; omega) ((IntKind.i8.wrap (k + 5 * (z : Int)), a.2) : Int × ByteArray × Int × (BitVec 64 × BitVec 64))
  have hs1 := set_get (l := (List.set (mkR fEd 5 x z k) (Int.toNat (z : Int)) ((IntKind.i8.wrap (k + 5 * (z : Int)), a.2) : Int × ByteArray × Int × (BitVec 64 × BitVec 64)))) (z := z) (by simp only [set_len, hln]; omega) ((IntKind.i8.wrap (k + 5 * (z : Int)), mtx ((k + 5 * (z : Int)) + 1), a.2.2) : Int × ByteArray × Int × (BitVec 64 × BitVec 64))
  have hs2 := set_get (l := (List.set (List.set (mkR fEd 5 x z k) (Int.toNat (z : Int)) ((IntKind.i8.wrap (k + 5 * (z : Int)), a.2) : Int × ByteArray × Int × (BitVec 64 × BitVec 64))) (Int.toNat (z : Int)) ((IntKind.i8.wrap (k + 5 * (z : Int)), mtx ((k + 5 * (z : Int)) + 1), a.2.2) : Int × ByteArray × Int × (BitVec 64 × BitVec 64)))) (z := z) (by simp only [set_len, hln]; omega) ((IntKind.i8.wrap (k + 5 * (z : Int)), mtx ((k + 5 * (z : Int)) + 1), IntKind.i16.wrap ((k + 5 * (z : Int)) + 1 + 1), a.2.2.2) : Int × ByteArray × Int × (BitVec 64 × BitVec 64))
  refine AW.skip ?_
  refine AX.go ?_
  refine AW.seq ?_
  refine AW.block ?_
  refine sr ?_
  refine st (OpT.alias (H rfl) (by decide) (by decide)) rfl ?_
  refine st (mvT rfl) rfl ?_
  refine st (mvT rfl) rfl ?_
  refine st (OpT.conv (H rfl) us3 Tryd.underlying47 (T1 rfl) rfl) rfl ?_
  refine st (OpT.indexAddrO (H rfl) (Root.ali rfl (by decide) (by decide)) rfl (by decide) (T1 rfl) el24 sz57 (by omega) (by assumption)) rfl ?_
  refine st (OpT.fieldAddrE (H rfl) (T1 rfl) (.inr ⟨_, _, rfl, (by assumption)⟩) (by decide) fd57_0 sz47 (by decide) sb57_0 (by decide)) rfl ?_
  refine sk (OpT.storeO rfl rfl (T1 rfl) rfl (by assumption) sz47 rfl (T1 rfl)) rfl ?_
  refine ng ?_
  refine sr ?_
  refine st (mvT rfl) rfl ?_
  refine st (OpT.add (H rfl) (T1 rfl) (I rfl) (nw (by omega))) rfl ?_
  refine st (asT rfl) rfl ?_
  refine ng ?_
  refine sr ?_
  refine st (OpT.alias (H rfl) (by decide) (by decide)) rfl ?_
  refine st (mvT rfl) rfl ?_
  refine st (mvT rfl) rfl ?_
  refine st (OpT.c1 (ms := [.flat]) (c_laws_markText _ (by omega)) (H rfl) (Af (T1 rfl) rfl rfl <| An) rfl rfl) rfl ?_
  refine st (OpT.indexAddrO (H rfl) (Root.ali rfl (by decide) (by decide)) rfl (by decide) (T1 rfl) el24 sz57 (by omega) (by assumption)) rfl ?_
  refine st (OpT.fieldAddrE (H rfl) (T1 rfl) (.inr ⟨_, _, rfl, (by assumption)⟩) (by decide) fd57_1 sz9 (by decide) sb57_1 (by decide)) rfl ?_
  refine sk (OpT.storeO rfl rfl (T1 rfl) rfl (by assumption) sz9 rfl (T1 rfl)) rfl ?_
  refine ng ?_
  refine sr ?_
  refine st (mvT rfl) rfl ?_
  refine st (OpT.add (H rfl) (T1 rfl) (I rfl) (nw (by omega))) rfl ?_
  refine st (asT rfl) rfl ?_
  refine ng ?_
  refine sr ?_
  refine st (OpT.alias (H rfl) (by decide) (by decide)) rfl ?_
  refine st (mvT rfl) rfl ?_
  refine st (mvT rfl) rfl ?_
  refine st (OpT.conv (H rfl) us3 Tryd.underlying48 (T1 rfl) rfl) rfl ?_
  refine st (OpT.indexAddrO (H rfl) (Root.ali rfl (by decide) (by decide)) rfl (by decide) (T1 rfl) el24 sz57 (by omega) (by assumption)) rfl ?_
  refine st (OpT.fieldAddrE (H rfl) (T1 rfl) (.inr ⟨_, _, rfl, (by assumption)⟩) (by decide) fd57_2 sz48 (by decide) sb57_2 (by decide)) rfl ?_
  refine sk (OpT.storeO rfl rfl (T1 rfl) rfl (by assumption) sz48 rfl (T1 rfl)) rfl ?_
  refine ng ?_
  refine sr ?_
  refine st (mvT rfl) rfl ?_
  refine st (OpT.add (H rfl) (T1 rfl) (I rfl) (nw (by omega))) rfl ?_
  refine st (asT rfl) rfl ?_
  refine ng ?_
  refine sr ?_
  refine st (asI rfl) rfl ?_
  refine ng ?_
  refine AW.block ?_
  refine AW.loop (fun y : Nat => y ≤ 2 ∧ z < x.length) (fun y : Nat => keep [(0, .own 57 kEdit (List.set (mkR fEd 5 x z k) (Int.toNat (z : Int)) (IntKind.i8.wrap (k + 5 * (z : Int)), mtx ((k + 5 * (z : Int)) + 1), IntKind.i16.wrap ((k + 5 * (z : Int)) + 1 + 1), mj a.2.2.2 (k + 5 * (z : Int) + 1 + 1 + 1) y))), (1, .cel (Kd.int .i64) (k + 5 * (z : Int) + 1 + 1 + 1 + (y : Int))), (5, .cel (Kd.int .i64) (z : Int)), (6, .cel (Kd.int .i64) (y : Int))]) (fun y : Nat => 2 - y) (0) (by omega) (Kc 0 _ (Ko rfl (by (try simp only [List.set_set]); rfl)) <| Kc 1 _ (Kv rfl (by omega)) <| Kc 5 _ (Kv rfl rfl) <| Kc 6 _ (Kv rfl rfl) <| Kn) ?_
  intro y hI
  have hb := set_get (l := (mkR fEd 5 x z k)) (z := z) (by rw [hln]; omega) ((IntKind.i8.wrap (k + 5 * (z : Int)), mtx ((k + 5 * (z : Int)) + 1), IntKind.i16.wrap ((k + 5 * (z : Int)) + 1 + 1), mj a.2.2.2 (k + 5 * (z : Int) + 1 + 1 + 1) y) : Int × ByteArray × Int × (BitVec 64 × BitVec 64))
  refine AW.seq ?_
  refine sr ?_
  refine st (mvT rfl) rfl ?_
  refine st (OpT.lss (H rfl) (T1 rfl) (I rfl)) rfl ?_
  refine ng ?_
  refine cd rfl (fun hc2 => ?_) fun hc2 => ?_
  ·
   obtain ⟨hc2, hc2'⟩ := pT hc2
   refine AW.skip ?_
   refine AX.go ?_
   refine AW.seq ?_
   refine AW.block ?_
   refine sr ?_
   refine st (OpT.alias (H rfl) (by decide) (by decide)) rfl ?_
   refine st (mvT rfl) rfl ?_
   refine st (mvT rfl) rfl ?_
   refine st (mvT rfl) rfl ?_
   refine st (OpT.convu (H rfl) us3 Tryd.underlying49 (T1 rfl)) rfl ?_
   refine st (OpT.indexAddrO (H rfl) (Root.ali rfl (by decide) (by decide)) rfl (by decide) (T1 rfl) el24 sz57 (by omega) (by assumption)) rfl ?_
   refine st (OpT.fieldAddrE (H rfl) (T1 rfl) (.inr ⟨_, _, rfl, (by assumption)⟩) (by decide) fd57_3 sz55 (by decide) sb57_3 (by decide)) rfl ?_
   refine st (OpT.indexAddrE (H rfl) (T1 rfl) (.inr ⟨_, _, rfl, (by assumption)⟩) (by decide) (T1 rfl) ar55 sz49 (by omega) (Sub.two (by omega) rfl) (by decide)) rfl ?_
   refine sk (OpT.storeO rfl rfl (T1 rfl) rfl (by assumption) sz49 rfl (T1 rfl)) rfl ?_
   refine ng ?_
   refine AW.region ?_
   refine st (mvT rfl) rfl ?_
   refine st (OpT.add (H rfl) (T1 rfl) (I rfl) (nw (by omega))) rfl ?_
   refine st (asT rfl) rfl ?_
   refine nn ?_
   refine AX.normal_block ?_
   refine AX.go ?_
   refine AW.region ?_
   refine st (mvT rfl) rfl ?_
   refine st (OpT.add (H rfl) (T1 rfl) (I rfl) (nw (by omega))) rfl ?_
   refine st (asT rfl) rfl ?_
   refine nn ?_
   exact AX.again (y + 1) (by omega) (by omega) (Kc 0 _ (Ko rfl (by rw [List.set_set, ← mj_step (by omega)])) <| Kc 1 _ (Kv rfl (by omega)) <| Kc 5 _ (Kv rfl rfl) <| Kc 6 _ (Kv rfl (by omega)) <| Kn)
  ·
   obtain ⟨hc2, hc2'⟩ := pF hc2
   refine AW.exit ?_
   refine xT <| xT <| AX.exit_hit ?_
   refine AX.normal_block ?_
   refine AX.go ?_
   refine AW.region ?_
   refine st (mvT rfl) rfl ?_
   refine st (OpT.add (H rfl) (T1 rfl) (I rfl) (nw (by omega))) rfl ?_
   refine st (asT rfl) rfl ?_
   refine nn ?_
   exact AX.again (z + 1) (by omega) (by omega) (Kc 0 _ (Ko rfl (by rw [show y = 2 by omega]; exact mkR_step (by omega))) <| Kc 1 _ (Kv rfl (by omega)) <| Kc 5 _ (Kv rfl (by omega)) <| Kn)
 ·
  obtain ⟨hc1, hc1'⟩ := pF hc1
  rw [mkR_len hI] at hc1'
  refine AW.exit ?_
  refine xT <| xT <| AX.exit_hit ?_
  refine AX.go ?_
  refine sr ?_
  refine st (mvT rfl) rfl ?_
  refine st (asT rfl) rfl ?_
  refine ng ?_
  refine AW.ret ?_
  exact AX.rt (rs := [.tmp 4]) (ts := [some 4]) (.inl rfl) rfl (ROs.cons (RO.tmp (At.self (by decide)) (Kv rfl (by omega)) rfl) <| ROs.nil) (by decide) (fun i => match i with | 0 => .inr ⟨rfl, Ko rfl (mkR_end (by omega) hI), rfl, by decide⟩ | 1 => .inl rfl | _ + 2 => .inl rfl)

/-- laws.heldEditS -/
theorem c_laws_heldEditS (n : Nat) (k : Int) (h : 0 ≤ k ∧ k ≤ 1152921504606846976 ∧ n ≤ 115292150460684697) : AC Tryd.prog 19 [.cel (Kd.slice kEdit) (mkL fEd 5 n k), .cel (Kd.int .i64) k] [.cel (Kd.int .i64) (k + 5 * (n : Int))] [] := by
 refine acI (N := 60) Tryd.func19 (Nat.le_of_ble_eq_true rfl) rfl fun w0 hd s0 ar => ?_
 refine AW.to (kc2 0 1 rfl <| Kn) ?_
 refine sr ?_
 refine st (asI rfl) rfl ?_
 refine ng ?_
 refine AW.seq ?_
 refine sr ?_
 refine st (asI rfl) rfl ?_
 refine ng ?_
 refine AW.block ?_
 refine AW.loop (fun z : Nat => z ≤ n) (fun z : Nat => keep [(0, .cel (Kd.slice kEdit) (mkL fEd 5 n k)), (1, .cel (Kd.int .i64) (k + 5 * (z : Int))), (5, .cel (Kd.int .i64) (z : Int))]) (fun z : Nat => n - z) (0) (Nat.zero_le _) (Kc 0 _ (Kv rfl rfl) <| Kc 1 _ (Kv rfl (by omega)) <| Kc 5 _ (Kv rfl rfl) <| Kn) ?_
 intro z hI
 refine AW.seq ?_
 refine sr ?_
 refine st (mvT rfl) rfl ?_
 refine st (mvT rfl) rfl ?_
 refine st (OpT.len (H rfl) (T1 rfl) el24) rfl ?_
 refine st (OpT.lss (H rfl) (T1 rfl) (T1 rfl)) rfl ?_
 refine ng ?_
 refine cd rfl (fun hc1 => ?_) fun hc1 => ?_
 ·
  obtain ⟨hc1, hc1'⟩ := pT hc1
  rw [mkL_len] at hc1'
  have hv := mkL_get (f := fEd) (w := 5) (k := k) (n := n) (z := z) (by omega)
  refine AW.skip ?_
  refine AX.go ?_
  refine AW.seq ?_
  refine AW.block ?_
  refine AW.seq ?_
  refine sr ?_
  refine st (mvT rfl) rfl ?_
  refine st (mvT rfl) rfl ?_
  refine st (OpT.indexAddr (H rfl) (T1 rfl) (T1 rfl) el24 sz57 (by omega) (by assumption)) rfl ?_
  refine st (OpT.fieldAddr (H rfl) (T1 rfl) fd57_0 sz47 (by decide) sb57_0) rfl ?_
  refine st (OpT.load (H rfl) (T1 rfl) ag47 rfl) rfl ?_
  refine st (mvT rfl) rfl ?_
  refine st (OpT.conv (H rfl) us3 Tryd.underlying47 (T1 rfl) rfl) rfl ?_
  refine st (OpT.neq (H rfl) (T1 rfl) (T1 rfl)) rfl ?_
  refine ng ?_
  refine cd rfl (fun hc2 => ?_) fun hc2 => ?_
  ·
   obtain ⟨hc2, hc2'⟩ := pT hc2
   exact (show False from (hc2' rfl)).elim
  ·
   obtain ⟨hc2, hc2'⟩ := pF hc2
   refine AW.skip ?_
   refine AX.go ?_
   refine sr ?_
   refine st (mvT rfl) rfl ?_
   refine st (OpT.add (H rfl) (T1 rfl) (I rfl) (nw (by omega))) rfl ?_
   refine st (asT rfl) rfl ?_
   refine AWl.to (kc4 1 22 21 20 rfl <| kc4 19 18 17 16 rfl <| kc4 15 14 13 10 rfl <| kc4 9 8 7 0 rfl <| kc 5 rfl <| Kn) ?_
   refine ng ?_
   refine AW.seq ?_
   refine AW.seq ?_
   refine dh fomo ?_
   refine d1 [0] (fun ve h => OpT.move (A := .cel _ _) (.inl rfl) rfl (ok' rfl) (D1 h rfl) rfl) rfl ?_
   refine d1 [5] (fun ve h => OpT.move (A := .cel _ _) (.inl rfl) rfl (ok' rfl) (D1 h rfl) rfl) rfl ?_
   refine d1 [23, 24] (fun ve h => OpT.indexAddr (H rfl) (D1 h rfl) (D1 h rfl) el24 sz57 (by omega) (by assumption)) rfl ?_
   refine d1 [25] (fun ve h => OpT.fieldAddr (H rfl) (D1 h rfl) fd57_1 sz9 (by decide) sb57_1) rfl ?_
   refine d1 [26] (fun ve h => OpT.load (H rfl) (D1 h rfl) ag9 rfl) rfl ?_
   refine d1 [1] (fun ve h => OpT.move (A := .cel _ _) (.inl rfl) rfl (ok' rfl) (D1 h rfl) rfl) rfl ?_
   refine d1 [28] (fun ve h => OpT.c1 (ms := [.flat]) (c_laws_markText _ (by omega)) (H rfl) (Af (D1 h rfl) rfl rfl <| An) rfl rfl) rfl ?_
   refine d1 [27, 29] (fun ve h => OpT.snev (H rfl) (D1 h rfl) (D1 h rfl)) rfl ?_
   refine dn ⟨by kernel_rfl, by kernel_rfl, ?_⟩
   refine AX.go ?_
   refine cd rfl (fun hc3 => ?_) fun hc3 => ?_
   ·
    obtain ⟨hc3, hc3'⟩ := pT hc3
    exact (show False from (by have h9 : eqv (fEd (k + 5 * (z : Int))).2.1 (mtx (k + 5 * (z : Int) + 1)) = true := eqv_self _; simp [h9] at hc3)).elim
   ·
    obtain ⟨hc3, hc3'⟩ := pF hc3
    refine AW.skip ?_
    refine AX.go ?_
    refine sr ?_
    refine st (mvT rfl) rfl ?_
    refine st (OpT.add (H rfl) (T1 rfl) (I rfl) (nw (by omega))) rfl ?_
    refine st (asT rfl) rfl ?_
    refine ng ?_
    refine AW.seq ?_
    refine sr ?_
    refine st (mvT rfl) rfl ?_
    refine st (mvT rfl) rfl ?_
    refine st (OpT.indexAddr (H rfl) (T1 rfl) (T1 rfl) el24 sz57 (by omega) (by assumption)) rfl ?_
    refine st (OpT.fieldAddr (H rfl) (T1 rfl) fd57_2 sz48 (by decide) sb57_2) rfl ?_
    refine st (OpT.load (H rfl) (T1 rfl) ag48 rfl) rfl ?_
    refine st (mvT rfl) rfl ?_
    refine st (OpT.conv (H rfl) us3 Tryd.underlying48 (T1 rfl) rfl) rfl ?_
    refine st (OpT.neq (H rfl) (T1 rfl) (T1 rfl)) rfl ?_
    refine ng ?_
    refine cd rfl (fun hc4 => ?_) fun hc4 => ?_
    ·
     obtain ⟨hc4, hc4'⟩ := pT hc4
     exact (show False from (hc4' rfl)).elim
    ·
     obtain ⟨hc4, hc4'⟩ := pF hc4
     refine AW.skip ?_
     refine AX.go ?_
     refine sr ?_
     refine st (mvT rfl) rfl ?_
     refine st (OpT.add (H rfl) (T1 rfl) (I rfl) (nw (by omega))) rfl ?_
     refine st (asT rfl) rfl ?_
     refine ng ?_
     refine sr ?_
     refine st (asI rfl) rfl ?_
     refine ng ?_
     refine AW.block ?_
     refine AW.loop (fun y : Nat => y ≤ 2 ∧ z < n) (fun y : Nat => keep [(0, .cel (Kd.slice kEdit) (mkL fEd 5 n k)), (1, .cel (Kd.int .i64) (k + 5 * (z : Int) + 1 + 1 + 1 + (y : Int))), (5, .cel (Kd.int .i64) (z : Int)), (6, .cel (Kd.int .i64) (y : Int))]) (fun y : Nat => 2 - y) (0) (by omega) (Kc 0 _ (Kv rfl rfl) <| Kc 1 _ (Kv rfl (by omega)) <| Kc 5 _ (Kv rfl rfl) <| Kc 6 _ (Kv rfl rfl) <| Kn) ?_
     intro y hI
     have hv := mkL_get (f := fEd) (w := 5) (k := k) hI.2
     refine AW.seq ?_
     refine sr ?_
     refine st (mvT rfl) rfl ?_
     refine st (OpT.lss (H rfl) (T1 rfl) (I rfl)) rfl ?_
     refine ng ?_
     refine cd rfl (fun hc5 => ?_) fun hc5 => ?_
     ·
      obtain ⟨hc5, hc5'⟩ := pT hc5
      refine AW.skip ?_
      refine AX.go ?_
      refine AW.seq ?_
      refine AW.block ?_
      refine AW.seq ?_
      refine sr ?_
      refine st (mvT rfl) rfl ?_
      refine st (mvT rfl) rfl ?_
      refine st (mvT rfl) rfl ?_
      refine st (OpT.indexAddr (H rfl) (T1 rfl) (T1 rfl) el24 sz57 (by omega) (by assumption)) rfl ?_
      refine st (OpT.fieldAddr (H rfl) (T1 rfl) fd57_3 sz55 (by decide) sb57_3) rfl ?_
      refine st (OpT.indexAddrP (H rfl) (T1 rfl) (T1 rfl) ar55 sz49 (by omega) (Sub.two (by omega) rfl)) rfl ?_
      refine st (OpT.load (H rfl) (T1 rfl) ag49 rfl) rfl ?_
      refine st (mvT rfl) rfl ?_
      refine st (OpT.convu (H rfl) us3 Tryd.underlying49 (T1 rfl)) rfl ?_
      refine st (OpT.uneq (H rfl) (T1 rfl) (T1 rfl)) rfl ?_
      refine ng ?_
      refine cd rfl (fun hc6 => ?_) fun hc6 => ?_
      ·
       obtain ⟨hc6, hc6'⟩ := pT hc6
       exact (show False from (hc6' (limb_get (by omega)))).elim
      ·
       obtain ⟨hc6, hc6'⟩ := pF hc6
       refine AW.skip ?_
       refine AX.go ?_
       refine AW.region ?_
       refine st (mvT rfl) rfl ?_
       refine st (OpT.add (H rfl) (T1 rfl) (I rfl) (nw (by omega))) rfl ?_
       refine st (asT rfl) rfl ?_
       refine nn ?_
       refine AX.normal_block ?_
       refine AX.go ?_
       refine AW.region ?_
       refine st (mvT rfl) rfl ?_
       refine st (OpT.add (H rfl) (T1 rfl) (I rfl) (nw (by omega))) rfl ?_
       refine st (asT rfl) rfl ?_
       refine nn ?_
       exact AX.again (y + 1) (by omega) (by omega) (Kc 0 _ (Kv rfl rfl) <| Kc 1 _ (Kv rfl (by omega)) <| Kc 5 _ (Kv rfl rfl) <| Kc 6 _ (Kv rfl (by omega)) <| Kn)
     ·
      obtain ⟨hc5, hc5'⟩ := pF hc5
      refine AW.exit ?_
      refine xT <| xT <| AX.exit_hit ?_
      refine AX.normal_block ?_
      refine AX.go ?_
      refine AW.region ?_
      refine st (mvT rfl) rfl ?_
      refine st (OpT.add (H rfl) (T1 rfl) (I rfl) (nw (by omega))) rfl ?_
      refine st (asT rfl) rfl ?_
      refine nn ?_
      exact AX.again (z + 1) (by omega) (by omega) (Kc 0 _ (Kv rfl rfl) <| Kc 1 _ (Kv rfl (by omega)) <| Kc 5 _ (Kv rfl (by omega)) <| Kn)
 ·
  obtain ⟨hc1, hc1'⟩ := pF hc1
  rw [mkL_len] at hc1'
  refine AW.exit ?_
  refine xT <| xT <| AX.exit_hit ?_
  refine AX.go ?_
  refine sr ?_
  refine st (mvT rfl) rfl ?_
  refine st (asT rfl) rfl ?_
  refine ng ?_
  refine AW.ret ?_
  exact rt1 rfl (.inl rfl) (by omega)

/-- spec.l07Edits -/
theorem c_spec_l07Edits (x : List DEdit) : AC Tryd.prog 58 [.cel (Kd.slice kEdit) x] [.cel Kd.bool (x.all editB)] [] := by
 refine acI (N := 15) Tryd.func58 (Nat.le_of_ble_eq_true rfl) rfl fun w0 hd s0 ar => ?_
 refine AW.to (kc 0 rfl <| Kn) ?_
 refine AW.fact (fun a w hr => (ok_slice (R_ok (t := 0) rfl hr)).2) (fun hl0 => ?_)
 refine sr ?_
 refine st (asB rfl) rfl ?_
 refine ng ?_
 refine AW.seq ?_
 refine sr ?_
 refine st (asI rfl) rfl ?_
 refine ng ?_
 refine AW.block ?_
 refine AW.loop (fun z : Nat => z ≤ x.length ∧ ∀ i, i < z → qI editB x i) (fun z : Nat => keep [(0, .cel (Kd.slice kEdit) x), (3, .cel (Kd.int .i64) (z : Int))]) (fun z : Nat => x.length - z) (0) ⟨Nat.zero_le _, all_none⟩ (Kc 0 _ (Kv rfl rfl) <| Kc 3 _ (Kv rfl rfl) <| Kn) ?_
 intro z hI
 refine AW.seq ?_
 refine sr ?_
 refine st (mvT rfl) rfl ?_
 refine st (mvT rfl) rfl ?_
 refine st (OpT.len (H rfl) (T1 rfl) el24) rfl ?_
 refine st (OpT.lss (H rfl) (T1 rfl) (T1 rfl)) rfl ?_
 refine ng ?_
 refine cd rfl (fun hc1 => ?_) fun hc1 => ?_
 ·
  obtain ⟨hc1, hc1'⟩ := pT hc1
  obtain ⟨e, he⟩ := getI (x := x) (z := z) (by omega)
  refine AW.skip ?_
  refine AX.go ?_
  refine AW.seq ?_
  refine AW.block ?_
  refine sr ?_
  refine st (mvT rfl) rfl ?_
  refine st (mvT rfl) rfl ?_
  refine st (OpT.indexAddr (H rfl) (T1 rfl) (T1 rfl) el24 sz57 (by omega) (by assumption)) rfl ?_
  refine st (OpT.c1 (ms := [.flat]) (c_spec_l07Edit _) (H rfl) (Af (T1 rfl) rfl rfl <| An) rfl rfl) rfl ?_
  refine st (OpT.not (H rfl) (T1 rfl)) rfl ?_
  refine ng ?_
  refine cd rfl (fun hc2 => ?_) fun hc2 => ?_
  ·
   obtain ⟨hc2, hc2'⟩ := pT hc2
   have hne : editB e = false := by simpa using hc2
   refine sr ?_
   refine st (asB rfl) rfl ?_
   refine ng ?_
   refine AW.ret ?_
   refine rK <| rT <| rT <| rK <| rT ?_
   exact rt1 rfl (.inl rfl) (by first | exact all_no he hne | exact all_yes hI.2 (by omega))
  ·
   obtain ⟨hc2, hc2'⟩ := pF hc2
   have hne : editB e = true := by simpa using hc2
   refine AW.skip ?_
   refine AX.normal_block ?_
   refine AX.go ?_
   refine AW.region ?_
   refine st (mvT rfl) rfl ?_
   refine st (OpT.add (H rfl) (T1 rfl) (I rfl) (nw (by omega))) rfl ?_
   refine st (asT rfl) rfl ?_
   refine nn ?_
   exact AX.again (z + 1) ⟨by omega, all_step hI.2 ((qI_iff he).2 hne)⟩ (by omega) (Kc 0 _ (Kv rfl rfl) <| Kc 3 _ (Kv rfl (by omega)) <| Kn)
 ·
  obtain ⟨hc1, hc1'⟩ := pF hc1
  refine AW.exit ?_
  refine xT <| xT <| AX.exit_hit ?_
  refine AX.go ?_
  refine sr ?_
  refine st (asB rfl) rfl ?_
  refine ng ?_
  refine AW.ret ?_
  exact rt1 rfl (.inl rfl) (by first | exact all_no he hne | exact all_yes hI.2 (by omega))

/-- impl.areEdits$1 -/
theorem c_impl_areEdits_1 (e : DEdit) : AC Tryd.prog 104 [.agg kEdit e] [.cel Kd.bool (!(editB e))] [] := by
 refine acI (N := 6) Tryd.func104 (Nat.le_of_ble_eq_true rfl) rfl fun w0 hd s0 ar => ?_
 refine AW.to (ka 0 rfl <| Kn) ?_
 refine sr ?_
 refine st (OpT.frz (OpT.boxA (E := 57) (H rfl) (T1 rfl))) rfl ?_
 refine st (asB rfl) rfl ?_
 refine ng ?_
 refine sr ?_
 refine st (OpT.loadA (H rfl) (T1 rfl) ag57 sz57) rfl ?_
 refine st (OpT.c1 (ms := [.flat]) (c_impl_isEdit _) (H rfl) (Af (T1 rfl) rfl rfl <| An) rfl rfl) rfl ?_
 refine st (OpT.not (H rfl) (T1 rfl)) rfl ?_
 refine st (asT rfl) rfl ?_
 refine ng ?_
 refine AW.ret ?_
 exact rt1 rfl (.inl rfl) rfl

/-- impl.areEdits -/
theorem c_impl_areEdits (x : List DEdit) : AC Tryd.prog 59 [.cel (Kd.slice kEdit) x] [.cel Kd.bool (x.all editB)] [] := by
 refine acI (N := 6) Tryd.func59 (Nat.le_of_ble_eq_true rfl) rfl fun w0 hd s0 ar => ?_
 refine AW.to (kc 0 rfl <| Kn) ?_
 refine AW.fact (fun a w hr => (ok_slice (R_ok (t := 0) rfl hr)).2) (fun hl0 => ?_)
 refine sr ?_
 refine st (asB rfl) rfl ?_
 refine ng ?_
 refine sr ?_
 refine st (mvT rfl) rfl ?_
 refine st (OpT.c1 (ms := [.flat, .flat]) (c_slices_ContainsFunc_impl_Edit_impl_Edit (fun e => !(editB e)) CloArgs.unit (fun e => c_impl_areEdits_1 e) _) (H rfl) (Af (T1 rfl) rfl rfl <| Af Opd.func rfl rfl <| An) rfl rfl) rfl ?_
 refine st (OpT.not (H rfl) (T1 rfl)) rfl ?_
 refine st (asT rfl) rfl ?_
 refine ng ?_
 refine AW.ret ?_
 exact rt1 rfl (.inl rfl) any_not

set_option maxHeartbeats 4000000 in
/-- spec.UndoEdits -/
theorem c_spec_UndoEdits_o (x : List DEdit) : AC Tryd.prog 14 [.cel (Kd.slice kEdit) x] [.own 57 kEdit (undoS x).1, .cel (Kd.int .i64) (undoS x).2] [] := by
 refine acI (N := 44) Tryd.func14 (Nat.le_of_ble_eq_true rfl) rfl fun w0 hd s0 ar => ?_
 refine AW.to (kc 0 rfl <| Kn) ?_
 refine AW.fact (fun a w hr => (ok_slice (R_ok (t := 0) rfl hr)).2) (fun hl0 => ?_)
 refine sr ?_
 refine st (nilO (E := 57) kEdit rfl (.inl rfl)) rfl ?_
 refine st (asI rfl) rfl ?_
 refine ng ?_
 refine AW.seq ?_
 refine sr ?_
 refine st (mvT rfl) rfl ?_
 refine st (OpT.c1 (ms := [.flat]) (c_spec_l07Edits _) (H rfl) (Af (T1 rfl) rfl rfl <| An) rfl rfl) rfl ?_
 refine st (OpT.not (H rfl) (T1 rfl)) rfl ?_
 refine ng ?_
 refine cd rfl (fun hc1 => ?_) fun hc1 => ?_
 ·
  obtain ⟨hc1, hc1'⟩ := pT hc1
  refine sr ?_
  refine st (OpT.buildSlice0 (m := 0) (z := .bool false) kEdit (H rfl) el24 sz57 (by decide)) rfl ?_
  refine sg (OpT.take (.inl rfl) rfl (ok' rfl) (Root.self (by decide)) rfl rfl (by decide)) (ko 2 rfl <| kc4 9 8 7 3 rfl <| kc 0 rfl <| Kn) rfl ?_
  refine st (asI rfl) rfl ?_
  refine ng ?_
  refine AW.ret ?_
  refine rT ?_
  exact AX.rt (rs := [.tmp 2, .tmp 3]) (ts := [some 2, some 3]) (.inl rfl) rfl (ROs.cons (RO.tmp (At.self (by decide)) (Ko rfl (by first | (rw [undo_bad (by simpa using hc1)]; done) | (rw [undo_many hok (by omega)]; done) | (rw [undo_ok hok (by omega)]; first | done | exact rev_end (by omega)))) rfl) <| ROs.cons (RO.tmp (At.self (by decide)) (Kv rfl (by first | (rw [undo_bad (by simpa using hc1)]; done) | (rw [undo_many hok (by omega)]; done) | (rw [undo_ok hok (by omega)]; first | done | exact rev_end (by omega)))) rfl) <| ROs.nil) (by decide) OutsOK.nil
 ·
  obtain ⟨hc1, hc1'⟩ := pF hc1
  have hok : x.all editB = true := by simpa using hc1
  refine AW.skip ?_
  refine AX.go ?_
  refine AW.seq ?_
  refine sr ?_
  refine st (mvT rfl) rfl ?_
  refine st (OpT.len (H rfl) (T1 rfl) el24) rfl ?_
  refine st (OpT.gtr (H rfl) (T1 rfl) (I rfl)) rfl ?_
  refine ng ?_
  refine cd rfl (fun hc2 => ?_) fun hc2 => ?_
  ·
   obtain ⟨hc2, hc2'⟩ := pT hc2
   refine sr ?_
   refine st (OpT.buildSlice0 (m := 0) (z := .bool false) kEdit (H rfl) el24 sz57 (by decide)) rfl ?_
   refine sg (OpT.take (.inl rfl) rfl (ok' rfl) (Root.self (by decide)) rfl rfl (by decide)) (ko 2 rfl <| kc4 13 12 11 9 rfl <| kc4 8 7 3 0 rfl <| Kn) rfl ?_
   refine st (asI rfl) rfl ?_
   refine ng ?_
   refine AW.ret ?_
   refine rT ?_
   exact AX.rt (rs := [.tmp 2, .tmp 3]) (ts := [some 2, some 3]) (.inl rfl) rfl (ROs.cons (RO.tmp (At.self (by decide)) (Ko rfl (by first | (rw [undo_bad (by simpa using hc1)]; done) | (rw [undo_many hok (by omega)]; done) | (rw [undo_ok hok (by omega)]; first | done | exact rev_end (by omega)))) rfl) <| ROs.cons (RO.tmp (At.self (by decide)) (Kv rfl (by first | (rw [undo_bad (by simpa using hc1)]; done) | (rw [undo_many hok (by omega)]; done) | (rw [undo_ok hok (by omega)]; first | done | exact rev_end (by omega)))) rfl) <| ROs.nil) (by decide) OutsOK.nil
  ·
   obtain ⟨hc2, hc2'⟩ := pF hc2
   refine AW.skip ?_
   refine AX.go ?_
   refine sr ?_
   refine st (OpT.buildSlice0 (m := 0) (z := .bool false) kEdit (H rfl) el24 sz57 (by decide)) rfl ?_
   refine sg (OpT.take (.inl rfl) rfl (ok' rfl) (Root.self (by decide)) rfl rfl (by decide)) (ko 4 rfl <| kc4 13 12 11 9 rfl <| kc3 8 7 3 rfl <| ko 2 rfl <| kc 0 rfl <| Kn) rfl ?_
   refine ng ?_
   refine AW.seq ?_
   refine sr ?_
   refine st (mvT rfl) rfl ?_
   refine st (OpT.len (H rfl) (T1 rfl) el24) rfl ?_
   refine st (OpT.sub (H rfl) (T1 rfl) (I rfl) (nw (by omega))) rfl ?_
   refine st (asT rfl) rfl ?_
   refine ng ?_
   refine AW.block ?_
   refine AW.loop (fun z : Nat => z ≤ x.length) (fun z : Nat => keep [(0, .cel (Kd.slice kEdit) x), (4, .own 57 kEdit ((x.reverse.take z).map opp)), (5, .cel (Kd.int .i64) ((x.length : Int) - 1 - (z : Int)))]) (fun z : Nat => x.length - z) (0) (Nat.zero_le _) (Kc 0 _ (Kv rfl rfl) <| Kc 4 _ (Ko rfl rfl) <| Kc 5 _ (Kv rfl (by omega)) <| Kn) ?_
   intro z hI
   refine AW.seq ?_
   refine sr ?_
   refine st (mvT rfl) rfl ?_
   refine st (OpT.geq (H rfl) (T1 rfl) (I rfl)) rfl ?_
   refine ng ?_
   refine cd rfl (fun hc3 => ?_) fun hc3 => ?_
   ·
    obtain ⟨hc3, hc3'⟩ := pT hc3
    obtain ⟨e, he⟩ : ∃ e, x[Int.toNat ((x.length : Int) - 1 - (z : Int))]? = some e := ⟨_, List.getElem?_eq_getElem (by omega)⟩
    have hkd := edit_kind (List.all_eq_true.1 hok e (List.mem_of_getElem? he))
    refine AW.skip ?_
    refine AX.go ?_
    refine AW.seq ?_
    refine AW.block ?_
    refine sr ?_
    refine st (mvT rfl) rfl ?_
    refine st (mvT rfl) rfl ?_
    refine st (OpT.indexAddr (H rfl) (T1 rfl) (T1 rfl) el24 sz57 (by omega) (by assumption)) rfl ?_
    refine st (OpT.loadA (H rfl) (T1 rfl) ag57 sz57) rfl ?_
    refine st (OpT.alloc (H rfl) zr57 zk57) rfl ?_
    refine sk (OpT.storeBA rfl rfl (Opd.whole (Root.self (t := 6) (by decide)) rfl) rfl sz57 (by decide) (T1 rfl)) rfl ?_
    refine ng ?_
    refine AW.seq ?_
    refine sr ?_
    refine st (OpT.fieldAddrB (H rfl) (Root.self (t := 6) (by decide)) rfl (by decide) fd57_0 sz47 (by decide) sb57_0) rfl ?_
    refine st (OpT.loadP (H rfl) (T1 rfl) (.inl ⟨_, rfl, rfl⟩) ag47 rfl) rfl ?_
    refine ng ?_
    refine AW.block ?_
    refine sr ?_
    refine st (OpT.eql (H rfl) (T1 rfl) (I rfl)) rfl ?_
    refine st (asT rfl) rfl ?_
    refine ng ?_
    refine cd rfl (fun hc4 => ?_) fun hc4 => ?_
    ·
     obtain ⟨hc4, hc4'⟩ := pT hc4
     refine AW.region ?_
     refine st (OpT.fieldAddrB (H rfl) (Root.self (t := 6) (by decide)) rfl (by decide) fd57_0 sz47 (by decide) sb57_0) rfl ?_
     refine sk (OpT.storeB rfl rfl (T1 rfl) rfl sz47 rfl (I rfl)) rfl ?_
     refine nn ?_
     refine AX.normal_block ?_
     refine AX.go ?_
     refine AW.region ?_
     refine st (OpT.alias (H rfl) (by decide) (by decide)) rfl ?_
     refine st (OpT.loadB (H rfl) (Root.self (t := 6) (by decide)) rfl ag57 sz57) rfl ?_
     refine st (OpT.buildSlice (H rfl) el24 zr57 sz57 rfl (by decide) zk57 (by decide) (Built.agg (T1 rfl) rfl (by decide) (sub_arr (by decide) ((0, .empty, 0, (0, 0)) : Int × ByteArray × Int × (BitVec 64 × BitVec 64))) (Built.nil _))) rfl ?_
     refine sg (OpT.append (H rfl) (Root.ali rfl (by decide) (by decide)) rfl (Src.own (Root.self (t := 41) (by decide)) rfl) (by decide) el24 zr57 rfl sz57 by57 (by decide) (by simp only [List.length_map, List.length_take, List.length_reverse, List.length_set, List.length_replicate]; omega)) (ko 42 rfl <| ko 41 rfl <| ka 40 rfl <| kb 6 rfl <| Kc 32 (.pel _ _ _ _ _ _ _) rfl <| kc3 30 31 28 rfl <| Kc 27 (.pel _ _ _ _ _ _ _) rfl <| ka 26 rfl <| kc4 25 24 23 20 rfl <| kc3 19 0 5 rfl <| Kn) rfl ?_
     refine sg (OpT.take (.inl rfl) rfl (ok' rfl) (Root.self (by decide)) rfl rfl (by decide)) (ko 4 rfl <| ko 41 rfl <| ka 40 rfl <| kb 6 rfl <| Kc 32 (.pel _ _ _ _ _ _ _) rfl <| kc3 30 31 28 rfl <| Kc 27 (.pel _ _ _ _ _ _ _) rfl <| ka 26 rfl <| kc4 25 24 23 20 rfl <| kc3 19 0 5 rfl <| Kn) rfl ?_
     refine nn ?_
     refine AX.normal_block ?_
     refine AX.go ?_
     refine AW.region ?_
     refine st (mvT rfl) rfl ?_
     refine st (OpT.sub (H rfl) (T1 rfl) (I rfl) (nw (by omega))) rfl ?_
     refine st (asT rfl) rfl ?_
     refine nn ?_
     exact AX.again (z + 1) (by omega) (by omega) (Kc 0 _ (Kv rfl rfl) <| Kc 4 _ (Ko rfl (by first | exact (congrArg (fun v => (x.reverse.take z).map opp ++ [v]) (opp_1 hc4')).trans (rev_next (by omega) he) | exact (congrArg (fun v => (x.reverse.take z).map opp ++ [v]) (opp_2 hc5')).trans (rev_next (by omega) he) | exact (congrArg (fun v => (x.reverse.take z).map opp ++ [v]) (opp_3 hc6')).trans (rev_next (by omega) he) | exact (congrArg (fun v => (x.reverse.take z).map opp ++ [v]) (opp_4 hc4' hc5' hc6')).trans (rev_next (by omega) he))) <| Kc 5 _ (Kv rfl (by omega)) <| Kn)
    ·
     obtain ⟨hc4, hc4'⟩ := pF hc4
     refine sr ?_
     refine st (OpT.eql (H rfl) (T1 rfl) (I rfl)) rfl ?_
     refine st (asT rfl) rfl ?_
     refine ng ?_
     refine cd rfl (fun hc5 => ?_) fun hc5 => ?_
     ·
      obtain ⟨hc5, hc5'⟩ := pT hc5
      refine AW.region ?_
      refine st (OpT.fieldAddrB (H rfl) (Root.self (t := 6) (by decide)) rfl (by decide) fd57_0 sz47 (by decide) sb57_0) rfl ?_
      refine sk (OpT.storeB rfl rfl (T1 rfl) rfl sz47 rfl (I rfl)) rfl ?_
      refine nn ?_
      refine AX.normal_block ?_
      refine AX.go ?_
      refine AW.region ?_
      refine st (OpT.alias (H rfl) (by decide) (by decide)) rfl ?_
      refine st (OpT.loadB (H rfl) (Root.self (t := 6) (by decide)) rfl ag57 sz57) rfl ?_
      refine st (OpT.buildSlice (H rfl) el24 zr57 sz57 rfl (by decide) zk57 (by decide) (Built.agg (T1 rfl) rfl (by decide) (sub_arr (by decide) ((0, .empty, 0, (0, 0)) : Int × ByteArray × Int × (BitVec 64 × BitVec 64))) (Built.nil _))) rfl ?_
      refine sg (OpT.append (H rfl) (Root.ali rfl (by decide) (by decide)) rfl (Src.own (Root.self (t := 41) (by decide)) rfl) (by decide) el24 zr57 rfl sz57 by57 (by decide) (by simp only [List.length_map, List.length_take, List.length_reverse, List.length_set, List.length_replicate]; omega)) (ko 42 rfl <| ko 41 rfl <| ka 40 rfl <| kb 6 rfl <| Kc 35 (.pel _ _ _ _ _ _ _) rfl <| kc4 33 34 30 31 rfl <| kc 28 rfl <| Kc 27 (.pel _ _ _ _ _ _ _) rfl <| ka 26 rfl <| kc4 25 24 23 20 rfl <| kc3 19 0 5 rfl <| Kn) rfl ?_
      refine sg (OpT.take (.inl rfl) rfl (ok' rfl) (Root.self (by decide)) rfl rfl (by decide)) (ko 4 rfl <| ko 41 rfl <| ka 40 rfl <| kb 6 rfl <| Kc 35 (.pel _ _ _ _ _ _ _) rfl <| kc4 33 34 30 31 rfl <| kc 28 rfl <| Kc 27 (.pel _ _ _ _ _ _ _) rfl <| ka 26 rfl <| kc4 25 24 23 20 rfl <| kc3 19 0 5 rfl <| Kn) rfl ?_
      refine nn ?_
      refine AX.normal_block ?_
      refine AX.go ?_
      refine AW.region ?_
      refine st (mvT rfl) rfl ?_
      refine st (OpT.sub (H rfl) (T1 rfl) (I rfl) (nw (by omega))) rfl ?_
      refine st (asT rfl) rfl ?_
      refine nn ?_
      exact AX.again (z + 1) (by omega) (by omega) (Kc 0 _ (Kv rfl rfl) <| Kc 4 _ (Ko rfl (by first | exact (congrArg (fun v => (x.reverse.take z).map opp ++ [v]) (opp_1 hc4')).trans (rev_next (by omega) he) | exact (congrArg (fun v => (x.reverse.take z).map opp ++ [v]) (opp_2 hc5')).trans (rev_next (by omega) he) | exact (congrArg (fun v => (x.reverse.take z).map opp ++ [v]) (opp_3 hc6')).trans (rev_next (by omega) he) | exact (congrArg (fun v => (x.reverse.take z).map opp ++ [v]) (opp_4 hc4' hc5' hc6')).trans (rev_next (by omega) he))) <| Kc 5 _ (Kv rfl (by omega)) <| Kn)
     ·
      obtain ⟨hc5, hc5'⟩ := pF hc5
      refine sr ?_
      refine st (OpT.eql (H rfl) (T1 rfl) (I rfl)) rfl ?_
      refine st (asT rfl) rfl ?_
      refine ng ?_
      refine cd rfl (fun hc6 => ?_) fun hc6 => ?_
      ·
       obtain ⟨hc6, hc6'⟩ := pT hc6
       refine AW.region ?_
       refine st (OpT.fieldAddrB (H rfl) (Root.self (t := 6) (by decide)) rfl (by decide) fd57_0 sz47 (by decide) sb57_0) rfl ?_
       refine sk (OpT.storeB rfl rfl (T1 rfl) rfl sz47 rfl (I rfl)) rfl ?_
       refine nn ?_
       refine AX.normal_block ?_
       refine AX.go ?_
       refine AW.region ?_
       refine st (OpT.alias (H rfl) (by decide) (by decide)) rfl ?_
       refine st (OpT.loadB (H rfl) (Root.self (t := 6) (by decide)) rfl ag57 sz57) rfl ?_
       refine st (OpT.buildSlice (H rfl) el24 zr57 sz57 rfl (by decide) zk57 (by decide) (Built.agg (T1 rfl) rfl (by decide) (sub_arr (by decide) ((0, .empty, 0, (0, 0)) : Int × ByteArray × Int × (BitVec 64 × BitVec 64))) (Built.nil _))) rfl ?_
       refine sg (OpT.append (H rfl) (Root.ali rfl (by decide) (by decide)) rfl (Src.own (Root.self (t := 41) (by decide)) rfl) (by decide) el24 zr57 rfl sz57 by57 (by decide) (by simp only [List.length_map, List.length_take, List.length_reverse, List.length_set, List.length_replicate]; omega)) (ko 42 rfl <| ko 41 rfl <| ka 40 rfl <| kb 6 rfl <| Kc 38 (.pel _ _ _ _ _ _ _) rfl <| kc4 36 37 33 34 rfl <| kc3 30 31 28 rfl <| Kc 27 (.pel _ _ _ _ _ _ _) rfl <| ka 26 rfl <| kc4 25 24 23 20 rfl <| kc3 19 0 5 rfl <| Kn) rfl ?_
       refine sg (OpT.take (.inl rfl) rfl (ok' rfl) (Root.self (by decide)) rfl rfl (by decide)) (ko 4 rfl <| ko 41 rfl <| ka 40 rfl <| kb 6 rfl <| Kc 38 (.pel _ _ _ _ _ _ _) rfl <| kc4 36 37 33 34 rfl <| kc3 30 31 28 rfl <| Kc 27 (.pel _ _ _ _ _ _ _) rfl <| ka 26 rfl <| kc4 25 24 23 20 rfl <| kc3 19 0 5 rfl <| Kn) rfl ?_
       refine nn ?_
       refine AX.normal_block ?_
       refine AX.go ?_
       refine AW.region ?_
       refine st (mvT rfl) rfl ?_
       refine st (OpT.sub (H rfl) (T1 rfl) (I rfl) (nw (by omega))) rfl ?_
       refine st (asT rfl) rfl ?_
       refine nn ?_
       exact AX.again (z + 1) (by omega) (by omega) (Kc 0 _ (Kv rfl rfl) <| Kc 4 _ (Ko rfl (by first | exact (congrArg (fun v => (x.reverse.take z).map opp ++ [v]) (opp_1 hc4')).trans (rev_next (by omega) he) | exact (congrArg (fun v => (x.reverse.take z).map opp ++ [v]) (opp_2 hc5')).trans (rev_next (by omega) he) | exact (congrArg (fun v => (x.reverse.take z).map opp ++ [v]) (opp_3 hc6')).trans (rev_next (by omega) he) | exact (congrArg (fun v => (x.reverse.take z).map opp ++ [v]) (opp_4 hc4' hc5' hc6')).trans (rev_next (by omega) he))) <| Kc 5 _ (Kv rfl (by omega)) <| Kn)
      ·
       obtain ⟨hc6, hc6'⟩ := pF hc6
       refine AW.region ?_
       refine st (OpT.fieldAddrB (H rfl) (Root.self (t := 6) (by decide)) rfl (by decide) fd57_0 sz47 (by decide) sb57_0) rfl ?_
       refine sk (OpT.storeB rfl rfl (T1 rfl) rfl sz47 rfl (I rfl)) rfl ?_
       refine nn ?_
       refine AX.normal_block ?_
       refine AX.go ?_
       refine AW.region ?_
       refine st (OpT.alias (H rfl) (by decide) (by decide)) rfl ?_
       refine st (OpT.loadB (H rfl) (Root.self (t := 6) (by decide)) rfl ag57 sz57) rfl ?_
       refine st (OpT.buildSlice (H rfl) el24 zr57 sz57 rfl (by decide) zk57 (by decide) (Built.agg (T1 rfl) rfl (by decide) (sub_arr (by decide) ((0, .empty, 0, (0, 0)) : Int × ByteArray × Int × (BitVec 64 × BitVec 64))) (Built.nil _))) rfl ?_
       refine sg (OpT.append (H rfl) (Root.ali rfl (by decide) (by decide)) rfl (Src.own (Root.self (t := 41) (by decide)) rfl) (by decide) el24 zr57 rfl sz57 by57 (by decide) (by simp only [List.length_map, List.length_take, List.length_reverse, List.length_set, List.length_replicate]; omega)) (ko 42 rfl <| ko 41 rfl <| ka 40 rfl <| kb 6 rfl <| Kc 29 (.pel _ _ _ _ _ _ _) rfl <| kc4 36 37 33 34 rfl <| kc3 30 31 28 rfl <| Kc 27 (.pel _ _ _ _ _ _ _) rfl <| ka 26 rfl <| kc4 25 24 23 20 rfl <| kc3 19 0 5 rfl <| Kn) rfl ?_
       refine sg (OpT.take (.inl rfl) rfl (ok' rfl) (Root.self (by decide)) rfl rfl (by decide)) (ko 4 rfl <| ko 41 rfl <| ka 40 rfl <| kb 6 rfl <| Kc 29 (.pel _ _ _ _ _ _ _) rfl <| kc4 36 37 33 34 rfl <| kc3 30 31 28 rfl <| Kc 27 (.pel _ _ _ _ _ _ _) rfl <| ka 26 rfl <| kc4 25 24 23 20 rfl <| kc3 19 0 5 rfl <| Kn) rfl ?_
       refine nn ?_
       refine AX.normal_block ?_
       refine AX.go ?_
       refine AW.region ?_
       refine st (mvT rfl) rfl ?_
       refine st (OpT.sub (H rfl) (T1 rfl) (I rfl) (nw (by omega))) rfl ?_
       refine st (asT rfl) rfl ?_
       refine nn ?_
       exact AX.again (z + 1) (by omega) (by omega) (Kc 0 _ (Kv rfl rfl) <| Kc 4 _ (Ko rfl (by first | exact (congrArg (fun v => (x.reverse.take z).map opp ++ [v]) (opp_1 hc4')).trans (rev_next (by omega) he) | exact (congrArg (fun v => (x.reverse.take z).map opp ++ [v]) (opp_2 hc5')).trans (rev_next (by omega) he) | exact (congrArg (fun v => (x.reverse.take z).map opp ++ [v]) (opp_3 hc6')).trans (rev_next (by omega) he) | exact (congrArg (fun v => (x.reverse.take z).map opp ++ [v]) (opp_4 hc4' hc5' hc6')).trans (rev_next (by omega) he))) <| Kc 5 _ (Kv rfl (by omega)) <| Kn)
   ·
    obtain ⟨hc3, hc3'⟩ := pF hc3
    refine AW.exit ?_
    refine xT <| xT <| AX.exit_hit ?_
    refine AX.go ?_
    refine sr ?_
    refine st (OpT.alias (H rfl) (by decide) (by decide)) rfl ?_
    refine sg (OpT.take (.inl rfl) rfl (ok' rfl) (Root.ali rfl (by decide) (by decide)) rfl rfl (by decide)) (ko 2 rfl <| kc4 20 19 0 5 rfl <| Kn) rfl ?_
    refine st (asI rfl) rfl ?_
    refine ng ?_
    refine AW.ret ?_
    exact AX.rt (rs := [.tmp 2, .tmp 3]) (ts := [some 2, some 3]) (.inl rfl) rfl (ROs.cons (RO.tmp (At.self (by decide)) (Ko rfl (by first | (rw [undo_bad (by simpa using hc1)]; done) | (rw [undo_many hok (by omega)]; done) | (rw [undo_ok hok (by omega)]; first | done | exact rev_end (by omega)))) rfl) <| ROs.cons (RO.tmp (At.self (by decide)) (Kv rfl (by first | (rw [undo_bad (by simpa using hc1)]; done) | (rw [undo_many hok (by omega)]; done) | (rw [undo_ok hok (by omega)]; first | done | exact rev_end (by omega)))) rfl) <| ROs.nil) (by decide) OutsOK.nil
theorem c_spec_UndoEdits (x : List DEdit) : AC Tryd.prog 14 [.cel (Kd.slice kEdit) x] [.cel (Kd.slice kEdit) (undoS x).1, .cel (Kd.int .i64) (undoS x).2] [] := (c_spec_UndoEdits_o x).frz rfl

/-- impl.UndoEdits -/
theorem c_impl_UndoEdits_o (x : List DEdit) : AC Tryd.prog 16 [.cel (Kd.slice kEdit) x] [.own 57 kEdit (undoS x).1, .cel (Kd.int .i64) (undoS x).2] [] := by
 refine acI (N := 37) Tryd.func16 (Nat.le_of_ble_eq_true rfl) rfl fun w0 hd s0 ar => ?_
 refine AW.to (kc 0 rfl <| Kn) ?_
 refine AW.fact (fun a w hr => (ok_slice (R_ok (t := 0) rfl hr)).2) (fun hl0 => ?_)
 refine sr ?_
 refine st (nilO (E := 57) kEdit rfl (.inl rfl)) rfl ?_
 refine st (asI rfl) rfl ?_
 refine ng ?_
 refine AW.seq ?_
 refine sr ?_
 refine st (mvT rfl) rfl ?_
 refine st (OpT.c1 (ms := [.flat]) (c_impl_areEdits _) (H rfl) (Af (T1 rfl) rfl rfl <| An) rfl rfl) rfl ?_
 refine st (OpT.not (H rfl) (T1 rfl)) rfl ?_
 refine ng ?_
 refine cd rfl (fun hc1 => ?_) fun hc1 => ?_
 ·
  obtain ⟨hc1, hc1'⟩ := pT hc1
  refine sr ?_
  refine st (nilO (E := 57) kEdit rfl (.inl rfl)) rfl ?_
  refine st (asI rfl) rfl ?_
  refine ng ?_
  refine AW.ret ?_
  refine rT ?_
  exact AX.rt (rs := [.tmp 2, .tmp 3]) (ts := [some 2, some 3]) (.inl rfl) rfl (ROs.cons (RO.tmp (At.self (by decide)) (Ko rfl (by first | (rw [undo_bad (by simpa using hc1)]; done) | (rw [undo_many hok (by omega)]; done) | (rw [undo_ok hok (by omega)]; first | done | exact rev_end (by omega)))) rfl) <| ROs.cons (RO.tmp (At.self (by decide)) (Kv rfl (by first | (rw [undo_bad (by simpa using hc1)]; done) | (rw [undo_many hok (by omega)]; done) | (rw [undo_ok hok (by omega)]; first | done | exact rev_end (by omega)))) rfl) <| ROs.nil) (by decide) OutsOK.nil
 ·
  obtain ⟨hc1, hc1'⟩ := pF hc1
  have hok : x.all editB = true := by simpa using hc1
  refine AW.skip ?_
  refine AX.go ?_
  refine AW.seq ?_
  refine sr ?_
  refine st (mvT rfl) rfl ?_
  refine st (OpT.len (H rfl) (T1 rfl) el24) rfl ?_
  refine st (OpT.gtr (H rfl) (T1 rfl) (I rfl)) rfl ?_
  refine ng ?_
  refine cd rfl (fun hc2 => ?_) fun hc2 => ?_
  ·
   obtain ⟨hc2, hc2'⟩ := pT hc2
   refine sr ?_
   refine st (nilO (E := 57) kEdit rfl (.inl rfl)) rfl ?_
   refine st (asI rfl) rfl ?_
   refine ng ?_
   refine AW.ret ?_
   refine rT ?_
   exact AX.rt (rs := [.tmp 2, .tmp 3]) (ts := [some 2, some 3]) (.inl rfl) rfl (ROs.cons (RO.tmp (At.self (by decide)) (Ko rfl (by first | (rw [undo_bad (by simpa using hc1)]; done) | (rw [undo_many hok (by omega)]; done) | (rw [undo_ok hok (by omega)]; first | done | exact rev_end (by omega)))) rfl) <| ROs.cons (RO.tmp (At.self (by decide)) (Kv rfl (by first | (rw [undo_bad (by simpa using hc1)]; done) | (rw [undo_many hok (by omega)]; done) | (rw [undo_ok hok (by omega)]; first | done | exact rev_end (by omega)))) rfl) <| ROs.nil) (by decide) OutsOK.nil
  ·
   obtain ⟨hc2, hc2'⟩ := pF hc2
   refine AW.skip ?_
   refine AX.go ?_
   refine sr ?_
   refine st (OpT.buildSlice0 (m := 0) (z := .bool false) kEdit (H rfl) el24 sz57 (by decide)) rfl ?_
   refine sg (OpT.take (.inl rfl) rfl (ok' rfl) (Root.self (by decide)) rfl rfl (by decide)) (ko 4 rfl <| kc4 13 12 11 10 rfl <| kc3 9 8 3 rfl <| ko 2 rfl <| kc 0 rfl <| Kn) rfl ?_
   refine ng ?_
   refine sr ?_
   refine st (OpT.buildA (H rfl) ar92 sz47 zr92 zk92 (Built.cel (I rfl) rfl rfl (sub_arr (by decide) (0 : Int)) (Built.cel (I rfl) rfl rfl (sub_arr (by decide) (0 : Int)) (Built.cel (I rfl) rfl rfl (sub_arr (by decide) (0 : Int)) (Built.cel (I rfl) rfl rfl (sub_arr (by decide) (0 : Int)) (Built.cel (I rfl) rfl rfl (sub_arr (by decide) (0 : Int)) (Built.nil _))))))) rfl ?_
   refine st (OpT.alloc (H rfl) zr92 zk92) rfl ?_
   refine sk (OpT.storeBA rfl rfl (Opd.whole (Root.self (t := 5) (by decide)) rfl) rfl sz92 (by decide) (T1 rfl)) rfl ?_
   refine ng ?_
   refine AW.seq ?_
   refine sr ?_
   refine st (mvT rfl) rfl ?_
   refine st (OpT.len (H rfl) (T1 rfl) el24) rfl ?_
   refine st (OpT.sub (H rfl) (T1 rfl) (I rfl) (nw (by omega))) rfl ?_
   refine st (asT rfl) rfl ?_
   refine AWl.to (kc 6 rfl <| kb 5 rfl <| ko 4 rfl <| kc 3 rfl <| ko 2 rfl <| kc 0 rfl <| Kn) ?_
   refine ng ?_
   refine AW.block ?_
   refine AW.loop (fun z : Nat => z ≤ x.length) (fun z : Nat => keep [(0, .cel (Kd.slice kEdit) x), (4, .own 57 kEdit ((x.reverse.take z).map opp)), (6, .cel (Kd.int .i64) ((x.length : Int) - 1 - (z : Int))), (5, .box 92 (Kd.arr 5 (Kd.int .i8)) oppL)]) (fun z : Nat => x.length - z) (0) (Nat.zero_le _) (Kc 0 _ (Kv rfl rfl) <| Kc 4 _ (Ko rfl rfl) <| Kc 6 _ (Kv rfl (by omega)) <| Kc 5 _ (Kb rfl rfl) <| Kn) ?_
   intro z hI
   refine AW.seq ?_
   refine sr ?_
   refine st (mvT rfl) rfl ?_
   refine st (OpT.geq (H rfl) (T1 rfl) (I rfl)) rfl ?_
   refine ng ?_
   refine cd rfl (fun hc3 => ?_) fun hc3 => ?_
   ·
    obtain ⟨hc3, hc3'⟩ := pT hc3
    obtain ⟨e, he⟩ : ∃ e, x[Int.toNat ((x.length : Int) - 1 - (z : Int))]? = some e := ⟨_, List.getElem?_eq_getElem (by omega)⟩
    have hkd := edit_kind (List.all_eq_true.1 hok e (List.mem_of_getElem? he))
    refine AW.skip ?_
    refine AX.go ?_
    refine AW.seq ?_
    refine AW.block ?_
    refine sr ?_
    refine st (mvT rfl) rfl ?_
    refine st (mvT rfl) rfl ?_
    refine st (OpT.indexAddr (H rfl) (T1 rfl) (T1 rfl) el24 sz57 (by omega) (by assumption)) rfl ?_
    refine st (OpT.loadA (H rfl) (T1 rfl) ag57 sz57) rfl ?_
    refine st (OpT.alloc (H rfl) zr57 zk57) rfl ?_
    refine sk (OpT.storeBA rfl rfl (Opd.whole (Root.self (t := 7) (by decide)) rfl) rfl sz57 (by decide) (T1 rfl)) rfl ?_
    refine ng ?_
    refine sr ?_
    refine st (OpT.fieldAddrB (H rfl) (Root.self (t := 7) (by decide)) rfl (by decide) fd57_0 sz47 (by decide) sb57_0) rfl ?_
    refine st (OpT.loadP (H rfl) (T1 rfl) (.inl ⟨_, rfl, rfl⟩) ag47 rfl) rfl ?_
    refine st (OpT.indexAddrB (H rfl) (Root.self (t := 5) (by decide)) rfl (by decide) (T1 rfl) ar92 sz47 (by omega) (sub_arr (by omega) (0 : Int))) rfl ?_
    refine st (OpT.loadP (H rfl) (T1 rfl) (.inl ⟨_, rfl, rfl⟩) ag47 rfl) rfl ?_
    refine st (OpT.fieldAddrB (H rfl) (Root.self (t := 7) (by decide)) rfl (by decide) fd57_0 sz47 (by decide) sb57_0) rfl ?_
    refine sk (OpT.storeB rfl rfl (T1 rfl) rfl sz47 rfl (T1 rfl)) rfl ?_
    refine ng ?_
    refine AW.region ?_
    refine st (OpT.alias (H rfl) (by decide) (by decide)) rfl ?_
    refine st (OpT.loadB (H rfl) (Root.self (t := 7) (by decide)) rfl ag57 sz57) rfl ?_
    refine st (OpT.buildSlice (H rfl) el24 zr57 sz57 rfl (by decide) zk57 (by decide) (Built.agg (T1 rfl) rfl (by decide) (sub_arr (by decide) ((0, .empty, 0, (0, 0)) : Int × ByteArray × Int × (BitVec 64 × BitVec 64))) (Built.nil _))) rfl ?_
    refine sg (OpT.append (H rfl) (Root.ali rfl (by decide) (by decide)) rfl (Src.own (Root.self (t := 34) (by decide)) rfl) (by decide) el24 zr57 rfl sz57 by57 (by decide) (by simp only [List.length_map, List.length_take, List.length_reverse, List.length_set, List.length_replicate]; omega)) (ko 35 rfl <| ko 34 rfl <| ka 33 rfl <| kb 7 rfl <| Kc 31 (.pel _ _ _ _ _ _ _) rfl <| kc 30 rfl <| Kc 29 (.pel _ _ _ _ _ _ _) rfl <| kc 28 rfl <| Kc 27 (.pel _ _ _ _ _ _ _) rfl <| ka 26 rfl <| kc4 25 24 23 20 rfl <| kc3 19 0 6 rfl <| kb 5 rfl <| Kn) rfl ?_
    refine sg (OpT.take (.inl rfl) rfl (ok' rfl) (Root.self (by decide)) rfl rfl (by decide)) (ko 4 rfl <| ko 34 rfl <| ka 33 rfl <| kb 7 rfl <| Kc 31 (.pel _ _ _ _ _ _ _) rfl <| kc 30 rfl <| Kc 29 (.pel _ _ _ _ _ _ _) rfl <| kc 28 rfl <| Kc 27 (.pel _ _ _ _ _ _ _) rfl <| ka 26 rfl <| kc4 25 24 23 20 rfl <| kc3 19 0 6 rfl <| kb 5 rfl <| Kn) rfl ?_
    refine nn ?_
    refine AX.normal_block ?_
    refine AX.go ?_
    refine AW.region ?_
    refine st (mvT rfl) rfl ?_
    refine st (OpT.sub (H rfl) (T1 rfl) (I rfl) (nw (by omega))) rfl ?_
    refine st (asT rfl) rfl ?_
    refine nn ?_
    exact AX.again (z + 1) (by omega) (by omega) (Kc 0 _ (Kv rfl rfl) <| Kc 4 _ (Ko rfl (by first | exact (congrArg (fun v => (x.reverse.take z).map opp ++ [v]) ((by rw [opp, ← opp_get (by omega)]))).trans (rev_next (by omega) he))) <| Kc 6 _ (Kv rfl (by omega)) <| Kc 5 _ (Kb rfl rfl) <| Kn)
   ·
    obtain ⟨hc3, hc3'⟩ := pF hc3
    refine AW.exit ?_
    refine xT <| xT <| AX.exit_hit ?_
    refine AX.go ?_
    refine sr ?_
    refine st (OpT.alias (H rfl) (by decide) (by decide)) rfl ?_
    refine sg (OpT.take (.inl rfl) rfl (ok' rfl) (Root.ali rfl (by decide) (by decide)) rfl rfl (by decide)) (ko 2 rfl <| kc4 20 19 0 6 rfl <| kb 5 rfl <| Kn) rfl ?_
    refine st (asI rfl) rfl ?_
    refine ng ?_
    refine AW.ret ?_
    exact AX.rt (rs := [.tmp 2, .tmp 3]) (ts := [some 2, some 3]) (.inl rfl) rfl (ROs.cons (RO.tmp (At.self (by decide)) (Ko rfl (by first | (rw [undo_bad (by simpa using hc1)]; done) | (rw [undo_many hok (by omega)]; done) | (rw [undo_ok hok (by omega)]; first | done | exact rev_end (by omega)))) rfl) <| ROs.cons (RO.tmp (At.self (by decide)) (Kv rfl (by first | (rw [undo_bad (by simpa using hc1)]; done) | (rw [undo_many hok (by omega)]; done) | (rw [undo_ok hok (by omega)]; first | done | exact rev_end (by omega)))) rfl) <| ROs.nil) (by decide) OutsOK.nil
set_option maxHeartbeats 4000000 in
/-- laws.FnExactUndoEdits -/
theorem c_laws_FnExactUndoEdits (x : List DEdit) : AC Tryd.prog 3 [.cel (Kd.slice kEdit) x] [.cel Kd.bool true] [] := by
 refine acI (N := 96) Tryd.func3 (Nat.le_of_ble_eq_true rfl) rfl fun w0 hd s0 ar => ?_
 refine AW.to (kc 0 rfl <| Kn) ?_
 have htl := undo_len x
 refine sr ?_
 refine st (asB rfl) rfl ?_
 refine ng ?_
 refine sr ?_
 refine st (asI rfl) rfl ?_
 refine ng ?_
 refine sr ?_
 refine st (mvT rfl) rfl ?_
 refine st (mvT rfl) rfl ?_
 refine st (OpT.c1 (ms := [.flat, .flat]) (c_laws_szEditS _ _ (by omega)) (H rfl) (Af (T1 rfl) rfl rfl <| Af (T1 rfl) rfl rfl <| An) rfl rfl) rfl ?_
 refine st (asT rfl) rfl ?_
 refine ng ?_
 refine AW.seq ?_
 refine sr ?_
 refine st (mvT rfl) rfl ?_
 refine st (OpT.lss (H rfl) (T1 rfl) (I rfl)) rfl ?_
 refine ng ?_
 refine cd rfl (fun hc1 => ?_) fun hc1 => ?_
 ·
  replace hc1 := oT hc1
  refine sr ?_
  refine st (asB rfl) rfl ?_
  refine ng ?_
  refine AW.ret ?_
  refine rT ?_
  exact rt1 rfl (.inl rfl) rfl
 ·
  replace hc1 := oF hc1
  have k0 := okSz_list okSzE x 1048576 (by omega)
  have k1 := k0.2.2 (by omega)
  refine AW.skip ?_
  refine AX.go ?_
  refine sr ?_
  refine st (mvT rfl) rfl ?_
  refine st (OpT.c1 (ms := [.flat]) (c_laws_toEditS x (by omega)) (H rfl) (Af (T1 rfl) rfl rfl <| An) rfl rfl) rfl ?_
  refine s2 (OpT.c2 (ms := [.flat]) (c_spec_UndoEdits _) (H rfl) (Af (T1 rfl) rfl rfl <| An) rfl rfl rfl) rfl ?_
  refine st (OpT.alias (H rfl) (by decide) (by decide)) rfl ?_
  refine st (OpT.extractV (m := 10022) (H rfl) rfl rfl rfl rfl rfl rfl rfl) rfl ?_
  refine st (OpT.extractV (m := 20022) (H rfl) rfl rfl rfl rfl rfl rfl rfl) rfl ?_
  refine st (asT rfl) rfl ?_
  refine st (asT rfl) rfl ?_
  refine AWl.to (kc4 5 4 2 0 rfl <| Kn) ?_
  refine ng ?_
  refine sr ?_
  refine st (mvT rfl) rfl ?_
  refine st (OpT.c1 (ms := [.flat]) (c_laws_toEditS_o x (by omega)) (H rfl) (Af (T1 rfl) rfl rfl <| An) rfl rfl) rfl ?_
  refine sg (OpT.take (.inl rfl) rfl (ok' rfl) (Root.self (by decide)) rfl rfl (by decide)) (ko 6 rfl <| kc4 25 5 4 2 rfl <| kc 0 rfl <| Kn) rfl ?_
  refine ng ?_
  refine sr ?_
  refine st (OpT.alias (H rfl) (by decide) (by decide)) rfl ?_
  refine s2 (cb2 (ms := [.bor 6]) (c_impl_UndoEdits_o _) (H rfl) (Ab (Root.ali rfl (by decide) (by decide)) rfl <| An) rfl (indO fun _ _ _ _ h => h) (indC fun _ _ _ _ h => h)) rfl ?_
  refine st (OpT.alias (H rfl) (by decide) (by decide)) rfl ?_
  refine sg (OpT.extractVO (m := 10029) (H rfl) rfl rfl rfl rfl rfl rfl) (ko 30 rfl <| Kc 27 (.ali _) rfl <| kc 20029 rfl <| Kc 28 (.ali _) rfl <| ko 6 rfl <| kc4 25 5 4 2 rfl <| kc 0 rfl <| Kn) rfl ?_
  refine st (OpT.extractV (m := 20029) (H rfl) rfl rfl rfl rfl rfl rfl rfl) rfl ?_
  refine sg (OpT.take (.inl rfl) rfl (ok' rfl) (Root.self (by decide)) rfl rfl (by decide)) (ko 7 rfl <| kc 31 rfl <| Kc 27 (.ali _) rfl <| kc 20029 rfl <| Kc 28 (.ali _) rfl <| ko 6 rfl <| kc4 25 5 4 2 rfl <| kc 0 rfl <| Kn) rfl ?_
  refine st (asT rfl) rfl ?_
  refine ng ?_
  refine AW.seq ?_
  refine sr ?_
  refine st (OpT.alias (H rfl) (by decide) (by decide)) rfl ?_
  refine st (mvT rfl) rfl ?_
  refine st (cb1 (ms := [.bor 7, .flat]) (c_laws_eqEditS _ _) (H rfl) (Ab (Root.ali rfl (by decide) (by decide)) rfl <| Af (T1 rfl) rfl rfl <| An) rfl (indC fun _ _ _ _ h => h)) rfl ?_
  refine st (OpT.not (H rfl) (T1 rfl)) rfl ?_
  refine st (mvT rfl) rfl ?_
  apply AWl.or (d := 40) (t := 36) rfl
  ·
   intro hb1 Q1 k1
   refine rs hb1 (mvT rfl) rfl ?_
   refine rs hb1 (mvT rfl) rfl ?_
   refine rs hb1 (OpT.neq (H rfl) (T1 rfl) (T1 rfl)) rfl ?_
   refine st (OpT.pickF (A := .cel _ _) (H rfl) (T1 rfl) hb1 (T1 rfl) rfl) rfl ?_
   exact AWl.to (junk 3 rfl) k1
  ·
   intro hb1 Q1 k1
   refine ps hb1 rfl ?_
   refine ps hb1 rfl ?_
   refine ps hb1 rfl ?_
   refine st (OpT.pickT (A := .cel _ _) (H rfl) (T1 rfl) hb1 Opd.bool rfl) rfl ?_
   exact k1
  refine ng ?_
  refine cd rfl (fun hc2 => ?_) fun hc2 => ?_
  ·
   replace hc2 := oT hc2
   exact (show False from (by first | omega | (simp [eqv_self] at hc2 <;> omega))).elim
  ·
   replace hc2 := oF hc2
   refine AW.skip ?_
   refine AX.pr (kc 8 rfl <| ko 7 rfl <| ko 6 rfl <| kc4 5 4 2 0 rfl <| Kn) ?_
   refine AX.go ?_
   refine AW.seq ?_
   refine sr ?_
   refine st (OpT.alias (H rfl) (by decide) (by decide)) rfl ?_
   refine st (mvT rfl) rfl ?_
   refine st (OpT.c1 (ms := [.flat]) (c_laws_toEditS x (by omega)) (H rfl) (Af (T1 rfl) rfl rfl <| An) rfl rfl) rfl ?_
   refine st (cb1 (ms := [.bor 6, .flat]) (c_laws_eqEditS _ _) (H rfl) (Ab (Root.ali rfl (by decide) (by decide)) rfl <| Af (T1 rfl) rfl rfl <| An) rfl (indC fun _ _ _ _ h => h)) rfl ?_
   refine st (OpT.not (H rfl) (T1 rfl)) rfl ?_
   refine ng ?_
   refine cd rfl (fun hc3 => ?_) fun hc3 => ?_
   ·
    replace hc3 := oT hc3
    exact (show False from (by first | omega | (simp [eqv_self] at hc3 <;> omega))).elim
   ·
    replace hc3 := oF hc3
    refine AW.skip ?_
    refine AX.go ?_
    refine sr ?_
    refine st (asI rfl) rfl ?_
    refine ng ?_
    refine sr ?_
    refine st (OpT.alias (H rfl) (by decide) (by decide)) rfl ?_
    refine st (mvT rfl) rfl ?_
    refine sg (OpT.cr (ms := [.root 6, .flat]) (c_laws_markEditS _ _ (by omega)) (H rfl) (Ar (Root.ali rfl (by decide) (by decide)) rfl rfl rfl <| Af (T1 rfl) rfl rfl <| An) rfl (.inl rfl) rfl) (kc2 48 47 rfl <| Kc 46 (.ali _) rfl <| kc4 9 45 44 43 rfl <| kc 42 rfl <| Kc 41 (.ali _) rfl <| kc 8 rfl <| ko 7 rfl <| ko 6 rfl <| kc4 5 4 2 0 rfl <| Kn) rfl ?_
    refine st (asT rfl) rfl ?_
    refine ng ?_
    refine AW.seq ?_
    refine sr ?_
    refine st (mvT rfl) rfl ?_
    refine st (OpT.lss (H rfl) (T1 rfl) (I rfl)) rfl ?_
    refine st (mvT rfl) rfl ?_
    apply AWl.or (d := 56) (t := 51) rfl
    ·
     intro hb2 Q1 k1
     refine rs hb2 (OpT.alias (H rfl) (by decide) (by decide)) rfl ?_
     refine rs hb2 (mvT rfl) rfl ?_
     refine rs hb2 (cb1 (ms := [.bor 7, .flat]) (c_laws_eqEditS _ _) (H rfl) (Ab (Root.ali rfl (by decide) (by decide)) rfl <| Af (T1 rfl) rfl rfl <| An) rfl (indC fun _ _ _ _ h => h)) rfl ?_
     refine rs hb2 (OpT.not (H rfl) (T1 rfl)) rfl ?_
     refine st (OpT.pickF (A := .cel _ _) (H rfl) (T1 rfl) hb2 (T1 rfl) rfl) rfl ?_
     exact AWl.to (junk 4 rfl) k1
    ·
     intro hb2 Q1 k1
     refine ps hb2 rfl ?_
     refine ps hb2 rfl ?_
     refine ps hb2 rfl ?_
     refine ps hb2 rfl ?_
     refine st (OpT.pickT (A := .cel _ _) (H rfl) (T1 rfl) hb2 Opd.bool rfl) rfl ?_
     exact k1
    refine st (mvT rfl) rfl ?_
    apply AWl.or (d := 61) (t := 57) rfl
    ·
     intro hb3 Q1 k1
     refine rs hb3 (mvT rfl) rfl ?_
     refine rs hb3 (mvT rfl) rfl ?_
     refine rs hb3 (OpT.neq (H rfl) (T1 rfl) (T1 rfl)) rfl ?_
     refine st (OpT.pickF (A := .cel _ _) (H rfl) (T1 rfl) hb3 (T1 rfl) rfl) rfl ?_
     exact AWl.to (junk 3 rfl) k1
    ·
     intro hb3 Q1 k1
     refine ps hb3 rfl ?_
     refine ps hb3 rfl ?_
     refine ps hb3 rfl ?_
     refine st (OpT.pickT (A := .cel _ _) (H rfl) (T1 rfl) hb3 Opd.bool rfl) rfl ?_
     exact k1
    refine AWl.to (kc 61 rfl <| ko 7 rfl <| kc4 5 4 2 0 rfl <| Kn) ?_
    refine ng ?_
    refine cd rfl (fun hc4 => ?_) fun hc4 => ?_
    ·
     replace hc4 := oT hc4
     exact (show False from (by first | omega | (simp [eqv_self] at hc4 <;> omega))).elim
    ·
     replace hc4 := oF hc4
     refine AW.skip ?_
     refine AX.go ?_
     refine sr ?_
     refine st (asI rfl) rfl ?_
     refine ng ?_
     refine sr ?_
     refine st (OpT.alias (H rfl) (by decide) (by decide)) rfl ?_
     refine st (mvT rfl) rfl ?_
     refine sg (OpT.cr (ms := [.root 7, .flat]) (c_laws_markEditS _ _ (by omega)) (H rfl) (Ar (Root.ali rfl (by decide) (by decide)) rfl rfl rfl <| Af (T1 rfl) rfl rfl <| An) rfl (.inl rfl) rfl) (kc2 64 63 rfl <| Kc 62 (.ali _) rfl <| kc2 10 61 rfl <| ko 7 rfl <| kc4 5 4 2 0 rfl <| Kn) rfl ?_
     refine st (asT rfl) rfl ?_
     refine ng ?_
     refine sr ?_
     refine st (asI rfl) rfl ?_
     refine ng ?_
     refine sr ?_
     refine st (OpT.alias (H rfl) (by decide) (by decide)) rfl ?_
     refine st (mvT rfl) rfl ?_
     refine st (cb1 (ms := [.bor 7, .flat]) (c_laws_heldEditS (undoS x).1.length _ (by omega)) (H rfl) (Ab (Root.ali rfl (by decide) (by decide)) rfl <| Af (T1 rfl) rfl rfl <| An) rfl (indC fun _ _ _ _ h => h)) rfl ?_
     refine st (asT rfl) rfl ?_
     refine ng ?_
     refine AW.seq ?_
     refine sr ?_
     refine st (mvT rfl) rfl ?_
     refine st (OpT.lss (H rfl) (T1 rfl) (I rfl)) rfl ?_
     refine ng ?_
     refine cd rfl (fun hc5 => ?_) fun hc5 => ?_
     ·
      replace hc5 := oT hc5
      exact (show False from (by first | omega | (simp [eqv_self] at hc5 <;> omega))).elim
     ·
      replace hc5 := oF hc5
      refine AW.skip ?_
      refine AX.pr (kc2 11 10 rfl <| ko 7 rfl <| kc4 5 4 2 0 rfl <| Kn) ?_
      refine AX.go ?_
      refine AW.seq ?_
      refine sr ?_
      refine st (mvT rfl) rfl ?_
      refine st (mvT rfl) rfl ?_
      refine st (OpT.neq (H rfl) (T1 rfl) (T1 rfl)) rfl ?_
      refine ng ?_
      refine cd rfl (fun hc6 => ?_) fun hc6 => ?_
      ·
       replace hc6 := oT hc6
       exact (show False from (by first | omega | (simp [eqv_self] at hc6 <;> omega))).elim
      ·
       replace hc6 := oF hc6
       refine AW.skip ?_
       refine AX.go ?_
       refine sr ?_
       refine st (mvT rfl) rfl ?_
       refine st (OpT.c1 (ms := [.flat]) (c_laws_toEditS x (by omega)) (H rfl) (Af (T1 rfl) rfl rfl <| An) rfl rfl) rfl ?_
       refine s2 (OpT.c2 (ms := [.flat]) (c_impl_UndoEdits_o _) (H rfl) (Af (T1 rfl) rfl rfl <| An) rfl rfl rfl) rfl ?_
       refine st (OpT.alias (H rfl) (by decide) (by decide)) rfl ?_
       refine sg (OpT.extractVO (m := 10076) (H rfl) rfl rfl rfl rfl rfl rfl) (ko 77 rfl <| Kc 73 (.ali _) rfl <| kc4 20076 75 74 72 rfl <| kc4 71 70 11 10 rfl <| ko 7 rfl <| kc4 5 4 2 0 rfl <| Kn) rfl ?_
       refine st (OpT.extractV (m := 20076) (H rfl) rfl rfl rfl rfl rfl rfl rfl) rfl ?_
       refine sg (OpT.take (.inl rfl) rfl (ok' rfl) (Root.self (by decide)) rfl rfl (by decide)) (ko 12 rfl <| kc 78 rfl <| Kc 73 (.ali _) rfl <| kc4 20076 75 74 72 rfl <| kc4 71 70 11 10 rfl <| ko 7 rfl <| kc4 5 4 2 0 rfl <| Kn) rfl ?_
       refine st (asT rfl) rfl ?_
       refine ng ?_
       refine AW.seq ?_
       refine sr ?_
       refine st (OpT.alias (H rfl) (by decide) (by decide)) rfl ?_
       refine st (mvT rfl) rfl ?_
       refine st (cb1 (ms := [.bor 12, .flat]) (c_laws_eqEditS _ _) (H rfl) (Ab (Root.ali rfl (by decide) (by decide)) rfl <| Af (T1 rfl) rfl rfl <| An) rfl (indC fun _ _ _ _ h => h)) rfl ?_
       refine st (OpT.not (H rfl) (T1 rfl)) rfl ?_
       refine st (mvT rfl) rfl ?_
       apply AWl.or (d := 87) (t := 83) rfl
       ·
        intro hb4 Q1 k1
        refine rs hb4 (mvT rfl) rfl ?_
        refine rs hb4 (mvT rfl) rfl ?_
        refine rs hb4 (OpT.neq (H rfl) (T1 rfl) (T1 rfl)) rfl ?_
        refine st (OpT.pickF (A := .cel _ _) (H rfl) (T1 rfl) hb4 (T1 rfl) rfl) rfl ?_
        exact AWl.to (junk 3 rfl) k1
       ·
        intro hb4 Q1 k1
        refine ps hb4 rfl ?_
        refine ps hb4 rfl ?_
        refine ps hb4 rfl ?_
        refine st (OpT.pickT (A := .cel _ _) (H rfl) (T1 rfl) hb4 Opd.bool rfl) rfl ?_
        exact k1
       refine AWl.to (kc3 87 11 10 rfl <| ko 7 rfl <| kc 2 rfl <| Kn) ?_
       refine ng ?_
       refine cd rfl (fun hc7 => ?_) fun hc7 => ?_
       ·
        replace hc7 := oT hc7
        exact (show False from (by first | omega | (simp [eqv_self] at hc7 <;> omega))).elim
       ·
        replace hc7 := oF hc7
        refine AW.skip ?_
        refine AX.go ?_
        refine sr ?_
        refine st (asI rfl) rfl ?_
        refine ng ?_
        refine sr ?_
        refine st (OpT.alias (H rfl) (by decide) (by decide)) rfl ?_
        refine st (mvT rfl) rfl ?_
        refine st (cb1 (ms := [.bor 7, .flat]) (c_laws_heldEditS (undoS x).1.length _ (by omega)) (H rfl) (Ab (Root.ali rfl (by decide) (by decide)) rfl <| Af (T1 rfl) rfl rfl <| An) rfl (indC fun _ _ _ _ h => h)) rfl ?_
        refine st (asT rfl) rfl ?_
        refine ng ?_
        refine AW.seq ?_
        refine sr ?_
        refine st (mvT rfl) rfl ?_
        refine st (OpT.lss (H rfl) (T1 rfl) (I rfl)) rfl ?_
        refine ng ?_
        refine cd rfl (fun hc8 => ?_) fun hc8 => ?_
        ·
         replace hc8 := oT hc8
         exact (show False from (by first | omega | (simp [eqv_self] at hc8 <;> omega))).elim
        ·
         replace hc8 := oF hc8
         refine AW.skip ?_
         refine AX.go ?_
         refine AW.seq ?_
         refine sr ?_
         refine st (mvT rfl) rfl ?_
         refine st (mvT rfl) rfl ?_
         refine st (OpT.neq (H rfl) (T1 rfl) (T1 rfl)) rfl ?_
         refine AWl.to (kc2 95 2 rfl <| Kn) ?_
         refine ng ?_
         refine cd rfl (fun hc9 => ?_) fun hc9 => ?_
         ·
          replace hc9 := oT hc9
          exact (show False from (by first | omega | (simp [eqv_self] at hc9 <;> omega))).elim
         ·
          replace hc9 := oF hc9
          refine AW.skip ?_
          refine AX.go ?_
          refine sr ?_
          refine st (asB rfl) rfl ?_
          refine ng ?_
          refine AW.ret ?_
          exact rt1 rfl (.inl rfl) rfl

end Go.Proofs.YtfnkphllkbkfaaaDoor.VL
