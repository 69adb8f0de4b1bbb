/- Proved here: what some functions of the program take and give: walks with the words of VA..VQ. Printed by program. -/
import Derived.Test.YtconciibbhpigaaDoorWT
import Derived.Test.YtconciibbhpigaaDoorPXG
import Derived.Test.YtconciibbhpigaaDoorWKT
import Derived.Test.YtconciibbhpigaaDoorWNM
import Derived.Test.YtconciibbhpigaaDoorWA
import Derived.Test.YtconciibbhpigaaDoorWLH
set_option linter.unusedVariables false
set_option linter.unusedSimpArgs false
set_option maxRecDepth 4000
namespace Go.Proofs.YtconciibbhpigaaDoor.VL
open Go
/-- impl.Entry] -/
theorem c_slices_IndexFunc_impl_Entry_impl_Entry {γ : Type} {g : FuncId} {kg : Kd γ} {y : γ} {cs : List As} (q : (ByteArray × Int × Int) → Bool) (hcs : CloArgs kg y cs) (hg : ∀ a, AC Tryd.prog g ([.agg kEnt a] ++ cs) [.cel Kd.bool (q a)] []) (x : List (ByteArray × Int × Int)) : AC Tryd.prog 43 [.cel (Kd.slice kEnt) x, .clo g kg y] [.cel (Kd.int .i64) (idxQ q x)] [] := by
 refine acI (N := 19) Tryd.func43 (Nat.le_of_ble_eq_true rfl) rfl fun w0 hd s0 ar => ?_
 refine AW.to (kc 0 rfl <| Kc 1 (.clo _ _ _) rfl <| Kn) ?_
 refine AW.fact (fun a w hr => (ok_slice (R_ok (t := 0) rfl hr)).2) (fun hl0 => ?_)
 refine sr ?_
 refine st (asI rfl) rfl ?_
 refine ng ?_
 refine AW.seq ?_
 refine sr ?_
 refine st (mvT rfl) rfl ?_
 refine st (OpT.len (H rfl) (T1 rfl) el24) rfl ?_
 refine st (mvI rfl) rfl ?_
 refine ng ?_
 refine AW.block ?_
 refine AW.loop (fun z : Nat => z ≤ x.length ∧ ∀ i, i < z → nI q x i) (fun z : Nat => keep [(0, .cel (Kd.slice kEnt) x), (1, .clo g kg y), (7, .cel (Kd.int .i64) ((x.length : Nat) : Int)), (8, .cel (Kd.int .i64) (z : Int))]) (fun z : Nat => x.length - z) (0) ⟨Nat.zero_le _, all_none⟩ (Kc 0 _ (Kv rfl rfl) <| Kc 1 _ (rfl) <| Kc 7 _ (Kv rfl rfl) <| Kc 8 _ (Kv rfl rfl) <| Kn) ?_
 intro z hI
 refine sr ?_
 refine st (OpT.lss (H rfl) (T1 rfl) (T1 rfl)) rfl ?_
 refine ng ?_
 refine AW.seq ?_
 refine cd rfl (fun hc1 => ?_) fun hc1 => ?_
 ·
  replace hc1 := oT hc1
  obtain ⟨a, ha⟩ := getI (x := x) (z := z) (by omega)
  refine AW.skip ?_
  refine AX.go ?_
  refine AW.seq ?_
  refine AW.block ?_
  refine sr ?_
  refine st (mvT rfl) rfl ?_
  refine st (asT rfl) rfl ?_
  refine ng ?_
  refine sr ?_
  refine st (OpT.move (A := .clo _ _ _) (.inl rfl) rfl (ok' rfl) (T1 rfl) rfl) rfl ?_
  refine st (mvT rfl) rfl ?_
  refine st (mvT rfl) rfl ?_
  refine st (OpT.indexAddr (H rfl) (T1 rfl) (T1 rfl) el24 sz38 (by omega) (by assumption)) rfl ?_
  refine st (OpT.loadA (H rfl) (T1 rfl) ag38 sz38) rfl ?_
  refine st (OpT.vg (ms := [.flat]) (T1 rfl) hcs ((hg _)) (H rfl) (Af (T1 rfl) rfl rfl <| An) rfl rfl) rfl ?_
  refine ng ?_
  refine cd rfl (fun hc2 => ?_) fun hc2 => ?_
  ·
   replace hc2 := oT hc2
   refine sr ?_
   refine st (mvT rfl) rfl ?_
   refine st (asT rfl) rfl ?_
   refine ng ?_
   refine AW.ret ?_
   refine rK <| rT <| rT <| rK <| rT ?_
   exact rt1 rfl (.inl rfl) (by first | exact idxQ_at hI.2 ha hc2 | exact idxQ_end hI.2 (by omega))
  ·
   replace hc2 := oF hc2
   refine AW.skip ?_
   refine AX.normal_block ?_
   refine AX.go ?_
   refine AW.region ?_
   refine st (OpT.add (H rfl) (T1 rfl) (I rfl) (nw (by omega))) rfl ?_
   refine st (mvT rfl) rfl ?_
   refine nn ?_
   exact AX.again (z + 1) ⟨by omega, all_step hI.2 ((nI_iff ha).2 (by simpa using hc2))⟩ (by omega) (Kc 0 _ (Kv rfl rfl) <| Kc 1 _ (rfl) <| Kc 7 _ (Kv rfl rfl) <| Kc 8 _ (Kv rfl (by omega)) <| Kn)
 ·
  replace hc1 := oF hc1
  refine AW.exit ?_
  refine xT <| xT <| AX.exit_hit ?_
  refine AX.go ?_
  refine sr ?_
  refine st (asI rfl) rfl ?_
  refine ng ?_
  refine AW.ret ?_
  exact rt1 rfl (.inl rfl) (by first | exact idxQ_at hI.2 ha hc2 | exact idxQ_end hI.2 (by omega))

/-- impl.Entry] -/
theorem c_slices_ContainsFunc_impl_Entry_impl_Entry {γ : Type} {g : FuncId} {kg : Kd γ} {y : γ} {cs : List As} (q : (ByteArray × Int × Int) → Bool) (hcs : CloArgs kg y cs) (hg : ∀ a, AC Tryd.prog g ([.agg kEnt a] ++ cs) [.cel Kd.bool (q a)] []) (x : List (ByteArray × Int × Int)) : AC Tryd.prog 51 [.cel (Kd.slice kEnt) x, .clo g kg y] [.cel Kd.bool (x.any q)] [] := by
 refine acI (N := 9) Tryd.func51 (Nat.le_of_ble_eq_true rfl) rfl fun w0 hd s0 ar => ?_
 refine AW.to (kc 0 rfl <| Kc 1 (.clo _ _ _) rfl <| Kn) ?_
 refine sr ?_
 refine st (asB rfl) rfl ?_
 refine ng ?_
 refine sr ?_
 refine st (mvT rfl) rfl ?_
 refine st (OpT.move (A := .clo _ _ _) (.inl rfl) rfl (ok' rfl) (T1 rfl) rfl) rfl ?_
 refine st (OpT.c1 (ms := [.flat, .flat]) (c_slices_IndexFunc_impl_Entry_impl_Entry q hcs hg x) (H rfl) (Af (T1 rfl) rfl rfl <| Af (T1 rfl) rfl rfl <| An) rfl rfl) rfl ?_
 refine st (OpT.geq (H rfl) (T1 rfl) (I rfl)) rfl ?_
 refine st (asT rfl) rfl ?_
 refine ng ?_
 refine AW.ret ?_
 exact rt1 rfl (.inl rfl) idxQ_any

/-- impl.Entry] -/
theorem c_slices_Equal_impl_Entry_impl_Entry (x y : List (ByteArray × Int × Int)) : AC Tryd.prog 40 [.cel (Kd.slice kEnt) x, .cel (Kd.slice kEnt) y] [.cel Kd.bool (eqv x y)] [] := by
 refine acI (N := 26) Tryd.func40 (Nat.le_of_ble_eq_true rfl) rfl fun w0 hd s0 ar => ?_
 refine AW.to (kc2 0 1 rfl <| Kn) ?_
 refine AW.fact (fun a w hr => (ok_slice (R_ok (t := 0) rfl hr)).2) (fun hl0 => ?_)
 refine AW.fact (fun a w hr => (ok_slice (R_ok (t := 1) rfl hr)).2) (fun hl1 => ?_)
 refine sr ?_
 refine st (asB rfl) rfl ?_
 refine ng ?_
 refine AW.seq ?_
 refine sr ?_
 refine st (mvT rfl) rfl ?_
 refine st (OpT.len (H rfl) (T1 rfl) el24) rfl ?_
 refine st (mvT rfl) rfl ?_
 refine st (OpT.len (H rfl) (T1 rfl) el24) rfl ?_
 refine st (OpT.neq (H rfl) (T1 rfl) (T1 rfl)) rfl ?_
 refine ng ?_
 refine cd rfl (fun hc1 => ?_) fun hc1 => ?_
 ·
  replace hc1 := oT hc1
  try simp only [bne_iff_ne, ne_eq, bne_eq_false_iff_eq] at hc1
  refine sr ?_
  refine st (asB rfl) rfl ?_
  refine ng ?_
  refine AW.ret ?_
  refine rT ?_
  exact rt1 rfl (.inl rfl) (by first | exact eqs_len (by omega) | exact eqs_ne ha hb (by simpa [eqv_iff, eqv_false_iff] using hc3) | exact eqs_all hI.2 (by omega) (by omega))
 ·
  replace hc1 := oF hc1
  try simp only [bne_iff_ne, ne_eq, bne_eq_false_iff_eq] at hc1
  refine AW.skip ?_
  refine AX.go ?_
  refine AW.seq ?_
  refine sr ?_
  refine st (mvT rfl) rfl ?_
  refine st (OpT.len (H rfl) (T1 rfl) el24) rfl ?_
  refine st (mvI rfl) rfl ?_
  refine ng ?_
  refine AW.block ?_
  refine AW.loop (fun z : Nat => z ≤ x.length ∧ x.take z = y.take z) (fun z : Nat => keep [(0, .cel (Kd.slice kEnt) x), (1, .cel (Kd.slice kEnt) y), (12, .cel (Kd.int .i64) ((x.length : Nat) : Int)), (13, .cel (Kd.int .i64) (z : Int))]) (fun z : Nat => x.length - z) (0) ⟨Nat.zero_le _, rfl⟩ (Kc 0 _ (Kv rfl rfl) <| Kc 1 _ (Kv rfl rfl) <| Kc 12 _ (Kv rfl rfl) <| Kc 13 _ (Kv rfl rfl) <| Kn) ?_
  intro z hI
  refine sr ?_
  refine st (OpT.lss (H rfl) (T1 rfl) (T1 rfl)) rfl ?_
  refine ng ?_
  refine AW.seq ?_
  refine cd rfl (fun hc2 => ?_) fun hc2 => ?_
  ·
   replace hc2 := oT hc2
   obtain ⟨a, ha⟩ := getI (x := x) (z := z) (by omega); obtain ⟨b, hb⟩ := getI (x := y) (z := z) (by omega)
   refine AW.skip ?_
   refine AX.go ?_
   refine AW.seq ?_
   refine AW.block ?_
   refine sr ?_
   refine st (mvT rfl) rfl ?_
   refine st (asT rfl) rfl ?_
   refine ng ?_
   refine AW.seq ?_
   refine dh fomo ?_
   refine d1 [0] (fun ve h => OpT.move (A := .cel _ _) (.inl rfl) rfl (ok' rfl) (D1 h rfl) rfl) rfl ?_
   refine d1 [5] (fun ve h => OpT.move (A := .cel _ _) (.inl rfl) rfl (ok' rfl) (D1 h rfl) rfl) rfl ?_
   refine d1 [16, 17] (fun ve h => OpT.indexAddr (H rfl) (D1 h rfl) (D1 h rfl) el24 sz38 (by omega) (by assumption)) rfl ?_
   refine d1 [18] (fun ve h => OpT.loadA (H rfl) (D1 h rfl) ag38 sz38) rfl ?_
   refine d1 [1] (fun ve h => OpT.move (A := .cel _ _) (.inl rfl) rfl (ok' rfl) (D1 h rfl) rfl) rfl ?_
   refine d1 [5] (fun ve h => OpT.move (A := .cel _ _) (.inl rfl) rfl (ok' rfl) (D1 h rfl) rfl) rfl ?_
   refine d1 [20, 21] (fun ve h => OpT.indexAddr (H rfl) (D1 h rfl) (D1 h rfl) el24 sz38 (by omega) (by assumption)) rfl ?_
   refine d1 [22] (fun ve h => OpT.loadA (H rfl) (D1 h rfl) ag38 sz38) rfl ?_
   refine d1 [19, 23] (fun ve h => OpT.neA (H rfl) (D1 h rfl) (D1 h rfl) eq38 ag38 rfl eg38) rfl ?_
   refine dn ⟨by kernel_rfl, by kernel_rfl, ?_⟩
   refine AX.go ?_
   refine cd rfl (fun hc3 => ?_) fun hc3 => ?_
   ·
    replace hc3 := oT hc3
    refine sr ?_
    refine st (asB rfl) rfl ?_
    refine ng ?_
    refine AW.ret ?_
    refine rK <| rT <| rT <| rK <| rT ?_
    exact rt1 rfl (.inl rfl) (by first | exact eqs_len (by omega) | exact eqs_ne ha hb (by simpa [eqv_iff, eqv_false_iff] using hc3) | exact eqs_all hI.2 (by omega) (by omega))
   ·
    replace hc3 := oF hc3
    refine AW.skip ?_
    refine AX.normal_block ?_
    refine AX.go ?_
    refine AW.region ?_
    refine st (OpT.add (H rfl) (T1 rfl) (I rfl) (nw (by omega))) rfl ?_
    refine st (mvT rfl) rfl ?_
    refine nn ?_
    exact AX.again (z + 1) ⟨by omega, eqs_step hI.2 ha hb (by simpa [eqv_iff, eqv_false_iff] using hc3)⟩ (by omega) (Kc 0 _ (Kv rfl rfl) <| Kc 1 _ (Kv rfl rfl) <| Kc 12 _ (Kv rfl rfl) <| Kc 13 _ (Kv rfl (by omega)) <| Kn)
  ·
   replace hc2 := oF hc2
   refine AW.exit ?_
   refine xT <| xT <| AX.exit_hit ?_
   refine AX.go ?_
   refine sr ?_
   refine st (asB rfl) rfl ?_
   refine ng ?_
   refine AW.ret ?_
   exact rt1 rfl (.inl rfl) (by first | exact eqs_len (by omega) | exact eqs_ne ha hb (by simpa [eqv_iff, eqv_false_iff] using hc3) | exact eqs_all hI.2 (by omega) (by omega))

/-- spec.SameCatalogue -/
theorem c_spec_SameCatalogue (x y : List (ByteArray × Int × Int)) : AC Tryd.prog 13 [.cel (Kd.slice kEnt) x, .cel (Kd.slice kEnt) y] [.cel Kd.bool (eqv x y)] [] := by
 refine acI (N := 26) Tryd.func13 (Nat.le_of_ble_eq_true rfl) rfl fun w0 hd s0 ar => ?_
 refine AW.to (kc2 0 1 rfl <| Kn) ?_
 refine AW.fact (fun a w hr => (ok_slice (R_ok (t := 0) rfl hr)).2) (fun hl0 => ?_)
 refine AW.fact (fun a w hr => (ok_slice (R_ok (t := 1) rfl hr)).2) (fun hl1 => ?_)
 refine sr ?_
 refine st (asB rfl) rfl ?_
 refine ng ?_
 refine AW.seq ?_
 refine sr ?_
 refine st (mvT rfl) rfl ?_
 refine st (OpT.len (H rfl) (T1 rfl) el24) rfl ?_
 refine st (mvT rfl) rfl ?_
 refine st (OpT.len (H rfl) (T1 rfl) el24) rfl ?_
 refine st (OpT.neq (H rfl) (T1 rfl) (T1 rfl)) rfl ?_
 refine ng ?_
 refine cd rfl (fun hc1 => ?_) fun hc1 => ?_
 ·
  replace hc1 := oT hc1
  try simp only [bne_iff_ne, ne_eq, bne_eq_false_iff_eq] at hc1
  refine sr ?_
  refine st (asB rfl) rfl ?_
  refine ng ?_
  refine AW.ret ?_
  refine rT ?_
  exact rt1 rfl (.inl rfl) (by first | exact eqs_len (by omega) | exact eqs_ne ha hb (by simpa [eqv_iff, eqv_false_iff] using hc3) | exact eqs_all hI.2 (by omega) (by omega))
 ·
  replace hc1 := oF hc1
  try simp only [bne_iff_ne, ne_eq, bne_eq_false_iff_eq] at hc1
  refine AW.skip ?_
  refine AX.go ?_
  refine AW.seq ?_
  refine sr ?_
  refine st (asI rfl) rfl ?_
  refine ng ?_
  refine AW.block ?_
  refine AW.loop (fun z : Nat => z ≤ x.length ∧ x.take z = y.take z) (fun z : Nat => keep [(0, .cel (Kd.slice kEnt) x), (1, .cel (Kd.slice kEnt) y), (5, .cel (Kd.int .i64) (z : Int))]) (fun z : Nat => x.length - z) (0) ⟨Nat.zero_le _, rfl⟩ (Kc 0 _ (Kv rfl rfl) <| Kc 1 _ (Kv rfl rfl) <| Kc 5 _ (Kv rfl rfl) <| Kn) ?_
  intro z hI
  refine AW.seq ?_
  refine sr ?_
  refine st (mvT rfl) rfl ?_
  refine st (mvT rfl) rfl ?_
  refine st (OpT.len (H rfl) (T1 rfl) el24) rfl ?_
  refine st (OpT.lss (H rfl) (T1 rfl) (T1 rfl)) rfl ?_
  refine ng ?_
  refine cd rfl (fun hc2 => ?_) fun hc2 => ?_
  ·
   replace hc2 := oT hc2
   obtain ⟨a, ha⟩ := getI (x := x) (z := z) (by omega); obtain ⟨b, hb⟩ := getI (x := y) (z := z) (by omega)
   refine AW.skip ?_
   refine AX.go ?_
   refine AW.seq ?_
   refine AW.block ?_
   refine AW.seq ?_
   refine dh fomo ?_
   refine d1 [0] (fun ve h => OpT.move (A := .cel _ _) (.inl rfl) rfl (ok' rfl) (D1 h rfl) rfl) rfl ?_
   refine d1 [5] (fun ve h => OpT.move (A := .cel _ _) (.inl rfl) rfl (ok' rfl) (D1 h rfl) rfl) rfl ?_
   refine d1 [17, 18] (fun ve h => OpT.indexAddr (H rfl) (D1 h rfl) (D1 h rfl) el24 sz38 (by omega) (by assumption)) rfl ?_
   refine d1 [19] (fun ve h => OpT.loadA (H rfl) (D1 h rfl) ag38 sz38) rfl ?_
   refine d1 [1] (fun ve h => OpT.move (A := .cel _ _) (.inl rfl) rfl (ok' rfl) (D1 h rfl) rfl) rfl ?_
   refine d1 [5] (fun ve h => OpT.move (A := .cel _ _) (.inl rfl) rfl (ok' rfl) (D1 h rfl) rfl) rfl ?_
   refine d1 [21, 22] (fun ve h => OpT.indexAddr (H rfl) (D1 h rfl) (D1 h rfl) el24 sz38 (by omega) (by assumption)) rfl ?_
   refine d1 [23] (fun ve h => OpT.loadA (H rfl) (D1 h rfl) ag38 sz38) rfl ?_
   refine d1 [20, 24] (fun ve h => OpT.neA (H rfl) (D1 h rfl) (D1 h rfl) eq38 ag38 rfl eg38) rfl ?_
   refine dn ⟨by kernel_rfl, by kernel_rfl, ?_⟩
   refine AX.go ?_
   refine cd rfl (fun hc3 => ?_) fun hc3 => ?_
   ·
    replace hc3 := oT hc3
    refine sr ?_
    refine st (asB rfl) rfl ?_
    refine ng ?_
    refine AW.ret ?_
    refine rK <| rT <| rT <| rK <| rT ?_
    exact rt1 rfl (.inl rfl) (by first | exact eqs_len (by omega) | exact eqs_ne ha hb (by simpa [eqv_iff, eqv_false_iff] using hc3) | exact eqs_all hI.2 (by omega) (by omega))
   ·
    replace hc3 := oF hc3
    refine AW.skip ?_
    refine AX.normal_block ?_
    refine AX.go ?_
    refine AW.region ?_
    refine st (mvT rfl) rfl ?_
    refine st (OpT.add (H rfl) (T1 rfl) (I rfl) (nw (by omega))) rfl ?_
    refine st (asT rfl) rfl ?_
    refine nn ?_
    exact AX.again (z + 1) ⟨by omega, eqs_step hI.2 ha hb (by simpa [eqv_iff, eqv_false_iff] using hc3)⟩ (by omega) (Kc 0 _ (Kv rfl rfl) <| Kc 1 _ (Kv rfl rfl) <| Kc 5 _ (Kv rfl (by omega)) <| Kn)
  ·
   replace hc2 := oF hc2
   refine AW.exit ?_
   refine xT <| xT <| AX.exit_hit ?_
   refine AX.go ?_
   refine sr ?_
   refine st (asB rfl) rfl ?_
   refine ng ?_
   refine AW.ret ?_
   exact rt1 rfl (.inl rfl) (by first | exact eqs_len (by omega) | exact eqs_ne ha hb (by simpa [eqv_iff, eqv_false_iff] using hc3) | exact eqs_all hI.2 (by omega) (by omega))

/-- impl.SameCatalogue -/
theorem c_impl_SameCatalogue (x y : List DEnt) : AC Tryd.prog 12 [.cel (Kd.slice kEnt) x, .cel (Kd.slice kEnt) y] [.cel Kd.bool (eqv x y)] [] := by
 refine acI (N := 8) Tryd.func12 (Nat.le_of_ble_eq_true rfl) rfl fun w0 hd s0 ar => ?_
 refine AW.to (kc2 0 1 rfl <| Kn) ?_
 refine sr ?_
 refine st (asB rfl) rfl ?_
 refine ng ?_
 refine sr ?_
 refine st (mvT rfl) rfl ?_
 refine st (mvT rfl) rfl ?_
 refine st (OpT.c1 (ms := [.flat, .flat]) (c_slices_Equal_impl_Entry_impl_Entry x y) (H rfl) (Af (T1 rfl) rfl rfl <| Af (T1 rfl) rfl rfl <| An) rfl rfl) rfl ?_
 refine st (asT rfl) rfl ?_
 refine ng ?_
 refine AW.ret ?_
 exact rt1 rfl (.inl rfl) rfl

/-- slices.Contains[[]int64,int64] -/
theorem c_slices_Contains_int64_int64 (x : List Int) (v : Int) : AC Tryd.prog 35 [.cel (Kd.slice (Kd.int .i64)) x, .cel (Kd.int .i64) v] [.cel Kd.bool (hasV v x)] [] := by
 refine acI (N := 9) Tryd.func35 (Nat.le_of_ble_eq_true rfl) rfl fun w0 hd s0 ar => ?_
 refine AW.to (kc2 0 1 rfl <| Kn) ?_
 refine sr ?_
 refine st (asB rfl) rfl ?_
 refine ng ?_
 refine sr ?_
 refine st (mvT rfl) rfl ?_
 refine st (mvT rfl) rfl ?_
 refine st (OpT.c1 (ms := [.flat, .flat]) (c_slices_Index_int64_int64 _ _) (H rfl) (Af (T1 rfl) rfl rfl <| Af (T1 rfl) rfl rfl <| An) rfl rfl) rfl ?_
 refine st (OpT.geq (H rfl) (T1 rfl) (I rfl)) rfl ?_
 refine st (asT rfl) rfl ?_
 refine ng ?_
 refine AW.ret ?_
 exact rt1 rfl (.inl rfl) (idxV_has v x)

/-- impl.isCatalogue$1 -/
theorem c_impl_isCatalogue_1 (y x : DEnt) : AC Tryd.prog 52 [.agg kEnt y, .cel (Kd.ptr kEnt) x] [.cel Kd.bool (eqv y.1 x.1)] [] := by
 refine acI (N := 9) Tryd.func52 (Nat.le_of_ble_eq_true rfl) rfl fun w0 hd s0 ar => ?_
 refine AW.to (ka 0 rfl <| kc 1 rfl <| Kn) ?_
 refine sr ?_
 refine st (OpT.frz (OpT.boxA (E := 38) (H rfl) (T1 rfl))) rfl ?_
 refine st (asB rfl) rfl ?_
 refine ng ?_
 refine sr ?_
 refine st (OpT.fieldAddr (H rfl) (T1 rfl) fd38_0 sz9 (by decide) sb38_0) rfl ?_
 refine st (OpT.load (H rfl) (T1 rfl) ag9 rfl) rfl ?_
 refine st (OpT.fieldAddr (H rfl) (T1 rfl) fd38_0 sz9 (by decide) sb38_0) rfl ?_
 refine st (OpT.load (H rfl) (T1 rfl) ag9 rfl) rfl ?_
 refine st (OpT.seqv (H rfl) (T1 rfl) (T1 rfl)) rfl ?_
 refine st (asT rfl) rfl ?_
 refine ng ?_
 refine AW.ret ?_
 exact rt1 rfl (.inl rfl) rfl

/-- impl.FindEntry$1 -/
theorem c_impl_FindEntry_1 (y : DEnt) (s : ByteArray) : AC Tryd.prog 44 [.agg kEnt y, .cel (Kd.ptr Kd.str) s] [.cel Kd.bool (eqv y.1 s)] [] := by
 refine acI (N := 8) Tryd.func44 (Nat.le_of_ble_eq_true rfl) rfl fun w0 hd s0 ar => ?_
 refine AW.to (ka 0 rfl <| kc 1 rfl <| Kn) ?_
 refine sr ?_
 refine st (OpT.frz (OpT.boxA (E := 38) (H rfl) (T1 rfl))) rfl ?_
 refine st (asB rfl) rfl ?_
 refine ng ?_
 refine sr ?_
 refine st (OpT.fieldAddr (H rfl) (T1 rfl) fd38_0 sz9 (by decide) sb38_0) rfl ?_
 refine st (OpT.load (H rfl) (T1 rfl) ag9 rfl) rfl ?_
 refine st (OpT.load (H rfl) (T1 rfl) ag9 rfl) rfl ?_
 refine st (OpT.seqv (H rfl) (T1 rfl) (T1 rfl)) rfl ?_
 refine st (asT rfl) rfl ?_
 refine ng ?_
 refine AW.ret ?_
 exact rt1 rfl (.inl rfl) rfl

/-- impl.preferred -/
theorem c_impl_preferred (list : List DEnt) (i : Int) (hi : 0 ≤ i ∧ i < list.length) : AC Tryd.prog 33 [.cel (Kd.slice kEnt) list, .cel (Kd.int .i64) i] [.cel (Kd.int .i64) (preI list i)] [] := by
 refine acI (N := 17) Tryd.func33 (Nat.le_of_ble_eq_true rfl) rfl fun w0 hd s0 ar => ?_
 refine AW.to (kc2 0 1 rfl <| Kn) ?_
 refine sr ?_
 refine st (asI rfl) rfl ?_
 refine ng ?_
 refine AW.seq ?_
 refine sr ?_
 refine st (mvT rfl) rfl ?_
 refine st (mvT rfl) rfl ?_
 refine st (OpT.indexAddr (H rfl) (T1 rfl) (T1 rfl) el24 sz38 (by omega) (eAt_get hi)) rfl ?_
 refine st (OpT.fieldAddr (H rfl) (T1 rfl) fd38_1 sz2 (by decide) sb38_1) rfl ?_
 refine st (OpT.load (H rfl) (T1 rfl) ag2 rfl) rfl ?_
 refine st (OpT.neq (H rfl) (T1 rfl) (I rfl)) rfl ?_
 refine ng ?_
 refine cd rfl (fun hc1 => ?_) fun hc1 => ?_
 ·
  obtain ⟨hc1, hc1'⟩ := pT hc1
  refine sr ?_
  refine st (mvT rfl) rfl ?_
  refine st (mvT rfl) rfl ?_
  refine st (OpT.indexAddr (H rfl) (T1 rfl) (T1 rfl) el24 sz38 (by omega) (eAt_get hi)) rfl ?_
  refine st (OpT.fieldAddr (H rfl) (T1 rfl) fd38_1 sz2 (by decide) sb38_1) rfl ?_
  refine st (OpT.load (H rfl) (T1 rfl) ag2 rfl) rfl ?_
  refine st (asT rfl) rfl ?_
  refine AWl.to (kc2 4 1 rfl <| Kn) ?_
  refine ng ?_
  refine AW.ret ?_
  refine rT ?_
  exact rt1 rfl (.inl rfl) (by first | exact (pre_see (by omega)).symm | exact (pre_own (by omega)).symm)
 ·
  obtain ⟨hc1, hc1'⟩ := pF hc1
  refine AW.skip ?_
  refine AX.go ?_
  refine sr ?_
  refine st (mvT rfl) rfl ?_
  refine st (asT rfl) rfl ?_
  refine ng ?_
  refine AW.ret ?_
  exact rt1 rfl (.inl rfl) (by first | exact (pre_see (by omega)).symm | exact (pre_own (by omega)).symm)

/-- spec.l05First -/
theorem c_spec_l05First (list : List DEnt) (i : Int) (hi : 0 ≤ i ∧ i < list.length) : AC Tryd.prog 37 [.cel (Kd.slice kEnt) list, .cel (Kd.int .i64) i] [.cel (Kd.int .i64) (preI list i)] [] := by
 refine acI (N := 17) Tryd.func37 (Nat.le_of_ble_eq_true rfl) rfl fun w0 hd s0 ar => ?_
 refine AW.to (kc2 0 1 rfl <| Kn) ?_
 refine sr ?_
 refine st (asI rfl) rfl ?_
 refine ng ?_
 refine AW.seq ?_
 refine sr ?_
 refine st (mvT rfl) rfl ?_
 refine st (mvT rfl) rfl ?_
 refine st (OpT.indexAddr (H rfl) (T1 rfl) (T1 rfl) el24 sz38 (by omega) (eAt_get hi)) rfl ?_
 refine st (OpT.fieldAddr (H rfl) (T1 rfl) fd38_1 sz2 (by decide) sb38_1) rfl ?_
 refine st (OpT.load (H rfl) (T1 rfl) ag2 rfl) rfl ?_
 refine st (OpT.neq (H rfl) (T1 rfl) (I rfl)) rfl ?_
 refine ng ?_
 refine cd rfl (fun hc1 => ?_) fun hc1 => ?_
 ·
  obtain ⟨hc1, hc1'⟩ := pT hc1
  refine sr ?_
  refine st (mvT rfl) rfl ?_
  refine st (mvT rfl) rfl ?_
  refine st (OpT.indexAddr (H rfl) (T1 rfl) (T1 rfl) el24 sz38 (by omega) (eAt_get hi)) rfl ?_
  refine st (OpT.fieldAddr (H rfl) (T1 rfl) fd38_1 sz2 (by decide) sb38_1) rfl ?_
  refine st (OpT.load (H rfl) (T1 rfl) ag2 rfl) rfl ?_
  refine st (asT rfl) rfl ?_
  refine AWl.to (kc2 4 1 rfl <| Kn) ?_
  refine ng ?_
  refine AW.ret ?_
  refine rT ?_
  exact rt1 rfl (.inl rfl) (by first | exact (pre_see (by omega)).symm | exact (pre_own (by omega)).symm)
 ·
  obtain ⟨hc1, hc1'⟩ := pF hc1
  refine AW.skip ?_
  refine AX.go ?_
  refine sr ?_
  refine st (mvT rfl) rfl ?_
  refine st (asT rfl) rfl ?_
  refine ng ?_
  refine AW.ret ?_
  exact rt1 rfl (.inl rfl) (by first | exact (pre_see (by omega)).symm | exact (pre_own (by omega)).symm)

/-- impl.pathUp -/
theorem c_impl_pathUp_o (list : List DEnt) (i : Int) (hC : catI list ∧ 0 ≤ i ∧ i < list.length) : AC Tryd.prog 42 [.cel (Kd.slice kEnt) list, .cel (Kd.int .i64) i] [.own 2 (Kd.int .i64) (pthE list i)] [] := by
 refine acI (N := 23) Tryd.func42 (Nat.le_of_ble_eq_true rfl) rfl fun w0 hd s0 ar => ?_
 refine AW.to (kc2 0 1 rfl <| Kn) ?_
 have hpi := pre_in hC.1 hC.2
 have hnl := hC.1.len
 refine sr ?_
 refine st (nilO (E := 2) (Kd.int .i64) rfl (.inl rfl)) rfl ?_
 refine ng ?_
 refine sr ?_
 refine st (OpT.buildSlice0 (m := 0) (z := .bool false) (Kd.int .i64) (H rfl) el32 sz2 (by decide)) rfl ?_
 refine sg (OpT.take (.inl rfl) rfl (ok' rfl) (Root.self (by decide)) rfl rfl (by decide)) (ko 5 rfl <| ko 4 rfl <| kc2 0 1 rfl <| Kn) rfl ?_
 refine ng ?_
 refine AW.seq ?_
 refine sr ?_
 refine st (mvT rfl) rfl ?_
 refine st (mvT rfl) rfl ?_
 refine st (OpT.c1 (ms := [.flat, .flat]) (c_impl_preferred list i hC.2) (H rfl) (Af (T1 rfl) rfl rfl <| Af (T1 rfl) rfl rfl <| An) rfl rfl) rfl ?_
 refine st (asT rfl) rfl ?_
 refine ng ?_
 refine AW.block ?_
 refine AW.loop (fun p : Int × List Int => p.2 ++ pthI list p.1 = pthE list i ∧ -1 ≤ p.1 ∧ p.1 < list.length) (fun p : Int × List Int => keep [(0, .cel (Kd.slice kEnt) list), (5, .own 2 (Kd.int .i64) p.2), (6, .cel (Kd.int .i64) p.1)]) (fun p : Int × List Int => (p.1 + 1).toNat) ((preI list i, [])) ⟨rfl, by simp only []; omega, by simp only []; omega⟩ (Kc 0 _ (Kv rfl rfl) <| Kc 5 _ (Ko rfl rfl) <| Kc 6 _ (Kv rfl rfl) <| Kn) ?_
 intro p hI
 refine AW.seq ?_
 refine sr ?_
 refine st (mvT rfl) rfl ?_
 refine st (OpT.neq (H rfl) (T1 rfl) (I rfl)) rfl ?_
 refine ng ?_
 refine cd rfl (fun hc1 => ?_) fun hc1 => ?_
 ·
  obtain ⟨hc1, hc1'⟩ := pT hc1
  have hp1 : 0 ≤ p.1 ∧ p.1 < list.length := by omega
  have hst := pth_step hC.1 hp1
  have hbr := hC.1.bI hp1
  refine AW.skip ?_
  refine AX.go ?_
  refine AW.seq ?_
  refine AW.block ?_
  refine AW.region ?_
  refine st (OpT.alias (H rfl) (by decide) (by decide)) rfl ?_
  refine st (mvT rfl) rfl ?_
  refine st (OpT.buildSlice (H rfl) el32 zr2 sz2 rfl (by decide) zk2 (by decide) (Built.cel (T1 rfl) rfl rfl (sub_arr (by decide) (0 : Int)) (Built.nil _))) rfl ?_
  refine sg (OpT.append (H rfl) (Root.ali rfl (by decide) (by decide)) rfl (Src.own (Root.self (t := 20) (by decide)) rfl) (by decide) el32 zr2 rfl sz2 by2 (by decide) (by have h70 := (pthE_len hC.1 hC.2).2; rw [← hI.1, List.length_append] at h70; simp only [List.length_cons, List.length_nil, List.length_set, List.length_replicate]; omega)) (ko 21 rfl <| ko 20 rfl <| kc4 19 12 11 0 rfl <| kc 6 rfl <| Kn) rfl ?_
  refine sg (OpT.take (.inl rfl) rfl (ok' rfl) (Root.self (by decide)) rfl rfl (by decide)) (ko 5 rfl <| ko 20 rfl <| kc4 19 12 11 0 rfl <| kc 6 rfl <| Kn) rfl ?_
  refine nn ?_
  refine AX.normal_block ?_
  refine AX.go ?_
  refine AW.region ?_
  refine st (mvT rfl) rfl ?_
  refine st (mvT rfl) rfl ?_
  refine st (OpT.indexAddr (H rfl) (T1 rfl) (T1 rfl) el24 sz38 (by omega) (eAt_get hp1)) rfl ?_
  refine st (OpT.fieldAddr (H rfl) (T1 rfl) fd38_2 sz2 (by decide) sb38_2) rfl ?_
  refine st (OpT.load (H rfl) (T1 rfl) ag2 rfl) rfl ?_
  refine st (asT rfl) rfl ?_
  refine nn ?_
  exact AX.again (((eAt list p.1).2.2, p.2 ++ [p.1])) ⟨by simp only []; rw [← hI.1, hst]; simp, by simp only []; omega, by simp only []; omega⟩ (by simp only []; omega) (Kc 0 _ (Kv rfl rfl) <| Kc 5 _ (Ko rfl rfl) <| Kc 6 _ (Kv rfl rfl) <| Kn)
 ·
  obtain ⟨hc1, hc1'⟩ := pF hc1
  refine AW.exit ?_
  refine xT <| xT <| AX.exit_hit ?_
  refine AX.go ?_
  refine sr ?_
  refine st (OpT.alias (H rfl) (by decide) (by decide)) rfl ?_
  refine sg (OpT.take (.inl rfl) rfl (ok' rfl) (Root.ali rfl (by decide) (by decide)) rfl rfl (by decide)) (ko 4 rfl <| kc4 12 11 0 6 rfl <| Kn) rfl ?_
  refine ng ?_
  refine AW.ret ?_
  exact AX.rt (rs := [.tmp 4]) (ts := [some 4]) (.inl rfl) rfl (ROs.cons (RO.tmp (At.self (by decide)) (Ko rfl (by have h71 := hI.1; rw [show p.1 = -1 by omega, pth_none, List.append_nil] at h71; exact h71)) rfl) <| ROs.nil) (by decide) OutsOK.nil
theorem c_impl_pathUp (list : List DEnt) (i : Int) (hC : catI list ∧ 0 ≤ i ∧ i < list.length) : AC Tryd.prog 42 [.cel (Kd.slice kEnt) list, .cel (Kd.int .i64) i] [.cel (Kd.slice (Kd.int .i64)) (pthE list i)] [] := (c_impl_pathUp_o list i hC).frz rfl

/-- spec.l05Path -/
theorem c_spec_l05Path_o (list : List DEnt) (i : Int) (hC : catI list ∧ 0 ≤ i ∧ i < list.length) : AC Tryd.prog 39 [.cel (Kd.slice kEnt) list, .cel (Kd.int .i64) i] [.own 2 (Kd.int .i64) (pthE list i)] [] := by
 refine acI (N := 23) Tryd.func39 (Nat.le_of_ble_eq_true rfl) rfl fun w0 hd s0 ar => ?_
 refine AW.to (kc2 0 1 rfl <| Kn) ?_
 have hpi := pre_in hC.1 hC.2
 have hnl := hC.1.len
 refine sr ?_
 refine st (nilO (E := 2) (Kd.int .i64) rfl (.inl rfl)) rfl ?_
 refine ng ?_
 refine sr ?_
 refine st (OpT.buildSlice0 (m := 0) (z := .bool false) (Kd.int .i64) (H rfl) el32 sz2 (by decide)) rfl ?_
 refine sg (OpT.take (.inl rfl) rfl (ok' rfl) (Root.self (by decide)) rfl rfl (by decide)) (ko 5 rfl <| ko 4 rfl <| kc2 0 1 rfl <| Kn) rfl ?_
 refine ng ?_
 refine AW.seq ?_
 refine sr ?_
 refine st (mvT rfl) rfl ?_
 refine st (mvT rfl) rfl ?_
 refine st (OpT.c1 (ms := [.flat, .flat]) (c_spec_l05First list i hC.2) (H rfl) (Af (T1 rfl) rfl rfl <| Af (T1 rfl) rfl rfl <| An) rfl rfl) rfl ?_
 refine st (asT rfl) rfl ?_
 refine ng ?_
 refine AW.block ?_
 refine AW.loop (fun p : Int × List Int => p.2 ++ pthI list p.1 = pthE list i ∧ -1 ≤ p.1 ∧ p.1 < list.length) (fun p : Int × List Int => keep [(0, .cel (Kd.slice kEnt) list), (5, .own 2 (Kd.int .i64) p.2), (6, .cel (Kd.int .i64) p.1)]) (fun p : Int × List Int => (p.1 + 1).toNat) ((preI list i, [])) ⟨rfl, by simp only []; omega, by simp only []; omega⟩ (Kc 0 _ (Kv rfl rfl) <| Kc 5 _ (Ko rfl rfl) <| Kc 6 _ (Kv rfl rfl) <| Kn) ?_
 intro p hI
 refine AW.seq ?_
 refine sr ?_
 refine st (mvT rfl) rfl ?_
 refine st (OpT.neq (H rfl) (T1 rfl) (I rfl)) rfl ?_
 refine ng ?_
 refine cd rfl (fun hc1 => ?_) fun hc1 => ?_
 ·
  obtain ⟨hc1, hc1'⟩ := pT hc1
  have hp1 : 0 ≤ p.1 ∧ p.1 < list.length := by omega
  have hst := pth_step hC.1 hp1
  have hbr := hC.1.bI hp1
  refine AW.skip ?_
  refine AX.go ?_
  refine AW.seq ?_
  refine AW.block ?_
  refine AW.region ?_
  refine st (OpT.alias (H rfl) (by decide) (by decide)) rfl ?_
  refine st (mvT rfl) rfl ?_
  refine st (OpT.buildSlice (H rfl) el32 zr2 sz2 rfl (by decide) zk2 (by decide) (Built.cel (T1 rfl) rfl rfl (sub_arr (by decide) (0 : Int)) (Built.nil _))) rfl ?_
  refine sg (OpT.append (H rfl) (Root.ali rfl (by decide) (by decide)) rfl (Src.own (Root.self (t := 20) (by decide)) rfl) (by decide) el32 zr2 rfl sz2 by2 (by decide) (by have h70 := (pthE_len hC.1 hC.2).2; rw [← hI.1, List.length_append] at h70; simp only [List.length_cons, List.length_nil, List.length_set, List.length_replicate]; omega)) (ko 21 rfl <| ko 20 rfl <| kc4 19 12 11 0 rfl <| kc 6 rfl <| Kn) rfl ?_
  refine sg (OpT.take (.inl rfl) rfl (ok' rfl) (Root.self (by decide)) rfl rfl (by decide)) (ko 5 rfl <| ko 20 rfl <| kc4 19 12 11 0 rfl <| kc 6 rfl <| Kn) rfl ?_
  refine nn ?_
  refine AX.normal_block ?_
  refine AX.go ?_
  refine AW.region ?_
  refine st (mvT rfl) rfl ?_
  refine st (mvT rfl) rfl ?_
  refine st (OpT.indexAddr (H rfl) (T1 rfl) (T1 rfl) el24 sz38 (by omega) (eAt_get hp1)) rfl ?_
  refine st (OpT.fieldAddr (H rfl) (T1 rfl) fd38_2 sz2 (by decide) sb38_2) rfl ?_
  refine st (OpT.load (H rfl) (T1 rfl) ag2 rfl) rfl ?_
  refine st (asT rfl) rfl ?_
  refine nn ?_
  exact AX.again (((eAt list p.1).2.2, p.2 ++ [p.1])) ⟨by simp only []; rw [← hI.1, hst]; simp, by simp only []; omega, by simp only []; omega⟩ (by simp only []; omega) (Kc 0 _ (Kv rfl rfl) <| Kc 5 _ (Ko rfl rfl) <| Kc 6 _ (Kv rfl rfl) <| Kn)
 ·
  obtain ⟨hc1, hc1'⟩ := pF hc1
  refine AW.exit ?_
  refine xT <| xT <| AX.exit_hit ?_
  refine AX.go ?_
  refine sr ?_
  refine st (OpT.alias (H rfl) (by decide) (by decide)) rfl ?_
  refine sg (OpT.take (.inl rfl) rfl (ok' rfl) (Root.ali rfl (by decide) (by decide)) rfl rfl (by decide)) (ko 4 rfl <| kc4 12 11 0 6 rfl <| Kn) rfl ?_
  refine ng ?_
  refine AW.ret ?_
  exact AX.rt (rs := [.tmp 4]) (ts := [some 4]) (.inl rfl) rfl (ROs.cons (RO.tmp (At.self (by decide)) (Ko rfl (by have h71 := hI.1; rw [show p.1 = -1 by omega, pth_none, List.append_nil] at h71; exact h71)) rfl) <| ROs.nil) (by decide) OutsOK.nil
theorem c_spec_l05Path (list : List DEnt) (i : Int) (hC : catI list ∧ 0 ≤ i ∧ i < list.length) : AC Tryd.prog 39 [.cel (Kd.slice kEnt) list, .cel (Kd.int .i64) i] [.cel (Kd.slice (Kd.int .i64)) (pthE list i)] [] := (c_spec_l05Path_o list i hC).frz rfl

/-- impl.narrower -/
theorem c_impl_narrower_o (list : List DEnt) (i : Int) (hC : catI list ∧ 0 ≤ i ∧ i < list.length) : AC Tryd.prog 34 [.cel (Kd.slice kEnt) list, .cel (Kd.int .i64) i] [.own 2 (Kd.int .i64) (narP list i)] [] := by
 refine acI (N := 35) Tryd.func34 (Nat.le_of_ble_eq_true rfl) rfl fun w0 hd s0 ar => ?_
 refine AW.to (kc2 0 1 rfl <| Kn) ?_
 have hnl := hC.1.len
 refine sr ?_
 refine st (nilO (E := 2) (Kd.int .i64) rfl (.inl rfl)) rfl ?_
 refine ng ?_
 refine sr ?_
 refine st (OpT.buildSlice0 (m := 0) (z := .bool false) (Kd.int .i64) (H rfl) el32 sz2 (by decide)) rfl ?_
 refine sg (OpT.take (.inl rfl) rfl (ok' rfl) (Root.self (by decide)) rfl rfl (by decide)) (ko 5 rfl <| ko 4 rfl <| kc2 0 1 rfl <| Kn) rfl ?_
 refine ng ?_
 refine AW.seq ?_
 refine sr ?_
 refine st (mvT rfl) rfl ?_
 refine st (OpT.len (H rfl) (T1 rfl) el24) rfl ?_
 refine st (mvI rfl) rfl ?_
 refine ng ?_
 refine AW.block ?_
 refine AW.loop (fun z : Nat => z ≤ list.length) (fun z : Nat => keep [(0, .cel (Kd.slice kEnt) list), (1, .cel (Kd.int .i64) i), (5, .own 2 (Kd.int .i64) (selI z (narQ list i))), (9, .cel (Kd.slice kEnt) list), (10, .cel (Kd.int .i64) (list.length : Int)), (11, .cel (Kd.int .i64) (z : Int))]) (fun z : Nat => list.length - z) (0) (Nat.zero_le _) (Kc 0 _ (Kv rfl rfl) <| Kc 1 _ (Kv rfl rfl) <| Kc 5 _ (Ko rfl rfl) <| Kc 9 _ (Kv rfl rfl) <| Kc 10 _ (Kv rfl rfl) <| Kc 11 _ (Kv rfl rfl) <| Kn) ?_
 intro z hI
 refine sr ?_
 refine st (OpT.lss (H rfl) (T1 rfl) (T1 rfl)) rfl ?_
 refine ng ?_
 refine AW.seq ?_
 refine cd rfl (fun hc1 => ?_) fun hc1 => ?_
 ·
  obtain ⟨hc1, hc1'⟩ := pT hc1
  have hzl : z < list.length := by omega
  have hpl := pthE_len hC.1 (i := (z : Int)) (by omega)
  refine AW.skip ?_
  refine AX.go ?_
  refine AW.seq ?_
  refine AW.block ?_
  refine sr ?_
  refine st (mvT rfl) rfl ?_
  refine st (OpT.indexAddr (H rfl) (T1 rfl) (T1 rfl) el24 sz38 (by omega) (eAt_get (i := (z : Int)) (by omega))) rfl ?_
  refine st (OpT.loadA (H rfl) (T1 rfl) ag38 sz38) rfl ?_
  refine st (OpT.alloc (H rfl) zr38 zk38) rfl ?_
  refine st (asT rfl) rfl ?_
  refine sk (OpT.storeBA rfl rfl (Opd.whole (Root.self (t := 7) (by decide)) rfl) rfl sz38 (by decide) (T1 rfl)) rfl ?_
  refine AWl.to (kb 7 rfl <| kc 6 rfl <| ka 15 rfl <| kc4 14 13 12 0 rfl <| kc 1 rfl <| ko 5 rfl <| kc3 9 10 11 rfl <| Kn) ?_
  refine ng ?_
  refine AW.seq ?_
  rcases Bool.eq_false_or_eq_true ((eAt list (z : Int)).2.1 == (-1 : Int)) with hd1 | hd1
  ·
   have hd1' := lT hd1
   refine dhm [0, 1, 3, 7, 15, 15, 63, 127, 15, 15, 895, 2047, 4095] [(16, 7)] fomo ?_
   refine d1 [7] (fun ve h => OpT.fieldAddrB (H rfl) (Root.self (t := 7) (by decide)) ((h _ (List.elem_iff.1 rfl)).trans rfl) (by decide) fd38_1 sz2 (by decide) sb38_1) rfl ?_
   refine d1 [7, 16] (fun ve h => OpT.loadP (H rfl) (D1 h rfl) (.inl ⟨_, ((h _ (List.elem_iff.1 rfl)).trans rfl), rfl⟩) ag2 rfl) rfl ?_
   refine d1 [17] (fun ve h => OpT.eql (H rfl) (D1 h rfl) (I rfl)) rfl ?_
   refine d1 [18] (fun ve h => OpT.move (A := .cel _ _) (.inl rfl) rfl (ok' rfl) (D1 h rfl) rfl) rfl ?_
   refine dr [0, 19] hd1 (fun ve h => OpT.move (A := .cel _ _) (.inl rfl) rfl (ok' rfl) (D1 h rfl) rfl) rfl ?_
   refine dr [6, 19] hd1 (fun ve h => OpT.move (A := .cel _ _) (.inl rfl) rfl (ok' rfl) (D1 h rfl) rfl) rfl ?_
   refine dr [19, 20, 21] hd1 (fun ve h => OpT.c1 (ms := [.flat, .flat]) (c_impl_pathUp list (z : Int) ⟨hC.1, by omega, by omega⟩) (H rfl) (Af (D1 h rfl) rfl rfl <| Af (D1 h rfl) rfl rfl <| An) rfl rfl) rfl ?_
   refine dr [19, 22] hd1 (fun ve h => OpT.cutL (H rfl) (D1 h rfl) (I rfl) el32 sz2 (by have h70 := (pthE_len hC.1 (i := (z : Int)) (by omega)).1; omega)) rfl ?_
   refine dr [0, 19] hd1 (fun ve h => OpT.move (A := .cel _ _) (.inl rfl) rfl (ok' rfl) (D1 h rfl) rfl) rfl ?_
   refine dr [1, 19] hd1 (fun ve h => OpT.move (A := .cel _ _) (.inl rfl) rfl (ok' rfl) (D1 h rfl) rfl) rfl ?_
   refine dr [19, 24, 25] hd1 (fun ve h => OpT.c1 (ms := [.flat, .flat]) (c_impl_preferred list i hC.2) (H rfl) (Af (D1 h rfl) rfl rfl <| Af (D1 h rfl) rfl rfl <| An) rfl rfl) rfl ?_
   refine dr [19, 23, 26] hd1 (fun ve h => OpT.c1 (ms := [.flat, .flat]) (c_slices_Contains_int64_int64 _ _) (H rfl) (Af (D1 h rfl) rfl rfl <| Af (D1 h rfl) rfl rfl <| An) rfl rfl) rfl ?_
   refine d1 [19, 27] (fun ve h => OpT.pickT (A := .cel _ _) (H rfl) (D1 h rfl) hd1 (D1 h rfl) rfl) rfl ?_
   refine dn ⟨by kernel_rfl, by kernel_rfl, ?_⟩
   refine AX.go ?_
   refine cd rfl (fun hc2 => ?_) fun hc2 => ?_
   ·
    obtain ⟨hc2, hc2'⟩ := pT hc2
    have hp : narQ list i (z : Int) = true := (Bool.and_eq_true _ _).mpr ⟨hd1, hc2⟩
    refine AW.region ?_
    refine st (OpT.alias (H rfl) (by decide) (by decide)) rfl ?_
    refine st (mvT rfl) rfl ?_
    refine st (OpT.buildSlice (H rfl) el32 zr2 sz2 rfl (by decide) zk2 (by decide) (Built.cel (T1 rfl) rfl rfl (sub_arr (by decide) (0 : Int)) (Built.nil _))) rfl ?_
    refine sg (OpT.append (H rfl) (Root.ali rfl (by decide) (by decide)) rfl (Src.own (Root.self (t := 31) (by decide)) rfl) (by decide) el32 zr2 rfl sz2 by2 (by decide) (by have h70 := sel_len z (narQ list i); simp only [List.length_cons, List.length_nil, List.length_set, List.length_replicate]; omega)) (ko 32 rfl <| ko 31 rfl <| kc4 30 28 27 26 rfl <| kc4 25 24 23 22 rfl <| kc4 21 20 19 18 rfl <| kc 17 rfl <| Kc 16 (.pel _ _ _ _ _ _ _) rfl <| kb 7 rfl <| kc 6 rfl <| ka 15 rfl <| kc4 14 13 12 0 rfl <| kc4 1 9 10 11 rfl <| Kn) rfl ?_
    refine sg (OpT.take (.inl rfl) rfl (ok' rfl) (Root.self (by decide)) rfl rfl (by decide)) (ko 5 rfl <| ko 31 rfl <| kc4 30 28 27 26 rfl <| kc4 25 24 23 22 rfl <| kc4 21 20 19 18 rfl <| kc 17 rfl <| Kc 16 (.pel _ _ _ _ _ _ _) rfl <| kb 7 rfl <| kc 6 rfl <| ka 15 rfl <| kc4 14 13 12 0 rfl <| kc4 1 9 10 11 rfl <| Kn) rfl ?_
    refine nn ?_
    refine AX.normal_block ?_
    refine AX.go ?_
    refine AW.region ?_
    refine st (OpT.add (H rfl) (T1 rfl) (I rfl) (nw (by omega))) rfl ?_
    refine st (mvT rfl) rfl ?_
    refine nn ?_
    exact AX.again (z + 1) (by omega) (by omega) (Kc 0 _ (Kv rfl rfl) <| Kc 1 _ (Kv rfl rfl) <| Kc 5 _ (Ko rfl (by first | exact (sel_yes hp).symm | exact (sel_no hp).symm)) <| Kc 9 _ (Kv rfl rfl) <| Kc 10 _ (Kv rfl rfl) <| Kc 11 _ (Kv rfl (by omega)) <| Kn)
   ·
    obtain ⟨hc2, hc2'⟩ := pF hc2
    have hp : narQ list i (z : Int) = false := by first | exact (Bool.and_eq_false_iff).mpr (.inl hd1) | exact (Bool.and_eq_false_iff).mpr (.inr hc2)
    refine AW.skip ?_
    refine AX.normal_block ?_
    refine AX.go ?_
    refine AW.region ?_
    refine st (OpT.add (H rfl) (T1 rfl) (I rfl) (nw (by omega))) rfl ?_
    refine st (mvT rfl) rfl ?_
    refine nn ?_
    exact AX.again (z + 1) (by omega) (by omega) (Kc 0 _ (Kv rfl rfl) <| Kc 1 _ (Kv rfl rfl) <| Kc 5 _ (Ko rfl (by first | exact (sel_yes hp).symm | exact (sel_no hp).symm)) <| Kc 9 _ (Kv rfl rfl) <| Kc 10 _ (Kv rfl rfl) <| Kc 11 _ (Kv rfl (by omega)) <| Kn)
  ·
   have hd1' := lF hd1
   refine dhm [0, 1, 3, 7, 15, 15, 63, 127, 15, 15, 895, 2047, 4095] [(16, 7)] fomo ?_
   refine d1 [7] (fun ve h => OpT.fieldAddrB (H rfl) (Root.self (t := 7) (by decide)) ((h _ (List.elem_iff.1 rfl)).trans rfl) (by decide) fd38_1 sz2 (by decide) sb38_1) rfl ?_
   refine d1 [7, 16] (fun ve h => OpT.loadP (H rfl) (D1 h rfl) (.inl ⟨_, ((h _ (List.elem_iff.1 rfl)).trans rfl), rfl⟩) ag2 rfl) rfl ?_
   refine d1 [17] (fun ve h => OpT.eql (H rfl) (D1 h rfl) (I rfl)) rfl ?_
   refine d1 [18] (fun ve h => OpT.move (A := .cel _ _) (.inl rfl) rfl (ok' rfl) (D1 h rfl) rfl) rfl ?_
   refine dp hd1 rfl ?_
   refine dp hd1 rfl ?_
   refine dp hd1 rfl ?_
   refine dp hd1 rfl ?_
   refine dp hd1 rfl ?_
   refine dp hd1 rfl ?_
   refine dp hd1 rfl ?_
   refine dp hd1 rfl ?_
   refine d1 [19] (fun ve h => OpT.pickF (A := .cel _ _) (H rfl) (D1 h rfl) hd1 Opd.bool rfl) rfl ?_
   refine dn ⟨by kernel_rfl, by kernel_rfl, ?_⟩
   refine AX.go ?_
   refine cd rfl (fun hc3 => ?_) fun hc3 => ?_
   ·
    obtain ⟨hc3, hc3'⟩ := pT hc3
    exact absurd hc3 (by decide)
   ·
    obtain ⟨hc3, hc3'⟩ := pF hc3
    have hp : narQ list i (z : Int) = false := by first | exact (Bool.and_eq_false_iff).mpr (.inl hd1) | exact (Bool.and_eq_false_iff).mpr (.inr hc3)
    refine AW.skip ?_
    refine AX.normal_block ?_
    refine AX.go ?_
    refine AW.region ?_
    refine st (OpT.add (H rfl) (T1 rfl) (I rfl) (nw (by omega))) rfl ?_
    refine st (mvT rfl) rfl ?_
    refine nn ?_
    exact AX.again (z + 1) (by omega) (by omega) (Kc 0 _ (Kv rfl rfl) <| Kc 1 _ (Kv rfl rfl) <| Kc 5 _ (Ko rfl (by first | exact (sel_yes hp).symm | exact (sel_no hp).symm)) <| Kc 9 _ (Kv rfl rfl) <| Kc 10 _ (Kv rfl rfl) <| Kc 11 _ (Kv rfl (by omega)) <| Kn)
 ·
  obtain ⟨hc1, hc1'⟩ := pF hc1
  refine AW.exit ?_
  refine xT <| xT <| AX.exit_hit ?_
  refine AX.go ?_
  refine sr ?_
  refine st (OpT.alias (H rfl) (by decide) (by decide)) rfl ?_
  refine sg (OpT.take (.inl rfl) rfl (ok' rfl) (Root.ali rfl (by decide) (by decide)) rfl rfl (by decide)) (ko 4 rfl <| kc4 12 0 1 9 rfl <| kc2 10 11 rfl <| Kn) rfl ?_
  refine ng ?_
  refine AW.ret ?_
  exact AX.rt (rs := [.tmp 4]) (ts := [some 4]) (.inl rfl) rfl (ROs.cons (RO.tmp (At.self (by decide)) (Ko rfl (by rw [show z = list.length by omega]; rfl)) rfl) <| ROs.nil) (by decide) OutsOK.nil
set_option maxHeartbeats 4000000 in
/-- impl.isCatalogue -/
theorem c_impl_isCatalogue (list : List DEnt) (hC : catI list) : AC Tryd.prog 30 [.cel (Kd.slice kEnt) list] [.cel Kd.bool true] [] := by
 refine acI (N := 91) Tryd.func30 (Nat.le_of_ble_eq_true rfl) rfl fun w0 hd s0 ar => ?_
 refine AW.to (kc 0 rfl <| Kn) ?_
 have hnl := hC.len
 refine sr ?_
 refine st (asB rfl) rfl ?_
 refine ng ?_
 refine AW.seq ?_
 refine sr ?_
 refine st (mvT rfl) rfl ?_
 refine st (OpT.len (H rfl) (T1 rfl) el24) rfl ?_
 refine st (OpT.gtr (H rfl) (T1 rfl) (I rfl)) rfl ?_
 refine ng ?_
 refine cd rfl (fun hc1 => ?_) fun hc1 => ?_
 ·
  obtain ⟨hc1, hc1'⟩ := pT hc1
  exact (show False from (by omega)).elim
 ·
  obtain ⟨hc1, hc1'⟩ := pF hc1
  refine AW.skip ?_
  refine AX.go ?_
  refine AW.seq ?_
  refine sr ?_
  refine st (mvT rfl) rfl ?_
  refine st (OpT.len (H rfl) (T1 rfl) el24) rfl ?_
  refine st (mvI rfl) rfl ?_
  refine ng ?_
  refine AW.block ?_
  refine AW.loop (fun z : Nat => z ≤ list.length) (fun z : Nat => keep [(0, .cel (Kd.slice kEnt) list), (12, .cel (Kd.slice kEnt) list), (13, .cel (Kd.int .i64) (list.length : Int)), (14, .cel (Kd.int .i64) (z : Int))]) (fun z : Nat => list.length - z) (0) (Nat.zero_le _) (Kc 0 _ (Kv rfl rfl) <| Kc 12 _ (Kv rfl rfl) <| Kc 13 _ (Kv rfl rfl) <| Kc 14 _ (Kv rfl rfl) <| Kn) ?_
  intro z hI
  refine sr ?_
  refine st (OpT.lss (H rfl) (T1 rfl) (T1 rfl)) rfl ?_
  refine ng ?_
  refine AW.seq ?_
  refine cd rfl (fun hc2 => ?_) fun hc2 => ?_
  ·
   obtain ⟨hc2, hc2'⟩ := pT hc2
   have hz : z < list.length := by omega
   have hok := tt_iff.2 (hC.ok (i := (z : Int)) (by omega))
   have hnw := nam_new hC hz
   have hse := hC.see z hz
   have hbr := hC.brd z hz
   refine AW.skip ?_
   refine AX.go ?_
   refine AW.seq ?_
   refine AW.block ?_
   refine sr ?_
   refine st (mvT rfl) rfl ?_
   refine st (OpT.indexAddr (H rfl) (T1 rfl) (T1 rfl) el24 sz38 (by omega) (eAt_get (i := (z : Int)) (by omega))) rfl ?_
   refine st (OpT.loadA (H rfl) (T1 rfl) ag38 sz38) rfl ?_
   refine st (OpT.alloc (H rfl) zr38 zk38) rfl ?_
   refine st (asT rfl) rfl ?_
   refine sk (OpT.storeBA rfl rfl (Opd.whole (Root.self (t := 4) (by decide)) rfl) rfl sz38 (by decide) (T1 rfl)) rfl ?_
   refine ng ?_
   refine AW.seq ?_
   refine sr ?_
   refine st (OpT.fieldAddrB (H rfl) (Root.self (t := 4) (by decide)) rfl (by decide) fd38_0 sz9 (by decide) sb38_0) rfl ?_
   refine st (OpT.loadP (H rfl) (T1 rfl) (.inl ⟨_, rfl, rfl⟩) ag9 rfl) rfl ?_
   refine st (OpT.c1 (ms := [.flat]) (c_impl_isEntryName _) (H rfl) (Af (T1 rfl) rfl rfl <| An) rfl rfl) rfl ?_
   refine st (OpT.not (H rfl) (T1 rfl)) rfl ?_
   refine st (mvT rfl) rfl ?_
   refine AWl.freezeB (t := 4) rfl ?_
   refine AWl.to (kc4 23 22 21 20 rfl <| kc3 4 3 4 rfl <| ka 18 rfl <| kc4 17 16 15 0 rfl <| kc3 12 13 14 rfl <| Kn) ?_
   apply AWl.or (d := 29) (t := 23) rfl
   ·
    intro hb1 Q1 k1
    have hb1' := lF hb1
    refine rs hb1 (mvT rfl) rfl ?_
    refine rs hb1 (mvT rfl) rfl ?_
    refine rs hb1 (OpT.cutH (H rfl) (T1 rfl) (T1 rfl) el24 sz38 (by omega)) rfl ?_
    refine rs hb1 (OpT.mkF1 (H rfl) (T1 rfl)) rfl ?_
    refine rs hb1 (OpT.c1 (ms := [.flat, .flat]) (c_slices_ContainsFunc_impl_Entry_impl_Entry (fun y => eqv y.1 (eAt list (z : Int)).1) (CloArgs.ptr _ _) (fun y => c_impl_isCatalogue_1 y (eAt list (z : Int))) _) (H rfl) (Af (T1 rfl) rfl rfl <| Af (T1 rfl) rfl rfl <| An) rfl rfl) rfl ?_
    refine st (OpT.pickF (A := .cel _ _) (H rfl) (T1 rfl) hb1 (T1 rfl) rfl) rfl ?_
    exact AWl.to (junk 5 rfl) k1
   ·
    intro hb1 Q1 k1
    refine ps hb1 rfl ?_
    refine ps hb1 rfl ?_
    refine ps hb1 rfl ?_
    refine ps hb1 rfl ?_
    refine ps hb1 rfl ?_
    refine st (OpT.pickT (A := .cel _ _) (H rfl) (T1 rfl) hb1 Opd.bool rfl) rfl ?_
    exact k1
   refine ng ?_
   refine cd rfl (fun hc3 => ?_) fun hc3 => ?_
   ·
    obtain ⟨hc3, hc3'⟩ := pT hc3
    exact (show False from (by simp [hok, hnw] at hc3)).elim
   ·
    obtain ⟨hc3, hc3'⟩ := pF hc3
    refine AW.skip ?_
    refine AX.go ?_
    refine AW.seq ?_
    refine sr ?_
    refine st (OpT.fieldAddr (H rfl) (T1 rfl) fd38_1 sz2 (by decide) sb38_1) rfl ?_
    refine st (OpT.load (H rfl) (T1 rfl) ag2 rfl) rfl ?_
    refine st (OpT.fieldAddr (H rfl) (T1 rfl) fd38_2 sz2 (by decide) sb38_2) rfl ?_
    refine st (OpT.load (H rfl) (T1 rfl) ag2 rfl) rfl ?_
    refine st (OpT.buildSlice (H rfl) el32 zr2 sz2 rfl (by decide) zk2 (by decide) (Built.cel (T1 rfl) rfl rfl (sub_arr (by decide) (0 : Int)) (Built.cel (T1 rfl) rfl rfl (sub_arr (by decide) (0 : Int)) (Built.nil _)))) rfl ?_
    refine st (OpT.lenO (H rfl) (Root.self (t := 34) (by decide)) rfl el32) rfl ?_
    refine st (mvI rfl) rfl ?_
    refine ng ?_
    refine AW.block ?_
    refine AW.loop (fun y : Nat => y ≤ 2) (fun y : Nat => keep [(0, .cel (Kd.slice kEnt) list), (4, .cel (Kd.ptr kEnt) (eAt list (z : Int))), (12, .cel (Kd.slice kEnt) list), (13, .cel (Kd.int .i64) (list.length : Int)), (14, .cel (Kd.int .i64) (z : Int)), (34, .own 2 (Kd.int .i64) [(eAt list (z : Int)).2.1, (eAt list (z : Int)).2.2]), (35, .cel (Kd.int .i64) (2 : Int)), (36, .cel (Kd.int .i64) (y : Int))]) (fun y : Nat => 2 - y) (0) (by omega) (Kc 0 _ (Kv rfl rfl) <| Kc 4 _ (Kv rfl rfl) <| Kc 12 _ (Kv rfl rfl) <| Kc 13 _ (Kv rfl rfl) <| Kc 14 _ (Kv rfl rfl) <| Kc 34 _ (Ko rfl rfl) <| Kc 35 _ (Kv rfl rfl) <| Kc 36 _ (Kv rfl rfl) <| Kn) ?_
    intro y hI
    refine sr ?_
    refine st (OpT.lss (H rfl) (T1 rfl) (T1 rfl)) rfl ?_
    refine ng ?_
    refine AW.seq ?_
    refine cd rfl (fun hc4 => ?_) fun hc4 => ?_
    ·
     obtain ⟨hc4, hc4'⟩ := pT hc4
     obtain ⟨k, hk⟩ := getI (x := [(eAt list (z : Int)).2.1, (eAt list (z : Int)).2.2]) (z := y) (show y < 2 by omega)
     have hkk : k = (eAt list (z : Int)).2.1 ∨ k = (eAt list (z : Int)).2.2 := by (have h9 := mem_getI hk; simpa using h9)
     refine AW.skip ?_
     refine AX.go ?_
     refine AW.seq ?_
     refine AW.block ?_
     refine sr ?_
     refine st (OpT.indexAddrO (H rfl) (Root.self (t := 34) (by decide)) rfl (by decide) (T1 rfl) el32 sz2 (by omega) hk) rfl ?_
     refine st (OpT.loadP (H rfl) (T1 rfl) (.inr ⟨_, _, rfl, (by assumption)⟩) ag2 rfl) rfl ?_
     refine st (asT rfl) rfl ?_
     refine ng ?_
     refine sr ?_
     refine st (mvT rfl) rfl ?_
     refine st (OpT.lss (H rfl) (T1 rfl) (I rfl)) rfl ?_
     refine st (mvT rfl) rfl ?_
     apply AWl.or (d := 47) (t := 42) rfl
     ·
      intro hb2 Q1 k1
      have hb2' := lF hb2
      refine rs hb2 (mvT rfl) rfl ?_
      refine rs hb2 (mvT rfl) rfl ?_
      refine rs hb2 (OpT.len (H rfl) (T1 rfl) el24) rfl ?_
      refine rs hb2 (OpT.geq (H rfl) (T1 rfl) (T1 rfl)) rfl ?_
      refine st (OpT.pickF (A := .cel _ _) (H rfl) (T1 rfl) hb2 (T1 rfl) rfl) rfl ?_
      exact AWl.to (junk 4 rfl) k1
     ·
      intro hb2 Q1 k1
      refine ps hb2 rfl ?_
      refine ps hb2 rfl ?_
      refine ps hb2 rfl ?_
      refine ps hb2 rfl ?_
      refine st (OpT.pickT (A := .cel _ _) (H rfl) (T1 rfl) hb2 Opd.bool rfl) rfl ?_
      exact k1
     refine st (mvT rfl) rfl ?_
     apply AWl.or (d := 59) (t := 48) rfl
     ·
      intro hb3 Q1 k1
      have hb3' := lF hb3
      refine rs hb3 (mvT rfl) rfl ?_
      refine rs hb3 (OpT.geq (H rfl) (T1 rfl) (I rfl)) rfl ?_
      refine rs hb3 (mvT rfl) rfl ?_
      apply AWl.and (d := 58) (t := 51) rfl
      ·
       intro hb4 Q1 k1
       have hb4' := lT hb4
       refine rs hb4 (mvT rfl) rfl ?_
       refine rs hb4 (mvT rfl) rfl ?_
       refine rs hb4 (OpT.indexAddr (H rfl) (T1 rfl) (T1 rfl) el24 sz38 (by omega) (eAt_get (by omega))) rfl ?_
       refine rs hb4 (OpT.fieldAddr (H rfl) (T1 rfl) fd38_1 sz2 (by decide) sb38_1) rfl ?_
       refine rs hb4 (OpT.load (H rfl) (T1 rfl) ag2 rfl) rfl ?_
       refine rs hb4 (OpT.neq (H rfl) (T1 rfl) (I rfl)) rfl ?_
       refine rs hb3 (OpT.pickT (A := .cel _ _) (H rfl) (T1 rfl) hb4 (T1 rfl) rfl) rfl ?_
       exact AWl.to (junk 6 rfl) k1
      ·
       intro hb4 Q1 k1
       refine ps hb4 rfl ?_
       refine ps hb4 rfl ?_
       refine ps hb4 rfl ?_
       refine ps hb4 rfl ?_
       refine ps hb4 rfl ?_
       refine ps hb4 rfl ?_
       refine rs hb3 (OpT.pickF (A := .cel _ _) (H rfl) (T1 rfl) hb4 Opd.bool rfl) rfl ?_
       exact k1
      refine st (OpT.pickF (A := .cel _ _) (H rfl) (T1 rfl) hb3 (T1 rfl) rfl) rfl ?_
      exact AWl.to (junk 4 rfl) k1
     ·
      intro hb3 Q1 k1
      refine ps hb3 rfl ?_
      refine ps hb3 rfl ?_
      refine AWl.pasv rfl rfl rfl rfl hb3 rfl (ok' rfl) rfl ?_
      refine AWl.pasu rfl rfl rfl rfl rfl (ok' rfl) rfl ?_
      refine AWl.pasu rfl rfl rfl rfl rfl (ok' rfl) rfl ?_
      refine AWl.pasu rfl rfl rfl rfl rfl (ok' rfl) rfl ?_
      refine AWl.pasu rfl rfl rfl rfl rfl (ok' rfl) rfl ?_
      refine AWl.pasu rfl rfl rfl rfl rfl (ok' rfl) rfl ?_
      refine AWl.pasu rfl rfl rfl rfl rfl (ok' rfl) rfl ?_
      refine ps hb3 rfl ?_
      refine st (OpT.pickT (A := .cel _ _) (H rfl) (T1 rfl) hb3 Opd.bool rfl) rfl ?_
      exact AWl.to (junk 7 rfl) k1
     refine ng ?_
     refine cd rfl (fun hc5 => ?_) fun hc5 => ?_
     ·
      obtain ⟨hc5, hc5'⟩ := pT hc5
      exact (show False from (by first | omega | (simp at hc5; omega) | (rcases hkk with h9 | h9 <;> (rw [h9] at hc5; simp at hc5; omega)))).elim
     ·
      obtain ⟨hc5, hc5'⟩ := pF hc5
      refine AW.skip ?_
      refine AX.normal_block ?_
      refine AX.go ?_
      refine AW.region ?_
      refine st (OpT.add (H rfl) (T1 rfl) (I rfl) (nw (by omega))) rfl ?_
      refine st (mvT rfl) rfl ?_
      refine nn ?_
      exact AX.again (y + 1) (by omega) (by omega) (Kc 0 _ (Kv rfl rfl) <| Kc 4 _ (Kv rfl rfl) <| Kc 12 _ (Kv rfl rfl) <| Kc 13 _ (Kv rfl rfl) <| Kc 14 _ (Kv rfl rfl) <| Kc 34 _ (Ko rfl rfl) <| Kc 35 _ (Kv rfl rfl) <| Kc 36 _ (Kv rfl (by omega)) <| Kn)
    ·
     obtain ⟨hc4, hc4'⟩ := pF hc4
     refine AW.exit ?_
     refine xT <| xT <| AX.exit_hit ?_
     refine AX.go ?_
     refine sr ?_
     refine st (OpT.fieldAddr (H rfl) (T1 rfl) fd38_1 sz2 (by decide) sb38_1) rfl ?_
     refine st (OpT.load (H rfl) (T1 rfl) ag2 rfl) rfl ?_
     refine st (OpT.neq (H rfl) (T1 rfl) (I rfl)) rfl ?_
     refine st (mvT rfl) rfl ?_
     apply AWl.and (d := 68) (t := 64) rfl
     ·
      intro hb5 Q1 k1
      have hb5' := lT hb5
      refine rs hb5 (OpT.fieldAddr (H rfl) (T1 rfl) fd38_2 sz2 (by decide) sb38_2) rfl ?_
      refine rs hb5 (OpT.load (H rfl) (T1 rfl) ag2 rfl) rfl ?_
      refine rs hb5 (OpT.neq (H rfl) (T1 rfl) (I rfl)) rfl ?_
      refine st (OpT.pickT (A := .cel _ _) (H rfl) (T1 rfl) hb5 (T1 rfl) rfl) rfl ?_
      exact AWl.to (junk 3 rfl) k1
     ·
      intro hb5 Q1 k1
      refine ps hb5 rfl ?_
      refine ps hb5 rfl ?_
      refine ps hb5 rfl ?_
      refine st (OpT.pickF (A := .cel _ _) (H rfl) (T1 rfl) hb5 Opd.bool rfl) rfl ?_
      exact k1
     refine ng ?_
     refine cd rfl (fun hc6 => ?_) fun hc6 => ?_
     ·
      obtain ⟨hc6, hc6'⟩ := pT hc6
      exact (show False from (by simp at hc6; omega)).elim
     ·
      obtain ⟨hc6, hc6'⟩ := pF hc6
      refine AW.skip ?_
      refine AX.normal_block ?_
      refine AX.go ?_
      refine AW.region ?_
      refine st (OpT.add (H rfl) (T1 rfl) (I rfl) (nw (by omega))) rfl ?_
      refine st (mvT rfl) rfl ?_
      refine nn ?_
      exact AX.again (z + 1) (by omega) (by omega) (Kc 0 _ (Kv rfl rfl) <| Kc 12 _ (Kv rfl rfl) <| Kc 13 _ (Kv rfl rfl) <| Kc 14 _ (Kv rfl (by omega)) <| Kn)
  ·
   obtain ⟨hc2, hc2'⟩ := pF hc2
   refine AW.exit ?_
   refine xT <| xT <| AX.exit_hit ?_
   refine AX.go ?_
   refine AW.seq ?_
   refine sr ?_
   refine st (mvT rfl) rfl ?_
   refine st (OpT.len (H rfl) (T1 rfl) el24) rfl ?_
   refine st (mvI rfl) rfl ?_
   refine ng ?_
   refine AW.block ?_
   refine AW.loop (fun i : Nat => i ≤ list.length) (fun i : Nat => keep [(0, .cel (Kd.slice kEnt) list), (70, .cel (Kd.slice kEnt) list), (71, .cel (Kd.int .i64) (list.length : Int)), (72, .cel (Kd.int .i64) (i : Int))]) (fun i : Nat => list.length - i) (0) (Nat.zero_le _) (Kc 0 _ (Kv rfl rfl) <| Kc 70 _ (Kv rfl rfl) <| Kc 71 _ (Kv rfl rfl) <| Kc 72 _ (Kv rfl rfl) <| Kn) ?_
   intro i hI
   refine sr ?_
   refine st (OpT.lss (H rfl) (T1 rfl) (T1 rfl)) rfl ?_
   refine ng ?_
   refine AW.seq ?_
   refine cd rfl (fun hc7 => ?_) fun hc7 => ?_
   ·
    obtain ⟨hc7, hc7'⟩ := pT hc7
    refine AW.skip ?_
    refine AX.go ?_
    refine AW.seq ?_
    refine AW.block ?_
    refine sr ?_
    refine st (mvT rfl) rfl ?_
    refine st (asT rfl) rfl ?_
    refine ng ?_
    refine sr ?_
    refine st (mvT rfl) rfl ?_
    refine st (asT rfl) rfl ?_
    refine ng ?_
    refine AW.seq ?_
    refine sr ?_
    refine st (mvT rfl) rfl ?_
    refine st (OpT.len (H rfl) (T1 rfl) el24) rfl ?_
    refine st (mvI rfl) rfl ?_
    refine ng ?_
    refine AW.block ?_
    refine AW.loop (fun q : Nat × Int => q.1 ≤ list.length ∧ -1 ≤ q.2 ∧ (0 ≤ q.2 → q.2 + q.1 ≤ i) ∧ q.2 < list.length) (fun q : Nat × Int => keep [(0, .cel (Kd.slice kEnt) list), (8, .cel (Kd.int .i64) q.2), (70, .cel (Kd.slice kEnt) list), (71, .cel (Kd.int .i64) (list.length : Int)), (72, .cel (Kd.int .i64) (i : Int)), (76, .cel (Kd.slice kEnt) list), (77, .cel (Kd.int .i64) (list.length : Int)), (78, .cel (Kd.int .i64) (q.1 : Int))]) (fun q : Nat × Int => list.length - q.1) ((0, (i : Int))) ⟨Nat.zero_le _, by simp only []; omega, fun _ => by simp only []; omega, by simp only []; omega⟩ (Kc 0 _ (Kv rfl rfl) <| Kc 8 _ (Kv rfl rfl) <| Kc 70 _ (Kv rfl rfl) <| Kc 71 _ (Kv rfl rfl) <| Kc 72 _ (Kv rfl rfl) <| Kc 76 _ (Kv rfl rfl) <| Kc 77 _ (Kv rfl rfl) <| Kc 78 _ (Kv rfl rfl) <| Kn) ?_
    intro q hI
    obtain ⟨p, hpq⟩ : ∃ p, p = q.2 := ⟨_, rfl⟩
    refine sr ?_
    refine st (OpT.lss (H rfl) (T1 rfl) (T1 rfl)) rfl ?_
    refine ng ?_
    refine AW.seq ?_
    refine cd rfl (fun hc8 => ?_) fun hc8 => ?_
    ·
     obtain ⟨hc8, hc8'⟩ := pT hc8
     refine AW.skip ?_
     refine AX.go ?_
     refine AW.seq ?_
     refine AW.block ?_
     refine sr ?_
     refine st (mvT rfl) rfl ?_
     refine st (OpT.geq (H rfl) (T1 rfl) (I rfl)) rfl ?_
     refine ng ?_
     refine cd rfl (fun hc9 => ?_) fun hc9 => ?_
     ·
      obtain ⟨hc9, hc9'⟩ := pT hc9
      have hp1 : 0 ≤ p ∧ p < list.length := by omega
      have hbr := hC.bI hp1
      refine AW.region ?_
      refine st (mvT rfl) rfl ?_
      refine st (mvT rfl) rfl ?_
      refine st (OpT.indexAddr (H rfl) (T1 rfl) (T1 rfl) el24 sz38 (by omega) (eAt_get (by omega))) rfl ?_
      refine st (OpT.fieldAddr (H rfl) (T1 rfl) fd38_2 sz2 (by decide) sb38_2) rfl ?_
      refine st (OpT.load (H rfl) (T1 rfl) ag2 rfl) rfl ?_
      refine st (asT rfl) rfl ?_
      refine nn ?_
      refine AX.normal_block ?_
      refine AX.go ?_
      refine AW.region ?_
      refine st (OpT.add (H rfl) (T1 rfl) (I rfl) (nw (by omega))) rfl ?_
      refine st (mvT rfl) rfl ?_
      refine nn ?_
      first | exact AX.again ((q.1 + 1, (eAt list p).2.2)) ⟨by simp only []; omega, by simp only []; omega, fun h9 => by simp only [] at *; omega, by simp only []; omega⟩ (by simp only []; omega) (Kc 0 _ (Kv rfl rfl) <| Kc 8 _ (Kv rfl (by first | rfl | (simp only []; rw [hpq]))) <| Kc 70 _ (Kv rfl rfl) <| Kc 71 _ (Kv rfl rfl) <| Kc 72 _ (Kv rfl rfl) <| Kc 76 _ (Kv rfl rfl) <| Kc 77 _ (Kv rfl rfl) <| Kc 78 _ (Kv rfl (by simp only []; omega)) <| Kn) | exact AX.again ((q.1 + 1, q.2)) ⟨by simp only []; omega, by simp only []; omega, fun h9 => by simp only [] at *; omega, by simp only []; omega⟩ (by simp only []; omega) (Kc 0 _ (Kv rfl rfl) <| Kc 8 _ (Kv rfl (by first | rfl | (simp only []; rw [hpq]))) <| Kc 70 _ (Kv rfl rfl) <| Kc 71 _ (Kv rfl rfl) <| Kc 72 _ (Kv rfl rfl) <| Kc 76 _ (Kv rfl rfl) <| Kc 77 _ (Kv rfl rfl) <| Kc 78 _ (Kv rfl (by simp only []; omega)) <| Kn)
     ·
      obtain ⟨hc9, hc9'⟩ := pF hc9
      refine AW.skip ?_
      refine AX.normal_block ?_
      refine AX.go ?_
      refine AW.region ?_
      refine st (OpT.add (H rfl) (T1 rfl) (I rfl) (nw (by omega))) rfl ?_
      refine st (mvT rfl) rfl ?_
      refine nn ?_
      first | exact AX.again ((q.1 + 1, (eAt list p).2.2)) ⟨by simp only []; omega, by simp only []; omega, fun h9 => by simp only [] at *; omega, by simp only []; omega⟩ (by simp only []; omega) (Kc 0 _ (Kv rfl rfl) <| Kc 8 _ (Kv rfl (by first | rfl | (simp only []; rw [hpq]))) <| Kc 70 _ (Kv rfl rfl) <| Kc 71 _ (Kv rfl rfl) <| Kc 72 _ (Kv rfl rfl) <| Kc 76 _ (Kv rfl rfl) <| Kc 77 _ (Kv rfl rfl) <| Kc 78 _ (Kv rfl (by simp only []; omega)) <| Kn) | exact AX.again ((q.1 + 1, q.2)) ⟨by simp only []; omega, by simp only []; omega, fun h9 => by simp only [] at *; omega, by simp only []; omega⟩ (by simp only []; omega) (Kc 0 _ (Kv rfl rfl) <| Kc 8 _ (Kv rfl (by first | rfl | (simp only []; rw [hpq]))) <| Kc 70 _ (Kv rfl rfl) <| Kc 71 _ (Kv rfl rfl) <| Kc 72 _ (Kv rfl rfl) <| Kc 76 _ (Kv rfl rfl) <| Kc 77 _ (Kv rfl rfl) <| Kc 78 _ (Kv rfl (by simp only []; omega)) <| Kn)
    ·
     obtain ⟨hc8, hc8'⟩ := pF hc8
     refine AW.exit ?_
     refine xT <| xT <| AX.exit_hit ?_
     refine AX.go ?_
     refine sr ?_
     refine st (mvT rfl) rfl ?_
     refine st (OpT.geq (H rfl) (T1 rfl) (I rfl)) rfl ?_
     refine ng ?_
     refine cd rfl (fun hc10 => ?_) fun hc10 => ?_
     ·
      obtain ⟨hc10, hc10'⟩ := pT hc10
      exact (show False from (by omega)).elim
     ·
      obtain ⟨hc10, hc10'⟩ := pF hc10
      refine AW.skip ?_
      refine AX.normal_block ?_
      refine AX.go ?_
      refine AW.region ?_
      refine st (OpT.add (H rfl) (T1 rfl) (I rfl) (nw (by omega))) rfl ?_
      refine st (mvT rfl) rfl ?_
      refine nn ?_
      exact AX.again (i + 1) (by omega) (by omega) (Kc 0 _ (Kv rfl rfl) <| Kc 70 _ (Kv rfl rfl) <| Kc 71 _ (Kv rfl rfl) <| Kc 72 _ (Kv rfl (by omega)) <| Kn)
   ·
    obtain ⟨hc7, hc7'⟩ := pF hc7
    refine AW.exit ?_
    refine xT <| xT <| AX.exit_hit ?_
    refine AX.go ?_
    refine sr ?_
    refine st (asB rfl) rfl ?_
    refine ng ?_
    refine AW.ret ?_
    exact rt1 rfl (.inl rfl) rfl

/-- impl.checkEntries -/
theorem c_impl_checkEntries (list : List DEnt) (l : List Int) (hC : catI list ∧ ∀ j ∈ l, 0 ≤ j ∧ j < list.length) : AC Tryd.prog 32 [.cel (Kd.slice kEnt) list, .cel (Kd.slice (Kd.int .i64)) l] [.cel (Kd.int .i64) (0 : Int)] [] := by
 refine acI (N := 25) Tryd.func32 (Nat.le_of_ble_eq_true rfl) rfl fun w0 hd s0 ar => ?_
 refine AW.to (kc2 0 1 rfl <| Kn) ?_
 refine AW.fact (fun a w hr => (ok_slice (R_ok (t := 1) rfl hr)).2) (fun hl1 => ?_)
 refine sr ?_
 refine st (asI rfl) rfl ?_
 refine ng ?_
 refine AW.seq ?_
 refine sr ?_
 refine st (mvT rfl) rfl ?_
 refine st (OpT.c1 (ms := [.flat]) (c_impl_isCatalogue list hC.1) (H rfl) (Af (T1 rfl) rfl rfl <| An) rfl rfl) rfl ?_
 refine st (OpT.not (H rfl) (T1 rfl)) rfl ?_
 refine ng ?_
 refine cd rfl (fun hc1 => ?_) fun hc1 => ?_
 ·
  obtain ⟨hc1, hc1'⟩ := pT hc1
  exact (show False from (by simp at hc1)).elim
 ·
  obtain ⟨hc1, hc1'⟩ := pF hc1
  refine AW.skip ?_
  refine AX.go ?_
  refine AW.seq ?_
  refine sr ?_
  refine st (mvT rfl) rfl ?_
  refine st (OpT.len (H rfl) (T1 rfl) el32) rfl ?_
  refine st (mvI rfl) rfl ?_
  refine ng ?_
  refine AW.block ?_
  refine AW.loop (fun z : Nat => z ≤ l.length) (fun z : Nat => keep [(0, .cel (Kd.slice kEnt) list), (10, .cel (Kd.slice (Kd.int .i64)) l), (11, .cel (Kd.int .i64) (l.length : Int)), (12, .cel (Kd.int .i64) (z : Int))]) (fun z : Nat => l.length - z) (0) (Nat.zero_le _) (Kc 0 _ (Kv rfl rfl) <| Kc 10 _ (Kv rfl rfl) <| Kc 11 _ (Kv rfl rfl) <| Kc 12 _ (Kv rfl rfl) <| Kn) ?_
  intro z hI
  refine sr ?_
  refine st (OpT.lss (H rfl) (T1 rfl) (T1 rfl)) rfl ?_
  refine ng ?_
  refine AW.seq ?_
  refine cd rfl (fun hc2 => ?_) fun hc2 => ?_
  ·
   obtain ⟨hc2, hc2'⟩ := pT hc2
   obtain ⟨j, hj⟩ := getI (x := l) (z := z) (by omega)
   refine AW.skip ?_
   refine AX.go ?_
   refine AW.seq ?_
   refine AW.block ?_
   refine sr ?_
   refine st (OpT.indexAddr (H rfl) (T1 rfl) (T1 rfl) el32 sz2 (by omega) hj) rfl ?_
   refine st (OpT.load (H rfl) (T1 rfl) ag2 rfl) rfl ?_
   refine st (asT rfl) rfl ?_
   refine ng ?_
   refine sr ?_
   refine st (mvT rfl) rfl ?_
   refine st (OpT.lss (H rfl) (T1 rfl) (I rfl)) rfl ?_
   refine st (mvT rfl) rfl ?_
   apply AWl.or (d := 23) (t := 18) rfl
   ·
    intro hb1 Q1 k1
    have hb1' := lF hb1
    refine rs hb1 (mvT rfl) rfl ?_
    refine rs hb1 (mvT rfl) rfl ?_
    refine rs hb1 (OpT.len (H rfl) (T1 rfl) el24) rfl ?_
    refine rs hb1 (OpT.geq (H rfl) (T1 rfl) (T1 rfl)) rfl ?_
    refine st (OpT.pickF (A := .cel _ _) (H rfl) (T1 rfl) hb1 (T1 rfl) rfl) rfl ?_
    exact AWl.to (junk 4 rfl) k1
   ·
    intro hb1 Q1 k1
    refine ps hb1 rfl ?_
    refine ps hb1 rfl ?_
    refine ps hb1 rfl ?_
    refine ps hb1 rfl ?_
    refine st (OpT.pickT (A := .cel _ _) (H rfl) (T1 rfl) hb1 Opd.bool rfl) rfl ?_
    exact k1
   refine ng ?_
   refine cd rfl (fun hc3 => ?_) fun hc3 => ?_
   ·
    obtain ⟨hc3, hc3'⟩ := pT hc3
    exact (show False from (by have h9 := hC.2 j (mem_getI hj); simp at hc3; omega)).elim
   ·
    obtain ⟨hc3, hc3'⟩ := pF hc3
    refine AW.skip ?_
    refine AX.normal_block ?_
    refine AX.go ?_
    refine AW.region ?_
    refine st (OpT.add (H rfl) (T1 rfl) (I rfl) (nw (by omega))) rfl ?_
    refine st (mvT rfl) rfl ?_
    refine nn ?_
    exact AX.again (z + 1) (by omega) (by omega) (Kc 0 _ (Kv rfl rfl) <| Kc 10 _ (Kv rfl rfl) <| Kc 11 _ (Kv rfl rfl) <| Kc 12 _ (Kv rfl (by omega)) <| Kn)
  ·
   obtain ⟨hc2, hc2'⟩ := pF hc2
   refine AW.exit ?_
   refine xT <| xT <| AX.exit_hit ?_
   refine AX.go ?_
   refine sr ?_
   refine st (asI rfl) rfl ?_
   refine ng ?_
   refine AW.ret ?_
   exact rt1 rfl (.inl rfl) rfl

/-- impl.ExpandEntry -/
theorem c_impl_ExpandEntry_o (list : List DEnt) (i : Int) (hC : catI list ∧ 0 ≤ i ∧ i < list.length) : AC Tryd.prog 10 [.cel (Kd.slice kEnt) list, .cel (Kd.int .i64) i] [.own 2 (Kd.int .i64) (expE list i), .cel (Kd.int .i64) (0 : Int)] [] := by
 refine acI (N := 42) Tryd.func10 (Nat.le_of_ble_eq_true rfl) rfl fun w0 hd s0 ar => ?_
 refine AW.to (kc2 0 1 rfl <| Kn) ?_
 have hnl := hC.1.len
 have hpi := pre_in hC.1 hC.2
 have hsl := sel_len list.length (narQ list i)
 have hnp : (narP list i).length ≤ list.length := hsl
 refine sr ?_
 refine st (nilO (E := 2) (Kd.int .i64) rfl (.inl rfl)) rfl ?_
 refine st (asI rfl) rfl ?_
 refine ng ?_
 refine AW.seq ?_
 refine sr ?_
 refine st (mvT rfl) rfl ?_
 refine st (mvT rfl) rfl ?_
 refine st (OpT.buildSlice (H rfl) el32 zr2 sz2 rfl (by decide) zk2 (by decide) (Built.cel (T1 rfl) rfl rfl (sub_arr (by decide) (0 : Int)) (Built.nil _))) rfl ?_
 refine st (cb1 (ms := [.flat, .bor 12]) (c_impl_checkEntries list [i] ⟨hC.1, fun j hj => by rw [List.mem_singleton.1 hj]; exact hC.2⟩) (H rfl) (Af (T1 rfl) rfl rfl <| Ab (Root.self (t := 12) (by decide)) rfl <| An) rfl (indC fun _ _ _ _ h => h)) rfl ?_
 refine st (asT rfl) rfl ?_
 refine ng ?_
 refine sr ?_
 refine st (mvT rfl) rfl ?_
 refine st (OpT.neq (H rfl) (T1 rfl) (I rfl)) rfl ?_
 refine ng ?_
 refine cd rfl (fun hc1 => ?_) fun hc1 => ?_
 ·
  obtain ⟨hc1, hc1'⟩ := pT hc1
  exact (show False from (by omega)).elim
 ·
  obtain ⟨hc1, hc1'⟩ := pF hc1
  refine AW.skip ?_
  refine AX.go ?_
  refine sr ?_
  refine st (mvT rfl) rfl ?_
  refine st (mvT rfl) rfl ?_
  refine st (OpT.c1 (ms := [.flat, .flat]) (c_impl_narrower_o list i hC) (H rfl) (Af (T1 rfl) rfl rfl <| Af (T1 rfl) rfl rfl <| An) rfl rfl) rfl ?_
  refine st (mvT rfl) rfl ?_
  refine st (mvT rfl) rfl ?_
  refine st (OpT.c1 (ms := [.flat, .flat]) (c_impl_preferred list i hC.2) (H rfl) (Af (T1 rfl) rfl rfl <| Af (T1 rfl) rfl rfl <| An) rfl rfl) rfl ?_
  refine st (OpT.buildSlice (H rfl) el32 zr2 sz2 rfl (by decide) zk2 (by decide) (Built.cel (T1 rfl) rfl rfl (sub_arr (by decide) (0 : Int)) (Built.nil _))) rfl ?_
  refine sg (OpT.append (H rfl) (Root.self (t := 19) (by decide)) rfl (Src.own (Root.self (t := 23) (by decide)) rfl) (by decide) el32 zr2 rfl sz2 by2 (by decide) (by have h70 := sel_len (min list.length 9) (expQ list i); have h71 : ∀ z : Nat, (selI z (expQ list i)).length ≤ z := fun z => sel_len z _; first | (simp only [List.length_cons, List.length_nil, List.length_set, List.length_replicate]; omega) | (have h72 := h71 z; simp only [List.length_cons, List.length_nil, List.length_set, List.length_replicate]; omega))) (ko 24 rfl <| ko 23 rfl <| kc4 22 21 20 18 rfl <| kc4 17 15 14 6 rfl <| kc 13 rfl <| ko 12 rfl <| kc3 11 10 5 rfl <| ko 4 rfl <| kc2 0 1 rfl <| Kn) rfl ?_
  refine sg (OpT.take (.inl rfl) rfl (ok' rfl) (Root.self (by decide)) rfl rfl (by decide)) (ko 7 rfl <| ko 23 rfl <| kc4 22 21 20 18 rfl <| kc4 17 15 14 6 rfl <| kc 13 rfl <| ko 12 rfl <| kc3 11 10 5 rfl <| ko 4 rfl <| kc2 0 1 rfl <| Kn) rfl ?_
  refine AWl.to (ko 7 rfl <| kc 5 rfl <| ko 4 rfl <| kc 0 rfl <| Kn) ?_
  refine ng ?_
  refine sr ?_
  refine st (OpT.buildSlice0 (m := 0) (z := .bool false) (Kd.int .i64) (H rfl) el32 sz2 (by decide)) rfl ?_
  refine sg (OpT.take (.inl rfl) rfl (ok' rfl) (Root.self (by decide)) rfl rfl (by decide)) (ko 8 rfl <| ko 7 rfl <| kc 5 rfl <| ko 4 rfl <| kc 0 rfl <| Kn) rfl ?_
  refine ng ?_
  refine AW.seq ?_
  refine sr ?_
  refine st (mvT rfl) rfl ?_
  refine st (OpT.len (H rfl) (T1 rfl) el24) rfl ?_
  refine st (mvI rfl) rfl ?_
  refine ng ?_
  refine AW.block ?_
  refine AW.loop (fun z : Nat => z ≤ list.length) (fun z : Nat => keep [(0, .cel (Kd.slice kEnt) list), (7, .own 2 (Kd.int .i64) (narP list i ++ [preI list i])), (8, .own 2 (Kd.int .i64) (selI z (expQ list i))), (26, .cel (Kd.slice kEnt) list), (27, .cel (Kd.int .i64) (list.length : Int)), (28, .cel (Kd.int .i64) (z : Int))]) (fun z : Nat => list.length - z) (0) (Nat.zero_le _) (Kc 0 _ (Kv rfl rfl) <| Kc 7 _ (Ko rfl rfl) <| Kc 8 _ (Ko rfl rfl) <| Kc 26 _ (Kv rfl rfl) <| Kc 27 _ (Kv rfl rfl) <| Kc 28 _ (Kv rfl rfl) <| Kn) ?_
  intro z hI
  refine sr ?_
  refine st (OpT.lss (H rfl) (T1 rfl) (T1 rfl)) rfl ?_
  refine ng ?_
  refine AW.seq ?_
  refine cd rfl (fun hc2 => ?_) fun hc2 => ?_
  ·
   obtain ⟨hc2, hc2'⟩ := pT hc2
   have hzl : z < list.length := by omega
   refine AW.skip ?_
   refine AX.go ?_
   refine AW.seq ?_
   refine AW.block ?_
   refine sr ?_
   refine st (mvT rfl) rfl ?_
   refine st (asT rfl) rfl ?_
   refine ng ?_
   refine sr ?_
   refine st (OpT.alias (H rfl) (by decide) (by decide)) rfl ?_
   refine st (mvT rfl) rfl ?_
   refine st (mvT rfl) rfl ?_
   refine st (OpT.c1 (ms := [.flat, .flat]) (c_impl_preferred list (z : Int) (by omega)) (H rfl) (Af (T1 rfl) rfl rfl <| Af (T1 rfl) rfl rfl <| An) rfl rfl) rfl ?_
   refine st (cb1 (ms := [.bor 7, .flat]) (c_slices_Contains_int64_int64 _ _) (H rfl) (Ab (Root.ali rfl (by decide) (by decide)) rfl <| Af (T1 rfl) rfl rfl <| An) rfl (indC fun _ _ _ _ h => h)) rfl ?_
   refine ng ?_
   refine cd rfl (fun hc3 => ?_) fun hc3 => ?_
   ·
    obtain ⟨hc3, hc3'⟩ := pT hc3
    have hp : expQ list i (z : Int) = true := hc3
    refine AW.region ?_
    refine st (OpT.alias (H rfl) (by decide) (by decide)) rfl ?_
    refine st (mvT rfl) rfl ?_
    refine st (OpT.buildSlice (H rfl) el32 zr2 sz2 rfl (by decide) zk2 (by decide) (Built.cel (T1 rfl) rfl rfl (sub_arr (by decide) (0 : Int)) (Built.nil _))) rfl ?_
    refine sg (OpT.append (H rfl) (Root.ali rfl (by decide) (by decide)) rfl (Src.own (Root.self (t := 38) (by decide)) rfl) (by decide) el32 zr2 rfl sz2 by2 (by decide) (by have h70 := sel_len (min list.length 9) (expQ list i); have h71 : ∀ z : Nat, (selI z (expQ list i)).length ≤ z := fun z => sel_len z _; first | (simp only [List.length_cons, List.length_nil, List.length_set, List.length_replicate]; omega) | (have h72 := h71 z; simp only [List.length_cons, List.length_nil, List.length_set, List.length_replicate]; omega))) (ko 39 rfl <| ko 38 rfl <| kc4 37 35 34 33 rfl <| kc 32 rfl <| Kc 31 (.ali _) rfl <| kc4 9 30 29 0 rfl <| ko 7 rfl <| kc3 26 27 28 rfl <| Kn) rfl ?_
    refine sg (OpT.take (.inl rfl) rfl (ok' rfl) (Root.self (by decide)) rfl rfl (by decide)) (ko 8 rfl <| ko 38 rfl <| kc4 37 35 34 33 rfl <| kc 32 rfl <| Kc 31 (.ali _) rfl <| kc4 9 30 29 0 rfl <| ko 7 rfl <| kc3 26 27 28 rfl <| Kn) rfl ?_
    refine nn ?_
    refine AX.normal_block ?_
    refine AX.go ?_
    refine AW.region ?_
    refine st (OpT.add (H rfl) (T1 rfl) (I rfl) (nw (by omega))) rfl ?_
    refine st (mvT rfl) rfl ?_
    refine nn ?_
    exact AX.again (z + 1) (by omega) (by omega) (Kc 0 _ (Kv rfl rfl) <| Kc 7 _ (Ko rfl rfl) <| Kc 8 _ (Ko rfl (by first | exact (sel_yes hp).symm | exact (sel_no hp).symm)) <| Kc 26 _ (Kv rfl rfl) <| Kc 27 _ (Kv rfl rfl) <| Kc 28 _ (Kv rfl (by omega)) <| Kn)
   ·
    obtain ⟨hc3, hc3'⟩ := pF hc3
    have hp : expQ list i (z : Int) = false := hc3
    refine AW.skip ?_
    refine AX.normal_block ?_
    refine AX.go ?_
    refine AW.region ?_
    refine st (OpT.add (H rfl) (T1 rfl) (I rfl) (nw (by omega))) rfl ?_
    refine st (mvT rfl) rfl ?_
    refine nn ?_
    exact AX.again (z + 1) (by omega) (by omega) (Kc 0 _ (Kv rfl rfl) <| Kc 7 _ (Ko rfl rfl) <| Kc 8 _ (Ko rfl (by first | exact (sel_yes hp).symm | exact (sel_no hp).symm)) <| Kc 26 _ (Kv rfl rfl) <| Kc 27 _ (Kv rfl rfl) <| Kc 28 _ (Kv rfl (by omega)) <| Kn)
  ·
   obtain ⟨hc2, hc2'⟩ := pF hc2
   refine AW.exit ?_
   refine xT <| xT <| AX.exit_hit ?_
   refine AX.go ?_
   refine sr ?_
   refine st (OpT.alias (H rfl) (by decide) (by decide)) rfl ?_
   refine sg (OpT.take (.inl rfl) rfl (ok' rfl) (Root.ali rfl (by decide) (by decide)) rfl rfl (by decide)) (ko 4 rfl <| kc2 29 0 rfl <| ko 7 rfl <| kc3 26 27 28 rfl <| Kn) rfl ?_
   refine st (asI rfl) rfl ?_
   refine ng ?_
   refine AW.ret ?_
   exact AX.rt (rs := [.tmp 4, .tmp 5]) (ts := [some 4, some 5]) (.inl rfl) rfl (ROs.cons (RO.tmp (At.self (by decide)) (Ko rfl (by rw [show z = list.length by omega]; exact exp_same hC.1 hC.2)) rfl) <| ROs.cons (RO.tmp (At.self (by decide)) (Kv rfl rfl) rfl) <| ROs.nil) (by decide) OutsOK.nil
theorem c_impl_ExpandEntry (list : List DEnt) (i : Int) (hC : catI list ∧ 0 ≤ i ∧ i < list.length) : AC Tryd.prog 10 [.cel (Kd.slice kEnt) list, .cel (Kd.int .i64) i] [.cel (Kd.slice (Kd.int .i64)) (expE list i), .cel (Kd.int .i64) (0 : Int)] [] := (c_impl_ExpandEntry_o list i hC).frz rfl

/-- impl.NarrowerOf -/
theorem c_impl_NarrowerOf_o (list : List DEnt) (i : Int) (hC : catI list ∧ 0 ≤ i ∧ i < list.length) : AC Tryd.prog 16 [.cel (Kd.slice kEnt) list, .cel (Kd.int .i64) i] [.own 2 (Kd.int .i64) (narP list i), .cel (Kd.int .i64) (0 : Int)] [] := by
 refine acI (N := 17) Tryd.func16 (Nat.le_of_ble_eq_true rfl) rfl fun w0 hd s0 ar => ?_
 refine AW.to (kc2 0 1 rfl <| Kn) ?_
 refine sr ?_
 refine st (nilO (E := 2) (Kd.int .i64) rfl (.inl rfl)) rfl ?_
 refine st (asI rfl) rfl ?_
 refine ng ?_
 refine AW.seq ?_
 refine sr ?_
 refine st (mvT rfl) rfl ?_
 refine st (mvT rfl) rfl ?_
 refine st (OpT.buildSlice (H rfl) el32 zr2 sz2 rfl (by decide) zk2 (by decide) (Built.cel (T1 rfl) rfl rfl (sub_arr (by decide) (0 : Int)) (Built.nil _))) rfl ?_
 refine st (cb1 (ms := [.flat, .bor 9]) (c_impl_checkEntries list [i] ⟨hC.1, fun j hj => by rw [List.mem_singleton.1 hj]; exact hC.2⟩) (H rfl) (Af (T1 rfl) rfl rfl <| Ab (Root.self (t := 9) (by decide)) rfl <| An) rfl (indC fun _ _ _ _ h => h)) rfl ?_
 refine st (asT rfl) rfl ?_
 refine ng ?_
 refine sr ?_
 refine st (mvT rfl) rfl ?_
 refine st (OpT.neq (H rfl) (T1 rfl) (I rfl)) rfl ?_
 refine ng ?_
 refine cd rfl (fun hc1 => ?_) fun hc1 => ?_
 ·
  obtain ⟨hc1, hc1'⟩ := pT hc1
  exact (show False from (by omega)).elim
 ·
  obtain ⟨hc1, hc1'⟩ := pF hc1
  refine AW.skip ?_
  refine AX.go ?_
  refine sr ?_
  refine st (mvT rfl) rfl ?_
  refine st (mvT rfl) rfl ?_
  refine st (OpT.c1 (ms := [.flat, .flat]) (c_impl_narrower_o list i hC) (H rfl) (Af (T1 rfl) rfl rfl <| Af (T1 rfl) rfl rfl <| An) rfl rfl) rfl ?_
  refine sg (OpT.take (.inl rfl) rfl (ok' rfl) (Root.self (by decide)) rfl rfl (by decide)) (ko 4 rfl <| kc4 15 14 12 11 rfl <| kc2 6 10 rfl <| ko 9 rfl <| kc4 8 7 5 0 rfl <| kc 1 rfl <| Kn) rfl ?_
  refine st (asI rfl) rfl ?_
  refine AWl.to (kc 5 rfl <| ko 4 rfl <| Kn) ?_
  refine ng ?_
  refine AW.ret ?_
  exact AX.rt (rs := [.tmp 4, .tmp 5]) (ts := [some 4, some 5]) (.inl rfl) rfl (ROs.cons (RO.tmp (At.self (by decide)) (Ko rfl rfl) rfl) <| ROs.cons (RO.tmp (At.self (by decide)) (Kv rfl rfl) rfl) <| ROs.nil) (by decide) OutsOK.nil
theorem c_impl_NarrowerOf (list : List DEnt) (i : Int) (hC : catI list ∧ 0 ≤ i ∧ i < list.length) : AC Tryd.prog 16 [.cel (Kd.slice kEnt) list, .cel (Kd.int .i64) i] [.cel (Kd.slice (Kd.int .i64)) (narP list i), .cel (Kd.int .i64) (0 : Int)] [] := (c_impl_NarrowerOf_o list i hC).frz rfl

/-- impl.SynonymsOf -/
theorem c_impl_SynonymsOf_o (list : List DEnt) (i : Int) (hC : catI list ∧ 0 ≤ i ∧ i < list.length) : AC Tryd.prog 17 [.cel (Kd.slice kEnt) list, .cel (Kd.int .i64) i] [.own 2 (Kd.int .i64) (synP list i), .cel (Kd.int .i64) (0 : Int)] [] := by
 refine acI (N := 37) Tryd.func17 (Nat.le_of_ble_eq_true rfl) rfl fun w0 hd s0 ar => ?_
 refine AW.to (kc2 0 1 rfl <| Kn) ?_
 have hnl := hC.1.len
 refine sr ?_
 refine st (nilO (E := 2) (Kd.int .i64) rfl (.inl rfl)) rfl ?_
 refine st (asI rfl) rfl ?_
 refine ng ?_
 refine AW.seq ?_
 refine sr ?_
 refine st (mvT rfl) rfl ?_
 refine st (mvT rfl) rfl ?_
 refine st (OpT.buildSlice (H rfl) el32 zr2 sz2 rfl (by decide) zk2 (by decide) (Built.cel (T1 rfl) rfl rfl (sub_arr (by decide) (0 : Int)) (Built.nil _))) rfl ?_
 refine st (cb1 (ms := [.flat, .bor 12]) (c_impl_checkEntries list [i] ⟨hC.1, fun j hj => by rw [List.mem_singleton.1 hj]; exact hC.2⟩) (H rfl) (Af (T1 rfl) rfl rfl <| Ab (Root.self (t := 12) (by decide)) rfl <| An) rfl (indC fun _ _ _ _ h => h)) rfl ?_
 refine st (asT rfl) rfl ?_
 refine ng ?_
 refine sr ?_
 refine st (mvT rfl) rfl ?_
 refine st (OpT.neq (H rfl) (T1 rfl) (I rfl)) rfl ?_
 refine ng ?_
 refine cd rfl (fun hc1 => ?_) fun hc1 => ?_
 ·
  obtain ⟨hc1, hc1'⟩ := pT hc1
  exact (show False from (by omega)).elim
 ·
  obtain ⟨hc1, hc1'⟩ := pF hc1
  refine AW.skip ?_
  refine AX.go ?_
  refine sr ?_
  refine st (OpT.buildSlice0 (m := 0) (z := .bool false) (Kd.int .i64) (H rfl) el32 sz2 (by decide)) rfl ?_
  refine sg (OpT.take (.inl rfl) rfl (ok' rfl) (Root.self (by decide)) rfl rfl (by decide)) (ko 7 rfl <| kc4 15 14 6 13 rfl <| ko 12 rfl <| kc3 11 10 5 rfl <| ko 4 rfl <| kc2 0 1 rfl <| Kn) rfl ?_
  refine ng ?_
  refine AW.seq ?_
  refine sr ?_
  refine st (mvT rfl) rfl ?_
  refine st (OpT.len (H rfl) (T1 rfl) el24) rfl ?_
  refine st (mvI rfl) rfl ?_
  refine ng ?_
  refine AW.block ?_
  refine AW.loop (fun z : Nat => z ≤ list.length) (fun z : Nat => keep [(0, .cel (Kd.slice kEnt) list), (1, .cel (Kd.int .i64) i), (7, .own 2 (Kd.int .i64) (selI z (synQ list i))), (18, .cel (Kd.slice kEnt) list), (19, .cel (Kd.int .i64) (list.length : Int)), (20, .cel (Kd.int .i64) (z : Int))]) (fun z : Nat => list.length - z) (0) (Nat.zero_le _) (Kc 0 _ (Kv rfl rfl) <| Kc 1 _ (Kv rfl rfl) <| Kc 7 _ (Ko rfl rfl) <| Kc 18 _ (Kv rfl rfl) <| Kc 19 _ (Kv rfl rfl) <| Kc 20 _ (Kv rfl rfl) <| Kn) ?_
  intro z hI
  refine sr ?_
  refine st (OpT.lss (H rfl) (T1 rfl) (T1 rfl)) rfl ?_
  refine ng ?_
  refine AW.seq ?_
  refine cd rfl (fun hc2 => ?_) fun hc2 => ?_
  ·
   obtain ⟨hc2, hc2'⟩ := pT hc2
   have hzl : z < list.length := by omega
   refine AW.skip ?_
   refine AX.go ?_
   refine AW.seq ?_
   refine AW.block ?_
   refine sr ?_
   refine st (mvT rfl) rfl ?_
   refine st (OpT.indexAddr (H rfl) (T1 rfl) (T1 rfl) el24 sz38 (by omega) (eAt_get (i := (z : Int)) (by omega))) rfl ?_
   refine st (OpT.loadA (H rfl) (T1 rfl) ag38 sz38) rfl ?_
   refine st (OpT.alloc (H rfl) zr38 zk38) rfl ?_
   refine st (asT rfl) rfl ?_
   refine sk (OpT.storeBA rfl rfl (Opd.whole (Root.self (t := 9) (by decide)) rfl) rfl sz38 (by decide) (T1 rfl)) rfl ?_
   refine AWl.to (kb 9 rfl <| kc 8 rfl <| ka 24 rfl <| kc4 23 22 21 0 rfl <| kc 1 rfl <| ko 7 rfl <| kc3 18 19 20 rfl <| Kn) ?_
   refine ng ?_
   refine AW.seq ?_
   refine dh fomo ?_
   refine d1 [9] (fun ve h => OpT.fieldAddrB (H rfl) (Root.self (t := 9) (by decide)) ((h _ (List.elem_iff.1 rfl)).trans rfl) (by decide) fd38_1 sz2 (by decide) sb38_1) rfl ?_
   refine d1 [9, 25] (fun ve h => OpT.loadP (H rfl) (D1 h rfl) (.inl ⟨_, ((h _ (List.elem_iff.1 rfl)).trans rfl), rfl⟩) ag2 rfl) rfl ?_
   refine d1 [0] (fun ve h => OpT.move (A := .cel _ _) (.inl rfl) rfl (ok' rfl) (D1 h rfl) rfl) rfl ?_
   refine d1 [1] (fun ve h => OpT.move (A := .cel _ _) (.inl rfl) rfl (ok' rfl) (D1 h rfl) rfl) rfl ?_
   refine d1 [27, 28] (fun ve h => OpT.c1 (ms := [.flat, .flat]) (c_impl_preferred list i hC.2) (H rfl) (Af (D1 h rfl) rfl rfl <| Af (D1 h rfl) rfl rfl <| An) rfl rfl) rfl ?_
   refine d1 [26, 29] (fun ve h => OpT.eql (H rfl) (D1 h rfl) (D1 h rfl)) rfl ?_
   refine dn ⟨by kernel_rfl, by kernel_rfl, ?_⟩
   refine AX.go ?_
   refine cd rfl (fun hc3 => ?_) fun hc3 => ?_
   ·
    obtain ⟨hc3, hc3'⟩ := pT hc3
    have hp : synQ list i (z : Int) = true := by simpa [synQ] using hc3
    refine AW.region ?_
    refine st (OpT.alias (H rfl) (by decide) (by decide)) rfl ?_
    refine st (mvT rfl) rfl ?_
    refine st (OpT.buildSlice (H rfl) el32 zr2 sz2 rfl (by decide) zk2 (by decide) (Built.cel (T1 rfl) rfl rfl (sub_arr (by decide) (0 : Int)) (Built.nil _))) rfl ?_
    refine sg (OpT.append (H rfl) (Root.ali rfl (by decide) (by decide)) rfl (Src.own (Root.self (t := 33) (by decide)) rfl) (by decide) el32 zr2 rfl sz2 by2 (by decide) (by have h70 := sel_len z (synQ list i); simp only [List.length_cons, List.length_nil, List.length_set, List.length_replicate]; omega)) (ko 34 rfl <| ko 33 rfl <| kc4 32 30 29 28 rfl <| kc2 27 26 rfl <| Kc 25 (.pel _ _ _ _ _ _ _) rfl <| kb 9 rfl <| kc 8 rfl <| ka 24 rfl <| kc4 23 22 21 0 rfl <| kc4 1 18 19 20 rfl <| Kn) rfl ?_
    refine sg (OpT.take (.inl rfl) rfl (ok' rfl) (Root.self (by decide)) rfl rfl (by decide)) (ko 7 rfl <| ko 33 rfl <| kc4 32 30 29 28 rfl <| kc2 27 26 rfl <| Kc 25 (.pel _ _ _ _ _ _ _) rfl <| kb 9 rfl <| kc 8 rfl <| ka 24 rfl <| kc4 23 22 21 0 rfl <| kc4 1 18 19 20 rfl <| Kn) rfl ?_
    refine nn ?_
    refine AX.normal_block ?_
    refine AX.go ?_
    refine AW.region ?_
    refine st (OpT.add (H rfl) (T1 rfl) (I rfl) (nw (by omega))) rfl ?_
    refine st (mvT rfl) rfl ?_
    refine nn ?_
    exact AX.again (z + 1) (by omega) (by omega) (Kc 0 _ (Kv rfl rfl) <| Kc 1 _ (Kv rfl rfl) <| Kc 7 _ (Ko rfl (by first | exact (sel_yes hp).symm | exact (sel_no hp).symm)) <| Kc 18 _ (Kv rfl rfl) <| Kc 19 _ (Kv rfl rfl) <| Kc 20 _ (Kv rfl (by omega)) <| Kn)
   ·
    obtain ⟨hc3, hc3'⟩ := pF hc3
    have hp : synQ list i (z : Int) = false := by simpa [synQ] using hc3
    refine AW.skip ?_
    refine AX.normal_block ?_
    refine AX.go ?_
    refine AW.region ?_
    refine st (OpT.add (H rfl) (T1 rfl) (I rfl) (nw (by omega))) rfl ?_
    refine st (mvT rfl) rfl ?_
    refine nn ?_
    exact AX.again (z + 1) (by omega) (by omega) (Kc 0 _ (Kv rfl rfl) <| Kc 1 _ (Kv rfl rfl) <| Kc 7 _ (Ko rfl (by first | exact (sel_yes hp).symm | exact (sel_no hp).symm)) <| Kc 18 _ (Kv rfl rfl) <| Kc 19 _ (Kv rfl rfl) <| Kc 20 _ (Kv rfl (by omega)) <| Kn)
  ·
   obtain ⟨hc2, hc2'⟩ := pF hc2
   refine AW.exit ?_
   refine xT <| xT <| AX.exit_hit ?_
   refine AX.go ?_
   refine sr ?_
   refine st (OpT.alias (H rfl) (by decide) (by decide)) rfl ?_
   refine sg (OpT.take (.inl rfl) rfl (ok' rfl) (Root.ali rfl (by decide) (by decide)) rfl rfl (by decide)) (ko 4 rfl <| kc4 21 0 1 18 rfl <| kc2 19 20 rfl <| Kn) rfl ?_
   refine st (asI rfl) rfl ?_
   refine ng ?_
   refine AW.ret ?_
   exact AX.rt (rs := [.tmp 4, .tmp 5]) (ts := [some 4, some 5]) (.inl rfl) rfl (ROs.cons (RO.tmp (At.self (by decide)) (Ko rfl (by rw [show z = list.length by omega]; rfl)) rfl) <| ROs.cons (RO.tmp (At.self (by decide)) (Kv rfl rfl) rfl) <| ROs.nil) (by decide) OutsOK.nil
theorem c_impl_SynonymsOf (list : List DEnt) (i : Int) (hC : catI list ∧ 0 ≤ i ∧ i < list.length) : AC Tryd.prog 17 [.cel (Kd.slice kEnt) list, .cel (Kd.int .i64) i] [.cel (Kd.slice (Kd.int .i64)) (synP list i), .cel (Kd.int .i64) (0 : Int)] [] := (c_impl_SynonymsOf_o list i hC).frz rfl

/-- impl.TopsOf -/
theorem c_impl_TopsOf_o (list : List DEnt) (hC : catI list) : AC Tryd.prog 18 [.cel (Kd.slice kEnt) list] [.own 2 (Kd.int .i64) (topP list), .cel (Kd.int .i64) (0 : Int)] [] := by
 refine acI (N := 32) Tryd.func18 (Nat.le_of_ble_eq_true rfl) rfl fun w0 hd s0 ar => ?_
 refine AW.to (kc 0 rfl <| Kn) ?_
 have hnl := hC.len
 refine sr ?_
 refine st (nilO (E := 2) (Kd.int .i64) rfl (.inl rfl)) rfl ?_
 refine st (asI rfl) rfl ?_
 refine ng ?_
 refine AW.seq ?_
 refine sr ?_
 refine st (mvT rfl) rfl ?_
 refine st (OpT.c1 (ms := [.flat]) (c_impl_isCatalogue list hC) (H rfl) (Af (T1 rfl) rfl rfl <| An) rfl rfl) rfl ?_
 refine st (OpT.not (H rfl) (T1 rfl)) rfl ?_
 refine ng ?_
 refine cd rfl (fun hc1 => ?_) fun hc1 => ?_
 ·
  obtain ⟨hc1, hc1'⟩ := pT hc1
  exact (show False from (by simp at hc1)).elim
 ·
  obtain ⟨hc1, hc1'⟩ := pF hc1
  refine AW.skip ?_
  refine AX.go ?_
  refine sr ?_
  refine st (OpT.buildSlice0 (m := 0) (z := .bool false) (Kd.int .i64) (H rfl) el32 sz2 (by decide)) rfl ?_
  refine sg (OpT.take (.inl rfl) rfl (ok' rfl) (Root.self (by decide)) rfl rfl (by decide)) (ko 4 rfl <| kc4 9 8 7 3 rfl <| ko 2 rfl <| kc 0 rfl <| Kn) rfl ?_
  refine ng ?_
  refine AW.seq ?_
  refine sr ?_
  refine st (mvT rfl) rfl ?_
  refine st (OpT.len (H rfl) (T1 rfl) el24) rfl ?_
  refine st (mvI rfl) rfl ?_
  refine ng ?_
  refine AW.block ?_
  refine AW.loop (fun z : Nat => z ≤ list.length) (fun z : Nat => keep [(4, .own 2 (Kd.int .i64) (selI z (topQ list))), (11, .cel (Kd.slice kEnt) list), (12, .cel (Kd.int .i64) (list.length : Int)), (13, .cel (Kd.int .i64) (z : Int))]) (fun z : Nat => list.length - z) (0) (Nat.zero_le _) (Kc 4 _ (Ko rfl rfl) <| Kc 11 _ (Kv rfl rfl) <| Kc 12 _ (Kv rfl rfl) <| Kc 13 _ (Kv rfl rfl) <| Kn) ?_
  intro z hI
  refine sr ?_
  refine st (OpT.lss (H rfl) (T1 rfl) (T1 rfl)) rfl ?_
  refine ng ?_
  refine AW.seq ?_
  refine cd rfl (fun hc2 => ?_) fun hc2 => ?_
  ·
   obtain ⟨hc2, hc2'⟩ := pT hc2
   have hzl : z < list.length := by omega
   refine AW.skip ?_
   refine AX.go ?_
   refine AW.seq ?_
   refine AW.block ?_
   refine sr ?_
   refine st (mvT rfl) rfl ?_
   refine st (OpT.indexAddr (H rfl) (T1 rfl) (T1 rfl) el24 sz38 (by omega) (eAt_get (i := (z : Int)) (by omega))) rfl ?_
   refine st (OpT.loadA (H rfl) (T1 rfl) ag38 sz38) rfl ?_
   refine st (OpT.alloc (H rfl) zr38 zk38) rfl ?_
   refine st (asT rfl) rfl ?_
   refine sk (OpT.storeBA rfl rfl (Opd.whole (Root.self (t := 6) (by decide)) rfl) rfl sz38 (by decide) (T1 rfl)) rfl ?_
   refine ng ?_
   refine sr ?_
   refine st (OpT.fieldAddrB (H rfl) (Root.self (t := 6) (by decide)) rfl (by decide) fd38_1 sz2 (by decide) sb38_1) rfl ?_
   refine st (OpT.loadP (H rfl) (T1 rfl) (.inl ⟨_, rfl, rfl⟩) ag2 rfl) rfl ?_
   refine st (OpT.eql (H rfl) (T1 rfl) (I rfl)) rfl ?_
   refine st (mvT rfl) rfl ?_
   apply AWl.and (d := 25) (t := 21) rfl
   ·
    intro hb1 Q1 k1
    have hb1' := lT hb1
    refine rs hb1 (OpT.fieldAddrB (H rfl) (Root.self (t := 6) (by decide)) rfl (by decide) fd38_2 sz2 (by decide) sb38_2) rfl ?_
    refine rs hb1 (OpT.loadP (H rfl) (T1 rfl) (.inl ⟨_, rfl, rfl⟩) ag2 rfl) rfl ?_
    refine rs hb1 (OpT.eql (H rfl) (T1 rfl) (I rfl)) rfl ?_
    refine st (OpT.pickT (A := .cel _ _) (H rfl) (T1 rfl) hb1 (T1 rfl) rfl) rfl ?_
    exact AWl.to (junk 3 rfl) k1
   ·
    intro hb1 Q1 k1
    refine ps hb1 rfl ?_
    refine ps hb1 rfl ?_
    refine ps hb1 rfl ?_
    refine st (OpT.pickF (A := .cel _ _) (H rfl) (T1 rfl) hb1 Opd.bool rfl) rfl ?_
    exact k1
   refine ng ?_
   refine cd rfl (fun hc3 => ?_) fun hc3 => ?_
   ·
    obtain ⟨hc3, hc3'⟩ := pT hc3
    have hp : topQ list (z : Int) = true := hc3
    refine AW.region ?_
    refine st (OpT.alias (H rfl) (by decide) (by decide)) rfl ?_
    refine st (mvT rfl) rfl ?_
    refine st (OpT.buildSlice (H rfl) el32 zr2 sz2 rfl (by decide) zk2 (by decide) (Built.cel (T1 rfl) rfl rfl (sub_arr (by decide) (0 : Int)) (Built.nil _))) rfl ?_
    refine sg (OpT.append (H rfl) (Root.ali rfl (by decide) (by decide)) rfl (Src.own (Root.self (t := 28) (by decide)) rfl) (by decide) el32 zr2 rfl sz2 by2 (by decide) (by have h70 := sel_len z (topQ list); simp only [List.length_cons, List.length_nil, List.length_set, List.length_replicate]; omega)) (ko 29 rfl <| ko 28 rfl <| kc4 27 25 21 20 rfl <| kc 19 rfl <| Kc 18 (.pel _ _ _ _ _ _ _) rfl <| kb 6 rfl <| kc 5 rfl <| ka 17 rfl <| kc4 16 15 14 11 rfl <| kc2 12 13 rfl <| Kn) rfl ?_
    refine sg (OpT.take (.inl rfl) rfl (ok' rfl) (Root.self (by decide)) rfl rfl (by decide)) (ko 4 rfl <| ko 28 rfl <| kc4 27 25 21 20 rfl <| kc 19 rfl <| Kc 18 (.pel _ _ _ _ _ _ _) rfl <| kb 6 rfl <| kc 5 rfl <| ka 17 rfl <| kc4 16 15 14 11 rfl <| kc2 12 13 rfl <| Kn) rfl ?_
    refine nn ?_
    refine AX.normal_block ?_
    refine AX.go ?_
    refine AW.region ?_
    refine st (OpT.add (H rfl) (T1 rfl) (I rfl) (nw (by omega))) rfl ?_
    refine st (mvT rfl) rfl ?_
    refine nn ?_
    exact AX.again (z + 1) (by omega) (by omega) (Kc 4 _ (Ko rfl (by first | exact (sel_yes hp).symm | exact (sel_no hp).symm)) <| Kc 11 _ (Kv rfl rfl) <| Kc 12 _ (Kv rfl rfl) <| Kc 13 _ (Kv rfl (by omega)) <| Kn)
   ·
    obtain ⟨hc3, hc3'⟩ := pF hc3
    have hp : topQ list (z : Int) = false := hc3
    refine AW.skip ?_
    refine AX.normal_block ?_
    refine AX.go ?_
    refine AW.region ?_
    refine st (OpT.add (H rfl) (T1 rfl) (I rfl) (nw (by omega))) rfl ?_
    refine st (mvT rfl) rfl ?_
    refine nn ?_
    exact AX.again (z + 1) (by omega) (by omega) (Kc 4 _ (Ko rfl (by first | exact (sel_yes hp).symm | exact (sel_no hp).symm)) <| Kc 11 _ (Kv rfl rfl) <| Kc 12 _ (Kv rfl rfl) <| Kc 13 _ (Kv rfl (by omega)) <| Kn)
  ·
   obtain ⟨hc2, hc2'⟩ := pF hc2
   refine AW.exit ?_
   refine xT <| xT <| AX.exit_hit ?_
   refine AX.go ?_
   refine sr ?_
   refine st (OpT.alias (H rfl) (by decide) (by decide)) rfl ?_
   refine sg (OpT.take (.inl rfl) rfl (ok' rfl) (Root.ali rfl (by decide) (by decide)) rfl rfl (by decide)) (ko 2 rfl <| kc4 14 11 12 13 rfl <| Kn) rfl ?_
   refine st (asI rfl) rfl ?_
   refine ng ?_
   refine AW.ret ?_
   exact AX.rt (rs := [.tmp 2, .tmp 3]) (ts := [some 2, some 3]) (.inl rfl) rfl (ROs.cons (RO.tmp (At.self (by decide)) (Ko rfl (by rw [show z = list.length by omega]; rfl)) rfl) <| ROs.cons (RO.tmp (At.self (by decide)) (Kv rfl rfl) rfl) <| ROs.nil) (by decide) OutsOK.nil
theorem c_impl_TopsOf (list : List DEnt) (hC : catI list) : AC Tryd.prog 18 [.cel (Kd.slice kEnt) list] [.cel (Kd.slice (Kd.int .i64)) (topP list), .cel (Kd.int .i64) (0 : Int)] [] := (c_impl_TopsOf_o list hC).frz rfl

/-- impl.PathUp -/
theorem c_impl_PathUp_o (list : List DEnt) (i : Int) (hC : catI list ∧ 0 ≤ i ∧ i < list.length) : AC Tryd.prog 19 [.cel (Kd.slice kEnt) list, .cel (Kd.int .i64) i] [.own 2 (Kd.int .i64) (pthE list i), .cel (Kd.int .i64) (0 : Int)] [] := by
 refine acI (N := 17) Tryd.func19 (Nat.le_of_ble_eq_true rfl) rfl fun w0 hd s0 ar => ?_
 refine AW.to (kc2 0 1 rfl <| Kn) ?_
 refine sr ?_
 refine st (nilO (E := 2) (Kd.int .i64) rfl (.inl rfl)) rfl ?_
 refine st (asI rfl) rfl ?_
 refine ng ?_
 refine AW.seq ?_
 refine sr ?_
 refine st (mvT rfl) rfl ?_
 refine st (mvT rfl) rfl ?_
 refine st (OpT.buildSlice (H rfl) el32 zr2 sz2 rfl (by decide) zk2 (by decide) (Built.cel (T1 rfl) rfl rfl (sub_arr (by decide) (0 : Int)) (Built.nil _))) rfl ?_
 refine st (cb1 (ms := [.flat, .bor 9]) (c_impl_checkEntries list [i] ⟨hC.1, fun j hj => by rw [List.mem_singleton.1 hj]; exact hC.2⟩) (H rfl) (Af (T1 rfl) rfl rfl <| Ab (Root.self (t := 9) (by decide)) rfl <| An) rfl (indC fun _ _ _ _ h => h)) rfl ?_
 refine st (asT rfl) rfl ?_
 refine ng ?_
 refine sr ?_
 refine st (mvT rfl) rfl ?_
 refine st (OpT.neq (H rfl) (T1 rfl) (I rfl)) rfl ?_
 refine ng ?_
 refine cd rfl (fun hc1 => ?_) fun hc1 => ?_
 ·
  obtain ⟨hc1, hc1'⟩ := pT hc1
  exact (show False from (by omega)).elim
 ·
  obtain ⟨hc1, hc1'⟩ := pF hc1
  refine AW.skip ?_
  refine AX.go ?_
  refine sr ?_
  refine st (mvT rfl) rfl ?_
  refine st (mvT rfl) rfl ?_
  refine st (OpT.c1 (ms := [.flat, .flat]) (c_impl_pathUp_o list i hC) (H rfl) (Af (T1 rfl) rfl rfl <| Af (T1 rfl) rfl rfl <| An) rfl rfl) rfl ?_
  refine sg (OpT.take (.inl rfl) rfl (ok' rfl) (Root.self (by decide)) rfl rfl (by decide)) (ko 4 rfl <| kc4 15 14 12 11 rfl <| kc2 6 10 rfl <| ko 9 rfl <| kc4 8 7 5 0 rfl <| kc 1 rfl <| Kn) rfl ?_
  refine st (asI rfl) rfl ?_
  refine AWl.to (kc 5 rfl <| ko 4 rfl <| Kn) ?_
  refine ng ?_
  refine AW.ret ?_
  exact AX.rt (rs := [.tmp 4, .tmp 5]) (ts := [some 4, some 5]) (.inl rfl) rfl (ROs.cons (RO.tmp (At.self (by decide)) (Ko rfl rfl) rfl) <| ROs.cons (RO.tmp (At.self (by decide)) (Kv rfl rfl) rfl) <| ROs.nil) (by decide) OutsOK.nil
theorem c_impl_PathUp (list : List DEnt) (i : Int) (hC : catI list ∧ 0 ≤ i ∧ i < list.length) : AC Tryd.prog 19 [.cel (Kd.slice kEnt) list, .cel (Kd.int .i64) i] [.cel (Kd.slice (Kd.int .i64)) (pthE list i), .cel (Kd.int .i64) (0 : Int)] [] := (c_impl_PathUp_o list i hC).frz rfl

/-- impl.PreferredOf -/
theorem c_impl_PreferredOf (list : List DEnt) (i : Int) (hC : catI list ∧ 0 ≤ i ∧ i < list.length) : AC Tryd.prog 9 [.cel (Kd.slice kEnt) list, .cel (Kd.int .i64) i] [.cel (Kd.int .i64) (preI list i), .cel (Kd.int .i64) (0 : Int)] [] := by
 refine acI (N := 17) Tryd.func9 (Nat.le_of_ble_eq_true rfl) rfl fun w0 hd s0 ar => ?_
 refine AW.to (kc2 0 1 rfl <| Kn) ?_
 refine sr ?_
 refine st (asI rfl) rfl ?_
 refine st (asI rfl) rfl ?_
 refine ng ?_
 refine AW.seq ?_
 refine sr ?_
 refine st (mvT rfl) rfl ?_
 refine st (mvT rfl) rfl ?_
 refine st (OpT.buildSlice (H rfl) el32 zr2 sz2 rfl (by decide) zk2 (by decide) (Built.cel (T1 rfl) rfl rfl (sub_arr (by decide) (0 : Int)) (Built.nil _))) rfl ?_
 refine st (cb1 (ms := [.flat, .bor 9]) (c_impl_checkEntries list [i] ⟨hC.1, fun j hj => by rw [List.mem_singleton.1 hj]; exact hC.2⟩) (H rfl) (Af (T1 rfl) rfl rfl <| Ab (Root.self (t := 9) (by decide)) rfl <| An) rfl (indC fun _ _ _ _ h => h)) rfl ?_
 refine st (asT rfl) rfl ?_
 refine ng ?_
 refine sr ?_
 refine st (mvT rfl) rfl ?_
 refine st (OpT.neq (H rfl) (T1 rfl) (I rfl)) rfl ?_
 refine ng ?_
 refine cd rfl (fun hc1 => ?_) fun hc1 => ?_
 ·
  obtain ⟨hc1, hc1'⟩ := pT hc1
  exact (show False from (by omega)).elim
 ·
  obtain ⟨hc1, hc1'⟩ := pF hc1
  refine AW.skip ?_
  refine AX.go ?_
  refine sr ?_
  refine st (mvT rfl) rfl ?_
  refine st (mvT rfl) rfl ?_
  refine st (OpT.c1 (ms := [.flat, .flat]) (c_impl_preferred list i hC.2) (H rfl) (Af (T1 rfl) rfl rfl <| Af (T1 rfl) rfl rfl <| An) rfl rfl) rfl ?_
  refine st (asT rfl) rfl ?_
  refine st (asI rfl) rfl ?_
  refine AWl.to (kc2 5 4 rfl <| Kn) ?_
  refine ng ?_
  refine AW.ret ?_
  exact rt2 rfl (.inl rfl) rfl rfl

/-- impl.CommonBroader -/
theorem c_impl_CommonBroader (list : List DEnt) (i k : Int) (hC : catI list ∧ (0 ≤ i ∧ i < list.length) ∧ (0 ≤ k ∧ k < list.length)) : AC Tryd.prog 21 [.cel (Kd.slice kEnt) list, .cel (Kd.int .i64) i, .cel (Kd.int .i64) k] [.cel (Kd.int .i64) (comL (pthE list i) (pthE list k)).1, .cel (Kd.int .i64) (comL (pthE list i) (pthE list k)).2] [] := by
 refine acI (N := 36) Tryd.func21 (Nat.le_of_ble_eq_true rfl) rfl fun w0 hd s0 ar => ?_
 refine AW.to (kc3 0 1 2 rfl <| Kn) ?_
 have hpl := pthE_len hC.1 hC.2.1
 refine sr ?_
 refine st (asI rfl) rfl ?_
 refine st (asI rfl) rfl ?_
 refine ng ?_
 refine AW.seq ?_
 refine sr ?_
 refine st (mvT rfl) rfl ?_
 refine st (mvT rfl) rfl ?_
 refine st (mvT rfl) rfl ?_
 refine st (OpT.buildSlice (H rfl) el32 zr2 sz2 rfl (by decide) zk2 (by decide) (Built.cel (T1 rfl) rfl rfl (sub_arr (by decide) (0 : Int)) (Built.cel (T1 rfl) rfl rfl (sub_arr (by decide) (0 : Int)) (Built.nil _)))) rfl ?_
 refine st (cb1 (ms := [.flat, .bor 15]) (c_impl_checkEntries list [i, k] ⟨hC.1, fun j hj => by simp at hj; rcases hj with rfl | rfl; exact hC.2.1; exact hC.2.2⟩) (H rfl) (Af (T1 rfl) rfl rfl <| Ab (Root.self (t := 15) (by decide)) rfl <| An) rfl (indC fun _ _ _ _ h => h)) rfl ?_
 refine st (asT rfl) rfl ?_
 refine ng ?_
 refine sr ?_
 refine st (mvT rfl) rfl ?_
 refine st (OpT.neq (H rfl) (T1 rfl) (I rfl)) rfl ?_
 refine ng ?_
 refine cd rfl (fun hc1 => ?_) fun hc1 => ?_
 ·
  obtain ⟨hc1, hc1'⟩ := pT hc1
  exact (show False from (by omega)).elim
 ·
  obtain ⟨hc1, hc1'⟩ := pF hc1
  refine AW.skip ?_
  refine AX.go ?_
  refine sr ?_
  refine st (mvT rfl) rfl ?_
  refine st (mvT rfl) rfl ?_
  refine st (OpT.c1 (ms := [.flat, .flat]) (c_impl_pathUp list k ⟨hC.1, hC.2.2⟩) (H rfl) (Af (T1 rfl) rfl rfl <| Af (T1 rfl) rfl rfl <| An) rfl rfl) rfl ?_
  refine st (asT rfl) rfl ?_
  refine AWl.to (kc4 9 7 6 0 rfl <| kc 1 rfl <| Kn) ?_
  refine ng ?_
  refine AW.seq ?_
  refine sr ?_
  refine st (mvT rfl) rfl ?_
  refine st (mvT rfl) rfl ?_
  refine st (OpT.c1 (ms := [.flat, .flat]) (c_impl_pathUp list i ⟨hC.1, hC.2.1⟩) (H rfl) (Af (T1 rfl) rfl rfl <| Af (T1 rfl) rfl rfl <| An) rfl rfl) rfl ?_
  refine st (OpT.len (H rfl) (T1 rfl) el32) rfl ?_
  refine st (mvI rfl) rfl ?_
  refine ng ?_
  refine AW.block ?_
  refine AW.loop (fun z : Nat => z ≤ (pthE list i).length ∧ ∀ j y, j < z → (pthE list i)[j]? = some y → hasV y (pthE list k) = false) (fun z : Nat => keep [(9, .cel (Kd.slice (Kd.int .i64)) (pthE list k)), (25, .cel (Kd.slice (Kd.int .i64)) (pthE list i)), (26, .cel (Kd.int .i64) ((pthE list i).length : Int)), (27, .cel (Kd.int .i64) (z : Int))]) (fun z : Nat => (pthE list i).length - z) (0) ⟨Nat.zero_le _, fun j y h => absurd h (Nat.not_lt_zero j)⟩ (Kc 9 _ (Kv rfl rfl) <| Kc 25 _ (Kv rfl rfl) <| Kc 26 _ (Kv rfl rfl) <| Kc 27 _ (Kv rfl rfl) <| Kn) ?_
  intro z hI
  refine sr ?_
  refine st (OpT.lss (H rfl) (T1 rfl) (T1 rfl)) rfl ?_
  refine ng ?_
  refine AW.seq ?_
  refine cd rfl (fun hc2 => ?_) fun hc2 => ?_
  ·
   obtain ⟨hc2, hc2'⟩ := pT hc2
   obtain ⟨x, hx⟩ := getI (x := pthE list i) (z := z) (by omega)
   refine AW.skip ?_
   refine AX.go ?_
   refine AW.seq ?_
   refine AW.block ?_
   refine sr ?_
   refine st (OpT.indexAddr (H rfl) (T1 rfl) (T1 rfl) el32 sz2 (by omega) hx) rfl ?_
   refine st (OpT.load (H rfl) (T1 rfl) ag2 rfl) rfl ?_
   refine st (asT rfl) rfl ?_
   refine ng ?_
   refine sr ?_
   refine st (mvT rfl) rfl ?_
   refine st (mvT rfl) rfl ?_
   refine st (OpT.c1 (ms := [.flat, .flat]) (c_slices_Contains_int64_int64 _ _) (H rfl) (Af (T1 rfl) rfl rfl <| Af (T1 rfl) rfl rfl <| An) rfl rfl) rfl ?_
   refine ng ?_
   refine cd rfl (fun hc3 => ?_) fun hc3 => ?_
   ·
    obtain ⟨hc3, hc3'⟩ := pT hc3
    have hh := hc3
    refine sr ?_
    refine st (mvT rfl) rfl ?_
    refine st (asT rfl) rfl ?_
    refine st (asI rfl) rfl ?_
    refine ng ?_
    refine AW.ret ?_
    refine rK <| rT <| rT <| rK <| rT ?_
    exact rt2 rfl (.inl rfl) (by first | (rw [com_at hx hI.2 hh]; done) | (rw [com_no hI.2 (by omega)]; done)) (by first | (rw [com_at hx hI.2 hh]; done) | (rw [com_no hI.2 (by omega)]; done))
   ·
    obtain ⟨hc3, hc3'⟩ := pF hc3
    have hh := hc3
    refine AW.skip ?_
    refine AX.normal_block ?_
    refine AX.go ?_
    refine AW.region ?_
    refine st (OpT.add (H rfl) (T1 rfl) (I rfl) (nw (by omega))) rfl ?_
    refine st (mvT rfl) rfl ?_
    refine nn ?_
    exact AX.again (z + 1) ⟨by omega, com_step hx hI.2 hh⟩ (by omega) (Kc 9 _ (Kv rfl rfl) <| Kc 25 _ (Kv rfl rfl) <| Kc 26 _ (Kv rfl rfl) <| Kc 27 _ (Kv rfl (by omega)) <| Kn)
  ·
   obtain ⟨hc2, hc2'⟩ := pF hc2
   refine AW.exit ?_
   refine xT <| xT <| AX.exit_hit ?_
   refine AX.go ?_
   refine sr ?_
   refine st (asI rfl) rfl ?_
   refine st (asI rfl) rfl ?_
   refine ng ?_
   refine AW.ret ?_
   exact rt2 rfl (.inl rfl) (by first | (rw [com_at hx hI.2 hh]; done) | (rw [com_no hI.2 (by omega)]; done)) (by first | (rw [com_at hx hI.2 hh]; done) | (rw [com_no hI.2 (by omega)]; done))

/-- impl.ValidCatalogue -/
theorem c_impl_ValidCatalogue (list : List DEnt) (hC : catI list) : AC Tryd.prog 14 [.cel (Kd.slice kEnt) list] [.cel Kd.bool true] [] := by
 refine acI (N := 5) Tryd.func14 (Nat.le_of_ble_eq_true rfl) rfl fun w0 hd s0 ar => ?_
 refine AW.to (kc 0 rfl <| Kn) ?_
 refine sr ?_
 refine st (asB rfl) rfl ?_
 refine ng ?_
 refine sr ?_
 refine st (mvT rfl) rfl ?_
 refine st (OpT.c1 (ms := [.flat]) (c_impl_isCatalogue list hC) (H rfl) (Af (T1 rfl) rfl rfl <| An) rfl rfl) rfl ?_
 refine st (asT rfl) rfl ?_
 refine ng ?_
 refine AW.ret ?_
 exact rt1 rfl (.inl rfl) rfl

/-- impl.FindEntry -/
theorem c_impl_FindEntry (list : List DEnt) (i : Int) (hC : catI list ∧ 0 ≤ i ∧ i < list.length) : AC Tryd.prog 23 [.cel (Kd.slice kEnt) list, .cel Kd.str (nmE list i)] [.cel (Kd.int .i64) i, .cel (Kd.int .i64) (0 : Int)] [] := by
 refine acI (N := 16) Tryd.func23 (Nat.le_of_ble_eq_true rfl) rfl fun w0 hd s0 ar => ?_
 refine AW.to (kc2 0 1 rfl <| Kn) ?_
 have hfi : idxQ (fun y : ByteArray × Int × Int => eqv y.1 (nmE list i)) list = i := fnd_at hC.1 hC.2
 refine sr ?_
 refine st (OpT.frz (OpT.box (E := 9) (H rfl) (T1 rfl))) rfl ?_
 refine st (asI rfl) rfl ?_
 refine st (asI rfl) rfl ?_
 refine ng ?_
 refine AW.seq ?_
 refine sr ?_
 refine st (mvT rfl) rfl ?_
 refine st (OpT.c1 (ms := [.flat]) (c_impl_isCatalogue list hC.1) (H rfl) (Af (T1 rfl) rfl rfl <| An) rfl rfl) rfl ?_
 refine st (OpT.not (H rfl) (T1 rfl)) rfl ?_
 refine ng ?_
 refine cd rfl (fun hc1 => ?_) fun hc1 => ?_
 ·
  obtain ⟨hc1, hc1'⟩ := pT hc1
  exact (show False from (by simp at hc1)).elim
 ·
  obtain ⟨hc1, hc1'⟩ := pF hc1
  refine AW.skip ?_
  refine AX.go ?_
  refine sr ?_
  refine st (mvT rfl) rfl ?_
  refine st (OpT.mkF1 (H rfl) (T1 rfl)) rfl ?_
  refine st (OpT.c1 (ms := [.flat, .flat]) (c_slices_IndexFunc_impl_Entry_impl_Entry (fun y => eqv y.1 (nmE list i)) (CloArgs.ptr _ _) (fun y => c_impl_FindEntry_1 y (nmE list i)) _) (H rfl) (Af (T1 rfl) rfl rfl <| Af (T1 rfl) rfl rfl <| An) rfl rfl) rfl ?_
  refine st (asT rfl) rfl ?_
  refine ng ?_
  refine AW.seq ?_
  refine sr ?_
  refine st (mvT rfl) rfl ?_
  refine st (OpT.lss (H rfl) (T1 rfl) (I rfl)) rfl ?_
  refine ng ?_
  refine cd rfl (fun hc2 => ?_) fun hc2 => ?_
  ·
   obtain ⟨hc2, hc2'⟩ := pT hc2
   exact (show False from (by omega)).elim
  ·
   obtain ⟨hc2, hc2'⟩ := pF hc2
   refine AW.skip ?_
   refine AX.pr (kc3 6 5 4 rfl <| Kn) ?_
   refine AX.go ?_
   refine sr ?_
   refine st (mvT rfl) rfl ?_
   refine st (asT rfl) rfl ?_
   refine st (asI rfl) rfl ?_
   refine ng ?_
   refine AW.ret ?_
   exact rt2 rfl (.inl rfl) hfi rfl

/-- spec.l05Preferred -/
theorem c_spec_l05Preferred (list : List DEnt) (i : Int) (hi : 0 ≤ i ∧ i < list.length) : AC Tryd.prog 62 [.cel (Kd.slice kEnt) list, .cel (Kd.int .i64) i] [.cel Kd.bool (prB list i)] [] := by
 refine acI (N := 18) Tryd.func62 (Nat.le_of_ble_eq_true rfl) rfl fun w0 hd s0 ar => ?_
 refine AW.to (kc2 0 1 rfl <| Kn) ?_
 refine AW.fact (fun a w hr => (ok_slice (R_ok (t := 0) rfl hr)).2) (fun hl0 => ?_)
 refine sr ?_
 refine st (asB rfl) rfl ?_
 refine ng ?_
 refine sr ?_
 refine st (mvT rfl) rfl ?_
 refine st (mvT rfl) rfl ?_
 refine st (OpT.len (H rfl) (T1 rfl) el24) rfl ?_
 refine st (OpT.sub (H rfl) (T1 rfl) (I rfl) (nw (by omega))) rfl ?_
 refine st (OpT.c1 (ms := [.flat, .flat, .flat]) (c_spec_l00In _ _ _) (H rfl) (Af (T1 rfl) rfl rfl <| Af (I rfl) rfl rfl <| Af (T1 rfl) rfl rfl <| An) rfl rfl) rfl ?_
 refine st (mvT rfl) rfl ?_
 apply AWl.and (d := 17) (t := 10) rfl
 ·
  intro hb1 Q1 k1
  refine rs hb1 (mvT rfl) rfl ?_
  refine rs hb1 (mvT rfl) rfl ?_
  refine rs hb1 (OpT.indexAddr (H rfl) (T1 rfl) (T1 rfl) el24 sz38 (by omega) (eAt_get hi)) rfl ?_
  refine rs hb1 (OpT.fieldAddr (H rfl) (T1 rfl) fd38_1 sz2 (by decide) sb38_1) rfl ?_
  refine rs hb1 (OpT.load (H rfl) (T1 rfl) ag2 rfl) rfl ?_
  refine rs hb1 (OpT.eql (H rfl) (T1 rfl) (I rfl)) rfl ?_
  refine st (OpT.pickT (A := .cel _ _) (H rfl) (T1 rfl) hb1 (T1 rfl) rfl) rfl ?_
  exact AWl.to (junk 6 rfl) k1
 ·
  intro hb1 Q1 k1
  refine ps hb1 rfl ?_
  refine ps hb1 rfl ?_
  refine ps hb1 rfl ?_
  refine ps hb1 rfl ?_
  refine ps hb1 rfl ?_
  refine ps hb1 rfl ?_
  refine st (OpT.pickF (A := .cel _ _) (H rfl) (T1 rfl) hb1 Opd.bool rfl) rfl ?_
  exact k1
 refine st (asT rfl) rfl ?_
 refine ng ?_
 refine AW.ret ?_
 exact rt1 rfl (.inl rfl) rfl

set_option maxHeartbeats 4000000 in
/-- spec.l05Ok -/
theorem c_spec_l05Ok (list : List DEnt) (hC : catI list) : AC Tryd.prog 54 [.cel (Kd.slice kEnt) list] [.cel Kd.bool true] [] := by
 refine acI (N := 105) Tryd.func54 (Nat.le_of_ble_eq_true rfl) rfl fun w0 hd s0 ar => ?_
 refine AW.to (kc 0 rfl <| Kn) ?_
 have hnl := hC.len
 refine sr ?_
 refine st (asB rfl) rfl ?_
 refine ng ?_
 refine AW.seq ?_
 refine sr ?_
 refine st (mvT rfl) rfl ?_
 refine st (OpT.len (H rfl) (T1 rfl) el24) rfl ?_
 refine st (OpT.gtr (H rfl) (T1 rfl) (I rfl)) rfl ?_
 refine ng ?_
 refine cd rfl (fun hc1 => ?_) fun hc1 => ?_
 ·
  obtain ⟨hc1, hc1'⟩ := pT hc1
  exact (show False from (by omega)).elim
 ·
  obtain ⟨hc1, hc1'⟩ := pF hc1
  refine AW.skip ?_
  refine AX.go ?_
  refine AW.seq ?_
  refine sr ?_
  refine st (asI rfl) rfl ?_
  refine ng ?_
  refine AW.block ?_
  refine AW.loop (fun z : Nat => z ≤ list.length) (fun z : Nat => keep [(0, .cel (Kd.slice kEnt) list), (3, .cel (Kd.int .i64) (z : Int))]) (fun z : Nat => list.length - z) (0) (Nat.zero_le _) (Kc 0 _ (Kv rfl rfl) <| Kc 3 _ (Kv rfl rfl) <| Kn) ?_
  intro z hI
  refine AW.seq ?_
  refine sr ?_
  refine st (mvT rfl) rfl ?_
  refine st (mvT rfl) rfl ?_
  refine st (OpT.len (H rfl) (T1 rfl) el24) rfl ?_
  refine st (OpT.lss (H rfl) (T1 rfl) (T1 rfl)) rfl ?_
  refine ng ?_
  refine cd rfl (fun hc2 => ?_) fun hc2 => ?_
  ·
   obtain ⟨hc2, hc2'⟩ := pT hc2
   have hz : z < list.length := by omega
   have hok := tt_iff.2 (hC.ok (i := (z : Int)) (by omega))
   have hse := hC.see z hz
   have hbr := hC.brd z hz
   refine AW.skip ?_
   refine AX.go ?_
   refine AW.seq ?_
   refine AW.block ?_
   refine sr ?_
   refine st (mvT rfl) rfl ?_
   refine st (mvT rfl) rfl ?_
   refine st (OpT.indexAddr (H rfl) (T1 rfl) (T1 rfl) el24 sz38 (by omega) (eAt_get (i := (z : Int)) (by omega))) rfl ?_
   refine st (asT rfl) rfl ?_
   refine ng ?_
   refine AW.seq ?_
   refine sr ?_
   refine st (mvT rfl) rfl ?_
   refine st (OpT.nilCheck (H rfl) (T1 rfl)) rfl ?_
   refine st (OpT.fieldAddr (H rfl) (T1 rfl) fd38_0 sz9 (by decide) sb38_0) rfl ?_
   refine st (OpT.load (H rfl) (T1 rfl) ag9 rfl) rfl ?_
   refine st (OpT.c1 (ms := [.flat]) (c_spec_l05Name _) (H rfl) (Af (T1 rfl) rfl rfl <| An) rfl rfl) rfl ?_
   refine st (OpT.not (H rfl) (T1 rfl)) rfl ?_
   refine st (mvT rfl) rfl ?_
   apply AWl.or (d := 49) (t := 27) rfl
   ·
    intro hb1 Q1 k1
    have hb1' := lF hb1
    refine rs hb1 (mvT rfl) rfl ?_
    refine rs hb1 (OpT.nilCheck (H rfl) (T1 rfl)) rfl ?_
    refine rs hb1 (OpT.fieldAddr (H rfl) (T1 rfl) fd38_1 sz2 (by decide) sb38_1) rfl ?_
    refine rs hb1 (OpT.load (H rfl) (T1 rfl) ag2 rfl) rfl ?_
    refine rs hb1 (OpT.neq (H rfl) (T1 rfl) (I rfl)) rfl ?_
    refine rs hb1 (mvT rfl) rfl ?_
    apply AWl.and (d := 48) (t := 33) rfl
    ·
     intro hb2 Q1 k1
     have hb2' := lT hb2
     refine rs hb2 (mvT rfl) rfl ?_
     refine rs hb2 (mvT rfl) rfl ?_
     refine rs hb2 (OpT.nilCheck (H rfl) (T1 rfl)) rfl ?_
     refine rs hb2 (OpT.fieldAddr (H rfl) (T1 rfl) fd38_1 sz2 (by decide) sb38_1) rfl ?_
     refine rs hb2 (OpT.load (H rfl) (T1 rfl) ag2 rfl) rfl ?_
     refine rs hb2 (OpT.c1 (ms := [.flat, .flat]) (c_spec_l05Preferred list (eAt list (z : Int)).2.1 (by simp at hb2; omega)) (H rfl) (Af (T1 rfl) rfl rfl <| Af (T1 rfl) rfl rfl <| An) rfl rfl) rfl ?_
     refine rs hb2 (OpT.not (H rfl) (T1 rfl)) rfl ?_
     refine rs hb2 (mvT rfl) rfl ?_
     apply AWl.or (d := 47) (t := 41) rfl
     ·
      intro hb3 Q1 k1
      have hb3' := lF hb3
      refine rs hb3 (mvT rfl) rfl ?_
      refine rs hb3 (OpT.nilCheck (H rfl) (T1 rfl)) rfl ?_
      refine rs hb3 (OpT.fieldAddr (H rfl) (T1 rfl) fd38_2 sz2 (by decide) sb38_2) rfl ?_
      refine rs hb3 (OpT.load (H rfl) (T1 rfl) ag2 rfl) rfl ?_
      refine rs hb3 (OpT.neq (H rfl) (T1 rfl) (I rfl)) rfl ?_
      refine rs hb2 (OpT.pickF (A := .cel _ _) (H rfl) (T1 rfl) hb3 (T1 rfl) rfl) rfl ?_
      exact AWl.to (junk 5 rfl) k1
     ·
      intro hb3 Q1 k1
      refine ps hb3 rfl ?_
      refine ps hb3 rfl ?_
      refine ps hb3 rfl ?_
      refine ps hb3 rfl ?_
      refine ps hb3 rfl ?_
      refine rs hb2 (OpT.pickT (A := .cel _ _) (H rfl) (T1 rfl) hb3 Opd.bool rfl) rfl ?_
      exact k1
     refine rs hb1 (OpT.pickT (A := .cel _ _) (H rfl) (T1 rfl) hb2 (T1 rfl) rfl) rfl ?_
     exact AWl.to (junk 9 rfl) k1
    ·
     intro hb2 Q1 k1
     refine ps hb2 rfl ?_
     refine ps hb2 rfl ?_
     refine ps hb2 rfl ?_
     refine ps hb2 rfl ?_
     refine ps hb2 rfl ?_
     refine ps hb2 rfl ?_
     refine ps hb2 rfl ?_
     refine AWl.pasv rfl rfl rfl rfl hb2 rfl (ok' rfl) rfl ?_
     refine AWl.pasu rfl rfl rfl rfl rfl (ok' rfl) rfl ?_
     refine AWl.pasu rfl rfl rfl rfl rfl (ok' rfl) rfl ?_
     refine AWl.pasu rfl rfl rfl rfl rfl (ok' rfl) rfl ?_
     refine AWl.pasu rfl rfl rfl rfl rfl (ok' rfl) rfl ?_
     refine AWl.pasu rfl rfl rfl rfl rfl (ok' rfl) rfl ?_
     refine ps hb2 rfl ?_
     refine rs hb1 (OpT.pickF (A := .cel _ _) (H rfl) (T1 rfl) hb2 Opd.bool rfl) rfl ?_
     exact AWl.to (junk 6 rfl) k1
    refine st (OpT.pickF (A := .cel _ _) (H rfl) (T1 rfl) hb1 (T1 rfl) rfl) rfl ?_
    exact AWl.to (junk 7 rfl) k1
   ·
    intro hb1 Q1 k1
    refine ps hb1 rfl ?_
    refine ps hb1 rfl ?_
    refine ps hb1 rfl ?_
    refine ps hb1 rfl ?_
    refine ps hb1 rfl ?_
    refine AWl.pasv rfl rfl rfl rfl hb1 rfl (ok' rfl) rfl ?_
    refine AWl.pasu rfl rfl rfl rfl rfl (ok' rfl) rfl ?_
    refine AWl.pasu rfl rfl rfl rfl rfl (ok' rfl) rfl ?_
    refine AWl.pasu rfl rfl rfl rfl rfl (ok' rfl) rfl ?_
    refine AWl.pasu rfl rfl rfl rfl rfl (ok' rfl) rfl ?_
    refine AWl.pasu rfl rfl rfl rfl rfl (ok' rfl) rfl ?_
    refine AWl.pasu rfl rfl rfl rfl rfl (ok' rfl) rfl ?_
    refine AWl.pasu rfl rfl rfl rfl rfl (ok' rfl) rfl ?_
    refine AWl.pasu rfl rfl rfl rfl rfl (ok' rfl) rfl ?_
    refine AWl.pasu rfl rfl rfl rfl rfl (ok' rfl) rfl ?_
    refine AWl.pasu rfl rfl rfl rfl rfl (ok' rfl) rfl ?_
    refine AWl.pasu rfl rfl rfl rfl rfl (ok' rfl) rfl ?_
    refine AWl.pasu rfl rfl rfl rfl rfl (ok' rfl) rfl ?_
    refine AWl.pasu rfl rfl rfl rfl rfl (ok' rfl) rfl ?_
    refine AWl.pasu rfl rfl rfl rfl rfl (ok' rfl) rfl ?_
    refine ps hb1 rfl ?_
    refine st (OpT.pickT (A := .cel _ _) (H rfl) (T1 rfl) hb1 Opd.bool rfl) rfl ?_
    exact AWl.to (junk 15 rfl) k1
   refine st (mvT rfl) rfl ?_
   apply AWl.or (d := 65) (t := 50) rfl
   ·
    intro hb4 Q1 k1
    have hb4' := lF hb4
    refine rs hb4 (mvT rfl) rfl ?_
    refine rs hb4 (OpT.nilCheck (H rfl) (T1 rfl)) rfl ?_
    refine rs hb4 (OpT.fieldAddr (H rfl) (T1 rfl) fd38_2 sz2 (by decide) sb38_2) rfl ?_
    refine rs hb4 (OpT.load (H rfl) (T1 rfl) ag2 rfl) rfl ?_
    refine rs hb4 (OpT.neq (H rfl) (T1 rfl) (I rfl)) rfl ?_
    refine rs hb4 (mvT rfl) rfl ?_
    apply AWl.and (d := 64) (t := 56) rfl
    ·
     intro hb5 Q1 k1
     have hb5' := lT hb5
     refine rs hb5 (mvT rfl) rfl ?_
     refine rs hb5 (mvT rfl) rfl ?_
     refine rs hb5 (OpT.nilCheck (H rfl) (T1 rfl)) rfl ?_
     refine rs hb5 (OpT.fieldAddr (H rfl) (T1 rfl) fd38_2 sz2 (by decide) sb38_2) rfl ?_
     refine rs hb5 (OpT.load (H rfl) (T1 rfl) ag2 rfl) rfl ?_
     refine rs hb5 (OpT.c1 (ms := [.flat, .flat]) (c_spec_l05Preferred list (eAt list (z : Int)).2.2 (by simp at hb5; omega)) (H rfl) (Af (T1 rfl) rfl rfl <| Af (T1 rfl) rfl rfl <| An) rfl rfl) rfl ?_
     refine rs hb5 (OpT.not (H rfl) (T1 rfl)) rfl ?_
     refine rs hb4 (OpT.pickT (A := .cel _ _) (H rfl) (T1 rfl) hb5 (T1 rfl) rfl) rfl ?_
     exact AWl.to (junk 7 rfl) k1
    ·
     intro hb5 Q1 k1
     refine ps hb5 rfl ?_
     refine ps hb5 rfl ?_
     refine ps hb5 rfl ?_
     refine ps hb5 rfl ?_
     refine ps hb5 rfl ?_
     refine ps hb5 rfl ?_
     refine ps hb5 rfl ?_
     refine rs hb4 (OpT.pickF (A := .cel _ _) (H rfl) (T1 rfl) hb5 Opd.bool rfl) rfl ?_
     exact k1
    refine st (OpT.pickF (A := .cel _ _) (H rfl) (T1 rfl) hb4 (T1 rfl) rfl) rfl ?_
    exact AWl.to (junk 7 rfl) k1
   ·
    intro hb4 Q1 k1
    refine ps hb4 rfl ?_
    refine ps hb4 rfl ?_
    refine ps hb4 rfl ?_
    refine ps hb4 rfl ?_
    refine ps hb4 rfl ?_
    refine AWl.pasv rfl rfl rfl rfl hb4 rfl (ok' rfl) rfl ?_
    refine AWl.pasu rfl rfl rfl rfl rfl (ok' rfl) rfl ?_
    refine AWl.pasu rfl rfl rfl rfl rfl (ok' rfl) rfl ?_
    refine AWl.pasu rfl rfl rfl rfl rfl (ok' rfl) rfl ?_
    refine AWl.pasu rfl rfl rfl rfl rfl (ok' rfl) rfl ?_
    refine AWl.pasu rfl rfl rfl rfl rfl (ok' rfl) rfl ?_
    refine AWl.pasu rfl rfl rfl rfl rfl (ok' rfl) rfl ?_
    refine AWl.pasu rfl rfl rfl rfl rfl (ok' rfl) rfl ?_
    refine ps hb4 rfl ?_
    refine st (OpT.pickT (A := .cel _ _) (H rfl) (T1 rfl) hb4 Opd.bool rfl) rfl ?_
    exact AWl.to (junk 8 rfl) k1
   refine ng ?_
   refine cd rfl (fun hc3 => ?_) fun hc3 => ?_
   ·
    obtain ⟨hc3, hc3'⟩ := pT hc3
    exact (show False from (okEd hC hz hc3)).elim
   ·
    obtain ⟨hc3, hc3'⟩ := pF hc3
    refine AW.skip ?_
    refine AX.go ?_
    refine sr ?_
    refine st (asI rfl) rfl ?_
    refine ng ?_
    refine AW.block ?_
    refine AW.loop (fun y : Nat => y ≤ z) (fun y : Nat => keep [(0, .cel (Kd.slice kEnt) list), (3, .cel (Kd.int .i64) (z : Int)), (4, .cel (Kd.ptr kEnt) (eAt list (z : Int))), (5, .cel (Kd.int .i64) (y : Int))]) (fun y : Nat => z - y) (0) (Nat.zero_le _) (Kc 0 _ (Kv rfl rfl) <| Kc 3 _ (Kv rfl rfl) <| Kc 4 _ (Kv rfl rfl) <| Kc 5 _ (Kv rfl rfl) <| Kn) ?_
    intro y hI
    refine AW.seq ?_
    refine sr ?_
    refine st (mvT rfl) rfl ?_
    refine st (mvT rfl) rfl ?_
    refine st (OpT.lss (H rfl) (T1 rfl) (T1 rfl)) rfl ?_
    refine ng ?_
    refine cd rfl (fun hc4 => ?_) fun hc4 => ?_
    ·
     obtain ⟨hc4, hc4'⟩ := pT hc4
     have hne : eqv (eAt list (y : Int)).1 (eAt list (z : Int)).1 = false := eqv_false_iff.2 fun e => (by have h9 := hC.inj (i := (y : Int)) (j := (z : Int)) (by omega) (by omega) e; omega)
     refine AW.skip ?_
     refine AX.go ?_
     refine AW.seq ?_
     refine AW.block ?_
     refine AW.seq ?_
     refine dh fomo ?_
     refine d1 [0] (fun ve h => OpT.move (A := .cel _ _) (.inl rfl) rfl (ok' rfl) (D1 h rfl) rfl) rfl ?_
     refine d1 [5] (fun ve h => OpT.move (A := .cel _ _) (.inl rfl) rfl (ok' rfl) (D1 h rfl) rfl) rfl ?_
     refine d1 [71, 72] (fun ve h => OpT.indexAddr (H rfl) (D1 h rfl) (D1 h rfl) el24 sz38 (by omega) (eAt_get (i := (y : Int)) (by omega))) rfl ?_
     refine d1 [73] (fun ve h => OpT.fieldAddr (H rfl) (D1 h rfl) fd38_0 sz9 (by decide) sb38_0) rfl ?_
     refine d1 [74] (fun ve h => OpT.load (H rfl) (D1 h rfl) ag9 rfl) rfl ?_
     refine d1 [4] (fun ve h => OpT.move (A := .cel _ _) (.inl rfl) rfl (ok' rfl) (D1 h rfl) rfl) rfl ?_
     refine d1 [76] (fun ve h => OpT.nilCheck (H rfl) (D1 h rfl)) rfl ?_
     refine d1 [77] (fun ve h => OpT.fieldAddr (H rfl) (D1 h rfl) fd38_0 sz9 (by decide) sb38_0) rfl ?_
     refine d1 [78] (fun ve h => OpT.load (H rfl) (D1 h rfl) ag9 rfl) rfl ?_
     refine d1 [75, 79] (fun ve h => OpT.seqv (H rfl) (D1 h rfl) (D1 h rfl)) rfl ?_
     refine dn ⟨by kernel_rfl, by kernel_rfl, ?_⟩
     refine AX.go ?_
     refine cd rfl (fun hc5 => ?_) fun hc5 => ?_
     ·
      obtain ⟨hc5, hc5'⟩ := pT hc5
      exact (show False from (by rw [hne] at hc5; cases hc5)).elim
     ·
      obtain ⟨hc5, hc5'⟩ := pF hc5
      refine AW.skip ?_
      refine AX.normal_block ?_
      refine AX.go ?_
      refine AW.region ?_
      refine st (mvT rfl) rfl ?_
      refine st (OpT.add (H rfl) (T1 rfl) (I rfl) (nw (by omega))) rfl ?_
      refine st (asT rfl) rfl ?_
      refine nn ?_
      exact AX.again (y + 1) (by omega) (by omega) (Kc 0 _ (Kv rfl rfl) <| Kc 3 _ (Kv rfl rfl) <| Kc 4 _ (Kv rfl rfl) <| Kc 5 _ (Kv rfl (by omega)) <| Kn)
    ·
     obtain ⟨hc4, hc4'⟩ := pF hc4
     refine AW.exit ?_
     refine xT <| xT <| AX.exit_hit ?_
     refine AX.normal_block ?_
     refine AX.go ?_
     refine AW.region ?_
     refine st (mvT rfl) rfl ?_
     refine st (OpT.add (H rfl) (T1 rfl) (I rfl) (nw (by omega))) rfl ?_
     refine st (asT rfl) rfl ?_
     refine nn ?_
     exact AX.again (z + 1) (by omega) (by omega) (Kc 0 _ (Kv rfl rfl) <| Kc 3 _ (Kv rfl (by omega)) <| Kn)
  ·
   obtain ⟨hc2, hc2'⟩ := pF hc2
   refine AW.exit ?_
   refine xT <| xT <| AX.exit_hit ?_
   refine AX.go ?_
   refine AW.seq ?_
   refine sr ?_
   refine st (asI rfl) rfl ?_
   refine ng ?_
   refine AW.block ?_
   refine AW.loop (fun i : Nat => i ≤ list.length) (fun i : Nat => keep [(0, .cel (Kd.slice kEnt) list), (6, .cel (Kd.int .i64) (i : Int))]) (fun i : Nat => list.length - i) (0) (Nat.zero_le _) (Kc 0 _ (Kv rfl rfl) <| Kc 6 _ (Kv rfl rfl) <| Kn) ?_
   intro i hI
   refine AW.seq ?_
   refine sr ?_
   refine st (mvT rfl) rfl ?_
   refine st (mvT rfl) rfl ?_
   refine st (OpT.len (H rfl) (T1 rfl) el24) rfl ?_
   refine st (OpT.lss (H rfl) (T1 rfl) (T1 rfl)) rfl ?_
   refine ng ?_
   refine cd rfl (fun hc6 => ?_) fun hc6 => ?_
   ·
    obtain ⟨hc6, hc6'⟩ := pT hc6
    refine AW.skip ?_
    refine AX.go ?_
    refine AW.seq ?_
    refine AW.block ?_
    refine sr ?_
    refine st (mvT rfl) rfl ?_
    refine st (asT rfl) rfl ?_
    refine ng ?_
    refine sr ?_
    refine st (asI rfl) rfl ?_
    refine ng ?_
    refine AW.block ?_
    refine AW.loop (fun q : Nat × Int => q.2 + q.1 ≤ i ∧ 0 ≤ q.2) (fun q : Nat × Int => keep [(0, .cel (Kd.slice kEnt) list), (6, .cel (Kd.int .i64) (i : Int)), (7, .cel (Kd.int .i64) q.2), (8, .cel (Kd.int .i64) (q.1 : Int))]) (fun q : Nat × Int => list.length - q.1) ((0, (i : Int))) ⟨by simp only []; omega, by simp only []; omega⟩ (Kc 0 _ (Kv rfl rfl) <| Kc 6 _ (Kv rfl rfl) <| Kc 7 _ (Kv rfl rfl) <| Kc 8 _ (Kv rfl rfl) <| Kn) ?_
    intro q hI
    refine AW.seq ?_
    refine sr ?_
    refine st (mvT rfl) rfl ?_
    refine st (mvT rfl) rfl ?_
    refine st (OpT.indexAddr (H rfl) (T1 rfl) (T1 rfl) el24 sz38 (by omega) (eAt_get (by omega))) rfl ?_
    refine st (OpT.fieldAddr (H rfl) (T1 rfl) fd38_2 sz2 (by decide) sb38_2) rfl ?_
    refine st (OpT.load (H rfl) (T1 rfl) ag2 rfl) rfl ?_
    refine st (OpT.neq (H rfl) (T1 rfl) (I rfl)) rfl ?_
    refine ng ?_
    refine cd rfl (fun hc7 => ?_) fun hc7 => ?_
    ·
     obtain ⟨hc7, hc7'⟩ := pT hc7
     have hqq := hC.bI (i := q.2) (by omega)
     refine AW.skip ?_
     refine AX.go ?_
     refine AW.seq ?_
     refine AW.block ?_
     refine AW.seq ?_
     refine sr ?_
     refine st (mvT rfl) rfl ?_
     refine st (mvT rfl) rfl ?_
     refine st (OpT.len (H rfl) (T1 rfl) el24) rfl ?_
     refine st (OpT.eql (H rfl) (T1 rfl) (T1 rfl)) rfl ?_
     refine ng ?_
     refine cd rfl (fun hc8 => ?_) fun hc8 => ?_
     ·
      obtain ⟨hc8, hc8'⟩ := pT hc8
      exact (show False from (by omega)).elim
     ·
      obtain ⟨hc8, hc8'⟩ := pF hc8
      refine AW.skip ?_
      refine AX.go ?_
      refine AW.region ?_
      refine st (mvT rfl) rfl ?_
      refine st (mvT rfl) rfl ?_
      refine st (OpT.indexAddr (H rfl) (T1 rfl) (T1 rfl) el24 sz38 (by omega) (eAt_get (by omega))) rfl ?_
      refine st (OpT.fieldAddr (H rfl) (T1 rfl) fd38_2 sz2 (by decide) sb38_2) rfl ?_
      refine st (OpT.load (H rfl) (T1 rfl) ag2 rfl) rfl ?_
      refine st (asT rfl) rfl ?_
      refine nn ?_
      refine AX.normal_block ?_
      refine AX.go ?_
      refine AW.region ?_
      refine st (mvT rfl) rfl ?_
      refine st (OpT.add (H rfl) (T1 rfl) (I rfl) (nw (by omega))) rfl ?_
      refine st (asT rfl) rfl ?_
      refine nn ?_
      exact AX.again ((q.1 + 1, (eAt list q.2).2.2)) ⟨by simp only []; omega, by simp only []; omega⟩ (by simp only []; omega) (Kc 0 _ (Kv rfl rfl) <| Kc 6 _ (Kv rfl rfl) <| Kc 7 _ (Kv rfl rfl) <| Kc 8 _ (Kv rfl (by simp only []; omega)) <| Kn)
    ·
     obtain ⟨hc7, hc7'⟩ := pF hc7
     refine AW.exit ?_
     refine xT <| xT <| AX.exit_hit ?_
     refine AX.normal_block ?_
     refine AX.go ?_
     refine AW.region ?_
     refine st (mvT rfl) rfl ?_
     refine st (OpT.add (H rfl) (T1 rfl) (I rfl) (nw (by omega))) rfl ?_
     refine st (asT rfl) rfl ?_
     refine nn ?_
     exact AX.again (i + 1) (by omega) (by omega) (Kc 0 _ (Kv rfl rfl) <| Kc 6 _ (Kv rfl (by omega)) <| Kn)
   ·
    obtain ⟨hc6, hc6'⟩ := pF hc6
    refine AW.exit ?_
    refine xT <| xT <| AX.exit_hit ?_
    refine AX.go ?_
    refine sr ?_
    refine st (asB rfl) rfl ?_
    refine ng ?_
    refine AW.ret ?_
    exact rt1 rfl (.inl rfl) rfl

/-- spec.l05At -/
theorem c_spec_l05At (list : List DEnt) (i : Int) (hC : catI list ∧ 0 ≤ i ∧ i < list.length) : AC Tryd.prog 36 [.cel (Kd.slice kEnt) list, .cel (Kd.int .i64) i] [.cel (Kd.int .i64) (0 : Int)] [] := by
 refine acI (N := 14) Tryd.func36 (Nat.le_of_ble_eq_true rfl) rfl fun w0 hd s0 ar => ?_
 refine AW.to (kc2 0 1 rfl <| Kn) ?_
 have hnl := hC.1.len
 refine sr ?_
 refine st (asI rfl) rfl ?_
 refine ng ?_
 refine AW.seq ?_
 refine sr ?_
 refine st (mvT rfl) rfl ?_
 refine st (OpT.c1 (ms := [.flat]) (c_spec_l05Ok list hC.1) (H rfl) (Af (T1 rfl) rfl rfl <| An) rfl rfl) rfl ?_
 refine st (OpT.not (H rfl) (T1 rfl)) rfl ?_
 refine ng ?_
 refine cd rfl (fun hc1 => ?_) fun hc1 => ?_
 ·
  obtain ⟨hc1, hc1'⟩ := pT hc1
  exact (show False from (by simp at hc1)).elim
 ·
  obtain ⟨hc1, hc1'⟩ := pF hc1
  refine AW.skip ?_
  refine AX.go ?_
  refine AW.seq ?_
  refine sr ?_
  refine st (mvT rfl) rfl ?_
  refine st (mvT rfl) rfl ?_
  refine st (OpT.len (H rfl) (T1 rfl) el24) rfl ?_
  refine st (OpT.sub (H rfl) (T1 rfl) (I rfl) (nw (by omega))) rfl ?_
  refine st (OpT.c1 (ms := [.flat, .flat, .flat]) (c_spec_l00In _ _ _) (H rfl) (Af (T1 rfl) rfl rfl <| Af (I rfl) rfl rfl <| Af (T1 rfl) rfl rfl <| An) rfl rfl) rfl ?_
  refine st (OpT.not (H rfl) (T1 rfl)) rfl ?_
  refine ng ?_
  refine cd rfl (fun hc2 => ?_) fun hc2 => ?_
  ·
   obtain ⟨hc2, hc2'⟩ := pT hc2
   exact (show False from (by rw [inb_all.2 (by omega)] at hc2; simp at hc2)).elim
  ·
   obtain ⟨hc2, hc2'⟩ := pF hc2
   refine AW.skip ?_
   refine AX.pr (kc 4 rfl <| Kn) ?_
   refine AX.go ?_
   refine sr ?_
   refine st (asI rfl) rfl ?_
   refine ng ?_
   refine AW.ret ?_
   exact rt1 rfl (.inl rfl) rfl

/-- spec.ExpandEntry -/
theorem c_spec_ExpandEntry_o (list : List DEnt) (i : Int) (hC : catI list ∧ 0 ≤ i ∧ i < list.length) : AC Tryd.prog 11 [.cel (Kd.slice kEnt) list, .cel (Kd.int .i64) i] [.own 2 (Kd.int .i64) (expE list i), .cel (Kd.int .i64) (0 : Int)] [] := by
 refine acI (N := 37) Tryd.func11 (Nat.le_of_ble_eq_true rfl) rfl fun w0 hd s0 ar => ?_
 refine AW.to (kc2 0 1 rfl <| Kn) ?_
 have hnl := hC.1.len
 refine sr ?_
 refine st (nilO (E := 2) (Kd.int .i64) rfl (.inl rfl)) rfl ?_
 refine st (asI rfl) rfl ?_
 refine ng ?_
 refine AW.seq ?_
 refine sr ?_
 refine st (mvT rfl) rfl ?_
 refine st (mvT rfl) rfl ?_
 refine st (OpT.c1 (ms := [.flat, .flat]) (c_spec_l05At list i hC) (H rfl) (Af (T1 rfl) rfl rfl <| Af (T1 rfl) rfl rfl <| An) rfl rfl) rfl ?_
 refine st (asT rfl) rfl ?_
 refine ng ?_
 refine sr ?_
 refine st (mvT rfl) rfl ?_
 refine st (OpT.neq (H rfl) (T1 rfl) (I rfl)) rfl ?_
 refine ng ?_
 refine cd rfl (fun hc1 => ?_) fun hc1 => ?_
 ·
  obtain ⟨hc1, hc1'⟩ := pT hc1
  exact (show False from (by omega)).elim
 ·
  obtain ⟨hc1, hc1'⟩ := pF hc1
  refine AW.skip ?_
  refine AX.go ?_
  refine sr ?_
  refine st (mvT rfl) rfl ?_
  refine st (mvT rfl) rfl ?_
  refine st (OpT.c1 (ms := [.flat, .flat]) (c_spec_l05First list i hC.2) (H rfl) (Af (T1 rfl) rfl rfl <| Af (T1 rfl) rfl rfl <| An) rfl rfl) rfl ?_
  refine st (asT rfl) rfl ?_
  refine ng ?_
  refine sr ?_
  refine st (OpT.buildSlice0 (m := 0) (z := .bool false) (Kd.int .i64) (H rfl) el32 sz2 (by decide)) rfl ?_
  refine sg (OpT.take (.inl rfl) rfl (ok' rfl) (Root.self (by decide)) rfl rfl (by decide)) (ko 8 rfl <| kc4 7 19 18 17 rfl <| kc4 14 13 6 12 rfl <| kc3 11 10 5 rfl <| ko 4 rfl <| kc2 0 1 rfl <| Kn) rfl ?_
  refine ng ?_
  refine AW.seq ?_
  refine sr ?_
  refine st (asI rfl) rfl ?_
  refine ng ?_
  refine AW.block ?_
  refine AW.loop (fun z : Nat => z ≤ list.length) (fun z : Nat => keep [(0, .cel (Kd.slice kEnt) list), (7, .cel (Kd.int .i64) (preI list i)), (8, .own 2 (Kd.int .i64) (selI z (expR list i))), (9, .cel (Kd.int .i64) (z : Int))]) (fun z : Nat => list.length - z) (0) (Nat.zero_le _) (Kc 0 _ (Kv rfl rfl) <| Kc 7 _ (Kv rfl rfl) <| Kc 8 _ (Ko rfl rfl) <| Kc 9 _ (Kv rfl rfl) <| Kn) ?_
  intro z hI
  refine AW.seq ?_
  refine sr ?_
  refine st (mvT rfl) rfl ?_
  refine st (mvT rfl) rfl ?_
  refine st (OpT.len (H rfl) (T1 rfl) el24) rfl ?_
  refine st (OpT.lss (H rfl) (T1 rfl) (T1 rfl)) rfl ?_
  refine ng ?_
  refine cd rfl (fun hc2 => ?_) fun hc2 => ?_
  ·
   obtain ⟨hc2, hc2'⟩ := pT hc2
   have hzl : z < list.length := by omega
   refine AW.skip ?_
   refine AX.go ?_
   refine AW.seq ?_
   refine AW.block ?_
   refine sr ?_
   refine st (mvT rfl) rfl ?_
   refine st (mvT rfl) rfl ?_
   refine st (OpT.c1 (ms := [.flat, .flat]) (c_spec_l05Path list (z : Int) ⟨hC.1, by omega, by omega⟩) (H rfl) (Af (T1 rfl) rfl rfl <| Af (T1 rfl) rfl rfl <| An) rfl rfl) rfl ?_
   refine st (mvT rfl) rfl ?_
   refine st (OpT.c1 (ms := [.flat, .flat]) (c_spec_l05In _ _) (H rfl) (Af (T1 rfl) rfl rfl <| Af (T1 rfl) rfl rfl <| An) rfl rfl) rfl ?_
   refine ng ?_
   refine cd rfl (fun hc3 => ?_) fun hc3 => ?_
   ·
    obtain ⟨hc3, hc3'⟩ := pT hc3
    have hp : expR list i (z : Int) = true := hc3
    refine AW.region ?_
    refine st (OpT.alias (H rfl) (by decide) (by decide)) rfl ?_
    refine st (mvT rfl) rfl ?_
    refine st (OpT.buildSlice (H rfl) el32 zr2 sz2 rfl (by decide) zk2 (by decide) (Built.cel (T1 rfl) rfl rfl (sub_arr (by decide) (0 : Int)) (Built.nil _))) rfl ?_
    refine sg (OpT.append (H rfl) (Root.ali rfl (by decide) (by decide)) rfl (Src.own (Root.self (t := 34) (by decide)) rfl) (by decide) el32 zr2 rfl sz2 by2 (by decide) (by have h70 := sel_len z (expR list i); simp only [List.length_cons, List.length_nil, List.length_set, List.length_replicate]; omega)) (ko 35 rfl <| ko 34 rfl <| kc4 33 31 30 29 rfl <| kc4 28 27 24 23 rfl <| kc4 22 21 0 7 rfl <| kc 9 rfl <| Kn) rfl ?_
    refine sg (OpT.take (.inl rfl) rfl (ok' rfl) (Root.self (by decide)) rfl rfl (by decide)) (ko 8 rfl <| ko 34 rfl <| kc4 33 31 30 29 rfl <| kc4 28 27 24 23 rfl <| kc4 22 21 0 7 rfl <| kc 9 rfl <| Kn) rfl ?_
    refine nn ?_
    refine AX.normal_block ?_
    refine AX.go ?_
    refine AW.region ?_
    refine st (mvT rfl) rfl ?_
    refine st (OpT.add (H rfl) (T1 rfl) (I rfl) (nw (by omega))) rfl ?_
    refine st (asT rfl) rfl ?_
    refine nn ?_
    exact AX.again (z + 1) (by omega) (by omega) (Kc 0 _ (Kv rfl rfl) <| Kc 7 _ (Kv rfl rfl) <| Kc 8 _ (Ko rfl (by first | exact (sel_yes hp).symm | exact (sel_no hp).symm)) <| Kc 9 _ (Kv rfl (by omega)) <| Kn)
   ·
    obtain ⟨hc3, hc3'⟩ := pF hc3
    have hp : expR list i (z : Int) = false := hc3
    refine AW.skip ?_
    refine AX.normal_block ?_
    refine AX.go ?_
    refine AW.region ?_
    refine st (mvT rfl) rfl ?_
    refine st (OpT.add (H rfl) (T1 rfl) (I rfl) (nw (by omega))) rfl ?_
    refine st (asT rfl) rfl ?_
    refine nn ?_
    exact AX.again (z + 1) (by omega) (by omega) (Kc 0 _ (Kv rfl rfl) <| Kc 7 _ (Kv rfl rfl) <| Kc 8 _ (Ko rfl (by first | exact (sel_yes hp).symm | exact (sel_no hp).symm)) <| Kc 9 _ (Kv rfl (by omega)) <| Kn)
  ·
   obtain ⟨hc2, hc2'⟩ := pF hc2
   refine AW.exit ?_
   refine xT <| xT <| AX.exit_hit ?_
   refine AX.go ?_
   refine sr ?_
   refine st (OpT.alias (H rfl) (by decide) (by decide)) rfl ?_
   refine sg (OpT.take (.inl rfl) rfl (ok' rfl) (Root.ali rfl (by decide) (by decide)) rfl rfl (by decide)) (ko 4 rfl <| kc4 24 23 22 21 rfl <| kc3 0 7 9 rfl <| Kn) rfl ?_
   refine st (asI rfl) rfl ?_
   refine ng ?_
   refine AW.ret ?_
   exact AX.rt (rs := [.tmp 4, .tmp 5]) (ts := [some 4, some 5]) (.inl rfl) rfl (ROs.cons (RO.tmp (At.self (by decide)) (Ko rfl (by rw [show z = list.length by omega]; rfl)) rfl) <| ROs.cons (RO.tmp (At.self (by decide)) (Kv rfl rfl) rfl) <| ROs.nil) (by decide) OutsOK.nil
theorem c_spec_ExpandEntry (list : List DEnt) (i : Int) (hC : catI list ∧ 0 ≤ i ∧ i < list.length) : AC Tryd.prog 11 [.cel (Kd.slice kEnt) list, .cel (Kd.int .i64) i] [.cel (Kd.slice (Kd.int .i64)) (expE list i), .cel (Kd.int .i64) (0 : Int)] [] := (c_spec_ExpandEntry_o list i hC).frz rfl

/-- spec.PathUp -/
theorem c_spec_PathUp_o (list : List DEnt) (i : Int) (hC : catI list ∧ 0 ≤ i ∧ i < list.length) : AC Tryd.prog 24 [.cel (Kd.slice kEnt) list, .cel (Kd.int .i64) i] [.own 2 (Kd.int .i64) (pthE list i), .cel (Kd.int .i64) (0 : Int)] [] := by
 refine acI (N := 17) Tryd.func24 (Nat.le_of_ble_eq_true rfl) rfl fun w0 hd s0 ar => ?_
 refine AW.to (kc2 0 1 rfl <| Kn) ?_
 refine sr ?_
 refine st (nilO (E := 2) (Kd.int .i64) rfl (.inl rfl)) rfl ?_
 refine st (asI rfl) rfl ?_
 refine ng ?_
 refine AW.seq ?_
 refine sr ?_
 refine st (mvT rfl) rfl ?_
 refine st (mvT rfl) rfl ?_
 refine st (OpT.c1 (ms := [.flat, .flat]) (c_spec_l05At list i hC) (H rfl) (Af (T1 rfl) rfl rfl <| Af (T1 rfl) rfl rfl <| An) rfl rfl) rfl ?_
 refine st (asT rfl) rfl ?_
 refine ng ?_
 refine sr ?_
 refine st (mvT rfl) rfl ?_
 refine st (OpT.neq (H rfl) (T1 rfl) (I rfl)) rfl ?_
 refine ng ?_
 refine cd rfl (fun hc1 => ?_) fun hc1 => ?_
 ·
  obtain ⟨hc1, hc1'⟩ := pT hc1
  exact (show False from (by omega)).elim
 ·
  obtain ⟨hc1, hc1'⟩ := pF hc1
  refine AW.skip ?_
  refine AX.go ?_
  refine sr ?_
  refine st (mvT rfl) rfl ?_
  refine st (mvT rfl) rfl ?_
  refine st (OpT.c1 (ms := [.flat, .flat]) (c_spec_l05Path_o list i hC) (H rfl) (Af (T1 rfl) rfl rfl <| Af (T1 rfl) rfl rfl <| An) rfl rfl) rfl ?_
  refine sg (OpT.take (.inl rfl) rfl (ok' rfl) (Root.self (by decide)) rfl rfl (by decide)) (ko 4 rfl <| kc4 15 14 11 10 rfl <| kc4 6 9 8 7 rfl <| kc3 5 0 1 rfl <| Kn) rfl ?_
  refine st (asI rfl) rfl ?_
  refine AWl.to (kc 5 rfl <| ko 4 rfl <| Kn) ?_
  refine ng ?_
  refine AW.ret ?_
  exact AX.rt (rs := [.tmp 4, .tmp 5]) (ts := [some 4, some 5]) (.inl rfl) rfl (ROs.cons (RO.tmp (At.self (by decide)) (Ko rfl rfl) rfl) <| ROs.cons (RO.tmp (At.self (by decide)) (Kv rfl rfl) rfl) <| ROs.nil) (by decide) OutsOK.nil
theorem c_spec_PathUp (list : List DEnt) (i : Int) (hC : catI list ∧ 0 ≤ i ∧ i < list.length) : AC Tryd.prog 24 [.cel (Kd.slice kEnt) list, .cel (Kd.int .i64) i] [.cel (Kd.slice (Kd.int .i64)) (pthE list i), .cel (Kd.int .i64) (0 : Int)] [] := (c_spec_PathUp_o list i hC).frz rfl

/-- spec.CommonBroader -/
theorem c_spec_CommonBroader (list : List DEnt) (i k : Int) (hC : catI list ∧ (0 ≤ i ∧ i < list.length) ∧ (0 ≤ k ∧ k < list.length)) : AC Tryd.prog 22 [.cel (Kd.slice kEnt) list, .cel (Kd.int .i64) i, .cel (Kd.int .i64) k] [.cel (Kd.int .i64) (comL (pthE list i) (pthE list k)).1, .cel (Kd.int .i64) (comL (pthE list i) (pthE list k)).2] [] := by
 refine acI (N := 45) Tryd.func22 (Nat.le_of_ble_eq_true rfl) rfl fun w0 hd s0 ar => ?_
 refine AW.to (kc3 0 1 2 rfl <| Kn) ?_
 have hpl := pthE_len hC.1 hC.2.1
 refine sr ?_
 refine st (asI rfl) rfl ?_
 refine st (asI rfl) rfl ?_
 refine ng ?_
 refine sr ?_
 refine st (mvT rfl) rfl ?_
 refine st (mvT rfl) rfl ?_
 refine st (OpT.c1 (ms := [.flat, .flat]) (c_spec_l05At list i ⟨hC.1, hC.2.1⟩) (H rfl) (Af (T1 rfl) rfl rfl <| Af (T1 rfl) rfl rfl <| An) rfl rfl) rfl ?_
 refine st (asT rfl) rfl ?_
 refine ng ?_
 refine AW.seq ?_
 refine sr ?_
 refine st (mvT rfl) rfl ?_
 refine st (OpT.eql (H rfl) (T1 rfl) (I rfl)) rfl ?_
 refine ng ?_
 refine cd rfl (fun hc1 => ?_) fun hc1 => ?_
 ·
  obtain ⟨hc1, hc1'⟩ := pT hc1
  refine AW.region ?_
  refine st (mvT rfl) rfl ?_
  refine st (mvT rfl) rfl ?_
  refine st (OpT.c1 (ms := [.flat, .flat]) (c_spec_l05At list k ⟨hC.1, hC.2.2⟩) (H rfl) (Af (T1 rfl) rfl rfl <| Af (T1 rfl) rfl rfl <| An) rfl rfl) rfl ?_
  refine st (asT rfl) rfl ?_
  refine ng ?_
  refine AW.seq ?_
  refine sr ?_
  refine st (mvT rfl) rfl ?_
  refine st (OpT.neq (H rfl) (T1 rfl) (I rfl)) rfl ?_
  refine ng ?_
  refine cd rfl (fun hc2 => ?_) fun hc2 => ?_
  ·
   obtain ⟨hc2, hc2'⟩ := pT hc2
   exact (show False from (by omega)).elim
  ·
   obtain ⟨hc2, hc2'⟩ := pF hc2
   refine AW.skip ?_
   refine AX.pr (kc4 7 6 0 1 rfl <| kc 2 rfl <| Kn) ?_
   refine AX.go ?_
   refine sr ?_
   refine st (mvT rfl) rfl ?_
   refine st (mvT rfl) rfl ?_
   refine st (OpT.c1 (ms := [.flat, .flat]) (c_spec_l05Path list i ⟨hC.1, hC.2.1⟩) (H rfl) (Af (T1 rfl) rfl rfl <| Af (T1 rfl) rfl rfl <| An) rfl rfl) rfl ?_
   refine st (asT rfl) rfl ?_
   refine ng ?_
   refine sr ?_
   refine st (mvT rfl) rfl ?_
   refine st (mvT rfl) rfl ?_
   refine st (OpT.c1 (ms := [.flat, .flat]) (c_spec_l05Path list k ⟨hC.1, hC.2.2⟩) (H rfl) (Af (T1 rfl) rfl rfl <| Af (T1 rfl) rfl rfl <| An) rfl rfl) rfl ?_
   refine st (asT rfl) rfl ?_
   refine ng ?_
   refine AW.seq ?_
   refine sr ?_
   refine st (asI rfl) rfl ?_
   refine ng ?_
   refine AW.block ?_
   refine AW.loop (fun z : Nat => z ≤ (pthE list i).length ∧ ∀ j y, j < z → (pthE list i)[j]? = some y → hasV y (pthE list k) = false) (fun z : Nat => keep [(9, .cel (Kd.slice (Kd.int .i64)) (pthE list i)), (10, .cel (Kd.slice (Kd.int .i64)) (pthE list k)), (11, .cel (Kd.int .i64) (z : Int))]) (fun z : Nat => (pthE list i).length - z) (0) ⟨Nat.zero_le _, fun j y h => absurd h (Nat.not_lt_zero j)⟩ (Kc 9 _ (Kv rfl rfl) <| Kc 10 _ (Kv rfl rfl) <| Kc 11 _ (Kv rfl rfl) <| Kn) ?_
   intro z hI
   refine AW.seq ?_
   refine sr ?_
   refine st (mvT rfl) rfl ?_
   refine st (mvT rfl) rfl ?_
   refine st (OpT.len (H rfl) (T1 rfl) el32) rfl ?_
   refine st (OpT.lss (H rfl) (T1 rfl) (T1 rfl)) rfl ?_
   refine ng ?_
   refine cd rfl (fun hc3 => ?_) fun hc3 => ?_
   ·
    obtain ⟨hc3, hc3'⟩ := pT hc3
    obtain ⟨x, hx⟩ := getI (x := pthE list i) (z := z) (by omega)
    refine AW.skip ?_
    refine AX.go ?_
    refine AW.seq ?_
    refine AW.block ?_
    refine sr ?_
    refine st (mvT rfl) rfl ?_
    refine st (mvT rfl) rfl ?_
    refine st (mvT rfl) rfl ?_
    refine st (OpT.indexAddr (H rfl) (T1 rfl) (T1 rfl) el32 sz2 (by omega) hx) rfl ?_
    refine st (OpT.load (H rfl) (T1 rfl) ag2 rfl) rfl ?_
    refine st (OpT.c1 (ms := [.flat, .flat]) (c_spec_l05In _ _) (H rfl) (Af (T1 rfl) rfl rfl <| Af (T1 rfl) rfl rfl <| An) rfl rfl) rfl ?_
    refine ng ?_
    refine cd rfl (fun hc4 => ?_) fun hc4 => ?_
    ·
     obtain ⟨hc4, hc4'⟩ := pT hc4
     have hh := hc4
     refine sr ?_
     refine st (mvT rfl) rfl ?_
     refine st (mvT rfl) rfl ?_
     refine st (OpT.indexAddr (H rfl) (T1 rfl) (T1 rfl) el32 sz2 (by omega) hx) rfl ?_
     refine st (OpT.load (H rfl) (T1 rfl) ag2 rfl) rfl ?_
     refine st (asT rfl) rfl ?_
     refine st (asI rfl) rfl ?_
     refine ng ?_
     refine AW.ret ?_
     refine rK <| rT <| rT <| rK <| rT ?_
     exact rt2 rfl (.inl rfl) (by first | (rw [com_at hx hI.2 hh]; done) | (rw [com_no hI.2 (by omega)]; done)) (by first | (rw [com_at hx hI.2 hh]; done) | (rw [com_no hI.2 (by omega)]; done))
    ·
     obtain ⟨hc4, hc4'⟩ := pF hc4
     have hh := hc4
     refine AW.skip ?_
     refine AX.normal_block ?_
     refine AX.go ?_
     refine AW.region ?_
     refine st (mvT rfl) rfl ?_
     refine st (OpT.add (H rfl) (T1 rfl) (I rfl) (nw (by omega))) rfl ?_
     refine st (asT rfl) rfl ?_
     refine nn ?_
     exact AX.again (z + 1) ⟨by omega, com_step hx hI.2 hh⟩ (by omega) (Kc 9 _ (Kv rfl rfl) <| Kc 10 _ (Kv rfl rfl) <| Kc 11 _ (Kv rfl (by omega)) <| Kn)
   ·
    obtain ⟨hc3, hc3'⟩ := pF hc3
    refine AW.exit ?_
    refine xT <| xT <| AX.exit_hit ?_
    refine AX.go ?_
    refine sr ?_
    refine st (asI rfl) rfl ?_
    refine st (asI rfl) rfl ?_
    refine ng ?_
    refine AW.ret ?_
    exact rt2 rfl (.inl rfl) (by first | (rw [com_at hx hI.2 hh]; done) | (rw [com_no hI.2 (by omega)]; done)) (by first | (rw [com_at hx hI.2 hh]; done) | (rw [com_no hI.2 (by omega)]; done))
 ·
  obtain ⟨hc1, hc1'⟩ := pF hc1
  exact (show False from (by omega)).elim
end Go.Proofs.YtconciibbhpigaaDoor.VL
