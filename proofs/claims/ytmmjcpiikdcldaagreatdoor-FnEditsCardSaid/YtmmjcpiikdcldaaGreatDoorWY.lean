/- Proved here: what some functions of the program take and give: walks with the words of VA..VQ. Printed by program. -/
import Derived.Test.YtmmjcpiikdcldaaGreatDoorWT
import Derived.Test.YtmmjcpiikdcldaaGreatDoorBpa
import Derived.Test.YtmmjcpiikdcldaaGreatDoorWD
import Derived.Test.YtmmjcpiikdcldaaGreatDoorWM
import Derived.Test.YtmmjcpiikdcldaaGreatDoorWX
import Derived.Test.YtmmjcpiikdcldaaGreatDoorWL
set_option linter.unusedVariables false
set_option linter.unusedSimpArgs false
set_option maxRecDepth 4000
namespace Go.Proofs.YtmmjcpiikdcldaaGreatDoor.VL
open Go
/-- impl.Edit] -/
theorem c_slices_IndexFunc_impl_Edit_impl_Edit {γ : Type} {g : FuncId} {kg : Kd γ} {y : γ} {cs : List As} (q : (Int × ByteArray × Int × (BitVec 64 × BitVec 64)) → Bool) (hcs : CloArgs kg y cs) (hg : ∀ a, AC Tryz.prog g ([.agg kEdit a] ++ cs) [.cel Kd.bool (q a)] []) (x : List (Int × ByteArray × Int × (BitVec 64 × BitVec 64))) : AC Tryz.prog 134 [.cel (Kd.slice kEdit) x, .clo g kg y] [.cel (Kd.int .i64) (idxQ q x)] [] := by
 refine acI (N := 19) Tryz.func134 (Nat.le_of_ble_eq_true rfl) rfl fun w0 hd s0 ar => ?_
 refine AW.to (kc 0 rfl <| Kc 1 (.clo _ _ _) rfl <| Kn) ?_
 refine AW.fact (fun a w hr => (ok_slice (R_ok (t := 0) rfl hr)).2) (fun hl0 => ?_)
 refine sr ?_
 refine st (asI rfl) rfl ?_
 refine ng ?_
 refine AW.seq ?_
 refine sr ?_
 refine st (mvT rfl) rfl ?_
 refine st (OpT.len (H rfl) (T1 rfl) el49) rfl ?_
 refine st (mvI rfl) rfl ?_
 refine ng ?_
 refine AW.block ?_
 refine AW.loop (fun z : Nat => z ≤ x.length ∧ ∀ i, i < z → nI q x i) (fun z : Nat => keep [(0, .cel (Kd.slice kEdit) x), (1, .clo g kg y), (7, .cel (Kd.int .i64) ((x.length : Nat) : Int)), (8, .cel (Kd.int .i64) (z : Int))]) (fun z : Nat => x.length - z) (0) ⟨Nat.zero_le _, all_none⟩ (Kc 0 _ (Kv rfl rfl) <| Kc 1 _ (rfl) <| Kc 7 _ (Kv rfl rfl) <| Kc 8 _ (Kv rfl rfl) <| Kn) ?_
 intro z hI
 refine sr ?_
 refine st (OpT.lss (H rfl) (T1 rfl) (T1 rfl)) rfl ?_
 refine ng ?_
 refine AW.seq ?_
 refine cd rfl (fun hc1 => ?_) fun hc1 => ?_
 ·
  replace hc1 := oT hc1
  obtain ⟨a, ha⟩ := getI (x := x) (z := z) (by omega)
  refine AW.skip ?_
  refine AX.go ?_
  refine AW.seq ?_
  refine AW.block ?_
  refine sr ?_
  refine st (mvT rfl) rfl ?_
  refine st (asT rfl) rfl ?_
  refine ng ?_
  refine sr ?_
  refine st (OpT.move (A := .clo _ _ _) (.inl rfl) rfl (ok' rfl) (T1 rfl) rfl) rfl ?_
  refine st (mvT rfl) rfl ?_
  refine st (mvT rfl) rfl ?_
  refine st (OpT.indexAddr (H rfl) (T1 rfl) (T1 rfl) el49 sz63 (by omega) (by assumption)) rfl ?_
  refine st (OpT.loadA (H rfl) (T1 rfl) ag63 sz63) rfl ?_
  refine st (OpT.vg (ms := [.flat]) (T1 rfl) hcs ((hg _)) (H rfl) (Af (T1 rfl) rfl rfl <| An) rfl rfl) rfl ?_
  refine ng ?_
  refine cd rfl (fun hc2 => ?_) fun hc2 => ?_
  ·
   replace hc2 := oT hc2
   refine sr ?_
   refine st (mvT rfl) rfl ?_
   refine st (asT rfl) rfl ?_
   refine ng ?_
   refine AW.ret ?_
   refine rK <| rT <| rT <| rK <| rT ?_
   exact rt1 rfl (.inl rfl) (by first | exact idxQ_at hI.2 ha hc2 | exact idxQ_end hI.2 (by omega))
  ·
   replace hc2 := oF hc2
   refine AW.skip ?_
   refine AX.normal_block ?_
   refine AX.go ?_
   refine AW.region ?_
   refine st (OpT.add (H rfl) (T1 rfl) (I rfl) (nw (by omega))) rfl ?_
   refine st (mvT rfl) rfl ?_
   refine nn ?_
   exact AX.again (z + 1) ⟨by omega, all_step hI.2 ((nI_iff ha).2 (by simpa using hc2))⟩ (by omega) (Kc 0 _ (Kv rfl rfl) <| Kc 1 _ (rfl) <| Kc 7 _ (Kv rfl rfl) <| Kc 8 _ (Kv rfl (by omega)) <| Kn)
 ·
  replace hc1 := oF hc1
  refine AW.exit ?_
  refine xT <| xT <| AX.exit_hit ?_
  refine AX.go ?_
  refine sr ?_
  refine st (asI rfl) rfl ?_
  refine ng ?_
  refine AW.ret ?_
  exact rt1 rfl (.inl rfl) (by first | exact idxQ_at hI.2 ha hc2 | exact idxQ_end hI.2 (by omega))

/-- impl.Edit] -/
theorem c_slices_ContainsFunc_impl_Edit_impl_Edit {γ : Type} {g : FuncId} {kg : Kd γ} {y : γ} {cs : List As} (q : (Int × ByteArray × Int × (BitVec 64 × BitVec 64)) → Bool) (hcs : CloArgs kg y cs) (hg : ∀ a, AC Tryz.prog g ([.agg kEdit a] ++ cs) [.cel Kd.bool (q a)] []) (x : List (Int × ByteArray × Int × (BitVec 64 × BitVec 64))) : AC Tryz.prog 107 [.cel (Kd.slice kEdit) x, .clo g kg y] [.cel Kd.bool (x.any q)] [] := by
 refine acI (N := 9) Tryz.func107 (Nat.le_of_ble_eq_true rfl) rfl fun w0 hd s0 ar => ?_
 refine AW.to (kc 0 rfl <| Kc 1 (.clo _ _ _) rfl <| Kn) ?_
 refine sr ?_
 refine st (asB rfl) rfl ?_
 refine ng ?_
 refine sr ?_
 refine st (mvT rfl) rfl ?_
 refine st (OpT.move (A := .clo _ _ _) (.inl rfl) rfl (ok' rfl) (T1 rfl) rfl) rfl ?_
 refine st (OpT.c1 (ms := [.flat, .flat]) (c_slices_IndexFunc_impl_Edit_impl_Edit q hcs hg x) (H rfl) (Af (T1 rfl) rfl rfl <| Af (T1 rfl) rfl rfl <| An) rfl rfl) rfl ?_
 refine st (OpT.geq (H rfl) (T1 rfl) (I rfl)) rfl ?_
 refine st (asT rfl) rfl ?_
 refine ng ?_
 refine AW.ret ?_
 exact rt1 rfl (.inl rfl) idxQ_any

/-- spec.l07Edits -/
theorem c_spec_l07Edits (x : List DEdit) : AC Tryz.prog 69 [.cel (Kd.slice kEdit) x] [.cel Kd.bool (x.all editB)] [] := by
 refine acI (N := 15) Tryz.func69 (Nat.le_of_ble_eq_true rfl) rfl fun w0 hd s0 ar => ?_
 refine AW.to (kc 0 rfl <| Kn) ?_
 refine AW.fact (fun a w hr => (ok_slice (R_ok (t := 0) rfl hr)).2) (fun hl0 => ?_)
 refine sr ?_
 refine st (asB rfl) rfl ?_
 refine ng ?_
 refine AW.seq ?_
 refine sr ?_
 refine st (asI rfl) rfl ?_
 refine ng ?_
 refine AW.block ?_
 refine AW.loop (fun z : Nat => z ≤ x.length ∧ ∀ i, i < z → qI editB x i) (fun z : Nat => keep [(0, .cel (Kd.slice kEdit) x), (3, .cel (Kd.int .i64) (z : Int))]) (fun z : Nat => x.length - z) (0) ⟨Nat.zero_le _, all_none⟩ (Kc 0 _ (Kv rfl rfl) <| Kc 3 _ (Kv rfl rfl) <| Kn) ?_
 intro z hI
 refine AW.seq ?_
 refine sr ?_
 refine st (mvT rfl) rfl ?_
 refine st (mvT rfl) rfl ?_
 refine st (OpT.len (H rfl) (T1 rfl) el49) rfl ?_
 refine st (OpT.lss (H rfl) (T1 rfl) (T1 rfl)) rfl ?_
 refine ng ?_
 refine cd rfl (fun hc1 => ?_) fun hc1 => ?_
 ·
  obtain ⟨hc1, hc1'⟩ := pT hc1
  obtain ⟨e, he⟩ := getI (x := x) (z := z) (by omega)
  refine AW.skip ?_
  refine AX.go ?_
  refine AW.seq ?_
  refine AW.block ?_
  refine sr ?_
  refine st (mvT rfl) rfl ?_
  refine st (mvT rfl) rfl ?_
  refine st (OpT.indexAddr (H rfl) (T1 rfl) (T1 rfl) el49 sz63 (by omega) (by assumption)) rfl ?_
  refine st (OpT.c1 (ms := [.flat]) (c_spec_l07Edit _) (H rfl) (Af (T1 rfl) rfl rfl <| An) rfl rfl) rfl ?_
  refine st (OpT.not (H rfl) (T1 rfl)) rfl ?_
  refine ng ?_
  refine cd rfl (fun hc2 => ?_) fun hc2 => ?_
  ·
   obtain ⟨hc2, hc2'⟩ := pT hc2
   have hne : editB e = false := by simpa using hc2
   refine sr ?_
   refine st (asB rfl) rfl ?_
   refine ng ?_
   refine AW.ret ?_
   refine rK <| rT <| rT <| rK <| rT ?_
   exact rt1 rfl (.inl rfl) (by first | exact all_no he hne | exact all_yes hI.2 (by omega))
  ·
   obtain ⟨hc2, hc2'⟩ := pF hc2
   have hne : editB e = true := by simpa using hc2
   refine AW.skip ?_
   refine AX.normal_block ?_
   refine AX.go ?_
   refine AW.region ?_
   refine st (mvT rfl) rfl ?_
   refine st (OpT.add (H rfl) (T1 rfl) (I rfl) (nw (by omega))) rfl ?_
   refine st (asT rfl) rfl ?_
   refine nn ?_
   exact AX.again (z + 1) ⟨by omega, all_step hI.2 ((qI_iff he).2 hne)⟩ (by omega) (Kc 0 _ (Kv rfl rfl) <| Kc 3 _ (Kv rfl (by omega)) <| Kn)
 ·
  obtain ⟨hc1, hc1'⟩ := pF hc1
  refine AW.exit ?_
  refine xT <| xT <| AX.exit_hit ?_
  refine AX.go ?_
  refine sr ?_
  refine st (asB rfl) rfl ?_
  refine ng ?_
  refine AW.ret ?_
  exact rt1 rfl (.inl rfl) (by first | exact all_no he hne | exact all_yes hI.2 (by omega))

/-- impl.areEdits$1 -/
theorem c_impl_areEdits_1 (e : DEdit) : AC Tryz.prog 108 [.agg kEdit e] [.cel Kd.bool (!(editB e))] [] := by
 refine acI (N := 6) Tryz.func108 (Nat.le_of_ble_eq_true rfl) rfl fun w0 hd s0 ar => ?_
 refine AW.to (ka 0 rfl <| Kn) ?_
 refine sr ?_
 refine st (OpT.frz (OpT.boxA (E := 63) (H rfl) (T1 rfl))) rfl ?_
 refine st (asB rfl) rfl ?_
 refine ng ?_
 refine sr ?_
 refine st (OpT.loadA (H rfl) (T1 rfl) ag63 sz63) rfl ?_
 refine st (OpT.c1 (ms := [.flat]) (c_impl_isEdit _) (H rfl) (Af (T1 rfl) rfl rfl <| An) rfl rfl) rfl ?_
 refine st (OpT.not (H rfl) (T1 rfl)) rfl ?_
 refine st (asT rfl) rfl ?_
 refine ng ?_
 refine AW.ret ?_
 exact rt1 rfl (.inl rfl) rfl

/-- impl.areEdits -/
theorem c_impl_areEdits (x : List DEdit) : AC Tryz.prog 66 [.cel (Kd.slice kEdit) x] [.cel Kd.bool (x.all editB)] [] := by
 refine acI (N := 6) Tryz.func66 (Nat.le_of_ble_eq_true rfl) rfl fun w0 hd s0 ar => ?_
 refine AW.to (kc 0 rfl <| Kn) ?_
 refine AW.fact (fun a w hr => (ok_slice (R_ok (t := 0) rfl hr)).2) (fun hl0 => ?_)
 refine sr ?_
 refine st (asB rfl) rfl ?_
 refine ng ?_
 refine sr ?_
 refine st (mvT rfl) rfl ?_
 refine st (OpT.c1 (ms := [.flat, .flat]) (c_slices_ContainsFunc_impl_Edit_impl_Edit (fun e => !(editB e)) CloArgs.unit (fun e => c_impl_areEdits_1 e) _) (H rfl) (Af (T1 rfl) rfl rfl <| Af Opd.func rfl rfl <| An) rfl rfl) rfl ?_
 refine st (OpT.not (H rfl) (T1 rfl)) rfl ?_
 refine st (asT rfl) rfl ?_
 refine ng ?_
 refine AW.ret ?_
 exact rt1 rfl (.inl rfl) any_not

set_option maxHeartbeats 4000000 in
/-- spec.UndoEdits -/
theorem c_spec_UndoEdits_o (x : List DEdit) : AC Tryz.prog 28 [.cel (Kd.slice kEdit) x] [.own 63 kEdit (undoS x).1, .cel (Kd.int .i64) (undoS x).2] [] := by
 refine acI (N := 44) Tryz.func28 (Nat.le_of_ble_eq_true rfl) rfl fun w0 hd s0 ar => ?_
 refine AW.to (kc 0 rfl <| Kn) ?_
 refine AW.fact (fun a w hr => (ok_slice (R_ok (t := 0) rfl hr)).2) (fun hl0 => ?_)
 refine sr ?_
 refine st (nilO (E := 63) kEdit rfl (.inl rfl)) rfl ?_
 refine st (asI rfl) rfl ?_
 refine ng ?_
 refine AW.seq ?_
 refine sr ?_
 refine st (mvT rfl) rfl ?_
 refine st (OpT.c1 (ms := [.flat]) (c_spec_l07Edits _) (H rfl) (Af (T1 rfl) rfl rfl <| An) rfl rfl) rfl ?_
 refine st (OpT.not (H rfl) (T1 rfl)) rfl ?_
 refine ng ?_
 refine cd rfl (fun hc1 => ?_) fun hc1 => ?_
 ·
  obtain ⟨hc1, hc1'⟩ := pT hc1
  refine sr ?_
  refine st (OpT.buildSlice0 (m := 0) (z := .bool false) kEdit (H rfl) el49 sz63 (by decide)) rfl ?_
  refine sg (OpT.take (.inl rfl) rfl (ok' rfl) (Root.self (by decide)) rfl rfl (by decide)) (ko 2 rfl <| kc4 9 8 7 3 rfl <| kc 0 rfl <| Kn) rfl ?_
  refine st (asI rfl) rfl ?_
  refine ng ?_
  refine AW.ret ?_
  refine rT ?_
  exact AX.rt (rs := [.tmp 2, .tmp 3]) (ts := [some 2, some 3]) (.inl rfl) rfl (ROs.cons (RO.tmp (At.self (by decide)) (Ko rfl (by first | (rw [undo_bad (by simpa using hc1)]; done) | (rw [undo_many hok (by omega)]; done) | (rw [undo_ok hok (by omega)]; first | done | exact rev_end (by omega)))) rfl) <| ROs.cons (RO.tmp (At.self (by decide)) (Kv rfl (by first | (rw [undo_bad (by simpa using hc1)]; done) | (rw [undo_many hok (by omega)]; done) | (rw [undo_ok hok (by omega)]; first | done | exact rev_end (by omega)))) rfl) <| ROs.nil) (by decide) OutsOK.nil
 ·
  obtain ⟨hc1, hc1'⟩ := pF hc1
  have hok : x.all editB = true := by simpa using hc1
  refine AW.skip ?_
  refine AX.go ?_
  refine AW.seq ?_
  refine sr ?_
  refine st (mvT rfl) rfl ?_
  refine st (OpT.len (H rfl) (T1 rfl) el49) rfl ?_
  refine st (OpT.gtr (H rfl) (T1 rfl) (I rfl)) rfl ?_
  refine ng ?_
  refine cd rfl (fun hc2 => ?_) fun hc2 => ?_
  ·
   obtain ⟨hc2, hc2'⟩ := pT hc2
   refine sr ?_
   refine st (OpT.buildSlice0 (m := 0) (z := .bool false) kEdit (H rfl) el49 sz63 (by decide)) rfl ?_
   refine sg (OpT.take (.inl rfl) rfl (ok' rfl) (Root.self (by decide)) rfl rfl (by decide)) (ko 2 rfl <| kc4 13 12 11 9 rfl <| kc4 8 7 3 0 rfl <| Kn) rfl ?_
   refine st (asI rfl) rfl ?_
   refine ng ?_
   refine AW.ret ?_
   refine rT ?_
   exact AX.rt (rs := [.tmp 2, .tmp 3]) (ts := [some 2, some 3]) (.inl rfl) rfl (ROs.cons (RO.tmp (At.self (by decide)) (Ko rfl (by first | (rw [undo_bad (by simpa using hc1)]; done) | (rw [undo_many hok (by omega)]; done) | (rw [undo_ok hok (by omega)]; first | done | exact rev_end (by omega)))) rfl) <| ROs.cons (RO.tmp (At.self (by decide)) (Kv rfl (by first | (rw [undo_bad (by simpa using hc1)]; done) | (rw [undo_many hok (by omega)]; done) | (rw [undo_ok hok (by omega)]; first | done | exact rev_end (by omega)))) rfl) <| ROs.nil) (by decide) OutsOK.nil
  ·
   obtain ⟨hc2, hc2'⟩ := pF hc2
   refine AW.skip ?_
   refine AX.go ?_
   refine sr ?_
   refine st (OpT.buildSlice0 (m := 0) (z := .bool false) kEdit (H rfl) el49 sz63 (by decide)) rfl ?_
   refine sg (OpT.take (.inl rfl) rfl (ok' rfl) (Root.self (by decide)) rfl rfl (by decide)) (ko 4 rfl <| kc4 13 12 11 9 rfl <| kc3 8 7 3 rfl <| ko 2 rfl <| kc 0 rfl <| Kn) rfl ?_
   refine ng ?_
   refine AW.seq ?_
   refine sr ?_
   refine st (mvT rfl) rfl ?_
   refine st (OpT.len (H rfl) (T1 rfl) el49) rfl ?_
   refine st (OpT.sub (H rfl) (T1 rfl) (I rfl) (nw (by omega))) rfl ?_
   refine st (asT rfl) rfl ?_
   refine ng ?_
   refine AW.block ?_
   refine AW.loop (fun z : Nat => z ≤ x.length) (fun z : Nat => keep [(0, .cel (Kd.slice kEdit) x), (4, .own 63 kEdit ((x.reverse.take z).map opp)), (5, .cel (Kd.int .i64) ((x.length : Int) - 1 - (z : Int)))]) (fun z : Nat => x.length - z) (0) (Nat.zero_le _) (Kc 0 _ (Kv rfl rfl) <| Kc 4 _ (Ko rfl rfl) <| Kc 5 _ (Kv rfl (by omega)) <| Kn) ?_
   intro z hI
   refine AW.seq ?_
   refine sr ?_
   refine st (mvT rfl) rfl ?_
   refine st (OpT.geq (H rfl) (T1 rfl) (I rfl)) rfl ?_
   refine ng ?_
   refine cd rfl (fun hc3 => ?_) fun hc3 => ?_
   ·
    obtain ⟨hc3, hc3'⟩ := pT hc3
    obtain ⟨e, he⟩ : ∃ e, x[Int.toNat ((x.length : Int) - 1 - (z : Int))]? = some e := ⟨_, List.getElem?_eq_getElem (by omega)⟩
    have hkd := edit_kind (List.all_eq_true.1 hok e (List.mem_of_getElem? he))
    refine AW.skip ?_
    refine AX.go ?_
    refine AW.seq ?_
    refine AW.block ?_
    refine sr ?_
    refine st (mvT rfl) rfl ?_
    refine st (mvT rfl) rfl ?_
    refine st (OpT.indexAddr (H rfl) (T1 rfl) (T1 rfl) el49 sz63 (by omega) (by assumption)) rfl ?_
    refine st (OpT.loadA (H rfl) (T1 rfl) ag63 sz63) rfl ?_
    refine st (OpT.alloc (H rfl) zr63 zk63) rfl ?_
    refine sk (OpT.storeBA rfl rfl (Opd.whole (Root.self (t := 6) (by decide)) rfl) rfl sz63 (by decide) (T1 rfl)) rfl ?_
    refine ng ?_
    refine AW.seq ?_
    refine sr ?_
    refine st (OpT.fieldAddrB (H rfl) (Root.self (t := 6) (by decide)) rfl (by decide) fd63_0 sz60 (by decide) sb63_0) rfl ?_
    refine st (OpT.loadP (H rfl) (T1 rfl) (.inl ⟨_, rfl, rfl⟩) ag60 rfl) rfl ?_
    refine ng ?_
    refine AW.block ?_
    refine sr ?_
    refine st (OpT.eql (H rfl) (T1 rfl) (I rfl)) rfl ?_
    refine st (asT rfl) rfl ?_
    refine ng ?_
    refine cd rfl (fun hc4 => ?_) fun hc4 => ?_
    ·
     obtain ⟨hc4, hc4'⟩ := pT hc4
     refine AW.region ?_
     refine st (OpT.fieldAddrB (H rfl) (Root.self (t := 6) (by decide)) rfl (by decide) fd63_0 sz60 (by decide) sb63_0) rfl ?_
     refine sk (OpT.storeB rfl rfl (T1 rfl) rfl sz60 rfl (I rfl)) rfl ?_
     refine nn ?_
     refine AX.normal_block ?_
     refine AX.go ?_
     refine AW.region ?_
     refine st (OpT.alias (H rfl) (by decide) (by decide)) rfl ?_
     refine st (OpT.loadB (H rfl) (Root.self (t := 6) (by decide)) rfl ag63 sz63) rfl ?_
     refine st (OpT.buildSlice (H rfl) el49 zr63 sz63 rfl (by decide) zk63 (by decide) (Built.agg (T1 rfl) rfl (by decide) (sub_arr (by decide) ((0, .empty, 0, (0, 0)) : Int × ByteArray × Int × (BitVec 64 × BitVec 64))) (Built.nil _))) rfl ?_
     refine sg (OpT.append (H rfl) (Root.ali rfl (by decide) (by decide)) rfl (Src.own (Root.self (t := 41) (by decide)) rfl) (by decide) el49 zr63 rfl sz63 by63 (by decide) (by simp only [List.length_map, List.length_take, List.length_reverse, List.length_set, List.length_replicate]; omega)) (ko 42 rfl <| ko 41 rfl <| ka 40 rfl <| kb 6 rfl <| Kc 32 (.pel _ _ _ _ _ _ _) rfl <| kc3 30 31 28 rfl <| Kc 27 (.pel _ _ _ _ _ _ _) rfl <| ka 26 rfl <| kc4 25 24 23 20 rfl <| kc3 19 0 5 rfl <| Kn) rfl ?_
     refine sg (OpT.take (.inl rfl) rfl (ok' rfl) (Root.self (by decide)) rfl rfl (by decide)) (ko 4 rfl <| ko 41 rfl <| ka 40 rfl <| kb 6 rfl <| Kc 32 (.pel _ _ _ _ _ _ _) rfl <| kc3 30 31 28 rfl <| Kc 27 (.pel _ _ _ _ _ _ _) rfl <| ka 26 rfl <| kc4 25 24 23 20 rfl <| kc3 19 0 5 rfl <| Kn) rfl ?_
     refine nn ?_
     refine AX.normal_block ?_
     refine AX.go ?_
     refine AW.region ?_
     refine st (mvT rfl) rfl ?_
     refine st (OpT.sub (H rfl) (T1 rfl) (I rfl) (nw (by omega))) rfl ?_
     refine st (asT rfl) rfl ?_
     refine nn ?_
     exact AX.again (z + 1) (by omega) (by omega) (Kc 0 _ (Kv rfl rfl) <| Kc 4 _ (Ko rfl (by first | exact (congrArg (fun v => (x.reverse.take z).map opp ++ [v]) (opp_1 hc4')).trans (rev_next (by omega) he) | exact (congrArg (fun v => (x.reverse.take z).map opp ++ [v]) (opp_2 hc5')).trans (rev_next (by omega) he) | exact (congrArg (fun v => (x.reverse.take z).map opp ++ [v]) (opp_3 hc6')).trans (rev_next (by omega) he) | exact (congrArg (fun v => (x.reverse.take z).map opp ++ [v]) (opp_4 hc4' hc5' hc6')).trans (rev_next (by omega) he))) <| Kc 5 _ (Kv rfl (by omega)) <| Kn)
    ·
     obtain ⟨hc4, hc4'⟩ := pF hc4
     refine sr ?_
     refine st (OpT.eql (H rfl) (T1 rfl) (I rfl)) rfl ?_
     refine st (asT rfl) rfl ?_
     refine ng ?_
     refine cd rfl (fun hc5 => ?_) fun hc5 => ?_
     ·
      obtain ⟨hc5, hc5'⟩ := pT hc5
      refine AW.region ?_
      refine st (OpT.fieldAddrB (H rfl) (Root.self (t := 6) (by decide)) rfl (by decide) fd63_0 sz60 (by decide) sb63_0) rfl ?_
      refine sk (OpT.storeB rfl rfl (T1 rfl) rfl sz60 rfl (I rfl)) rfl ?_
      refine nn ?_
      refine AX.normal_block ?_
      refine AX.go ?_
      refine AW.region ?_
      refine st (OpT.alias (H rfl) (by decide) (by decide)) rfl ?_
      refine st (OpT.loadB (H rfl) (Root.self (t := 6) (by decide)) rfl ag63 sz63) rfl ?_
      refine st (OpT.buildSlice (H rfl) el49 zr63 sz63 rfl (by decide) zk63 (by decide) (Built.agg (T1 rfl) rfl (by decide) (sub_arr (by decide) ((0, .empty, 0, (0, 0)) : Int × ByteArray × Int × (BitVec 64 × BitVec 64))) (Built.nil _))) rfl ?_
      refine sg (OpT.append (H rfl) (Root.ali rfl (by decide) (by decide)) rfl (Src.own (Root.self (t := 41) (by decide)) rfl) (by decide) el49 zr63 rfl sz63 by63 (by decide) (by simp only [List.length_map, List.length_take, List.length_reverse, List.length_set, List.length_replicate]; omega)) (ko 42 rfl <| ko 41 rfl <| ka 40 rfl <| kb 6 rfl <| Kc 35 (.pel _ _ _ _ _ _ _) rfl <| kc4 33 34 30 31 rfl <| kc 28 rfl <| Kc 27 (.pel _ _ _ _ _ _ _) rfl <| ka 26 rfl <| kc4 25 24 23 20 rfl <| kc3 19 0 5 rfl <| Kn) rfl ?_
      refine sg (OpT.take (.inl rfl) rfl (ok' rfl) (Root.self (by decide)) rfl rfl (by decide)) (ko 4 rfl <| ko 41 rfl <| ka 40 rfl <| kb 6 rfl <| Kc 35 (.pel _ _ _ _ _ _ _) rfl <| kc4 33 34 30 31 rfl <| kc 28 rfl <| Kc 27 (.pel _ _ _ _ _ _ _) rfl <| ka 26 rfl <| kc4 25 24 23 20 rfl <| kc3 19 0 5 rfl <| Kn) rfl ?_
      refine nn ?_
      refine AX.normal_block ?_
      refine AX.go ?_
      refine AW.region ?_
      refine st (mvT rfl) rfl ?_
      refine st (OpT.sub (H rfl) (T1 rfl) (I rfl) (nw (by omega))) rfl ?_
      refine st (asT rfl) rfl ?_
      refine nn ?_
      exact AX.again (z + 1) (by omega) (by omega) (Kc 0 _ (Kv rfl rfl) <| Kc 4 _ (Ko rfl (by first | exact (congrArg (fun v => (x.reverse.take z).map opp ++ [v]) (opp_1 hc4')).trans (rev_next (by omega) he) | exact (congrArg (fun v => (x.reverse.take z).map opp ++ [v]) (opp_2 hc5')).trans (rev_next (by omega) he) | exact (congrArg (fun v => (x.reverse.take z).map opp ++ [v]) (opp_3 hc6')).trans (rev_next (by omega) he) | exact (congrArg (fun v => (x.reverse.take z).map opp ++ [v]) (opp_4 hc4' hc5' hc6')).trans (rev_next (by omega) he))) <| Kc 5 _ (Kv rfl (by omega)) <| Kn)
     ·
      obtain ⟨hc5, hc5'⟩ := pF hc5
      refine sr ?_
      refine st (OpT.eql (H rfl) (T1 rfl) (I rfl)) rfl ?_
      refine st (asT rfl) rfl ?_
      refine ng ?_
      refine cd rfl (fun hc6 => ?_) fun hc6 => ?_
      ·
       obtain ⟨hc6, hc6'⟩ := pT hc6
       refine AW.region ?_
       refine st (OpT.fieldAddrB (H rfl) (Root.self (t := 6) (by decide)) rfl (by decide) fd63_0 sz60 (by decide) sb63_0) rfl ?_
       refine sk (OpT.storeB rfl rfl (T1 rfl) rfl sz60 rfl (I rfl)) rfl ?_
       refine nn ?_
       refine AX.normal_block ?_
       refine AX.go ?_
       refine AW.region ?_
       refine st (OpT.alias (H rfl) (by decide) (by decide)) rfl ?_
       refine st (OpT.loadB (H rfl) (Root.self (t := 6) (by decide)) rfl ag63 sz63) rfl ?_
       refine st (OpT.buildSlice (H rfl) el49 zr63 sz63 rfl (by decide) zk63 (by decide) (Built.agg (T1 rfl) rfl (by decide) (sub_arr (by decide) ((0, .empty, 0, (0, 0)) : Int × ByteArray × Int × (BitVec 64 × BitVec 64))) (Built.nil _))) rfl ?_
       refine sg (OpT.append (H rfl) (Root.ali rfl (by decide) (by decide)) rfl (Src.own (Root.self (t := 41) (by decide)) rfl) (by decide) el49 zr63 rfl sz63 by63 (by decide) (by simp only [List.length_map, List.length_take, List.length_reverse, List.length_set, List.length_replicate]; omega)) (ko 42 rfl <| ko 41 rfl <| ka 40 rfl <| kb 6 rfl <| Kc 38 (.pel _ _ _ _ _ _ _) rfl <| kc4 36 37 33 34 rfl <| kc3 30 31 28 rfl <| Kc 27 (.pel _ _ _ _ _ _ _) rfl <| ka 26 rfl <| kc4 25 24 23 20 rfl <| kc3 19 0 5 rfl <| Kn) rfl ?_
       refine sg (OpT.take (.inl rfl) rfl (ok' rfl) (Root.self (by decide)) rfl rfl (by decide)) (ko 4 rfl <| ko 41 rfl <| ka 40 rfl <| kb 6 rfl <| Kc 38 (.pel _ _ _ _ _ _ _) rfl <| kc4 36 37 33 34 rfl <| kc3 30 31 28 rfl <| Kc 27 (.pel _ _ _ _ _ _ _) rfl <| ka 26 rfl <| kc4 25 24 23 20 rfl <| kc3 19 0 5 rfl <| Kn) rfl ?_
       refine nn ?_
       refine AX.normal_block ?_
       refine AX.go ?_
       refine AW.region ?_
       refine st (mvT rfl) rfl ?_
       refine st (OpT.sub (H rfl) (T1 rfl) (I rfl) (nw (by omega))) rfl ?_
       refine st (asT rfl) rfl ?_
       refine nn ?_
       exact AX.again (z + 1) (by omega) (by omega) (Kc 0 _ (Kv rfl rfl) <| Kc 4 _ (Ko rfl (by first | exact (congrArg (fun v => (x.reverse.take z).map opp ++ [v]) (opp_1 hc4')).trans (rev_next (by omega) he) | exact (congrArg (fun v => (x.reverse.take z).map opp ++ [v]) (opp_2 hc5')).trans (rev_next (by omega) he) | exact (congrArg (fun v => (x.reverse.take z).map opp ++ [v]) (opp_3 hc6')).trans (rev_next (by omega) he) | exact (congrArg (fun v => (x.reverse.take z).map opp ++ [v]) (opp_4 hc4' hc5' hc6')).trans (rev_next (by omega) he))) <| Kc 5 _ (Kv rfl (by omega)) <| Kn)
      ·
       obtain ⟨hc6, hc6'⟩ := pF hc6
       refine AW.region ?_
       refine st (OpT.fieldAddrB (H rfl) (Root.self (t := 6) (by decide)) rfl (by decide) fd63_0 sz60 (by decide) sb63_0) rfl ?_
       refine sk (OpT.storeB rfl rfl (T1 rfl) rfl sz60 rfl (I rfl)) rfl ?_
       refine nn ?_
       refine AX.normal_block ?_
       refine AX.go ?_
       refine AW.region ?_
       refine st (OpT.alias (H rfl) (by decide) (by decide)) rfl ?_
       refine st (OpT.loadB (H rfl) (Root.self (t := 6) (by decide)) rfl ag63 sz63) rfl ?_
       refine st (OpT.buildSlice (H rfl) el49 zr63 sz63 rfl (by decide) zk63 (by decide) (Built.agg (T1 rfl) rfl (by decide) (sub_arr (by decide) ((0, .empty, 0, (0, 0)) : Int × ByteArray × Int × (BitVec 64 × BitVec 64))) (Built.nil _))) rfl ?_
       refine sg (OpT.append (H rfl) (Root.ali rfl (by decide) (by decide)) rfl (Src.own (Root.self (t := 41) (by decide)) rfl) (by decide) el49 zr63 rfl sz63 by63 (by decide) (by simp only [List.length_map, List.length_take, List.length_reverse, List.length_set, List.length_replicate]; omega)) (ko 42 rfl <| ko 41 rfl <| ka 40 rfl <| kb 6 rfl <| Kc 29 (.pel _ _ _ _ _ _ _) rfl <| kc4 36 37 33 34 rfl <| kc3 30 31 28 rfl <| Kc 27 (.pel _ _ _ _ _ _ _) rfl <| ka 26 rfl <| kc4 25 24 23 20 rfl <| kc3 19 0 5 rfl <| Kn) rfl ?_
       refine sg (OpT.take (.inl rfl) rfl (ok' rfl) (Root.self (by decide)) rfl rfl (by decide)) (ko 4 rfl <| ko 41 rfl <| ka 40 rfl <| kb 6 rfl <| Kc 29 (.pel _ _ _ _ _ _ _) rfl <| kc4 36 37 33 34 rfl <| kc3 30 31 28 rfl <| Kc 27 (.pel _ _ _ _ _ _ _) rfl <| ka 26 rfl <| kc4 25 24 23 20 rfl <| kc3 19 0 5 rfl <| Kn) rfl ?_
       refine nn ?_
       refine AX.normal_block ?_
       refine AX.go ?_
       refine AW.region ?_
       refine st (mvT rfl) rfl ?_
       refine st (OpT.sub (H rfl) (T1 rfl) (I rfl) (nw (by omega))) rfl ?_
       refine st (asT rfl) rfl ?_
       refine nn ?_
       exact AX.again (z + 1) (by omega) (by omega) (Kc 0 _ (Kv rfl rfl) <| Kc 4 _ (Ko rfl (by first | exact (congrArg (fun v => (x.reverse.take z).map opp ++ [v]) (opp_1 hc4')).trans (rev_next (by omega) he) | exact (congrArg (fun v => (x.reverse.take z).map opp ++ [v]) (opp_2 hc5')).trans (rev_next (by omega) he) | exact (congrArg (fun v => (x.reverse.take z).map opp ++ [v]) (opp_3 hc6')).trans (rev_next (by omega) he) | exact (congrArg (fun v => (x.reverse.take z).map opp ++ [v]) (opp_4 hc4' hc5' hc6')).trans (rev_next (by omega) he))) <| Kc 5 _ (Kv rfl (by omega)) <| Kn)
   ·
    obtain ⟨hc3, hc3'⟩ := pF hc3
    refine AW.exit ?_
    refine xT <| xT <| AX.exit_hit ?_
    refine AX.go ?_
    refine sr ?_
    refine st (OpT.alias (H rfl) (by decide) (by decide)) rfl ?_
    refine sg (OpT.take (.inl rfl) rfl (ok' rfl) (Root.ali rfl (by decide) (by decide)) rfl rfl (by decide)) (ko 2 rfl <| kc4 20 19 0 5 rfl <| Kn) rfl ?_
    refine st (asI rfl) rfl ?_
    refine ng ?_
    refine AW.ret ?_
    exact AX.rt (rs := [.tmp 2, .tmp 3]) (ts := [some 2, some 3]) (.inl rfl) rfl (ROs.cons (RO.tmp (At.self (by decide)) (Ko rfl (by first | (rw [undo_bad (by simpa using hc1)]; done) | (rw [undo_many hok (by omega)]; done) | (rw [undo_ok hok (by omega)]; first | done | exact rev_end (by omega)))) rfl) <| ROs.cons (RO.tmp (At.self (by decide)) (Kv rfl (by first | (rw [undo_bad (by simpa using hc1)]; done) | (rw [undo_many hok (by omega)]; done) | (rw [undo_ok hok (by omega)]; first | done | exact rev_end (by omega)))) rfl) <| ROs.nil) (by decide) OutsOK.nil
theorem c_spec_UndoEdits (x : List DEdit) : AC Tryz.prog 28 [.cel (Kd.slice kEdit) x] [.cel (Kd.slice kEdit) (undoS x).1, .cel (Kd.int .i64) (undoS x).2] [] := (c_spec_UndoEdits_o x).frz rfl

/-- impl.UndoEdits -/
theorem c_impl_UndoEdits_o (x : List DEdit) : AC Tryz.prog 27 [.cel (Kd.slice kEdit) x] [.own 63 kEdit (undoS x).1, .cel (Kd.int .i64) (undoS x).2] [] := by
 refine acI (N := 37) Tryz.func27 (Nat.le_of_ble_eq_true rfl) rfl fun w0 hd s0 ar => ?_
 refine AW.to (kc 0 rfl <| Kn) ?_
 refine AW.fact (fun a w hr => (ok_slice (R_ok (t := 0) rfl hr)).2) (fun hl0 => ?_)
 refine sr ?_
 refine st (nilO (E := 63) kEdit rfl (.inl rfl)) rfl ?_
 refine st (asI rfl) rfl ?_
 refine ng ?_
 refine AW.seq ?_
 refine sr ?_
 refine st (mvT rfl) rfl ?_
 refine st (OpT.c1 (ms := [.flat]) (c_impl_areEdits _) (H rfl) (Af (T1 rfl) rfl rfl <| An) rfl rfl) rfl ?_
 refine st (OpT.not (H rfl) (T1 rfl)) rfl ?_
 refine ng ?_
 refine cd rfl (fun hc1 => ?_) fun hc1 => ?_
 ·
  obtain ⟨hc1, hc1'⟩ := pT hc1
  refine sr ?_
  refine st (nilO (E := 63) kEdit rfl (.inl rfl)) rfl ?_
  refine st (asI rfl) rfl ?_
  refine ng ?_
  refine AW.ret ?_
  refine rT ?_
  exact AX.rt (rs := [.tmp 2, .tmp 3]) (ts := [some 2, some 3]) (.inl rfl) rfl (ROs.cons (RO.tmp (At.self (by decide)) (Ko rfl (by first | (rw [undo_bad (by simpa using hc1)]; done) | (rw [undo_many hok (by omega)]; done) | (rw [undo_ok hok (by omega)]; first | done | exact rev_end (by omega)))) rfl) <| ROs.cons (RO.tmp (At.self (by decide)) (Kv rfl (by first | (rw [undo_bad (by simpa using hc1)]; done) | (rw [undo_many hok (by omega)]; done) | (rw [undo_ok hok (by omega)]; first | done | exact rev_end (by omega)))) rfl) <| ROs.nil) (by decide) OutsOK.nil
 ·
  obtain ⟨hc1, hc1'⟩ := pF hc1
  have hok : x.all editB = true := by simpa using hc1
  refine AW.skip ?_
  refine AX.go ?_
  refine AW.seq ?_
  refine sr ?_
  refine st (mvT rfl) rfl ?_
  refine st (OpT.len (H rfl) (T1 rfl) el49) rfl ?_
  refine st (OpT.gtr (H rfl) (T1 rfl) (I rfl)) rfl ?_
  refine ng ?_
  refine cd rfl (fun hc2 => ?_) fun hc2 => ?_
  ·
   obtain ⟨hc2, hc2'⟩ := pT hc2
   refine sr ?_
   refine st (nilO (E := 63) kEdit rfl (.inl rfl)) rfl ?_
   refine st (asI rfl) rfl ?_
   refine ng ?_
   refine AW.ret ?_
   refine rT ?_
   exact AX.rt (rs := [.tmp 2, .tmp 3]) (ts := [some 2, some 3]) (.inl rfl) rfl (ROs.cons (RO.tmp (At.self (by decide)) (Ko rfl (by first | (rw [undo_bad (by simpa using hc1)]; done) | (rw [undo_many hok (by omega)]; done) | (rw [undo_ok hok (by omega)]; first | done | exact rev_end (by omega)))) rfl) <| ROs.cons (RO.tmp (At.self (by decide)) (Kv rfl (by first | (rw [undo_bad (by simpa using hc1)]; done) | (rw [undo_many hok (by omega)]; done) | (rw [undo_ok hok (by omega)]; first | done | exact rev_end (by omega)))) rfl) <| ROs.nil) (by decide) OutsOK.nil
  ·
   obtain ⟨hc2, hc2'⟩ := pF hc2
   refine AW.skip ?_
   refine AX.go ?_
   refine sr ?_
   refine st (OpT.buildSlice0 (m := 0) (z := .bool false) kEdit (H rfl) el49 sz63 (by decide)) rfl ?_
   refine sg (OpT.take (.inl rfl) rfl (ok' rfl) (Root.self (by decide)) rfl rfl (by decide)) (ko 4 rfl <| kc4 13 12 11 10 rfl <| kc3 9 8 3 rfl <| ko 2 rfl <| kc 0 rfl <| Kn) rfl ?_
   refine ng ?_
   refine sr ?_
   refine st (OpT.buildA (H rfl) ar96 sz60 zr96 zk96 (Built.cel (I rfl) rfl rfl (sub_arr (by decide) (0 : Int)) (Built.cel (I rfl) rfl rfl (sub_arr (by decide) (0 : Int)) (Built.cel (I rfl) rfl rfl (sub_arr (by decide) (0 : Int)) (Built.cel (I rfl) rfl rfl (sub_arr (by decide) (0 : Int)) (Built.cel (I rfl) rfl rfl (sub_arr (by decide) (0 : Int)) (Built.nil _))))))) rfl ?_
   refine st (OpT.alloc (H rfl) zr96 zk96) rfl ?_
   refine sk (OpT.storeBA rfl rfl (Opd.whole (Root.self (t := 5) (by decide)) rfl) rfl sz96 (by decide) (T1 rfl)) rfl ?_
   refine ng ?_
   refine AW.seq ?_
   refine sr ?_
   refine st (mvT rfl) rfl ?_
   refine st (OpT.len (H rfl) (T1 rfl) el49) rfl ?_
   refine st (OpT.sub (H rfl) (T1 rfl) (I rfl) (nw (by omega))) rfl ?_
   refine st (asT rfl) rfl ?_
   refine AWl.to (kc 6 rfl <| kb 5 rfl <| ko 4 rfl <| kc 3 rfl <| ko 2 rfl <| kc 0 rfl <| Kn) ?_
   refine ng ?_
   refine AW.block ?_
   refine AW.loop (fun z : Nat => z ≤ x.length) (fun z : Nat => keep [(0, .cel (Kd.slice kEdit) x), (4, .own 63 kEdit ((x.reverse.take z).map opp)), (6, .cel (Kd.int .i64) ((x.length : Int) - 1 - (z : Int))), (5, .box 96 (Kd.arr 5 (Kd.int .i8)) oppL)]) (fun z : Nat => x.length - z) (0) (Nat.zero_le _) (Kc 0 _ (Kv rfl rfl) <| Kc 4 _ (Ko rfl rfl) <| Kc 6 _ (Kv rfl (by omega)) <| Kc 5 _ (Kb rfl rfl) <| Kn) ?_
   intro z hI
   refine AW.seq ?_
   refine sr ?_
   refine st (mvT rfl) rfl ?_
   refine st (OpT.geq (H rfl) (T1 rfl) (I rfl)) rfl ?_
   refine ng ?_
   refine cd rfl (fun hc3 => ?_) fun hc3 => ?_
   ·
    obtain ⟨hc3, hc3'⟩ := pT hc3
    obtain ⟨e, he⟩ : ∃ e, x[Int.toNat ((x.length : Int) - 1 - (z : Int))]? = some e := ⟨_, List.getElem?_eq_getElem (by omega)⟩
    have hkd := edit_kind (List.all_eq_true.1 hok e (List.mem_of_getElem? he))
    refine AW.skip ?_
    refine AX.go ?_
    refine AW.seq ?_
    refine AW.block ?_
    refine sr ?_
    refine st (mvT rfl) rfl ?_
    refine st (mvT rfl) rfl ?_
    refine st (OpT.indexAddr (H rfl) (T1 rfl) (T1 rfl) el49 sz63 (by omega) (by assumption)) rfl ?_
    refine st (OpT.loadA (H rfl) (T1 rfl) ag63 sz63) rfl ?_
    refine st (OpT.alloc (H rfl) zr63 zk63) rfl ?_
    refine sk (OpT.storeBA rfl rfl (Opd.whole (Root.self (t := 7) (by decide)) rfl) rfl sz63 (by decide) (T1 rfl)) rfl ?_
    refine ng ?_
    refine sr ?_
    refine st (OpT.fieldAddrB (H rfl) (Root.self (t := 7) (by decide)) rfl (by decide) fd63_0 sz60 (by decide) sb63_0) rfl ?_
    refine st (OpT.loadP (H rfl) (T1 rfl) (.inl ⟨_, rfl, rfl⟩) ag60 rfl) rfl ?_
    refine st (OpT.indexAddrB (H rfl) (Root.self (t := 5) (by decide)) rfl (by decide) (T1 rfl) ar96 sz60 (by omega) (sub_arr (by omega) (0 : Int))) rfl ?_
    refine st (OpT.loadP (H rfl) (T1 rfl) (.inl ⟨_, rfl, rfl⟩) ag60 rfl) rfl ?_
    refine st (OpT.fieldAddrB (H rfl) (Root.self (t := 7) (by decide)) rfl (by decide) fd63_0 sz60 (by decide) sb63_0) rfl ?_
    refine sk (OpT.storeB rfl rfl (T1 rfl) rfl sz60 rfl (T1 rfl)) rfl ?_
    refine ng ?_
    refine AW.region ?_
    refine st (OpT.alias (H rfl) (by decide) (by decide)) rfl ?_
    refine st (OpT.loadB (H rfl) (Root.self (t := 7) (by decide)) rfl ag63 sz63) rfl ?_
    refine st (OpT.buildSlice (H rfl) el49 zr63 sz63 rfl (by decide) zk63 (by decide) (Built.agg (T1 rfl) rfl (by decide) (sub_arr (by decide) ((0, .empty, 0, (0, 0)) : Int × ByteArray × Int × (BitVec 64 × BitVec 64))) (Built.nil _))) rfl ?_
    refine sg (OpT.append (H rfl) (Root.ali rfl (by decide) (by decide)) rfl (Src.own (Root.self (t := 34) (by decide)) rfl) (by decide) el49 zr63 rfl sz63 by63 (by decide) (by simp only [List.length_map, List.length_take, List.length_reverse, List.length_set, List.length_replicate]; omega)) (ko 35 rfl <| ko 34 rfl <| ka 33 rfl <| kb 7 rfl <| Kc 31 (.pel _ _ _ _ _ _ _) rfl <| kc 30 rfl <| Kc 29 (.pel _ _ _ _ _ _ _) rfl <| kc 28 rfl <| Kc 27 (.pel _ _ _ _ _ _ _) rfl <| ka 26 rfl <| kc4 25 24 23 20 rfl <| kc3 19 0 6 rfl <| kb 5 rfl <| Kn) rfl ?_
    refine sg (OpT.take (.inl rfl) rfl (ok' rfl) (Root.self (by decide)) rfl rfl (by decide)) (ko 4 rfl <| ko 34 rfl <| ka 33 rfl <| kb 7 rfl <| Kc 31 (.pel _ _ _ _ _ _ _) rfl <| kc 30 rfl <| Kc 29 (.pel _ _ _ _ _ _ _) rfl <| kc 28 rfl <| Kc 27 (.pel _ _ _ _ _ _ _) rfl <| ka 26 rfl <| kc4 25 24 23 20 rfl <| kc3 19 0 6 rfl <| kb 5 rfl <| Kn) rfl ?_
    refine nn ?_
    refine AX.normal_block ?_
    refine AX.go ?_
    refine AW.region ?_
    refine st (mvT rfl) rfl ?_
    refine st (OpT.sub (H rfl) (T1 rfl) (I rfl) (nw (by omega))) rfl ?_
    refine st (asT rfl) rfl ?_
    refine nn ?_
    exact AX.again (z + 1) (by omega) (by omega) (Kc 0 _ (Kv rfl rfl) <| Kc 4 _ (Ko rfl (by first | exact (congrArg (fun v => (x.reverse.take z).map opp ++ [v]) ((by rw [opp, ← opp_get (by omega)]))).trans (rev_next (by omega) he))) <| Kc 6 _ (Kv rfl (by omega)) <| Kc 5 _ (Kb rfl rfl) <| Kn)
   ·
    obtain ⟨hc3, hc3'⟩ := pF hc3
    refine AW.exit ?_
    refine xT <| xT <| AX.exit_hit ?_
    refine AX.go ?_
    refine sr ?_
    refine st (OpT.alias (H rfl) (by decide) (by decide)) rfl ?_
    refine sg (OpT.take (.inl rfl) rfl (ok' rfl) (Root.ali rfl (by decide) (by decide)) rfl rfl (by decide)) (ko 2 rfl <| kc4 20 19 0 6 rfl <| kb 5 rfl <| Kn) rfl ?_
    refine st (asI rfl) rfl ?_
    refine ng ?_
    refine AW.ret ?_
    exact AX.rt (rs := [.tmp 2, .tmp 3]) (ts := [some 2, some 3]) (.inl rfl) rfl (ROs.cons (RO.tmp (At.self (by decide)) (Ko rfl (by first | (rw [undo_bad (by simpa using hc1)]; done) | (rw [undo_many hok (by omega)]; done) | (rw [undo_ok hok (by omega)]; first | done | exact rev_end (by omega)))) rfl) <| ROs.cons (RO.tmp (At.self (by decide)) (Kv rfl (by first | (rw [undo_bad (by simpa using hc1)]; done) | (rw [undo_many hok (by omega)]; done) | (rw [undo_ok hok (by omega)]; first | done | exact rev_end (by omega)))) rfl) <| ROs.nil) (by decide) OutsOK.nil
theorem c_impl_UndoEdits (x : List DEdit) : AC Tryz.prog 27 [.cel (Kd.slice kEdit) x] [.cel (Kd.slice kEdit) (undoS x).1, .cel (Kd.int .i64) (undoS x).2] [] := (c_impl_UndoEdits_o x).frz rfl

/-- impl.ApplyEdit -/
theorem c_impl_ApplyEdit_o (x : List DCard) (e : DEdit) : AC Tryz.prog 33 [.cel (Kd.slice kCard) x, .agg kEdit e] [.own 40 kCard (oneS x e).1, .cel (Kd.int .i64) (oneS x e).2] [] := by
 refine acI (N := 19) Tryz.func33 (Nat.le_of_ble_eq_true rfl) rfl fun w0 hd s0 ar => ?_
 refine AW.to (kc 0 rfl <| ka 1 rfl <| Kn) ?_
 refine sr ?_
 refine st (OpT.frz (OpT.boxA (E := 63) (H rfl) (T1 rfl))) rfl ?_
 refine st (nilO (E := 40) kCard rfl (.inl rfl)) rfl ?_
 refine st (asI rfl) rfl ?_
 refine ng ?_
 refine AW.seq ?_
 refine sr ?_
 refine st (mvT rfl) rfl ?_
 refine st (OpT.c1 (ms := [.flat]) (c_impl_isDeck _) (H rfl) (Af (T1 rfl) rfl rfl <| An) rfl rfl) rfl ?_
 refine st (OpT.not (H rfl) (T1 rfl)) rfl ?_
 refine st (mvT rfl) rfl ?_
 apply AWl.or (d := 13) (t := 9) rfl
 ·
  intro hb1 Q1 k1
  have hb1' := lF hb1
  refine rs hb1 (OpT.loadA (H rfl) (T1 rfl) ag63 sz63) rfl ?_
  refine rs hb1 (OpT.c1 (ms := [.flat]) (c_impl_isEdit _) (H rfl) (Af (T1 rfl) rfl rfl <| An) rfl rfl) rfl ?_
  refine rs hb1 (OpT.not (H rfl) (T1 rfl)) rfl ?_
  refine st (OpT.pickF (A := .cel _ _) (H rfl) (T1 rfl) hb1 (T1 rfl) rfl) rfl ?_
  exact AWl.to (junk 3 rfl) k1
 ·
  intro hb1 Q1 k1
  refine ps hb1 rfl ?_
  refine ps hb1 rfl ?_
  refine ps hb1 rfl ?_
  refine st (OpT.pickT (A := .cel _ _) (H rfl) (T1 rfl) hb1 Opd.bool rfl) rfl ?_
  exact k1
 refine ng ?_
 refine cd rfl (fun hc1 => ?_) fun hc1 => ?_
 ·
  obtain ⟨hc1, hc1'⟩ := pT hc1
  refine sr ?_
  refine st (nilO (E := 40) kCard rfl (.inl rfl)) rfl ?_
  refine st (asI rfl) rfl ?_
  refine ng ?_
  refine AW.ret ?_
  refine rT ?_
  exact AX.rt (rs := [.tmp 4, .tmp 5]) (ts := [some 4, some 5]) (.inl rfl) rfl (ROs.cons (RO.tmp (At.self (by decide)) (Ko rfl (by first | (rw [one_bad hc1]; done) | (rw [one_ok hc1]; done))) rfl) <| ROs.cons (RO.tmp (At.self (by decide)) (Kv rfl (by first | (rw [one_bad hc1]; done) | (rw [one_ok hc1]; done))) rfl) <| ROs.nil) (by decide) OutsOK.nil
 ·
  obtain ⟨hc1, hc1'⟩ := pF hc1
  have hde := deck_edit hc1
  refine AW.skip ?_
  refine AX.go ?_
  refine sr ?_
  refine st (mvT rfl) rfl ?_
  refine st (OpT.loadA (H rfl) (T1 rfl) ag63 sz63) rfl ?_
  refine s2 (OpT.c2 (ms := [.flat, .flat]) (c_impl_applyEdit_o _ _ (by omega) hde.2) (H rfl) (Af (T1 rfl) rfl rfl <| Af (T1 rfl) rfl rfl <| An) rfl rfl rfl) rfl ?_
  refine sg (OpT.extractO (m := 10016) (H rfl) (by decide) rfl rfl rfl) (ko 17 rfl <| kc 20016 rfl <| ka 15 rfl <| kc4 14 13 9 8 rfl <| kc3 7 6 5 rfl <| ko 4 rfl <| kc2 3 0 rfl <| ka 1 rfl <| Kn) rfl ?_
  refine st (OpT.extract (m := 20016) (H rfl) (by decide) rfl rfl rfl rfl) rfl ?_
  refine sg (OpT.take (.inl rfl) rfl (ok' rfl) (Root.self (by decide)) rfl rfl (by decide)) (ko 4 rfl <| kc2 18 20016 rfl <| ka 15 rfl <| kc4 14 13 9 8 rfl <| kc4 7 6 5 3 rfl <| kc 0 rfl <| ka 1 rfl <| Kn) rfl ?_
  refine st (asT rfl) rfl ?_
  refine AWl.to (kc 5 rfl <| ko 4 rfl <| Kn) ?_
  refine ng ?_
  refine AW.ret ?_
  exact AX.rt (rs := [.tmp 4, .tmp 5]) (ts := [some 4, some 5]) (.inl rfl) rfl (ROs.cons (RO.tmp (At.self (by decide)) (Ko rfl (by first | (rw [one_bad hc1]; done) | (rw [one_ok hc1]; done))) rfl) <| ROs.cons (RO.tmp (At.self (by decide)) (Kv rfl (by first | (rw [one_bad hc1]; done) | (rw [one_ok hc1]; done))) rfl) <| ROs.nil) (by decide) OutsOK.nil
theorem c_impl_ApplyEdit (x : List DCard) (e : DEdit) : AC Tryz.prog 33 [.cel (Kd.slice kCard) x, .agg kEdit e] [.cel (Kd.slice kCard) (oneS x e).1, .cel (Kd.int .i64) (oneS x e).2] [] := (c_impl_ApplyEdit_o x e).frz rfl

/-- impl.ApplyEdits -/
theorem c_impl_ApplyEdits_o (x : List DCard) (l : List DEdit) : AC Tryz.prog 26 [.cel (Kd.slice kCard) x, .cel (Kd.slice kEdit) l] [.own 40 kCard (manyS x l).1, .cel (Kd.int .i64) (manyS x l).2.1, .cel (Kd.int .i64) (manyS x l).2.2] [] := by
 refine acI (N := 46) Tryz.func26 (Nat.le_of_ble_eq_true rfl) rfl fun w0 hd s0 ar => ?_
 refine AW.to (kc2 0 1 rfl <| Kn) ?_
 refine AW.fact (fun a w hr => (ok_slice (R_ok (t := 1) rfl hr)).2) (fun hl1 => ?_)
 refine sr ?_
 refine st (nilO (E := 40) kCard rfl (.inl rfl)) rfl ?_
 refine st (asI rfl) rfl ?_
 refine st (asI rfl) rfl ?_
 refine ng ?_
 refine AW.seq ?_
 refine sr ?_
 refine st (mvT rfl) rfl ?_
 refine st (OpT.c1 (ms := [.flat]) (c_impl_isDeck _) (H rfl) (Af (T1 rfl) rfl rfl <| An) rfl rfl) rfl ?_
 refine st (OpT.not (H rfl) (T1 rfl)) rfl ?_
 refine st (mvT rfl) rfl ?_
 apply AWl.or (d := 19) (t := 15) rfl
 ·
  intro hb1 Q1 k1
  have hb1' := lF hb1
  refine rs hb1 (mvT rfl) rfl ?_
  refine rs hb1 (OpT.c1 (ms := [.flat]) (c_impl_areEdits _) (H rfl) (Af (T1 rfl) rfl rfl <| An) rfl rfl) rfl ?_
  refine rs hb1 (OpT.not (H rfl) (T1 rfl)) rfl ?_
  refine st (OpT.pickF (A := .cel _ _) (H rfl) (T1 rfl) hb1 (T1 rfl) rfl) rfl ?_
  exact AWl.to (junk 3 rfl) k1
 ·
  intro hb1 Q1 k1
  refine ps hb1 rfl ?_
  refine ps hb1 rfl ?_
  refine ps hb1 rfl ?_
  refine st (OpT.pickT (A := .cel _ _) (H rfl) (T1 rfl) hb1 Opd.bool rfl) rfl ?_
  exact k1
 refine ng ?_
 refine cd rfl (fun hc1 => ?_) fun hc1 => ?_
 ·
  obtain ⟨hc1, hc1'⟩ := pT hc1
  refine sr ?_
  refine st (nilO (E := 40) kCard rfl (.inl rfl)) rfl ?_
  refine st (asI rfl) rfl ?_
  refine st (asI rfl) rfl ?_
  refine ng ?_
  refine AW.ret ?_
  refine rT ?_
  exact AX.rt (rs := [.tmp 4, .tmp 5, .tmp 6]) (ts := [some 4, some 5, some 6]) (.inl rfl) rfl (ROs.cons (RO.tmp (At.self (by decide)) (Ko rfl (by first | (rw [many_bad hc1]; done) | (rw [many_long hc1 (by omega)]; done) | (rw [many_code hc1 (by omega) hcz (am_code he hI.2.2 hcz)]; done) | (rw [many_ok hc1 (by omega) (am_end hI.2.2 (by omega))]; done))) rfl) <| ROs.cons (RO.tmp (At.self (by decide)) (Kv rfl (by first | (rw [many_bad hc1]; done) | (rw [many_long hc1 (by omega)]; done) | (rw [many_code hc1 (by omega) hcz (am_code he hI.2.2 hcz)]; done) | (rw [many_ok hc1 (by omega) (am_end hI.2.2 (by omega))]; done))) rfl) <| ROs.cons (RO.tmp (At.self (by decide)) (Kv rfl (by first | (rw [many_bad hc1]; done) | (rw [many_long hc1 (by omega)]; done) | (rw [many_code hc1 (by omega) hcz (am_code he hI.2.2 hcz)]; done) | (rw [many_ok hc1 (by omega) (am_end hI.2.2 (by omega))]; done))) rfl) <| ROs.nil) (by decide) OutsOK.nil
 ·
  obtain ⟨hc1, hc1'⟩ := pF hc1
  have hds := deck_edits hc1
  refine AW.skip ?_
  refine AX.go ?_
  refine AW.seq ?_
  refine sr ?_
  refine st (mvT rfl) rfl ?_
  refine st (OpT.len (H rfl) (T1 rfl) el49) rfl ?_
  refine st (OpT.gtr (H rfl) (T1 rfl) (I rfl)) rfl ?_
  refine ng ?_
  refine cd rfl (fun hc2 => ?_) fun hc2 => ?_
  ·
   obtain ⟨hc2, hc2'⟩ := pT hc2
   refine sr ?_
   refine st (nilO (E := 40) kCard rfl (.inl rfl)) rfl ?_
   refine st (asI rfl) rfl ?_
   refine st (asI rfl) rfl ?_
   refine AWl.to (kc2 6 5 rfl <| ko 4 rfl <| kc2 0 1 rfl <| Kn) ?_
   refine ng ?_
   refine AW.ret ?_
   refine rT ?_
   exact AX.rt (rs := [.tmp 4, .tmp 5, .tmp 6]) (ts := [some 4, some 5, some 6]) (.inl rfl) rfl (ROs.cons (RO.tmp (At.self (by decide)) (Ko rfl (by first | (rw [many_bad hc1]; done) | (rw [many_long hc1 (by omega)]; done) | (rw [many_code hc1 (by omega) hcz (am_code he hI.2.2 hcz)]; done) | (rw [many_ok hc1 (by omega) (am_end hI.2.2 (by omega))]; done))) rfl) <| ROs.cons (RO.tmp (At.self (by decide)) (Kv rfl (by first | (rw [many_bad hc1]; done) | (rw [many_long hc1 (by omega)]; done) | (rw [many_code hc1 (by omega) hcz (am_code he hI.2.2 hcz)]; done) | (rw [many_ok hc1 (by omega) (am_end hI.2.2 (by omega))]; done))) rfl) <| ROs.cons (RO.tmp (At.self (by decide)) (Kv rfl (by first | (rw [many_bad hc1]; done) | (rw [many_long hc1 (by omega)]; done) | (rw [many_code hc1 (by omega) hcz (am_code he hI.2.2 hcz)]; done) | (rw [many_ok hc1 (by omega) (am_end hI.2.2 (by omega))]; done))) rfl) <| ROs.nil) (by decide) OutsOK.nil
  ·
   obtain ⟨hc2, hc2'⟩ := pF hc2
   refine AW.skip ?_
   refine AX.go ?_
   refine sr ?_
   refine st (OpT.buildSlice0 (m := 0) (z := .bool false) kCard (H rfl) el26 sz40 (by decide)) rfl ?_
   refine st (mvT rfl) rfl ?_
   refine sg (OpT.append (H rfl) (Root.self (t := 23) (by decide)) rfl (Src.shared (T1 rfl)) (by decide) el26 zr40 rfl sz40 by40 (by decide) (by (try simp only [List.length_cons, List.length_nil, List.length_append, List.length_set, List.length_replicate, List.length_drop, List.length_take]); omega)) (ko 25 rfl <| kc4 24 22 21 20 rfl <| kc4 19 15 14 13 rfl <| kc3 12 6 5 rfl <| ko 4 rfl <| kc2 0 1 rfl <| Kn) rfl ?_
   refine sg (OpT.take (.inl rfl) rfl (ok' rfl) (Root.self (by decide)) rfl rfl (by decide)) (ko 7 rfl <| kc4 24 22 21 20 rfl <| kc4 19 15 14 13 rfl <| kc3 12 6 5 rfl <| ko 4 rfl <| kc2 0 1 rfl <| Kn) rfl ?_
   refine ng ?_
   refine AW.seq ?_
   refine sr ?_
   refine st (mvT rfl) rfl ?_
   refine st (OpT.len (H rfl) (T1 rfl) el49) rfl ?_
   refine st (mvI rfl) rfl ?_
   refine ng ?_
   refine AW.block ?_
   refine AW.loop (fun p : Nat × List DCard => p.1 ≤ l.length ∧ p.2.length ≤ 80 + p.1 ∧ amS p.2 (l.drop p.1) = amS x l) (fun p : Nat × List DCard => keep [(1, .cel (Kd.slice kEdit) l), (7, .own 40 kCard p.2), (26, .cel (Kd.slice kEdit) l), (27, .cel (Kd.int .i64) (l.length : Int)), (28, .cel (Kd.int .i64) (p.1 : Int))]) (fun p : Nat × List DCard => l.length - p.1) ((0, x)) ⟨Nat.zero_le _, by simp only []; omega, rfl⟩ (Kc 1 _ (Kv rfl rfl) <| Kc 7 _ (Ko rfl rfl) <| Kc 26 _ (Kv rfl rfl) <| Kc 27 _ (Kv rfl rfl) <| Kc 28 _ (Kv rfl rfl) <| Kn) ?_
   intro p hI
   refine sr ?_
   refine st (OpT.lss (H rfl) (T1 rfl) (T1 rfl)) rfl ?_
   refine ng ?_
   refine AW.seq ?_
   refine cd rfl (fun hc3 => ?_) fun hc3 => ?_
   ·
    obtain ⟨hc3, hc3'⟩ := pT hc3
    obtain ⟨e, he⟩ := getI (x := l) (z := p.1) (by omega)
    have hed := all_get hds.2 he
    refine AW.skip ?_
    refine AX.go ?_
    refine AW.seq ?_
    refine AW.block ?_
    refine sr ?_
    refine st (OpT.indexAddr (H rfl) (T1 rfl) (T1 rfl) el49 sz63 (by omega) (by assumption)) rfl ?_
    refine st (OpT.loadA (H rfl) (T1 rfl) ag63 sz63) rfl ?_
    refine st (OpT.alloc (H rfl) zr63 zk63) rfl ?_
    refine sk (OpT.storeBA rfl rfl (Opd.whole (Root.self (t := 9) (by decide)) rfl) rfl sz63 (by decide) (T1 rfl)) rfl ?_
    refine ng ?_
    refine sr ?_
    refine st (OpT.alias (H rfl) (by decide) (by decide)) rfl ?_
    refine st (OpT.loadB (H rfl) (Root.self (t := 9) (by decide)) rfl ag63 sz63) rfl ?_
    refine s2 (cb2 (ms := [.bor 7, .flat]) (c_impl_applyEdit_o _ _ (by omega) hed) (H rfl) (Ab (Root.ali rfl (by decide) (by decide)) rfl <| Af (T1 rfl) rfl rfl <| An) rfl (indO fun _ _ _ _ h => h) (indC fun _ _ _ _ h => h)) rfl ?_
    refine st (OpT.alias (H rfl) (by decide) (by decide)) rfl ?_
    refine sg (OpT.extractVO (m := 10035) (H rfl) rfl rfl rfl rfl rfl rfl) (ko 36 rfl <| Kc 32 (.ali _) rfl <| kc 20035 rfl <| ka 34 rfl <| Kc 33 (.ali _) rfl <| kb 9 rfl <| ka 31 rfl <| kc3 30 29 1 rfl <| ko 7 rfl <| kc3 26 27 28 rfl <| Kn) rfl ?_
    refine st (OpT.extractV (m := 20035) (H rfl) rfl rfl rfl rfl rfl rfl rfl) rfl ?_
    refine sg (OpT.take (.inl rfl) rfl (ok' rfl) (Root.self (by decide)) rfl rfl (by decide)) (ko 10 rfl <| kc 37 rfl <| Kc 32 (.ali _) rfl <| kc 20035 rfl <| ka 34 rfl <| Kc 33 (.ali _) rfl <| kb 9 rfl <| ka 31 rfl <| kc3 30 29 1 rfl <| ko 7 rfl <| kc3 26 27 28 rfl <| Kn) rfl ?_
    refine st (asT rfl) rfl ?_
    refine ng ?_
    refine AW.seq ?_
    refine sr ?_
    refine st (mvT rfl) rfl ?_
    refine st (OpT.neq (H rfl) (T1 rfl) (I rfl)) rfl ?_
    refine ng ?_
    refine cd rfl (fun hc4 => ?_) fun hc4 => ?_
    ·
     obtain ⟨hc4, hc4'⟩ := pT hc4
     have hcz := hc4'
     refine sr ?_
     refine st (mvT rfl) rfl ?_
     refine st (nilO (E := 40) kCard rfl (.inl rfl)) rfl ?_
     refine st (asI rfl) rfl ?_
     refine st (asT rfl) rfl ?_
     refine ng ?_
     refine AW.ret ?_
     refine rT <| rK <| rT <| rT <| rK <| rT ?_
     exact AX.rt (rs := [.tmp 4, .tmp 5, .tmp 6]) (ts := [some 4, some 5, some 6]) (.inl rfl) rfl (ROs.cons (RO.tmp (At.self (by decide)) (Ko rfl (by first | (rw [many_bad hc1]; done) | (rw [many_long hc1 (by omega)]; done) | (rw [many_code hc1 (by omega) hcz (am_code he hI.2.2 hcz)]; done) | (rw [many_ok hc1 (by omega) (am_end hI.2.2 (by omega))]; done))) rfl) <| ROs.cons (RO.tmp (At.self (by decide)) (Kv rfl (by first | (rw [many_bad hc1]; done) | (rw [many_long hc1 (by omega)]; done) | (rw [many_code hc1 (by omega) hcz (am_code he hI.2.2 hcz)]; done) | (rw [many_ok hc1 (by omega) (am_end hI.2.2 (by omega))]; done))) rfl) <| ROs.cons (RO.tmp (At.self (by decide)) (Kv rfl (by first | (rw [many_bad hc1]; done) | (rw [many_long hc1 (by omega)]; done) | (rw [many_code hc1 (by omega) hcz (am_code he hI.2.2 hcz)]; done) | (rw [many_ok hc1 (by omega) (am_end hI.2.2 (by omega))]; done))) rfl) <| ROs.nil) (by decide) OutsOK.nil
    ·
     obtain ⟨hc4, hc4'⟩ := pF hc4
     have hcz := hc4'
     refine AW.skip ?_
     refine AX.go ?_
     refine AW.region ?_
     refine st (OpT.alias (H rfl) (by decide) (by decide)) rfl ?_
     refine sg (OpT.take (.inl rfl) rfl (ok' rfl) (Root.ali rfl (by decide) (by decide)) rfl rfl (by decide)) (ko 7 rfl <| kc4 39 38 11 37 rfl <| Kc 32 (.ali _) rfl <| kc 20035 rfl <| ka 34 rfl <| kb 9 rfl <| ka 31 rfl <| kc4 30 29 1 26 rfl <| kc2 27 28 rfl <| Kn) rfl ?_
     refine nn ?_
     refine AX.normal_block ?_
     refine AX.go ?_
     refine AW.region ?_
     refine st (OpT.add (H rfl) (T1 rfl) (I rfl) (nw (by omega))) rfl ?_
     refine st (mvT rfl) rfl ?_
     refine nn ?_
     exact AX.again ((p.1 + 1, (applyS p.2 e).1)) ⟨by simp only []; omega, by (have := applyS_len p.2 e; simp only []; omega), am_next he hI.2.2 hcz⟩ (by simp only []; omega) (Kc 1 _ (Kv rfl rfl) <| Kc 7 _ (Ko rfl rfl) <| Kc 26 _ (Kv rfl rfl) <| Kc 27 _ (Kv rfl rfl) <| Kc 28 _ (Kv rfl (by simp only []; omega)) <| Kn)
   ·
    obtain ⟨hc3, hc3'⟩ := pF hc3
    refine AW.exit ?_
    refine xT <| xT <| AX.exit_hit ?_
    refine AX.go ?_
    refine sr ?_
    refine st (OpT.alias (H rfl) (by decide) (by decide)) rfl ?_
    refine st (mvT rfl) rfl ?_
    refine st (OpT.len (H rfl) (T1 rfl) el49) rfl ?_
    refine sg (OpT.take (.inl rfl) rfl (ok' rfl) (Root.ali rfl (by decide) (by decide)) rfl rfl (by decide)) (ko 4 rfl <| kc4 45 44 29 1 rfl <| kc3 26 27 28 rfl <| Kn) rfl ?_
    refine st (asT rfl) rfl ?_
    refine st (asI rfl) rfl ?_
    refine ng ?_
    refine AW.ret ?_
    exact AX.rt (rs := [.tmp 4, .tmp 5, .tmp 6]) (ts := [some 4, some 5, some 6]) (.inl rfl) rfl (ROs.cons (RO.tmp (At.self (by decide)) (Ko rfl (by first | (rw [many_bad hc1]; done) | (rw [many_long hc1 (by omega)]; done) | (rw [many_code hc1 (by omega) hcz (am_code he hI.2.2 hcz)]; done) | (rw [many_ok hc1 (by omega) (am_end hI.2.2 (by omega))]; done))) rfl) <| ROs.cons (RO.tmp (At.self (by decide)) (Kv rfl (by first | (rw [many_bad hc1]; done) | (rw [many_long hc1 (by omega)]; done) | (rw [many_code hc1 (by omega) hcz (am_code he hI.2.2 hcz)]; done) | (rw [many_ok hc1 (by omega) (am_end hI.2.2 (by omega))]; done))) rfl) <| ROs.cons (RO.tmp (At.self (by decide)) (Kv rfl (by first | (rw [many_bad hc1]; done) | (rw [many_long hc1 (by omega)]; done) | (rw [many_code hc1 (by omega) hcz (am_code he hI.2.2 hcz)]; done) | (rw [many_ok hc1 (by omega) (am_end hI.2.2 (by omega))]; done))) rfl) <| ROs.nil) (by decide) OutsOK.nil
theorem c_impl_ApplyEdits (x : List DCard) (l : List DEdit) : AC Tryz.prog 26 [.cel (Kd.slice kCard) x, .cel (Kd.slice kEdit) l] [.cel (Kd.slice kCard) (manyS x l).1, .cel (Kd.int .i64) (manyS x l).2.1, .cel (Kd.int .i64) (manyS x l).2.2] [] := (c_impl_ApplyEdits_o x l).frz rfl
end Go.Proofs.YtmmjcpiikdcldaaGreatDoor.VL
