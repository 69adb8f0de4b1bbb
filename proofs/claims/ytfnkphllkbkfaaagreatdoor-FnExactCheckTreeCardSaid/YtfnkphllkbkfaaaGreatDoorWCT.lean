/- Proved here: what some functions of the program take and give: walks with the words of VA..VQ. Printed by program. -/
import Derived.Test.YtfnkphllkbkfaaaGreatDoorWT
import Derived.Test.YtfnkphllkbkfaaaGreatDoorBpa
import Derived.Test.YtfnkphllkbkfaaaGreatDoorWG
import Derived.Test.YtfnkphllkbkfaaaGreatDoorWP
import Derived.Test.YtfnkphllkbkfaaaGreatDoorWV
import Derived.Test.YtfnkphllkbkfaaaGreatDoorWKT
import Derived.Test.YtfnkphllkbkfaaaGreatDoorWH
import Derived.Test.YtfnkphllkbkfaaaGreatDoorWD
import Derived.Test.YtfnkphllkbkfaaaGreatDoorWTB
import Derived.Test.YtfnkphllkbkfaaaGreatDoorWL
import Derived.Test.YtfnkphllkbkfaaaGreatDoorWE
set_option linter.unusedVariables false
set_option linter.unusedSimpArgs false
set_option maxRecDepth 4000
namespace Go.Proofs.YtfnkphllkbkfaaaGreatDoor.VL
open Go
/-- spec.l00Has -/
theorem c_spec_l00Has (l : List Int) (v : Int) : AC Tryz.prog 22 [.cel (Kd.slice (Kd.int .i64)) l, .cel (Kd.int .i64) v] [.cel Kd.bool (l.any fun b => b == v)] [] := by
 refine acI (N := 18) Tryz.func22 (Nat.le_of_ble_eq_true rfl) rfl fun w0 hd s0 ar => ?_
 refine AW.to (kc2 0 1 rfl <| Kn) ?_
 refine AW.fact (fun a w hr => (ok_slice (R_ok (t := 0) rfl hr)).2) (fun hl0 => ?_)
 refine sr ?_
 refine st (asB rfl) rfl ?_
 refine ng ?_
 refine AW.seq ?_
 refine sr ?_
 refine st (asI rfl) rfl ?_
 refine ng ?_
 refine AW.block ?_
 refine AW.loop (fun z : Nat => z ≤ l.length ∧ ∀ i, i < z → nI (fun b => b == v) l i) (fun z : Nat => keep [(0, .cel (Kd.slice (Kd.int .i64)) l), (1, .cel (Kd.int .i64) v), (5, .cel (Kd.int .i64) (z : Int))]) (fun z : Nat => l.length - z) (0) ⟨Nat.zero_le _, all_none⟩ (Kc 0 _ (Kv rfl rfl) <| Kc 1 _ (Kv rfl rfl) <| Kc 5 _ (Kv rfl rfl) <| Kn) ?_
 intro z hI
 refine AW.seq ?_
 refine sr ?_
 refine st (mvT rfl) rfl ?_
 refine st (mvT rfl) rfl ?_
 refine st (OpT.len (H rfl) (T1 rfl) el51) rfl ?_
 refine st (OpT.lss (H rfl) (T1 rfl) (T1 rfl)) rfl ?_
 refine ng ?_
 refine cd rfl (fun hc1 => ?_) fun hc1 => ?_
 ·
  obtain ⟨hc1, hc1'⟩ := pT hc1
  obtain ⟨a, ha⟩ := getI (x := l) (z := z) (by omega)
  refine AW.skip ?_
  refine AX.go ?_
  refine AW.seq ?_
  refine AW.block ?_
  refine sr ?_
  refine st (mvT rfl) rfl ?_
  refine st (mvT rfl) rfl ?_
  refine st (OpT.indexAddr (H rfl) (T1 rfl) (T1 rfl) el51 sz2 (by omega) (by assumption)) rfl ?_
  refine st (OpT.load (H rfl) (T1 rfl) ag2 rfl) rfl ?_
  refine st (mvT rfl) rfl ?_
  refine st (OpT.eql (H rfl) (T1 rfl) (T1 rfl)) rfl ?_
  refine ng ?_
  refine cd rfl (fun hc2 => ?_) fun hc2 => ?_
  ·
   obtain ⟨hc2, hc2'⟩ := pT hc2
   refine sr ?_
   refine st (asB rfl) rfl ?_
   refine ng ?_
   refine AW.ret ?_
   refine rK <| rT <| rT <| rK <| rT ?_
   exact rt1 rfl (.inl rfl) (by first | exact (any_yes ha hc2).symm | exact (any_none hI.2 (by omega)).symm)
  ·
   obtain ⟨hc2, hc2'⟩ := pF hc2
   refine AW.skip ?_
   refine AX.normal_block ?_
   refine AX.go ?_
   refine AW.region ?_
   refine st (mvT rfl) rfl ?_
   refine st (OpT.add (H rfl) (T1 rfl) (I rfl) (nw (by omega))) rfl ?_
   refine st (asT rfl) rfl ?_
   refine nn ?_
   exact AX.again (z + 1) ⟨by omega, all_step hI.2 ((nI_iff ha).2 hc2)⟩ (by omega) (Kc 0 _ (Kv rfl rfl) <| Kc 1 _ (Kv rfl rfl) <| Kc 5 _ (Kv rfl (by omega)) <| Kn)
 ·
  obtain ⟨hc1, hc1'⟩ := pF hc1
  refine AW.exit ?_
  refine xT <| xT <| AX.exit_hit ?_
  refine AX.go ?_
  refine sr ?_
  refine st (asB rfl) rfl ?_
  refine ng ?_
  refine AW.ret ?_
  exact rt1 rfl (.inl rfl) (by first | exact (any_yes ha hc2).symm | exact (any_none hI.2 (by omega)).symm)

set_option maxHeartbeats 4000000 in
/-- spec.CheckTree -/
theorem c_spec_CheckTree (s : List DField) (cs : List DCard) (x : List DKnot) (hx : okKS x) : AC Tryz.prog 7 [.cel (Kd.slice kField) s, .cel (Kd.slice kCard) cs, .cel (Kd.slice kKnot) x] [.cel Kd.bool (checkS s cs x).1, .cel (Kd.int .i64) (checkS s cs x).2] [] := by
 refine acI (N := 88) Tryz.func7 (Nat.le_of_ble_eq_true rfl) rfl fun w0 hd s0 ar => ?_
 refine AW.to (kc3 0 1 2 rfl <| Kn) ?_
 refine AW.fact (fun a w hr => (ok_slice (R_ok (t := 0) rfl hr)).2) (fun hl0 => ?_)
 refine AW.fact (fun a w hr => (ok_slice (R_ok (t := 1) rfl hr)).2) (fun hl1 => ?_)
 refine AW.fact (fun a w hr => (ok_slice (R_ok (t := 2) rfl hr)).2) (fun hl2 => ?_)
 refine sr ?_
 refine st (asB rfl) rfl ?_
 refine st (asI rfl) rfl ?_
 refine ng ?_
 refine AW.seq ?_
 refine sr ?_
 refine st (mvT rfl) rfl ?_
 refine st (OpT.c1 (ms := [.flat]) (c_spec_l06Ok _ hx) (H rfl) (Af (T1 rfl) rfl rfl <| An) rfl rfl) rfl ?_
 refine st (OpT.not (H rfl) (T1 rfl)) rfl ?_
 refine ng ?_
 refine cd rfl (fun hc1 => ?_) fun hc1 => ?_
 ·
  obtain ⟨hc1, hc1'⟩ := pT hc1
  have hto : tt (treeOK x) = false := by simpa using hc1
  refine sr ?_
  refine st (asB rfl) rfl ?_
  refine st (asI rfl) rfl ?_
  refine ng ?_
  refine AW.ret ?_
  refine rT ?_
  exact rt2 rfl (.inl rfl) (by first | (rw [chk_no hto]; done) | (rw [chk_tab hto hcn]; done) | (rw [chk_yes hto hz]; first | done | exact tt_no (fun h9 => hnc (h9.1 z (by omega))) | exact tt_eq (by rw [beq_iff_eq, List.take_of_length_le (by omega)]; exact ⟨fun h9 => ⟨all_end hI9.2 (by omega), h9⟩, fun h9 => h9.2⟩))) (by first | (rw [chk_no hto]; done) | (rw [chk_tab hto hcn]; done) | (rw [chk_yes hto hz]; first | done | exact tt_no (fun h9 => hnc (h9.1 z (by omega))) | exact tt_eq (by rw [beq_iff_eq, List.take_of_length_le (by omega)]; exact ⟨fun h9 => ⟨all_end hI9.2 (by omega), h9⟩, fun h9 => h9.2⟩)))
 ·
  obtain ⟨hc1, hc1'⟩ := pF hc1
  have hto : tt (treeOK x) = true := by simpa using hc1
  have htr := tt_iff.1 hto
  refine AW.skip ?_
  refine AX.go ?_
  refine AW.seq ?_
  refine sr ?_
  refine st (mvT rfl) rfl ?_
  refine st (mvT rfl) rfl ?_
  refine st (OpT.c1 (ms := [.flat, .flat]) (c_spec_l06Cards _ _) (H rfl) (Af (T1 rfl) rfl rfl <| Af (T1 rfl) rfl rfl <| An) rfl rfl) rfl ?_
  refine st (asT rfl) rfl ?_
  refine ng ?_
  refine sr ?_
  refine st (mvT rfl) rfl ?_
  refine st (OpT.neq (H rfl) (T1 rfl) (I rfl)) rfl ?_
  refine ng ?_
  refine cd rfl (fun hc2 => ?_) fun hc2 => ?_
  ·
   obtain ⟨hc2, hc2'⟩ := pT hc2
   have hcn : tabE s cs ≠ 0 := by omega
   refine sr ?_
   refine st (mvT rfl) rfl ?_
   refine st (asB rfl) rfl ?_
   refine st (asT rfl) rfl ?_
   refine AWl.to (kc4 7 6 0 1 rfl <| kc 2 rfl <| Kn) ?_
   refine ng ?_
   refine AW.ret ?_
   refine rT ?_
   exact rt2 rfl (.inl rfl) (by first | (rw [chk_no hto]; done) | (rw [chk_tab hto hcn]; done) | (rw [chk_yes hto hz]; first | done | exact tt_no (fun h9 => hnc (h9.1 z (by omega))) | exact tt_eq (by rw [beq_iff_eq, List.take_of_length_le (by omega)]; exact ⟨fun h9 => ⟨all_end hI9.2 (by omega), h9⟩, fun h9 => h9.2⟩))) (by first | (rw [chk_no hto]; done) | (rw [chk_tab hto hcn]; done) | (rw [chk_yes hto hz]; first | done | exact tt_no (fun h9 => hnc (h9.1 z (by omega))) | exact tt_eq (by rw [beq_iff_eq, List.take_of_length_le (by omega)]; exact ⟨fun h9 => ⟨all_end hI9.2 (by omega), h9⟩, fun h9 => h9.2⟩)))
  ·
   obtain ⟨hc2, hc2'⟩ := pF hc2
   have hz : tabE s cs = 0 := by omega
   have htb := tabE_ok hz
   have hsl : s.length ≤ 12 := htb.1.1
   have hxl : x.length ≤ 120 := htr.2.1
   refine AW.skip ?_
   refine AX.go ?_
   refine AW.seq ?_
   refine sr ?_
   refine st (asI rfl) rfl ?_
   refine ng ?_
   refine AW.block ?_
   refine AW.loop (fun z : Nat => z ≤ cs.length ∧ ∀ i, i < z → ckI s cs x i) (fun z : Nat => keep [(0, .cel (Kd.slice kField) s), (1, .cel (Kd.slice kCard) cs), (2, .cel (Kd.slice kKnot) x), (9, .cel (Kd.int .i64) (z : Int))]) (fun z : Nat => cs.length - z) (0) ⟨Nat.zero_le _, all_none⟩ (Kc 0 _ (Kv rfl rfl) <| Kc 1 _ (Kv rfl rfl) <| Kc 2 _ (Kv rfl rfl) <| Kc 9 _ (Kv rfl rfl) <| Kn) ?_
   intro z hI
   have hI0 := hI
   refine AW.seq ?_
   refine sr ?_
   refine st (mvT rfl) rfl ?_
   refine st (mvT rfl) rfl ?_
   refine st (OpT.len (H rfl) (T1 rfl) el32) rfl ?_
   refine st (OpT.lss (H rfl) (T1 rfl) (T1 rfl)) rfl ?_
   refine ng ?_
   refine cd rfl (fun hc3 => ?_) fun hc3 => ?_
   ·
    obtain ⟨hc3, hc3'⟩ := pT hc3
    obtain ⟨e, he⟩ := getI (x := cs) (z := z) (by omega)
    refine AW.skip ?_
    refine AX.go ?_
    refine AW.seq ?_
    refine AW.block ?_
    refine sr ?_
    refine st (OpT.buildSlice0 (m := 0) (z := .bool false) (Kd.int .i64) (H rfl) el51 sz2 (by decide)) rfl ?_
    refine sg (OpT.take (.inl rfl) rfl (ok' rfl) (Root.self (by decide)) rfl rfl (by decide)) (ko 10 rfl <| kc4 29 28 27 26 rfl <| kc4 0 1 2 9 rfl <| Kn) rfl ?_
    refine ng ?_
    refine AW.seq ?_
    refine sr ?_
    refine st (asI rfl) rfl ?_
    refine ng ?_
    refine AW.block ?_
    refine AW.loop (fun y : Nat => y ≤ s.length) (fun y : Nat => keep [(0, .cel (Kd.slice kField) s), (1, .cel (Kd.slice kCard) cs), (2, .cel (Kd.slice kKnot) x), (9, .cel (Kd.int .i64) (z : Int)), (10, .own 2 (Kd.int .i64) (valsF (s.take y) e.2)), (11, .cel (Kd.int .i64) (y : Int))]) (fun y : Nat => s.length - y) (0) (Nat.zero_le _) (Kc 0 _ (Kv rfl rfl) <| Kc 1 _ (Kv rfl rfl) <| Kc 2 _ (Kv rfl rfl) <| Kc 9 _ (Kv rfl rfl) <| Kc 10 _ (Ko rfl rfl) <| Kc 11 _ (Kv rfl rfl) <| Kn) ?_
    intro y hI
    refine AW.seq ?_
    refine sr ?_
    refine st (mvT rfl) rfl ?_
    refine st (mvT rfl) rfl ?_
    refine st (OpT.len (H rfl) (T1 rfl) el30) rfl ?_
    refine st (OpT.lss (H rfl) (T1 rfl) (T1 rfl)) rfl ?_
    refine ng ?_
    refine cd rfl (fun hc4 => ?_) fun hc4 => ?_
    ·
     obtain ⟨hc4, hc4'⟩ := pT hc4
     obtain ⟨f, hf⟩ := getI (x := s) (z := y) (by omega)
     have hfo := sch_field htb.1 hf
     have hvl := valsF_len (s.take y) e.2
     rw [List.length_take] at hvl
     refine AW.skip ?_
     refine AX.go ?_
     refine AW.seq ?_
     refine AW.block ?_
     refine dh fomo ?_
     refine d1 [] (fun ve h => OpT.alias (H rfl) (by decide) (by decide)) rfl ?_
     refine d1 [0] (fun ve h => OpT.move (A := .cel _ _) (.inl rfl) rfl (ok' rfl) (D1 h rfl) rfl) rfl ?_
     refine d1 [11] (fun ve h => OpT.move (A := .cel _ _) (.inl rfl) rfl (ok' rfl) (D1 h rfl) rfl) rfl ?_
     refine d1 [40, 41] (fun ve h => OpT.indexAddr (H rfl) (D1 h rfl) (D1 h rfl) el30 sz59 (by omega) (by assumption)) rfl ?_
     refine d1 [1] (fun ve h => OpT.move (A := .cel _ _) (.inl rfl) rfl (ok' rfl) (D1 h rfl) rfl) rfl ?_
     refine d1 [9] (fun ve h => OpT.move (A := .cel _ _) (.inl rfl) rfl (ok' rfl) (D1 h rfl) rfl) rfl ?_
     refine d1 [43, 44] (fun ve h => OpT.indexAddr (H rfl) (D1 h rfl) (D1 h rfl) el32 sz62 (by omega) (by assumption)) rfl ?_
     refine d1 [45] (fun ve h => OpT.fieldAddr (H rfl) (D1 h rfl) fd62_1 sz60 (by decide) sb62_1) rfl ?_
     refine d1 [46] (fun ve h => OpT.loadA (H rfl) (D1 h rfl) ag60 sz60) rfl ?_
     refine d1 [42, 47] (fun ve h => OpT.c1 (ms := [.flat, .flat]) (c_spec_l06In _ _ hfo) (H rfl) (Af (D1 h rfl) rfl rfl <| Af (D1 h rfl) rfl rfl <| An) rfl rfl) rfl ?_
     refine d1 [48] (fun ve h => OpT.buildSlice (H rfl) el51 zr2 sz2 rfl (by decide) zk2 (by decide) (Built.cel (D1 h rfl) rfl rfl (sub_arr (by decide) (0 : Int)) (Built.nil _))) rfl ?_
     refine dt (t := 10) [10, 39, 49] (fun ve h => OpT.append (H rfl) (Root.ali ((h _ (List.elem_iff.1 rfl)).trans rfl) (by decide) (by decide)) ((h _ (List.elem_iff.1 rfl)).trans rfl) (Src.own (Root.self (t := 49) (by decide)) ((h _ (List.elem_iff.1 rfl)).trans rfl)) (by decide) el51 zr2 rfl sz2 by2 (by decide) (by simp only [List.length_set, List.length_replicate]; omega)) rfl ?_
     refine dt (t := 50) [50] (fun ve h => OpT.take (.inl rfl) rfl (ok' rfl) (Root.self (by decide)) ((h _ (List.elem_iff.1 rfl)).trans rfl) rfl (by decide)) rfl ?_
     refine dn ⟨by kernel_rfl, by kernel_rfl, ?_⟩
     refine AX.normal_block ?_
     refine AX.go ?_
     refine AW.region ?_
     refine st (mvT rfl) rfl ?_
     refine st (OpT.add (H rfl) (T1 rfl) (I rfl) (nw (by omega))) rfl ?_
     refine st (asT rfl) rfl ?_
     refine nn ?_
     exact AX.again (y + 1) (by omega) (by omega) (Kc 0 _ (Kv rfl rfl) <| Kc 1 _ (Kv rfl rfl) <| Kc 2 _ (Kv rfl rfl) <| Kc 9 _ (Kv rfl rfl) <| Kc 10 _ (Ko rfl (valsF_next hf)) <| Kc 11 _ (Kv rfl (by omega)) <| Kn)
    ·
     obtain ⟨hc4, hc4'⟩ := pF hc4
     have hwl : wkS x (valsF (s.take y) e.2) = leafS s x e := by (rw [List.take_of_length_le (by omega)]; rfl)
     have hlp : 0 ≤ (leafS s x e).1 := wkS_pos x _
     obtain ⟨k, hk⟩ : ∃ k, x[Int.toNat (leafS s x e).1]? = some k := wt_at hto
     have hkx := (List.getElem?_eq_some_iff.1 hk).1
     refine AW.exit ?_
     refine xT <| xT <| AX.exit_hit ?_
     refine AX.go ?_
     refine sr ?_
     refine st (mvT rfl) rfl ?_
     refine st (OpT.alias (H rfl) (by decide) (by decide)) rfl ?_
     refine s3 (cN (ms := [.flat, .bor 10]) (hwl ▸ c_spec_l06Walk x (valsF (s.take y) e.2) htr) (H rfl) (Af (T1 rfl) rfl rfl <| Ab (Root.ali rfl (by decide) (by decide)) rfl <| An) rfl (.inr (ind3 (indC fun _ _ _ _ h => h) (indC fun _ _ _ _ h => h) (indC fun _ _ _ _ h => h)))) rfl ?_
     refine st (OpT.alias (H rfl) (by decide) (by decide)) rfl ?_
     refine st (OpT.extractV (m := 10054) (H rfl) rfl rfl rfl rfl rfl rfl rfl) rfl ?_
     refine st (OpT.extractV (m := 20054) (H rfl) rfl rfl rfl rfl rfl rfl rfl) rfl ?_
     refine st (OpT.extractV (m := 30054) (H rfl) rfl rfl rfl rfl rfl rfl rfl) rfl ?_
     refine st (asT rfl) rfl ?_
     refine st (asT rfl) rfl ?_
     refine st (asT rfl) rfl ?_
     refine ng ?_
     refine sr ?_
     refine st (mvT rfl) rfl ?_
     refine st (OpT.neq (H rfl) (T1 rfl) (I rfl)) rfl ?_
     refine st (mvT rfl) rfl ?_
     apply AWl.or (d := 69) (t := 60) rfl
     ·
      intro hb1 Q1 k1
      have hb1' := lF hb1
      refine rs hb1 (mvT rfl) rfl ?_
      refine rs hb1 (mvT rfl) rfl ?_
      refine rs hb1 (OpT.indexAddr (H rfl) (T1 rfl) (T1 rfl) el34 sz66 (by omega) (by assumption)) rfl ?_
      refine rs hb1 (OpT.fieldAddr (H rfl) (T1 rfl) fd66_3 sz51 (by decide) sb66_3) rfl ?_
      refine rs hb1 (OpT.load (H rfl) (T1 rfl) ag51 rfl) rfl ?_
      refine rs hb1 (mvT rfl) rfl ?_
      refine rs hb1 (OpT.c1 (ms := [.flat, .flat]) (c_spec_l00Has _ _) (H rfl) (Af (T1 rfl) rfl rfl <| Af (T1 rfl) rfl rfl <| An) rfl rfl) rfl ?_
      refine rs hb1 (OpT.not (H rfl) (T1 rfl)) rfl ?_
      refine st (OpT.pickF (A := .cel _ _) (H rfl) (T1 rfl) hb1 (T1 rfl) rfl) rfl ?_
      exact AWl.to (junk 8 rfl) k1
     ·
      intro hb1 Q1 k1
      refine ps hb1 rfl ?_
      refine ps hb1 rfl ?_
      refine ps hb1 rfl ?_
      refine ps hb1 rfl ?_
      refine ps hb1 rfl ?_
      refine ps hb1 rfl ?_
      refine ps hb1 rfl ?_
      refine ps hb1 rfl ?_
      refine st (OpT.pickT (A := .cel _ _) (H rfl) (T1 rfl) hb1 Opd.bool rfl) rfl ?_
      exact k1
     refine ng ?_
     refine cd rfl (fun hc5 => ?_) fun hc5 => ?_
     ·
      obtain ⟨hc5, hc5'⟩ := pT hc5
      have hnc : ¬ ckI s cs x z := fun h9 => by have h8 := (ckI_iff he hk).1 h9; rw [any_mem.2 h8.2, h8.1] at hc5; cases hc5
      refine sr ?_
      refine st (asB rfl) rfl ?_
      refine st (asI rfl) rfl ?_
      refine ng ?_
      refine AW.ret ?_
      refine rK <| rT <| rT <| rK <| rT ?_
      exact rt2 rfl (.inl rfl) (by first | (rw [chk_no hto]; done) | (rw [chk_tab hto hcn]; done) | (rw [chk_yes hto hz]; first | done | exact tt_no (fun h9 => hnc (h9.1 z (by omega))) | exact tt_eq (by rw [beq_iff_eq, List.take_of_length_le (by omega)]; exact ⟨fun h9 => ⟨all_end hI9.2 (by omega), h9⟩, fun h9 => h9.2⟩))) (by first | (rw [chk_no hto]; done) | (rw [chk_tab hto hcn]; done) | (rw [chk_yes hto hz]; first | done | exact tt_no (fun h9 => hnc (h9.1 z (by omega))) | exact tt_eq (by rw [beq_iff_eq, List.take_of_length_le (by omega)]; exact ⟨fun h9 => ⟨all_end hI9.2 (by omega), h9⟩, fun h9 => h9.2⟩)))
     ·
      obtain ⟨hc5, hc5'⟩ := pF hc5
      have hyc : ckI s cs x z := (ckI_iff he hk).2 (by rw [Bool.or_eq_false_iff, bne_eq_false_iff_eq, Bool.not_eq_false'] at hc5; exact ⟨hc5.1, any_mem.1 hc5.2⟩)
      refine AW.skip ?_
      refine AX.normal_block ?_
      refine AX.go ?_
      refine AW.region ?_
      refine st (mvT rfl) rfl ?_
      refine st (OpT.add (H rfl) (T1 rfl) (I rfl) (nw (by omega))) rfl ?_
      refine st (asT rfl) rfl ?_
      refine nn ?_
      exact AX.again (z + 1) ⟨by omega, all_step hI0.2 hyc⟩ (by omega) (Kc 0 _ (Kv rfl rfl) <| Kc 1 _ (Kv rfl rfl) <| Kc 2 _ (Kv rfl rfl) <| Kc 9 _ (Kv rfl (by omega)) <| Kn)
   ·
    obtain ⟨hc3, hc3'⟩ := pF hc3
    refine AW.exit ?_
    refine xT <| xT <| AX.exit_hit ?_
    refine AX.go ?_
    refine sr ?_
    refine st (asI rfl) rfl ?_
    refine ng ?_
    refine AW.seq ?_
    refine sr ?_
    refine st (asI rfl) rfl ?_
    refine ng ?_
    refine AW.block ?_
    have hI9 := hI
    refine AW.loop (fun u : Nat => u ≤ x.length) (fun u : Nat => keep [(1, .cel (Kd.slice kCard) cs), (2, .cel (Kd.slice kKnot) x), (15, .cel (Kd.int .i64) (csum (x.take u))), (16, .cel (Kd.int .i64) (u : Int))]) (fun u : Nat => x.length - u) (0) (Nat.zero_le _) (Kc 1 _ (Kv rfl rfl) <| Kc 2 _ (Kv rfl rfl) <| Kc 15 _ (Kv rfl rfl) <| Kc 16 _ (Kv rfl rfl) <| Kn) ?_
    intro u hI
    refine AW.seq ?_
    refine sr ?_
    refine st (mvT rfl) rfl ?_
    refine st (mvT rfl) rfl ?_
    refine st (OpT.len (H rfl) (T1 rfl) el34) rfl ?_
    refine st (OpT.lss (H rfl) (T1 rfl) (T1 rfl)) rfl ?_
    refine ng ?_
    refine cd rfl (fun hc6 => ?_) fun hc6 => ?_
    ·
     obtain ⟨hc6, hc6'⟩ := pT hc6
     obtain ⟨k, hk⟩ := getI (x := x) (z := u) (by omega)
     have hcu := csum_in hx u (by omega)
     have hkl := (hx.2 k (mem_getI hk)).2.2
     refine AW.skip ?_
     refine AX.go ?_
     refine AW.seq ?_
     refine AW.block ?_
     refine AW.region ?_
     refine st (mvT rfl) rfl ?_
     refine st (mvT rfl) rfl ?_
     refine st (mvT rfl) rfl ?_
     refine st (OpT.indexAddr (H rfl) (T1 rfl) (T1 rfl) el34 sz66 (by omega) (by assumption)) rfl ?_
     refine st (OpT.fieldAddr (H rfl) (T1 rfl) fd66_3 sz51 (by decide) sb66_3) rfl ?_
     refine st (OpT.load (H rfl) (T1 rfl) ag51 rfl) rfl ?_
     refine st (OpT.len (H rfl) (T1 rfl) el51) rfl ?_
     refine st (OpT.add (H rfl) (T1 rfl) (T1 rfl) (nw (by omega))) rfl ?_
     refine st (asT rfl) rfl ?_
     refine nn ?_
     refine AX.normal_block ?_
     refine AX.go ?_
     refine AW.region ?_
     refine st (mvT rfl) rfl ?_
     refine st (OpT.add (H rfl) (T1 rfl) (I rfl) (nw (by omega))) rfl ?_
     refine st (asT rfl) rfl ?_
     refine nn ?_
     exact AX.again (u + 1) (by omega) (by omega) (Kc 1 _ (Kv rfl rfl) <| Kc 2 _ (Kv rfl rfl) <| Kc 15 _ (Kv rfl (csum_next hk)) <| Kc 16 _ (Kv rfl (by omega)) <| Kn)
    ·
     obtain ⟨hc6, hc6'⟩ := pF hc6
     refine AW.exit ?_
     refine xT <| xT <| AX.exit_hit ?_
     refine AX.go ?_
     refine sr ?_
     refine st (mvT rfl) rfl ?_
     refine st (mvT rfl) rfl ?_
     refine st (OpT.len (H rfl) (T1 rfl) el32) rfl ?_
     refine st (OpT.eql (H rfl) (T1 rfl) (T1 rfl)) rfl ?_
     refine st (asT rfl) rfl ?_
     refine st (asI rfl) rfl ?_
     refine AWl.to (kc2 7 6 rfl <| Kn) ?_
     refine ng ?_
     refine AW.ret ?_
     exact rt2 rfl (.inl rfl) (by first | (rw [chk_no hto]; done) | (rw [chk_tab hto hcn]; done) | (rw [chk_yes hto hz]; first | done | exact tt_no (fun h9 => hnc (h9.1 z (by omega))) | exact tt_eq (by rw [beq_iff_eq, List.take_of_length_le (by omega)]; exact ⟨fun h9 => ⟨all_end hI9.2 (by omega), h9⟩, fun h9 => h9.2⟩))) (by first | (rw [chk_no hto]; done) | (rw [chk_tab hto hcn]; done) | (rw [chk_yes hto hz]; first | done | exact tt_no (fun h9 => hnc (h9.1 z (by omega))) | exact tt_eq (by rw [beq_iff_eq, List.take_of_length_le (by omega)]; exact ⟨fun h9 => ⟨all_end hI9.2 (by omega), h9⟩, fun h9 => h9.2⟩)))

set_option maxHeartbeats 4000000 in
/-- impl.CheckTree -/
theorem c_impl_CheckTree (s : List DField) (cs : List DCard) (x : List DKnot) (hx : okKS x) : AC Tryz.prog 11 [.cel (Kd.slice kField) s, .cel (Kd.slice kCard) cs, .cel (Kd.slice kKnot) x] [.cel Kd.bool (checkS s cs x).1, .cel (Kd.int .i64) (checkS s cs x).2] [] := by
 refine acI (N := 89) Tryz.func11 (Nat.le_of_ble_eq_true rfl) rfl fun w0 hd s0 ar => ?_
 refine AW.to (kc3 0 1 2 rfl <| Kn) ?_
 refine AW.fact (fun a w hr => (ok_slice (R_ok (t := 0) rfl hr)).2) (fun hl0 => ?_)
 refine AW.fact (fun a w hr => (ok_slice (R_ok (t := 1) rfl hr)).2) (fun hl1 => ?_)
 refine AW.fact (fun a w hr => (ok_slice (R_ok (t := 2) rfl hr)).2) (fun hl2 => ?_)
 have htn := tabF_nil (s := s) (x := cs)
 refine sr ?_
 refine st (asB rfl) rfl ?_
 refine st (asI rfl) rfl ?_
 refine ng ?_
 refine AW.seq ?_
 refine sr ?_
 refine st (mvT rfl) rfl ?_
 refine st (OpT.c1 (ms := [.flat]) (c_impl_isTree _ hx) (H rfl) (Af (T1 rfl) rfl rfl <| An) rfl rfl) rfl ?_
 refine st (OpT.not (H rfl) (T1 rfl)) rfl ?_
 refine ng ?_
 refine cd rfl (fun hc1 => ?_) fun hc1 => ?_
 ·
  obtain ⟨hc1, hc1'⟩ := pT hc1
  have hto : tt (treeOK x) = false := by simpa using hc1
  refine sr ?_
  refine st (asB rfl) rfl ?_
  refine st (asI rfl) rfl ?_
  refine ng ?_
  refine AW.ret ?_
  refine rT ?_
  exact rt2 rfl (.inl rfl) (by first | (rw [chk_no hto]; done) | (rw [chk_tab hto hcn]; done) | (rw [chk_yes hto hz]; first | done | exact tt_no (fun h9 => hne ((ckI_iff he hk).1 (h9.1 p.1 (by omega))).1) | exact tt_no (fun h9 => hnq ((comeI_iff hk4 hl4).1 ((come_iff htr hlf).2 h9 z (by omega)))) | exact tt_yes ((come_iff htr hlf).1 (all_end hI.2 (by omega))))) (by first | (rw [chk_no hto]; done) | (rw [chk_tab hto hcn]; done) | (rw [chk_yes hto hz]; first | done | exact tt_no (fun h9 => hne ((ckI_iff he hk).1 (h9.1 p.1 (by omega))).1) | exact tt_no (fun h9 => hnq ((comeI_iff hk4 hl4).1 ((come_iff htr hlf).2 h9 z (by omega)))) | exact tt_yes ((come_iff htr hlf).1 (all_end hI.2 (by omega)))))
 ·
  obtain ⟨hc1, hc1'⟩ := pF hc1
  have hto : tt (treeOK x) = true := by simpa using hc1
  have htr := tt_iff.1 hto
  refine AW.skip ?_
  refine AX.go ?_
  refine AW.seq ?_
  refine sr ?_
  refine st (mvT rfl) rfl ?_
  refine st (mvT rfl) rfl ?_
  refine st (OpT.c1 (ms := [.flat, .flat, .flat]) (htn ▸ c_impl_checkTable s cs []) (H rfl) (Af (T1 rfl) rfl rfl <| Af (T1 rfl) rfl rfl <| Af (Opd.nilslice _) rfl rfl <| An) rfl rfl) rfl ?_
  refine st (asT rfl) rfl ?_
  refine ng ?_
  refine sr ?_
  refine st (mvT rfl) rfl ?_
  refine st (OpT.neq (H rfl) (T1 rfl) (I rfl)) rfl ?_
  refine ng ?_
  refine cd rfl (fun hc2 => ?_) fun hc2 => ?_
  ·
   obtain ⟨hc2, hc2'⟩ := pT hc2
   have hcn : tabE s cs ≠ 0 := by omega
   refine sr ?_
   refine st (mvT rfl) rfl ?_
   refine st (asB rfl) rfl ?_
   refine st (asT rfl) rfl ?_
   refine AWl.to (kc4 7 6 0 1 rfl <| kc 2 rfl <| Kn) ?_
   refine ng ?_
   refine AW.ret ?_
   refine rT ?_
   exact rt2 rfl (.inl rfl) (by first | (rw [chk_no hto]; done) | (rw [chk_tab hto hcn]; done) | (rw [chk_yes hto hz]; first | done | exact tt_no (fun h9 => hne ((ckI_iff he hk).1 (h9.1 p.1 (by omega))).1) | exact tt_no (fun h9 => hnq ((comeI_iff hk4 hl4).1 ((come_iff htr hlf).2 h9 z (by omega)))) | exact tt_yes ((come_iff htr hlf).1 (all_end hI.2 (by omega))))) (by first | (rw [chk_no hto]; done) | (rw [chk_tab hto hcn]; done) | (rw [chk_yes hto hz]; first | done | exact tt_no (fun h9 => hne ((ckI_iff he hk).1 (h9.1 p.1 (by omega))).1) | exact tt_no (fun h9 => hnq ((comeI_iff hk4 hl4).1 ((come_iff htr hlf).2 h9 z (by omega)))) | exact tt_yes ((come_iff htr hlf).1 (all_end hI.2 (by omega)))))
  ·
   obtain ⟨hc2, hc2'⟩ := pF hc2
   have hz : tabE s cs = 0 := by omega
   have htb := tabE_ok hz
   have hsl : s.length ≤ 12 := htb.1.1
   have hxl : x.length ≤ 120 := htr.2.1
   refine AW.skip ?_
   refine AX.go ?_
   refine sr ?_
   refine st (mvT rfl) rfl ?_
   refine st (OpT.len (H rfl) (T1 rfl) el34) rfl ?_
   refine st (OpT.make (H rfl) (T1 rfl) (T1 rfl) el71 zr51 sz51 by51 (by decide) zkr51 (by omega) (by omega)) rfl ?_
   refine AWl.vw (vnew (Inn.all_rep (d := (Inn.row 2 (Kd.int .i64))) (r := Value.slice none 0 0) (x := []) (GP.nil_own 2 (Kd.int .i64) rfl) x.length) 9000 9098 rfl rfl (by decide)) fun _ => ?_
   refine AWl.to (Kc 9000 (.deep _) rfl <| ko 31 rfl <| kc4 30 29 27 26 rfl <| kc4 8 25 24 23 rfl <| kc4 22 21 20 7 rfl <| kc4 6 0 1 2 rfl <| Kn) ?_
   refine sg (OpT.take (.inl rfl) rfl (ok' rfl) (Root.self (by decide)) rfl rfl (by decide)) (ko 9 rfl <| Kc 9000 (.deep _) rfl <| kc4 30 29 27 26 rfl <| kc4 8 25 24 23 rfl <| kc4 22 21 20 7 rfl <| kc4 6 0 1 2 rfl <| Kn) rfl ?_
   refine AWl.to (ko 9 rfl <| Kc 9000 (.deep _) rfl <| kc4 7 6 0 1 rfl <| kc 2 rfl <| Kn) ?_
   refine ng ?_
   refine AW.seq ?_
   refine sr ?_
   refine st (mvT rfl) rfl ?_
   refine st (OpT.len (H rfl) (T1 rfl) el32) rfl ?_
   refine st (mvI rfl) rfl ?_
   refine ng ?_
   refine AW.block ?_
   refine AW.loop (fun p : Nat × List Value => p.1 ≤ cs.length ∧ p.2.length = x.length ∧ ∀ i, i < p.1 → lfI s cs x i) (fun p : Nat × List Value => keep [(0, .cel (Kd.slice kField) s), (2, .cel (Kd.slice kKnot) x), (32, .cel (Kd.slice kCard) cs), (33, .cel (Kd.int .i64) (cs.length : Int)), (34, .cel (Kd.int .i64) (p.1 : Int)), (9, .own 51 Kd.raw p.2), (9000, .deep (OSh.gh (Inn.all (Inn.row 2 (Kd.int .i64)) p.2 (comeR s cs x p.1))))]) (fun p : Nat × List Value => cs.length - p.1) ((0, List.replicate x.length (Value.slice none 0 0))) ⟨Nat.zero_le _, List.length_replicate, all_none⟩ (Kc 0 _ (Kv rfl rfl) <| Kc 2 _ (Kv rfl rfl) <| Kc 32 _ (Kv rfl rfl) <| Kc 33 _ (Kv rfl rfl) <| Kc 34 _ (Kv rfl rfl) <| Kc 9 _ (Ko rfl rfl) <| Kc 9000 _ (rfl) <| Kn) ?_
   intro p hI
   have hI0 := hI
   refine sr ?_
   refine st (OpT.lss (H rfl) (T1 rfl) (T1 rfl)) rfl ?_
   refine ng ?_
   refine AW.seq ?_
   refine cd rfl (fun hc3 => ?_) fun hc3 => ?_
   ·
    obtain ⟨hc3, hc3'⟩ := pT hc3
    obtain ⟨e, he⟩ := getI (x := cs) (z := p.1) (by omega)
    refine AW.skip ?_
    refine AX.go ?_
    refine AW.seq ?_
    refine AW.block ?_
    refine sr ?_
    refine st (mvT rfl) rfl ?_
    refine st (OpT.indexAddr (H rfl) (T1 rfl) (T1 rfl) el32 sz62 (by omega) (by assumption)) rfl ?_
    refine st (OpT.loadA (H rfl) (T1 rfl) ag62 sz62) rfl ?_
    refine st (OpT.alloc (H rfl) zr62 zk62) rfl ?_
    refine st (asT rfl) rfl ?_
    refine sk (OpT.storeBA rfl rfl (Opd.whole (Root.self (t := 11) (by decide)) rfl) rfl sz62 (by decide) (T1 rfl)) rfl ?_
    refine ng ?_
    refine sr ?_
    refine st (OpT.buildSlice0 (m := 0) (z := .bool false) (Kd.int .i64) (H rfl) el51 sz2 (by decide)) rfl ?_
    refine sg (OpT.take (.inl rfl) rfl (ok' rfl) (Root.self (by decide)) rfl rfl (by decide)) (ko 12 rfl <| kb 11 rfl <| kc 10 rfl <| ka 38 rfl <| kc4 37 36 35 0 rfl <| kc4 2 32 33 34 rfl <| ko 9 rfl <| Kc 9000 (.deep _) rfl <| Kn) rfl ?_
    refine ng ?_
    refine AW.seq ?_
    refine sr ?_
    refine st (mvT rfl) rfl ?_
    refine st (OpT.len (H rfl) (T1 rfl) el30) rfl ?_
    refine st (mvI rfl) rfl ?_
    refine ng ?_
    refine AW.block ?_
    refine AW.loop (fun y : Nat => y ≤ s.length) (fun y : Nat => keep [(0, .cel (Kd.slice kField) s), (2, .cel (Kd.slice kKnot) x), (32, .cel (Kd.slice kCard) cs), (33, .cel (Kd.int .i64) (cs.length : Int)), (34, .cel (Kd.int .i64) (p.1 : Int)), (9, .own 51 Kd.raw p.2), (9000, .deep (OSh.gh (Inn.all (Inn.row 2 (Kd.int .i64)) p.2 (comeR s cs x p.1)))), (10, .cel (Kd.int .i64) (p.1 : Int)), (11, .box 62 kCard e), (12, .own 2 (Kd.int .i64) (valsF (s.take y) e.2)), (40, .cel (Kd.slice kField) s), (41, .cel (Kd.int .i64) (s.length : Int)), (42, .cel (Kd.int .i64) (y : Int))]) (fun y : Nat => s.length - y) (0) (Nat.zero_le _) (Kc 0 _ (Kv rfl rfl) <| Kc 2 _ (Kv rfl rfl) <| Kc 32 _ (Kv rfl rfl) <| Kc 33 _ (Kv rfl rfl) <| Kc 34 _ (Kv rfl rfl) <| Kc 9 _ (Ko rfl rfl) <| Kc 9000 _ (Kg rfl rfl) <| Kc 10 _ (Kv rfl rfl) <| Kc 11 _ (Kb rfl rfl) <| Kc 12 _ (Ko rfl rfl) <| Kc 40 _ (Kv rfl rfl) <| Kc 41 _ (Kv rfl rfl) <| Kc 42 _ (Kv rfl rfl) <| Kn) ?_
    intro y hI
    refine sr ?_
    refine st (OpT.lss (H rfl) (T1 rfl) (T1 rfl)) rfl ?_
    refine ng ?_
    refine AW.seq ?_
    refine cd rfl (fun hc4 => ?_) fun hc4 => ?_
    ·
     obtain ⟨hc4, hc4'⟩ := pT hc4
     obtain ⟨f, hf⟩ := getI (x := s) (z := y) (by omega)
     have hfo := sch_field htb.1 hf
     have hvl := valsF_len (s.take y) e.2
     rw [List.length_take] at hvl
     refine AW.skip ?_
     refine AX.go ?_
     refine AW.seq ?_
     refine AW.block ?_
     refine sr ?_
     refine st (OpT.indexAddr (H rfl) (T1 rfl) (T1 rfl) el30 sz59 (by omega) (by assumption)) rfl ?_
     refine st (OpT.loadA (H rfl) (T1 rfl) ag59 sz59) rfl ?_
     refine st (OpT.alloc (H rfl) zr59 zk59) rfl ?_
     refine sk (OpT.storeBA rfl rfl (Opd.whole (Root.self (t := 14) (by decide)) rfl) rfl sz59 (by decide) (T1 rfl)) rfl ?_
     refine ng ?_
     refine AW.region ?_
     refine st (OpT.alias (H rfl) (by decide) (by decide)) rfl ?_
     refine st (OpT.loadB (H rfl) (Root.self (t := 14) (by decide)) rfl ag59 sz59) rfl ?_
     refine st (OpT.loadB (H rfl) (Root.self (t := 11) (by decide)) rfl ag62 sz62) rfl ?_
     refine st (OpT.c1 (ms := [.flat, .flat]) (c_impl_valueIn _ _ hfo) (H rfl) (Af (T1 rfl) rfl rfl <| Af (T1 rfl) rfl rfl <| An) rfl rfl) rfl ?_
     refine st (OpT.buildSlice (H rfl) el51 zr2 sz2 rfl (by decide) zk2 (by decide) (Built.cel (T1 rfl) rfl rfl (sub_arr (by decide) (0 : Int)) (Built.nil _))) rfl ?_
     refine sg (OpT.append (H rfl) (Root.ali rfl (by decide) (by decide)) rfl (Src.own (Root.self (t := 50) (by decide)) rfl) (by decide) el51 zr2 rfl sz2 by2 (by decide) (by simp only [List.length_set, List.length_replicate]; omega)) (ko 51 rfl <| ko 50 rfl <| kc 49 rfl <| ka 48 rfl <| ka 47 rfl <| kb 14 rfl <| ka 45 rfl <| kc4 44 43 0 2 rfl <| kc3 32 33 34 rfl <| ko 9 rfl <| Kc 9000 (.deep _) rfl <| kc 10 rfl <| kb 11 rfl <| kc3 40 41 42 rfl <| Kn) rfl ?_
     refine sg (OpT.take (.inl rfl) rfl (ok' rfl) (Root.self (by decide)) rfl rfl (by decide)) (ko 12 rfl <| ko 50 rfl <| kc 49 rfl <| ka 48 rfl <| ka 47 rfl <| kb 14 rfl <| ka 45 rfl <| kc4 44 43 0 2 rfl <| kc3 32 33 34 rfl <| ko 9 rfl <| Kc 9000 (.deep _) rfl <| kc 10 rfl <| kb 11 rfl <| kc3 40 41 42 rfl <| Kn) rfl ?_
     refine nn ?_
     refine AX.normal_block ?_
     refine AX.go ?_
     refine AW.region ?_
     refine st (OpT.add (H rfl) (T1 rfl) (I rfl) (nw (by omega))) rfl ?_
     refine st (mvT rfl) rfl ?_
     refine nn ?_
     exact AX.again (y + 1) (by omega) (by omega) (Kc 0 _ (Kv rfl rfl) <| Kc 2 _ (Kv rfl rfl) <| Kc 32 _ (Kv rfl rfl) <| Kc 33 _ (Kv rfl rfl) <| Kc 34 _ (Kv rfl rfl) <| Kc 9 _ (Ko rfl rfl) <| Kc 9000 _ (Kg rfl rfl) <| Kc 10 _ (Kv rfl rfl) <| Kc 11 _ (Kb rfl rfl) <| Kc 12 _ (Ko rfl (valsF_next hf)) <| Kc 40 _ (Kv rfl rfl) <| Kc 41 _ (Kv rfl rfl) <| Kc 42 _ (Kv rfl (by omega)) <| Kn)
    ·
     obtain ⟨hc4, hc4'⟩ := pF hc4
     have hwl : wkS x (valsF (s.take y) e.2) = leafS s x e := by (rw [List.take_of_length_le (by omega)]; rfl)
     have hlp : 0 ≤ (leafS s x e).1 := wkS_pos x _
     obtain ⟨k, hk⟩ : ∃ k, x[Int.toNat (leafS s x e).1]? = some k := wt_at hto
     have hkx := (List.getElem?_eq_some_iff.1 hk).1
     refine AW.exit ?_
     refine xT <| xT <| AX.exit_hit ?_
     refine AX.go ?_
     refine sr ?_
     refine st (mvT rfl) rfl ?_
     refine st (OpT.alias (H rfl) (by decide) (by decide)) rfl ?_
     refine s3 (cN (ms := [.flat, .bor 12]) (hwl ▸ c_impl_walk x (valsF (s.take y) e.2) htr) (H rfl) (Af (T1 rfl) rfl rfl <| Ab (Root.ali rfl (by decide) (by decide)) rfl <| An) rfl (.inr (ind3 (indC fun _ _ _ _ h => h) (indC fun _ _ _ _ h => h) (indC fun _ _ _ _ h => h)))) rfl ?_
     refine st (OpT.alias (H rfl) (by decide) (by decide)) rfl ?_
     refine st (OpT.extractV (m := 10056) (H rfl) rfl rfl rfl rfl rfl rfl rfl) rfl ?_
     refine st (OpT.extractV (m := 20056) (H rfl) rfl rfl rfl rfl rfl rfl rfl) rfl ?_
     refine st (OpT.extractV (m := 30056) (H rfl) rfl rfl rfl rfl rfl rfl rfl) rfl ?_
     refine st (asT rfl) rfl ?_
     refine st (asT rfl) rfl ?_
     refine st (asT rfl) rfl ?_
     refine ng ?_
     refine AW.seq ?_
     refine sr ?_
     refine st (mvT rfl) rfl ?_
     refine st (OpT.neq (H rfl) (T1 rfl) (I rfl)) rfl ?_
     refine ng ?_
     refine cd rfl (fun hc5 => ?_) fun hc5 => ?_
     ·
      obtain ⟨hc5, hc5'⟩ := pT hc5
      have hne : (leafS s x e).2.2 ≠ 0 := by omega
      refine sr ?_
      refine st (asB rfl) rfl ?_
      refine st (asI rfl) rfl ?_
      refine ng ?_
      refine AW.ret ?_
      refine rT <| rK <| rT <| rT <| rK <| rT ?_
      exact rt2 rfl (.inl rfl) (by first | (rw [chk_no hto]; done) | (rw [chk_tab hto hcn]; done) | (rw [chk_yes hto hz]; first | done | exact tt_no (fun h9 => hne ((ckI_iff he hk).1 (h9.1 p.1 (by omega))).1) | exact tt_no (fun h9 => hnq ((comeI_iff hk4 hl4).1 ((come_iff htr hlf).2 h9 z (by omega)))) | exact tt_yes ((come_iff htr hlf).1 (all_end hI.2 (by omega))))) (by first | (rw [chk_no hto]; done) | (rw [chk_tab hto hcn]; done) | (rw [chk_yes hto hz]; first | done | exact tt_no (fun h9 => hne ((ckI_iff he hk).1 (h9.1 p.1 (by omega))).1) | exact tt_no (fun h9 => hnq ((comeI_iff hk4 hl4).1 ((come_iff htr hlf).2 h9 z (by omega)))) | exact tt_yes ((come_iff htr hlf).1 (all_end hI.2 (by omega)))))
     ·
      obtain ⟨hc5, hc5'⟩ := pF hc5
      have hcz : (leafS s x e).2.2 = 0 := by omega
      obtain ⟨r, hr⟩ : ∃ r, p.2[Int.toNat (leafS s x e).1]? = some r := ⟨_, List.getElem?_eq_getElem (by omega)⟩
      obtain ⟨l, hl⟩ : ∃ l, (comeR s cs x p.1)[Int.toNat (leafS s x e).1]? = some l := ⟨_, List.getElem?_eq_getElem (by rw [come_len]; omega)⟩
      have hrl := come_row hI0.2.2 hl
      refine AW.skip ?_
      refine AX.go ?_
      refine AW.region ?_
      refine st (OpT.alias (H rfl) (by decide) (by decide)) rfl ?_
      refine st (mvT rfl) rfl ?_
      refine st (OpT.alias (H rfl) (by decide) (by decide)) rfl ?_
      refine st (mvT rfl) rfl ?_
      refine st (OpT.indexAddrO (H rfl) (Root.ali rfl (by decide) (by decide)) rfl (by decide) (T1 rfl) el71 sz51 (by omega) (by assumption)) rfl ?_
      refine st (OpT.loadP (H rfl) (T1 rfl) (.inr ⟨_, _, rfl, (by assumption)⟩) ag51 rfl) rfl ?_
      refine AWl.vw (vent 9000 9001 (Inn.carve (d := (Inn.row 2 (Kd.int .i64))) hr hl) rfl rfl (by decide)) fun _ => ?_
      refine AWl.to (Kc 9000 (.deep _) rfl <| Kc 9001 (.deep _) rfl <| kc 67 rfl <| Kc 66 (.pel _ _ _ _ _ _ _) rfl <| kc 65 rfl <| Kc 64 (.ali _) rfl <| kc 63 rfl <| Kc 62 (.ali _) rfl <| kc4 61 60 17 16 rfl <| kc4 15 59 58 57 rfl <| Kc 53 (.ali _) rfl <| kc3 10056 20056 30056 rfl <| Kc 55 (.ali _) rfl <| kc4 54 43 0 2 rfl <| kc3 32 33 34 rfl <| ko 9 rfl <| kc 10 rfl <| kb 11 rfl <| ko 12 rfl <| kc3 40 41 42 rfl <| Kn) ?_
      refine AWl.vw (vunmelt 67 9000 rfl rfl (by decide)) fun _ => ?_
      refine AWl.to (ko 67 rfl <| Kc 9001 (.deep _) rfl <| Kc 66 (.pel _ _ _ _ _ _ _) rfl <| kc 65 rfl <| Kc 64 (.ali _) rfl <| kc 63 rfl <| Kc 62 (.ali _) rfl <| kc4 61 60 17 16 rfl <| kc4 15 59 58 57 rfl <| Kc 53 (.ali _) rfl <| kc3 10056 20056 30056 rfl <| Kc 55 (.ali _) rfl <| kc4 54 43 0 2 rfl <| kc3 32 33 34 rfl <| ko 9 rfl <| kc 10 rfl <| kb 11 rfl <| ko 12 rfl <| kc3 40 41 42 rfl <| Kn) ?_
      refine st (mvT rfl) rfl ?_
      refine st (OpT.buildSlice (H rfl) el51 zr2 sz2 rfl (by decide) zk2 (by decide) (Built.cel (T1 rfl) rfl rfl (sub_arr (by decide) (0 : Int)) (Built.nil _))) rfl ?_
      refine sg (OpT.append (H rfl) (Root.self (t := 67) (by decide)) rfl (Src.own (Root.self (t := 69) (by decide)) rfl) (by decide) el51 zr2 rfl sz2 by2 (by decide) (by simp only [List.length_set, List.length_replicate]; omega)) (ko 70 rfl <| ko 69 rfl <| kc 68 rfl <| Kc 9001 (.deep _) rfl <| Kc 66 (.pel _ _ _ _ _ _ _) rfl <| kc 65 rfl <| Kc 64 (.ali _) rfl <| kc 63 rfl <| Kc 62 (.ali _) rfl <| kc4 61 60 17 16 rfl <| kc4 15 59 58 57 rfl <| Kc 53 (.ali _) rfl <| kc3 10056 20056 30056 rfl <| Kc 55 (.ali _) rfl <| kc4 54 43 0 2 rfl <| kc3 32 33 34 rfl <| ko 9 rfl <| kc 10 rfl <| kb 11 rfl <| ko 12 rfl <| kc3 40 41 42 rfl <| Kn) rfl ?_
      refine AWl.vw (vmelt 70 9000 rfl rfl (by decide)) fun v1 => ?_
      refine AWl.to (Kc 9000 (.deep _) rfl <| kc 70 rfl <| ko 69 rfl <| kc 68 rfl <| Kc 9001 (.deep _) rfl <| Kc 66 (.pel _ _ _ _ _ _ _) rfl <| kc 65 rfl <| Kc 64 (.ali _) rfl <| kc 63 rfl <| Kc 62 (.ali _) rfl <| kc4 61 60 17 16 rfl <| kc4 15 59 58 57 rfl <| Kc 53 (.ali _) rfl <| kc3 10056 20056 30056 rfl <| Kc 55 (.ali _) rfl <| kc4 54 43 0 2 rfl <| kc3 32 33 34 rfl <| ko 9 rfl <| kc 10 rfl <| kb 11 rfl <| ko 12 rfl <| kc3 40 41 42 rfl <| Kn) ?_
      refine AWl.vw (vjoin 9000 9001 (Inn.fill (d := (Inn.row 2 (Kd.int .i64))) (by omega) (by rw [come_len]; omega)) rfl rfl (by decide)) fun _ => ?_
      refine AWl.to (Kc 9000 (.deep _) rfl <| kc 70 rfl <| ko 69 rfl <| kc 68 rfl <| Kc 66 (.pel _ _ _ _ _ _ _) rfl <| kc 65 rfl <| Kc 64 (.ali _) rfl <| kc 63 rfl <| Kc 62 (.ali _) rfl <| kc4 61 60 17 16 rfl <| kc4 15 59 58 57 rfl <| Kc 53 (.ali _) rfl <| kc3 10056 20056 30056 rfl <| Kc 55 (.ali _) rfl <| kc4 54 43 0 2 rfl <| kc3 32 33 34 rfl <| ko 9 rfl <| kc 10 rfl <| kb 11 rfl <| ko 12 rfl <| kc3 40 41 42 rfl <| Kn) ?_
      refine st (OpT.indexAddrO (H rfl) (Root.ali rfl (by decide) (by decide)) rfl (by decide) (T1 rfl) el71 sz51 (by omega) (by assumption)) rfl ?_
      refine sk (OpT.storeO rfl rfl (T1 rfl) rfl (by assumption) sz51 rfl (T1 rfl)) rfl ?_
      refine nn ?_
      refine AX.normal_block ?_
      refine AX.go ?_
      refine AW.region ?_
      refine st (OpT.add (H rfl) (T1 rfl) (I rfl) (nw (by omega))) rfl ?_
      refine st (mvT rfl) rfl ?_
      refine nn ?_
      exact AX.again ((p.1 + 1, p.2.set (Int.toNat (leafS s x e).1) v1)) ⟨by simp only []; omega, by simp only [List.length_set]; exact hI0.2.1, all_step hI0.2.2 (lfI_mk he hcz hkx)⟩ (by simp only []; omega) (Kc 0 _ (Kv rfl rfl) <| Kc 2 _ (Kv rfl rfl) <| Kc 32 _ (Kv rfl rfl) <| Kc 33 _ (Kv rfl rfl) <| Kc 34 _ (Kv rfl (by simp only []; omega)) <| Kc 9 _ (Ko rfl rfl) <| Kc 9000 _ (Kg rfl (come_next he hl)) <| Kn)
   ·
    obtain ⟨hc3, hc3'⟩ := pF hc3
    refine AW.exit ?_
    refine xT <| xT <| AX.exit_hit ?_
    refine AX.go ?_
    refine AW.seq ?_
    refine sr ?_
    refine st (mvT rfl) rfl ?_
    refine st (OpT.len (H rfl) (T1 rfl) el34) rfl ?_
    refine AWl.vw (vrows (d := (Inn.row 2 (Kd.int .i64))) 9 9000 rfl rfl (by decide)) fun _ => ?_
    refine AWl.freezeR (t := 9) rfl (Inn.Reads.row _ _) ?_
    refine AWl.to (kc4 9 74 73 35 rfl <| kc4 0 2 32 33 rfl <| kc 34 rfl <| Kn) ?_
    refine st (mvI rfl) rfl ?_
    refine ng ?_
    refine AW.block ?_
    have hpl : p.1 = cs.length := by omega
    have hlf : ∀ i, i < cs.length → lfI s cs x i := hpl ▸ hI.2.2
    refine AW.loop (fun z : Nat => z ≤ x.length ∧ ∀ i, i < z → comeI s cs x i) (fun z : Nat => keep [(9, .cel (Kd.slice (Kd.slice (Kd.int .i64))) (comeR s cs x cs.length)), (73, .cel (Kd.slice kKnot) x), (74, .cel (Kd.int .i64) (x.length : Int)), (75, .cel (Kd.int .i64) (z : Int))]) (fun z : Nat => x.length - z) (0) ⟨Nat.zero_le _, all_none⟩ (Kc 9 _ (Kv rfl (by rw [hpl])) <| Kc 73 _ (Kv rfl rfl) <| Kc 74 _ (Kv rfl rfl) <| Kc 75 _ (Kv rfl rfl) <| Kn) ?_
    intro z hI
    refine sr ?_
    refine st (OpT.lss (H rfl) (T1 rfl) (T1 rfl)) rfl ?_
    refine ng ?_
    refine AW.seq ?_
    refine cd rfl (fun hc6 => ?_) fun hc6 => ?_
    ·
     obtain ⟨hc6, hc6'⟩ := pT hc6
     obtain ⟨k4, hk4⟩ := getI (x := x) (z := z) (by omega)
     obtain ⟨l4, hl4⟩ := getI (x := comeR s cs x cs.length) (z := z) (by rw [come_len]; omega)
     refine AW.skip ?_
     refine AX.go ?_
     refine AW.seq ?_
     refine AW.block ?_
     refine sr ?_
     refine st (mvT rfl) rfl ?_
     refine st (OpT.indexAddr (H rfl) (T1 rfl) (T1 rfl) el34 sz66 (by omega) (by assumption)) rfl ?_
     refine st (OpT.loadA (H rfl) (T1 rfl) ag66 sz66) rfl ?_
     refine st (OpT.alloc (H rfl) zr66 zk66) rfl ?_
     refine st (asT rfl) rfl ?_
     refine sk (OpT.storeBA rfl rfl (Opd.whole (Root.self (t := 19) (by decide)) rfl) rfl sz66 (by decide) (T1 rfl)) rfl ?_
     refine AWl.to (kb 19 rfl <| kc 18 rfl <| ka 79 rfl <| kc4 78 77 76 9 rfl <| kc3 73 74 75 rfl <| Kn) ?_
     refine ng ?_
     refine AW.seq ?_
     refine dh fomo ?_
     refine d1 [19] (fun ve h => OpT.fieldAddrB (H rfl) (Root.self (t := 19) (by decide)) ((h _ (List.elem_iff.1 rfl)).trans rfl) (by decide) fd66_3 sz51 (by decide) sb66_3) rfl ?_
     refine d1 [19, 80] (fun ve h => OpT.loadP (H rfl) (D1 h rfl) (.inl ⟨_, ((h _ (List.elem_iff.1 rfl)).trans rfl), rfl⟩) ag51 rfl) rfl ?_
     refine d1 [9] (fun ve h => OpT.move (A := .cel _ _) (.inl rfl) rfl (ok' rfl) (D1 h rfl) rfl) rfl ?_
     refine d1 [18] (fun ve h => OpT.move (A := .cel _ _) (.inl rfl) rfl (ok' rfl) (D1 h rfl) rfl) rfl ?_
     refine d1 [82, 83] (fun ve h => OpT.indexAddr (H rfl) (D1 h rfl) (D1 h rfl) el71 sz51 (by omega) (by assumption)) rfl ?_
     refine d1 [84] (fun ve h => OpT.load (H rfl) (D1 h rfl) ag51 rfl) rfl ?_
     refine d1 [81, 85] (fun ve h => OpT.c1 (ms := [.flat, .flat]) (c_slices_Equal_int64_int64 _ _) (H rfl) (Af (D1 h rfl) rfl rfl <| Af (D1 h rfl) rfl rfl <| An) rfl rfl) rfl ?_
     refine d1 [86] (fun ve h => OpT.not (H rfl) (D1 h rfl)) rfl ?_
     refine dn ⟨by kernel_rfl, by kernel_rfl, ?_⟩
     refine AX.go ?_
     refine cd rfl (fun hc7 => ?_) fun hc7 => ?_
     ·
      obtain ⟨hc7, hc7'⟩ := pT hc7
      have hnq : ¬ k4.2.2.2 = l4 := by simpa [eqv_iff, eqv_false_iff] using hc7
      refine sr ?_
      refine st (asB rfl) rfl ?_
      refine st (asI rfl) rfl ?_
      refine ng ?_
      refine AW.ret ?_
      refine rK <| rT <| rT <| rK <| rT ?_
      exact rt2 rfl (.inl rfl) (by first | (rw [chk_no hto]; done) | (rw [chk_tab hto hcn]; done) | (rw [chk_yes hto hz]; first | done | exact tt_no (fun h9 => hne ((ckI_iff he hk).1 (h9.1 p.1 (by omega))).1) | exact tt_no (fun h9 => hnq ((comeI_iff hk4 hl4).1 ((come_iff htr hlf).2 h9 z (by omega)))) | exact tt_yes ((come_iff htr hlf).1 (all_end hI.2 (by omega))))) (by first | (rw [chk_no hto]; done) | (rw [chk_tab hto hcn]; done) | (rw [chk_yes hto hz]; first | done | exact tt_no (fun h9 => hne ((ckI_iff he hk).1 (h9.1 p.1 (by omega))).1) | exact tt_no (fun h9 => hnq ((comeI_iff hk4 hl4).1 ((come_iff htr hlf).2 h9 z (by omega)))) | exact tt_yes ((come_iff htr hlf).1 (all_end hI.2 (by omega)))))
     ·
      obtain ⟨hc7, hc7'⟩ := pF hc7
      have hyq : k4.2.2.2 = l4 := by simpa [eqv_iff, eqv_false_iff] using hc7
      refine AW.skip ?_
      refine AX.normal_block ?_
      refine AX.go ?_
      refine AW.region ?_
      refine st (OpT.add (H rfl) (T1 rfl) (I rfl) (nw (by omega))) rfl ?_
      refine st (mvT rfl) rfl ?_
      refine nn ?_
      exact AX.again (z + 1) ⟨by omega, all_step hI.2 ((comeI_iff hk4 hl4).2 hyq)⟩ (by omega) (Kc 9 _ (Kv rfl rfl) <| Kc 73 _ (Kv rfl rfl) <| Kc 74 _ (Kv rfl rfl) <| Kc 75 _ (Kv rfl (by omega)) <| Kn)
    ·
     obtain ⟨hc6, hc6'⟩ := pF hc6
     refine AW.exit ?_
     refine xT <| xT <| AX.exit_hit ?_
     refine AX.go ?_
     refine sr ?_
     refine st (asB rfl) rfl ?_
     refine st (asI rfl) rfl ?_
     refine ng ?_
     refine AW.ret ?_
     exact rt2 rfl (.inl rfl) (by first | (rw [chk_no hto]; done) | (rw [chk_tab hto hcn]; done) | (rw [chk_yes hto hz]; first | done | exact tt_no (fun h9 => hne ((ckI_iff he hk).1 (h9.1 p.1 (by omega))).1) | exact tt_no (fun h9 => hnq ((comeI_iff hk4 hl4).1 ((come_iff htr hlf).2 h9 z (by omega)))) | exact tt_yes ((come_iff htr hlf).1 (all_end hI.2 (by omega))))) (by first | (rw [chk_no hto]; done) | (rw [chk_tab hto hcn]; done) | (rw [chk_yes hto hz]; first | done | exact tt_no (fun h9 => hne ((ckI_iff he hk).1 (h9.1 p.1 (by omega))).1) | exact tt_no (fun h9 => hnq ((comeI_iff hk4 hl4).1 ((come_iff htr hlf).2 h9 z (by omega)))) | exact tt_yes ((come_iff htr hlf).1 (all_end hI.2 (by omega)))))

set_option maxHeartbeats 4000000 in
/-- laws.FnExactCheckTree -/
theorem c_laws_FnExactCheckTree (s : List DField) (x : List DCard) (tr : List DKnot) : AC Tryz.prog 3 [.cel (Kd.slice kField) s, .cel (Kd.slice kCard) x, .cel (Kd.slice kKnot) tr] [.cel Kd.bool true] [] := by
 refine acI (N := 76) Tryz.func3 (Nat.le_of_ble_eq_true rfl) rfl fun w0 hd s0 ar => ?_
 refine AW.to (kc3 0 1 2 rfl <| Kn) ?_
 refine sr ?_
 refine st (asB rfl) rfl ?_
 refine ng ?_
 refine sr ?_
 refine st (asI rfl) rfl ?_
 refine ng ?_
 refine sr ?_
 refine st (mvT rfl) rfl ?_
 refine st (mvT rfl) rfl ?_
 refine st (OpT.c1 (ms := [.flat, .flat]) (c_laws_szFieldS _ _ (by omega)) (H rfl) (Af (T1 rfl) rfl rfl <| Af (T1 rfl) rfl rfl <| An) rfl rfl) rfl ?_
 refine st (asT rfl) rfl ?_
 refine ng ?_
 refine AW.seq ?_
 refine sr ?_
 refine st (mvT rfl) rfl ?_
 refine st (OpT.lss (H rfl) (T1 rfl) (I rfl)) rfl ?_
 refine ng ?_
 refine cd rfl (fun hc1 => ?_) fun hc1 => ?_
 ·
  replace hc1 := oT hc1
  refine sr ?_
  refine st (asB rfl) rfl ?_
  refine ng ?_
  refine AW.ret ?_
  refine rT ?_
  exact rt1 rfl (.inl rfl) rfl
 ·
  replace hc1 := oF hc1
  have f0 := okSz_list okSzF s 1048576 (by omega)
  have f1 := f0.2.2 (by omega)
  refine AW.skip ?_
  refine AX.go ?_
  refine sr ?_
  refine st (mvT rfl) rfl ?_
  refine st (mvT rfl) rfl ?_
  refine st (OpT.c1 (ms := [.flat, .flat]) (c_laws_szCardS _ _ (by omega)) (H rfl) (Af (T1 rfl) rfl rfl <| Af (T1 rfl) rfl rfl <| An) rfl rfl) rfl ?_
  refine st (asT rfl) rfl ?_
  refine ng ?_
  refine AW.seq ?_
  refine sr ?_
  refine st (mvT rfl) rfl ?_
  refine st (OpT.lss (H rfl) (T1 rfl) (I rfl)) rfl ?_
  refine AWl.to (kc4 24 7 6 0 rfl <| kc2 1 2 rfl <| Kn) ?_
  refine ng ?_
  refine cd rfl (fun hc2 => ?_) fun hc2 => ?_
  ·
   replace hc2 := oT hc2
   refine sr ?_
   refine st (asB rfl) rfl ?_
   refine ng ?_
   refine AW.ret ?_
   refine rT ?_
   exact rt1 rfl (.inl rfl) rfl
  ·
   replace hc2 := oF hc2
   have k0 := okSz_list okSzC x (szSS szF s 1048576) (by omega)
   have k1 := k0.2.2 (by omega)
   refine AW.skip ?_
   refine AX.go ?_
   refine sr ?_
   refine st (mvT rfl) rfl ?_
   refine st (mvT rfl) rfl ?_
   refine st (OpT.c1 (ms := [.flat, .flat]) (c_laws_szKnotS _ _ (by omega)) (H rfl) (Af (T1 rfl) rfl rfl <| Af (T1 rfl) rfl rfl <| An) rfl rfl) rfl ?_
   refine st (asT rfl) rfl ?_
   refine ng ?_
   refine AW.seq ?_
   refine sr ?_
   refine st (mvT rfl) rfl ?_
   refine st (OpT.lss (H rfl) (T1 rfl) (I rfl)) rfl ?_
   refine ng ?_
   refine cd rfl (fun hc3 => ?_) fun hc3 => ?_
   ·
    replace hc3 := oT hc3
    refine sr ?_
    refine st (asB rfl) rfl ?_
    refine ng ?_
    refine AW.ret ?_
    refine rT ?_
    exact rt1 rfl (.inl rfl) rfl
   ·
    replace hc3 := oF hc3
    have t0 := szKS_in tr (l := szSS szC x (szSS szF s 1048576)) (by omega)
    have t1 := t0.2.2 (by omega)
    refine AW.skip ?_
    refine AX.go ?_
    refine sr ?_
    refine st (mvT rfl) rfl ?_
    refine st (OpT.c1 (ms := [.flat]) (c_laws_toFieldS s (by omega)) (H rfl) (Af (T1 rfl) rfl rfl <| An) rfl rfl) rfl ?_
    refine st (mvT rfl) rfl ?_
    refine st (OpT.c1 (ms := [.flat]) (c_laws_toCardS x (by omega)) (H rfl) (Af (T1 rfl) rfl rfl <| An) rfl rfl) rfl ?_
    refine st (mvT rfl) rfl ?_
    refine st (OpT.c1 (ms := [.flat]) (c_laws_toKnotS tr t1) (H rfl) (Af (T1 rfl) rfl rfl <| An) rfl rfl) rfl ?_
    refine s2 (OpT.c2 (ms := [.flat, .flat, .flat]) (c_spec_CheckTree _ _ _ t1) (H rfl) (Af (T1 rfl) rfl rfl <| Af (T1 rfl) rfl rfl <| Af (T1 rfl) rfl rfl <| An) rfl rfl rfl) rfl ?_
    refine st (OpT.alias (H rfl) (by decide) (by decide)) rfl ?_
    refine st (OpT.extractV (m := 10037) (H rfl) rfl rfl rfl rfl rfl rfl rfl) rfl ?_
    refine st (OpT.extractV (m := 20037) (H rfl) rfl rfl rfl rfl rfl rfl rfl) rfl ?_
    refine st (asT rfl) rfl ?_
    refine st (asT rfl) rfl ?_
    refine AWl.to (kc4 9 8 6 0 rfl <| kc2 1 2 rfl <| Kn) ?_
    refine ng ?_
    refine sr ?_
    refine st (mvT rfl) rfl ?_
    refine st (OpT.c1 (ms := [.flat]) (c_laws_toFieldS s (by omega)) (H rfl) (Af (T1 rfl) rfl rfl <| An) rfl rfl) rfl ?_
    refine st (asT rfl) rfl ?_
    refine ng ?_
    refine sr ?_
    refine st (mvT rfl) rfl ?_
    refine st (OpT.c1 (ms := [.flat]) (c_laws_toCardS x (by omega)) (H rfl) (Af (T1 rfl) rfl rfl <| An) rfl rfl) rfl ?_
    refine st (asT rfl) rfl ?_
    refine ng ?_
    refine sr ?_
    refine st (mvT rfl) rfl ?_
    refine st (OpT.c1 (ms := [.flat]) (c_laws_toKnotS tr t1) (H rfl) (Af (T1 rfl) rfl rfl <| An) rfl rfl) rfl ?_
    refine st (asT rfl) rfl ?_
    refine ng ?_
    refine sr ?_
    refine st (mvT rfl) rfl ?_
    refine st (mvT rfl) rfl ?_
    refine st (mvT rfl) rfl ?_
    refine s2 (OpT.c2 (ms := [.flat, .flat, .flat]) (c_impl_CheckTree _ _ _ t1) (H rfl) (Af (T1 rfl) rfl rfl <| Af (T1 rfl) rfl rfl <| Af (T1 rfl) rfl rfl <| An) rfl rfl rfl) rfl ?_
    refine st (OpT.alias (H rfl) (by decide) (by decide)) rfl ?_
    refine st (OpT.extractV (m := 10050) (H rfl) rfl rfl rfl rfl rfl rfl rfl) rfl ?_
    refine st (OpT.extractV (m := 20050) (H rfl) rfl rfl rfl rfl rfl rfl rfl) rfl ?_
    refine st (asT rfl) rfl ?_
    refine st (asT rfl) rfl ?_
    refine AWl.to (kc4 14 13 12 11 rfl <| kc4 10 9 8 6 rfl <| kc3 0 1 2 rfl <| Kn) ?_
    refine ng ?_
    refine AW.seq ?_
    refine sr ?_
    refine st (mvT rfl) rfl ?_
    refine st (mvT rfl) rfl ?_
    refine st (OpT.bneq (H rfl) Tryz.underlying4 (T1 rfl) (T1 rfl)) rfl ?_
    refine st (mvT rfl) rfl ?_
    apply AWl.or (d := 60) (t := 56) rfl
    ·
     intro hb1 Q1 k1
     refine rs hb1 (mvT rfl) rfl ?_
     refine rs hb1 (mvT rfl) rfl ?_
     refine rs hb1 (OpT.neq (H rfl) (T1 rfl) (T1 rfl)) rfl ?_
     refine st (OpT.pickF (A := .cel _ _) (H rfl) (T1 rfl) hb1 (T1 rfl) rfl) rfl ?_
     exact AWl.to (junk 3 rfl) k1
    ·
     intro hb1 Q1 k1
     refine ps hb1 rfl ?_
     refine ps hb1 rfl ?_
     refine ps hb1 rfl ?_
     refine st (OpT.pickT (A := .cel _ _) (H rfl) (T1 rfl) hb1 Opd.bool rfl) rfl ?_
     exact k1
    refine ng ?_
    refine cd rfl (fun hc4 => ?_) fun hc4 => ?_
    ·
     replace hc4 := oT hc4
     exact (show False from (by first | omega | (simp [eqv_self] at hc4 <;> omega))).elim
    ·
     replace hc4 := oF hc4
     refine AW.skip ?_
     refine AX.go ?_
     refine AW.seq ?_
     refine sr ?_
     refine st (mvT rfl) rfl ?_
     refine st (mvT rfl) rfl ?_
     refine st (OpT.c1 (ms := [.flat]) (c_laws_toFieldS s (by omega)) (H rfl) (Af (T1 rfl) rfl rfl <| An) rfl rfl) rfl ?_
     refine st (OpT.c1 (ms := [.flat, .flat]) (c_laws_eqFieldS _ _) (H rfl) (Af (T1 rfl) rfl rfl <| Af (T1 rfl) rfl rfl <| An) rfl rfl) rfl ?_
     refine st (OpT.not (H rfl) (T1 rfl)) rfl ?_
     refine AWl.to (kc4 65 12 11 6 rfl <| kc2 1 2 rfl <| Kn) ?_
     refine ng ?_
     refine cd rfl (fun hc5 => ?_) fun hc5 => ?_
     ·
      replace hc5 := oT hc5
      exact (show False from (by first | omega | (simp [eqv_self] at hc5 <;> omega))).elim
     ·
      replace hc5 := oF hc5
      refine AW.skip ?_
      refine AX.go ?_
      refine AW.seq ?_
      refine sr ?_
      refine st (mvT rfl) rfl ?_
      refine st (mvT rfl) rfl ?_
      refine st (OpT.c1 (ms := [.flat]) (c_laws_toCardS x (by omega)) (H rfl) (Af (T1 rfl) rfl rfl <| An) rfl rfl) rfl ?_
      refine st (OpT.c1 (ms := [.flat, .flat]) (c_laws_eqCardS _ _) (H rfl) (Af (T1 rfl) rfl rfl <| Af (T1 rfl) rfl rfl <| An) rfl rfl) rfl ?_
      refine st (OpT.not (H rfl) (T1 rfl)) rfl ?_
      refine ng ?_
      refine cd rfl (fun hc6 => ?_) fun hc6 => ?_
      ·
       replace hc6 := oT hc6
       exact (show False from (by first | omega | (simp [eqv_self] at hc6 <;> omega))).elim
      ·
       replace hc6 := oF hc6
       refine AW.skip ?_
       refine AX.go ?_
       refine AW.seq ?_
       refine sr ?_
       refine st (mvT rfl) rfl ?_
       refine st (mvT rfl) rfl ?_
       refine st (OpT.c1 (ms := [.flat]) (c_laws_toKnotS tr t1) (H rfl) (Af (T1 rfl) rfl rfl <| An) rfl rfl) rfl ?_
       refine st (OpT.c1 (ms := [.flat, .flat]) (c_laws_eqKnotS _ _) (H rfl) (Af (T1 rfl) rfl rfl <| Af (T1 rfl) rfl rfl <| An) rfl rfl) rfl ?_
       refine st (OpT.not (H rfl) (T1 rfl)) rfl ?_
       refine AWl.to (kc2 75 6 rfl <| Kn) ?_
       refine ng ?_
       refine cd rfl (fun hc7 => ?_) fun hc7 => ?_
       ·
        replace hc7 := oT hc7
        exact (show False from (by first | omega | (simp [eqv_self] at hc7 <;> omega))).elim
       ·
        replace hc7 := oF hc7
        refine AW.skip ?_
        refine AX.go ?_
        refine sr ?_
        refine st (asB rfl) rfl ?_
        refine ng ?_
        refine AW.ret ?_
        exact rt1 rfl (.inl rfl) rfl
end Go.Proofs.YtfnkphllkbkfaaaGreatDoor.VL
