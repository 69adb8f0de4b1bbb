/- Proved here: what some functions of the program take and give: walks with the words of VA..VQ. Printed by program. -/
import Derived.Test.YtmdiimhighlllaaGreatDoorWT
import Derived.Test.YtmdiimhighlllaaGreatDoorPZP
import Derived.Test.YtmdiimhighlllaaGreatDoorWSM
import Derived.Test.YtmdiimhighlllaaGreatDoorWSN
import Derived.Test.YtmdiimhighlllaaGreatDoorWRC
import Derived.Test.YtmdiimhighlllaaGreatDoorWRW
import Derived.Test.YtmdiimhighlllaaGreatDoorWHO
import Derived.Test.YtmdiimhighlllaaGreatDoorWV
set_option linter.unusedVariables false
set_option linter.unusedSimpArgs false
set_option maxRecDepth 4000
namespace Go.Proofs.YtmdiimhighlllaaGreatDoor.VL
open Go
set_option maxHeartbeats 4000000 in
/-- laws.FnRepairs -/
theorem c_laws_FnRepairs (x y : List Int) : AC Tryz.prog 3 [.cel (Kd.slice (Kd.int .u8)) x, .cel (Kd.slice (Kd.int .u8)) y] [.cel Kd.bool true] [] := by
 refine acI (N := 298) Tryz.func3 (Nat.le_of_ble_eq_true rfl) rfl fun w0 hd s0 ar => ?_
 refine AW.to (kc2 0 1 rfl <| Kn) ?_
 refine AW.fact (fun a w hr => ok_slice (R_ok (t := 0) rfl hr)) (fun hb0 => ?_)
 refine AW.fact (fun a w hr => ok_slice (R_ok (t := 1) rfl hr)) (fun hb1 => ?_)
 have hu0 : ∀ b ∈ x, 0 ≤ b ∧ b ≤ 255 := fun b hb => ok_u8 (hb0.1 b hb)
 have hu1 : ∀ b ∈ y, 0 ≤ b ∧ b ≤ 255 := fun b hb => ok_u8 (hb1.1 b hb)
 refine sr ?_
 refine st (asB rfl) rfl ?_
 refine ng ?_
 refine AW.seq ?_
 refine sr ?_
 refine st (mvT rfl) rfl ?_
 refine st (OpT.c1 (ms := [.flat]) (c_laws_f6big _) (H rfl) (Af (T1 rfl) rfl rfl <| An) rfl rfl) rfl ?_
 refine st (mvT rfl) rfl ?_
 apply AWl.or (d := 42) (t := 39) rfl
 ·
  intro hb1 Q1 k1
  have hb1' := lF hb1
  refine rs hb1 (mvT rfl) rfl ?_
  refine rs hb1 (OpT.c1 (ms := [.flat]) (c_laws_f6big _) (H rfl) (Af (T1 rfl) rfl rfl <| An) rfl rfl) rfl ?_
  refine st (OpT.pickF (A := .cel _ _) (H rfl) (T1 rfl) hb1 (T1 rfl) rfl) rfl ?_
  exact AWl.to (junk 2 rfl) k1
 ·
  intro hb1 Q1 k1
  refine ps hb1 rfl ?_
  refine ps hb1 rfl ?_
  refine st (OpT.pickT (A := .cel _ _) (H rfl) (T1 rfl) hb1 Opd.bool rfl) rfl ?_
  exact k1
 refine ng ?_
 refine cd rfl (fun hc1 => ?_) fun hc1 => ?_
 ·
  obtain ⟨hc1, hc1'⟩ := pT hc1
  refine sr ?_
  refine st (asB rfl) rfl ?_
  refine ng ?_
  refine AW.ret ?_
  refine rT ?_
  exact rt1 rfl (.inl rfl) (by first | rfl | (rw [hdb, hdn]; rfl) | (rw [hz9, List.take_length, hls]; exact eqv_self _))
 ·
  obtain ⟨hc1, hc1'⟩ := pF hc1
  refine AW.skip ?_
  refine AX.go ?_
  refine sr ?_
  refine st (mvT rfl) rfl ?_
  refine s2 (OpT.c2 (ms := [.flat]) (c_spec_P6Table _ ⟨hu0, by omega⟩) (H rfl) (Af (T1 rfl) rfl rfl <| An) rfl rfl rfl) rfl ?_
  refine AWl.vw (vex 10045 9097 rfl rfl (by decide) (fun _ => rfl)) fun xh => ?_
  obtain ⟨s, hs⟩ := xh
  refine AWl.to (kc 10045 rfl <| Kc 20045 (.deep _) rfl <| kc4 44 42 39 38 rfl <| kc4 37 4 0 1 rfl <| Kn) ?_
  refine AWl.vw (vex 20045 9097 rfl rfl (by decide) (fun _ => rfl)) fun xh => ?_
  obtain ⟨d, hD⟩ := xh
  refine AWl.to (kc4 20045 10045 44 42 rfl <| kc4 39 38 37 4 rfl <| kc2 0 1 rfl <| Kn) ?_
  refine AWl.to (Kc 10045 _ (Kv rfl (show _ = s from rfl)) <| (kc4 20045 44 42 39 rfl <| kc4 38 37 4 0 rfl <| kc 1 rfl <| Kn)) ?_
  refine AWl.to (Kc 20045 _ (Kv rfl (show _ = d from rfl)) <| (kc4 10045 44 42 39 rfl <| kc4 38 37 4 0 rfl <| kc 1 rfl <| Kn)) ?_
  refine st (OpT.alias (H rfl) (by decide) (by decide)) rfl ?_
  refine st (OpT.extractV (m := 10045) (H rfl) rfl rfl rfl rfl rfl rfl rfl) rfl ?_
  refine st (OpT.extractV (m := 20045) (H rfl) rfl rfl rfl rfl rfl rfl rfl) rfl ?_
  refine st (asT rfl) rfl ?_
  refine st (asT rfl) rfl ?_
  refine AWl.to (kc4 6 5 4 1 rfl <| Kn) ?_
  refine ng ?_
  refine sr ?_
  refine st (mvT rfl) rfl ?_
  refine st (mvT rfl) rfl ?_
  refine s2 (OpT.c2 (ms := [.flat, .flat]) (c_impl_DoubtsOf _ _) (H rfl) (Af (T1 rfl) rfl rfl <| Af (T1 rfl) rfl rfl <| An) rfl rfl rfl) rfl ?_
  refine st (OpT.alias (H rfl) (by decide) (by decide)) rfl ?_
  refine st (OpT.extractV (m := 10051) (H rfl) rfl rfl rfl rfl rfl rfl rfl) rfl ?_
  refine st (OpT.extractV (m := 20051) (H rfl) rfl rfl rfl rfl rfl rfl rfl) rfl ?_
  refine st (asT rfl) rfl ?_
  refine st (asT rfl) rfl ?_
  refine ng ?_
  refine sr ?_
  refine st (mvT rfl) rfl ?_
  refine st (mvT rfl) rfl ?_
  refine s2 (OpT.c2 (ms := [.flat, .flat]) (c_spec_DoubtsOf _ _) (H rfl) (Af (T1 rfl) rfl rfl <| Af (T1 rfl) rfl rfl <| An) rfl rfl rfl) rfl ?_
  refine st (OpT.alias (H rfl) (by decide) (by decide)) rfl ?_
  refine st (OpT.extractV (m := 10057) (H rfl) rfl rfl rfl rfl rfl rfl rfl) rfl ?_
  refine st (OpT.extractV (m := 20057) (H rfl) rfl rfl rfl rfl rfl rfl rfl) rfl ?_
  refine st (asT rfl) rfl ?_
  refine st (asT rfl) rfl ?_
  refine AWl.to (kc4 10 9 8 7 rfl <| kc4 6 5 4 1 rfl <| Kn) ?_
  refine ng ?_
  refine AW.seq ?_
  refine sr ?_
  refine st (mvT rfl) rfl ?_
  refine st (mvT rfl) rfl ?_
  refine st (OpT.neq (H rfl) (T1 rfl) (T1 rfl)) rfl ?_
  refine st (mvT rfl) rfl ?_
  apply AWl.or (d := 66) (t := 63) rfl
  ·
   intro hb2 Q1 k1
   have hb2' := lF hb2
   refine rs hb2 (mvT rfl) rfl ?_
   refine rs hb2 (OpT.neq (H rfl) (T1 rfl) (I rfl)) rfl ?_
   refine st (OpT.pickF (A := .cel _ _) (H rfl) (T1 rfl) hb2 (T1 rfl) rfl) rfl ?_
   exact AWl.to (junk 2 rfl) k1
  ·
   intro hb2 Q1 k1
   refine ps hb2 rfl ?_
   refine ps hb2 rfl ?_
   refine st (OpT.pickT (A := .cel _ _) (H rfl) (T1 rfl) hb2 Opd.bool rfl) rfl ?_
   exact k1
  refine st (mvT rfl) rfl ?_
  apply AWl.or (d := 72) (t := 67) rfl
  ·
   intro hb3 Q1 k1
   have hb3' := lF hb3
   refine rs hb3 (mvT rfl) rfl ?_
   refine rs hb3 (mvT rfl) rfl ?_
   refine rs hb3 (OpT.c1 (ms := [.flat, .flat]) (c_spec_SameDoubts _ _) (H rfl) (Af (T1 rfl) rfl rfl <| Af (T1 rfl) rfl rfl <| An) rfl rfl) rfl ?_
   refine rs hb3 (OpT.not (H rfl) (T1 rfl)) rfl ?_
   refine st (OpT.pickF (A := .cel _ _) (H rfl) (T1 rfl) hb3 (T1 rfl) rfl) rfl ?_
   exact AWl.to (junk 4 rfl) k1
  ·
   intro hb3 Q1 k1
   refine ps hb3 rfl ?_
   refine ps hb3 rfl ?_
   refine ps hb3 rfl ?_
   refine ps hb3 rfl ?_
   refine st (OpT.pickT (A := .cel _ _) (H rfl) (T1 rfl) hb3 Opd.bool rfl) rfl ?_
   exact k1
  refine ng ?_
  refine cd rfl (fun hc2 => ?_) fun hc2 => ?_
  ·
   obtain ⟨hc2, hc2'⟩ := pT hc2
   have hdb := dbt_deck hs.1 hD.1 (by omega)
   exact (show False from (by simp [hdb, eqv_self] at hc2)).elim
  ·
   obtain ⟨hc2, hc2'⟩ := pF hc2
   have hdb := dbt_deck hs.1 hD.1 (by omega)
   refine AW.skip ?_
   refine AX.go ?_
   refine AW.seq ?_
   refine sr ?_
   refine st (mvT rfl) rfl ?_
   refine st (OpT.len (H rfl) (T1 rfl) el25) rfl ?_
   refine st (OpT.eql (H rfl) (T1 rfl) (I rfl)) rfl ?_
   refine AWl.to (kc4 75 9 6 5 rfl <| kc2 4 1 rfl <| Kn) ?_
   refine ng ?_
   refine cd rfl (fun hc3 => ?_) fun hc3 => ?_
   ·
    obtain ⟨hc3, hc3'⟩ := pT hc3
    have hdn := dbt_none (s := s) (d := d) (by omega)
    refine sr ?_
    refine st (mvT rfl) rfl ?_
    refine st (OpT.len (H rfl) (T1 rfl) el28) rfl ?_
    refine st (OpT.eql (H rfl) (T1 rfl) (I rfl)) rfl ?_
    refine st (asT rfl) rfl ?_
    refine ng ?_
    refine AW.ret ?_
    refine rT ?_
    exact rt1 rfl (.inl rfl) (by first | rfl | (rw [hdb, hdn]; rfl) | (rw [hz9, List.take_length, hls]; exact eqv_self _))
   ·
    obtain ⟨hc3, hc3'⟩ := pF hc3
    have hs1 : srcI 0 (y, 0, 0#64) := ⟨hu1, (by show y.length ≤ 1000000; omega), Int.le_refl 0, Int.le_refl 0⟩
    have hpk := pick_in hs1 (d.length : Int)
    obtain ⟨e, he⟩ : ∃ e, d[Int.toNat (pick (y, 0, 0#64) (d.length : Int)).1]? = some e := ⟨_, List.getElem?_eq_getElem (by omega)⟩
    have hec := deck_card hD.1 (List.mem_of_getElem? he)
    have hwq := wrD_ok hs1
    have hwo : wornS e (wrD (y, 0, 0#64)) = ((e.1, (wornM e.2 (wrD (y, 0, 0#64)))), 0) := worn_ok (by rw [tt_iff.2 hec, hwq]; rfl)
    have hwk : okM (wornM e.2 (wrD (y, 0, 0#64))) = true := okM_worn hec.2 (by unfold queryOK at hwq; rw [Bool.and_eq_true, Bool.and_eq_true] at hwq; exact hwq.1.1)
    have hrc := rep_card (w := (wornM e.2 (wrD (y, 0, 0#64)))) hs.1 hec hwk
    have hrk := repM_ok (x := [e.2, e.2, e.2]) hs.1 hwk s.length (Nat.le_refl _)
    refine AW.skip ?_
    refine AX.go ?_
    refine sr ?_
    refine st (mvT rfl) rfl ?_
    refine st (mvT rfl) rfl ?_
    refine st (mvT rfl) rfl ?_
    refine st (OpT.len (H rfl) (T1 rfl) el25) rfl ?_
    refine st (OpT.c1 (ms := [.flat, .flat]) (c_spec_P6Pick _ _ ⟨hu1, by omega⟩) (H rfl) (Af (T1 rfl) rfl rfl <| Af (T1 rfl) rfl rfl <| An) rfl rfl) rfl ?_
    refine st (OpT.indexAddr (H rfl) (T1 rfl) (T1 rfl) el25 sz36 (by omega) he) rfl ?_
    refine st (OpT.loadA (H rfl) (T1 rfl) ag36 sz36) rfl ?_
    refine st (OpT.alloc (H rfl) zr36 zk36) rfl ?_
    refine sk (OpT.storeBA rfl rfl (Opd.whole (Root.self (t := 11) (by decide)) rfl) rfl sz36 (by decide) (T1 rfl)) rfl ?_
    refine AWl.to (kb 11 rfl <| kc3 5 4 1 rfl <| Kn) ?_
    refine ng ?_
    refine AW.seq ?_
    refine dh fomo ?_
    refine d1 [11] (fun ve h => OpT.loadB (H rfl) (Root.self (t := 11) (by decide)) ((h _ (List.elem_iff.1 rfl)).trans rfl) ag36 sz36) rfl ?_
    refine d1 [1] (fun ve h => OpT.move (A := .cel _ _) (.inl rfl) rfl (ok' rfl) (D1 h rfl) rfl) rfl ?_
    refine d1 [88] (fun ve h => OpT.c1 (ms := [.flat]) (c_spec_P6Wear _ ⟨hu1, by omega⟩) (H rfl) (Af (D1 h rfl) rfl rfl <| An) rfl rfl) rfl ?_
    refine d2 [87, 89] (fun ve h => OpT.c2 (ms := [.flat, .flat]) (c_spec_WearCard _ _) (H rfl) (Af (D1 h rfl) rfl rfl <| Af (D1 h rfl) rfl rfl <| An) rfl rfl rfl) rfl ?_
    refine d1 [] (fun ve h => OpT.alias (H rfl) (by decide) (by decide)) rfl ?_
    refine d1 [86, 10090] (fun ve h => OpT.extractV (m := 10090) (H rfl) ((h _ (List.elem_iff.1 rfl)).trans rfl) rfl rfl rfl ((h _ (List.elem_iff.1 rfl)).trans rfl) rfl rfl) rfl ?_
    refine d1 [86, 20090] (fun ve h => OpT.extractV (m := 20090) (H rfl) ((h _ (List.elem_iff.1 rfl)).trans rfl) rfl rfl rfl ((h _ (List.elem_iff.1 rfl)).trans rfl) rfl rfl) rfl ?_
    refine d1 [] (fun ve h => OpT.alloc (H rfl) zr36 zk36) rfl ?_
    refine dm (t := 12) [12, 91] (fun ve h => OpT.storeBA rfl rfl (Opd.whole (Root.self (t := 12) (by decide)) ((h _ (List.elem_iff.1 rfl)).trans rfl)) ((h _ (List.elem_iff.1 rfl)).trans rfl) sz36 (by decide) (D1 h rfl)) rfl ?_
    refine d1 [92] (fun ve h => OpT.move (A := .cel _ _) (.inr rfl) rfl (ok' rfl) (D1 h rfl) rfl) rfl ?_
    refine dn ⟨by kernel_rfl, by kernel_rfl, ?_⟩
    refine AX.go ?_
    refine sr ?_
    refine st (OpT.loadB (H rfl) (Root.self (t := 11) (by decide)) rfl ag36 sz36) rfl ?_
    refine st (OpT.loadB (H rfl) (Root.self (t := 11) (by decide)) rfl ag36 sz36) rfl ?_
    refine st (OpT.loadB (H rfl) (Root.self (t := 11) (by decide)) rfl ag36 sz36) rfl ?_
    refine st (OpT.buildSlice (H rfl) el25 zr36 sz36 rfl (by decide) zk36 (by decide) (Built.agg (T1 rfl) rfl (by decide) (sub_arr (by decide) ((.empty, (0, 0)) : ByteArray × (BitVec 64 × BitVec 64))) (Built.agg (T1 rfl) rfl (by decide) (sub_arr (by decide) ((.empty, (0, 0)) : ByteArray × (BitVec 64 × BitVec 64))) (Built.agg (T1 rfl) rfl (by decide) (sub_arr (by decide) ((.empty, (0, 0)) : ByteArray × (BitVec 64 × BitVec 64))) (Built.nil _))))) rfl ?_
    refine AWl.freeze (t := 96) rfl ?_
    refine AWl.to (kc 96 rfl <| ka 95 rfl <| ka 94 rfl <| ka 93 rfl <| kc 13 rfl <| kb 12 rfl <| kc 92 rfl <| ka 91 rfl <| Kc 86 (.ali _) rfl <| ka 10090 rfl <| kc 20090 rfl <| ka 89 rfl <| kc 88 rfl <| ka 87 rfl <| kb 11 rfl <| kc3 5 4 1 rfl <| Kn) ?_
    refine AWl.to (Kc 96 _ (Kv rfl (show _ = [e, e, e] from rfl)) <| (ka 95 rfl <| ka 94 rfl <| ka 93 rfl <| kc 13 rfl <| kb 12 rfl <| kc 92 rfl <| ka 91 rfl <| Kc 86 (.ali _) rfl <| ka 10090 rfl <| kc 20090 rfl <| ka 89 rfl <| kc 88 rfl <| ka 87 rfl <| kb 11 rfl <| kc3 5 4 1 rfl <| Kn)) ?_
    refine st (asT rfl) rfl ?_
    refine AWl.to (kc2 14 13 rfl <| kb 12 rfl <| kb 11 rfl <| kc2 5 4 rfl <| Kn) ?_
    refine ng ?_
    refine sr ?_
    refine st (mvT rfl) rfl ?_
    refine st (OpT.loadB (H rfl) (Root.self (t := 12) (by decide)) rfl ag36 sz36) rfl ?_
    refine st (mvT rfl) rfl ?_
    refine s3 (cN (ms := [.flat, .flat, .flat]) (c_impl_RepairCard _ _ _) (H rfl) (Af (T1 rfl) rfl rfl <| Af (T1 rfl) rfl rfl <| Af (T1 rfl) rfl rfl <| An) rfl (.inl rfl)) rfl ?_
    refine st (OpT.alias (H rfl) (by decide) (by decide)) rfl ?_
    refine st (OpT.extractV (m := 10101) (H rfl) rfl rfl rfl rfl rfl rfl rfl) rfl ?_
    refine st (OpT.extractV (m := 20101) (H rfl) rfl rfl rfl rfl rfl rfl rfl) rfl ?_
    refine st (OpT.extractV (m := 30101) (H rfl) rfl rfl rfl rfl rfl rfl rfl) rfl ?_
    refine st (OpT.alloc (H rfl) zr36 zk36) rfl ?_
    refine sk (OpT.storeBA rfl rfl (Opd.whole (Root.self (t := 15) (by decide)) rfl) rfl sz36 (by decide) (T1 rfl)) rfl ?_
    refine st (asT rfl) rfl ?_
    refine st (asT rfl) rfl ?_
    refine AWl.to (kc2 17 16 rfl <| kb 15 rfl <| kc2 14 13 rfl <| kb 12 rfl <| kb 11 rfl <| kc2 5 4 rfl <| Kn) ?_
    refine ng ?_
    refine sr ?_
    refine st (mvT rfl) rfl ?_
    refine st (OpT.loadB (H rfl) (Root.self (t := 12) (by decide)) rfl ag36 sz36) rfl ?_
    refine st (mvT rfl) rfl ?_
    refine s3 (cN (ms := [.flat, .flat, .flat]) (c_spec_RepairCard _ _ _) (H rfl) (Af (T1 rfl) rfl rfl <| Af (T1 rfl) rfl rfl <| Af (T1 rfl) rfl rfl <| An) rfl (.inl rfl)) rfl ?_
    refine st (OpT.alias (H rfl) (by decide) (by decide)) rfl ?_
    refine st (OpT.extractV (m := 10109) (H rfl) rfl rfl rfl rfl rfl rfl rfl) rfl ?_
    refine st (OpT.extractV (m := 20109) (H rfl) rfl rfl rfl rfl rfl rfl rfl) rfl ?_
    refine st (OpT.extractV (m := 30109) (H rfl) rfl rfl rfl rfl rfl rfl rfl) rfl ?_
    refine st (OpT.alloc (H rfl) zr36 zk36) rfl ?_
    refine sk (OpT.storeBA rfl rfl (Opd.whole (Root.self (t := 18) (by decide)) rfl) rfl sz36 (by decide) (T1 rfl)) rfl ?_
    refine st (asT rfl) rfl ?_
    refine st (asT rfl) rfl ?_
    refine AWl.to (kc2 20 19 rfl <| kb 18 rfl <| kc2 17 16 rfl <| kb 15 rfl <| kc 13 rfl <| kb 12 rfl <| kb 11 rfl <| kc2 5 4 rfl <| Kn) ?_
    refine ng ?_
    refine AW.seq ?_
    refine sr ?_
    refine st (mvT rfl) rfl ?_
    refine st (OpT.neq (H rfl) (T1 rfl) (I rfl)) rfl ?_
    refine st (mvT rfl) rfl ?_
    apply AWl.or (d := 119) (t := 115) rfl
    ·
     intro hb4 Q1 k1
     have hb4' := lF hb4
     refine rs hb4 (mvT rfl) rfl ?_
     refine rs hb4 (mvT rfl) rfl ?_
     refine rs hb4 (OpT.neq (H rfl) (T1 rfl) (T1 rfl)) rfl ?_
     refine st (OpT.pickF (A := .cel _ _) (H rfl) (T1 rfl) hb4 (T1 rfl) rfl) rfl ?_
     exact AWl.to (junk 3 rfl) k1
    ·
     intro hb4 Q1 k1
     refine ps hb4 rfl ?_
     refine ps hb4 rfl ?_
     refine ps hb4 rfl ?_
     refine st (OpT.pickT (A := .cel _ _) (H rfl) (T1 rfl) hb4 Opd.bool rfl) rfl ?_
     exact k1
    refine st (mvT rfl) rfl ?_
    apply AWl.or (d := 123) (t := 120) rfl
    ·
     intro hb5 Q1 k1
     have hb5' := lF hb5
     refine rs hb5 (mvT rfl) rfl ?_
     refine rs hb5 (OpT.neq (H rfl) (T1 rfl) (I rfl)) rfl ?_
     refine st (OpT.pickF (A := .cel _ _) (H rfl) (T1 rfl) hb5 (T1 rfl) rfl) rfl ?_
     exact AWl.to (junk 2 rfl) k1
    ·
     intro hb5 Q1 k1
     refine ps hb5 rfl ?_
     refine ps hb5 rfl ?_
     refine st (OpT.pickT (A := .cel _ _) (H rfl) (T1 rfl) hb5 Opd.bool rfl) rfl ?_
     exact k1
    refine st (mvT rfl) rfl ?_
    apply AWl.or (d := 128) (t := 124) rfl
    ·
     intro hb6 Q1 k1
     have hb6' := lF hb6
     refine rs hb6 (OpT.loadB (H rfl) (Root.self (t := 15) (by decide)) rfl ag36 sz36) rfl ?_
     refine rs hb6 (OpT.loadB (H rfl) (Root.self (t := 18) (by decide)) rfl ag36 sz36) rfl ?_
     refine rs hb6 (OpT.neA (H rfl) (T1 rfl) (T1 rfl) eq36 ag36 rfl eg36) rfl ?_
     refine st (OpT.pickF (A := .cel _ _) (H rfl) (T1 rfl) hb6 (T1 rfl) rfl) rfl ?_
     exact AWl.to (junk 3 rfl) k1
    ·
     intro hb6 Q1 k1
     refine ps hb6 rfl ?_
     refine ps hb6 rfl ?_
     refine ps hb6 rfl ?_
     refine st (OpT.pickT (A := .cel _ _) (H rfl) (T1 rfl) hb6 Opd.bool rfl) rfl ?_
     exact k1
    refine st (mvT rfl) rfl ?_
    apply AWl.or (d := 134) (t := 129) rfl
    ·
     intro hb7 Q1 k1
     have hb7' := lF hb7
     refine rs hb7 (mvT rfl) rfl ?_
     refine rs hb7 (mvT rfl) rfl ?_
     refine rs hb7 (OpT.c1 (ms := [.flat, .flat]) (c_spec_SameIndices _ _) (H rfl) (Af (T1 rfl) rfl rfl <| Af (T1 rfl) rfl rfl <| An) rfl rfl) rfl ?_
     refine rs hb7 (OpT.not (H rfl) (T1 rfl)) rfl ?_
     refine st (OpT.pickF (A := .cel _ _) (H rfl) (T1 rfl) hb7 (T1 rfl) rfl) rfl ?_
     exact AWl.to (junk 4 rfl) k1
    ·
     intro hb7 Q1 k1
     refine ps hb7 rfl ?_
     refine ps hb7 rfl ?_
     refine ps hb7 rfl ?_
     refine ps hb7 rfl ?_
     refine st (OpT.pickT (A := .cel _ _) (H rfl) (T1 rfl) hb7 Opd.bool rfl) rfl ?_
     exact k1
    refine st (mvT rfl) rfl ?_
    apply AWl.or (d := 141) (t := 135) rfl
    ·
     intro hb8 Q1 k1
     have hb8' := lF hb8
     refine rs hb8 (mvT rfl) rfl ?_
     refine rs hb8 (OpT.len (H rfl) (T1 rfl) el43) rfl ?_
     refine rs hb8 (mvT rfl) rfl ?_
     refine rs hb8 (OpT.len (H rfl) (T1 rfl) el24) rfl ?_
     refine rs hb8 (OpT.neq (H rfl) (T1 rfl) (T1 rfl)) rfl ?_
     refine st (OpT.pickF (A := .cel _ _) (H rfl) (T1 rfl) hb8 (T1 rfl) rfl) rfl ?_
     exact AWl.to (junk 5 rfl) k1
    ·
     intro hb8 Q1 k1
     refine ps hb8 rfl ?_
     refine ps hb8 rfl ?_
     refine ps hb8 rfl ?_
     refine ps hb8 rfl ?_
     refine ps hb8 rfl ?_
     refine st (OpT.pickT (A := .cel _ _) (H rfl) (T1 rfl) hb8 Opd.bool rfl) rfl ?_
     exact k1
    refine AWl.to (kc2 141 19 rfl <| kb 18 rfl <| kb 12 rfl <| kb 11 rfl <| kc2 5 4 rfl <| Kn) ?_
    refine ng ?_
    refine cd rfl (fun hc4 => ?_) fun hc4 => ?_
    ·
     obtain ⟨hc4, hc4'⟩ := pT hc4
     exact (show False from (by simp [hwo, hrc, repW_len, eqv_self] at hc4)).elim
    ·
     obtain ⟨hc4, hc4'⟩ := pF hc4
     refine AW.skip ?_
     refine AX.go ?_
     refine sr ?_
     refine st (OpT.buildA (H rfl) ar34 sz32 zr34 zk34 (Built.nil _)) rfl ?_
     refine st (OpT.alloc (H rfl) zr34 zk34) rfl ?_
     refine sk (OpT.storeBA rfl rfl (Opd.whole (Root.self (t := 21) (by decide)) rfl) rfl sz34 (by decide) (T1 rfl)) rfl ?_
     refine ng ?_
     refine AW.seq ?_
     refine sr ?_
     refine st (asI rfl) rfl ?_
     refine ng ?_
     refine AW.block ?_
     refine AW.loop (fun z : Nat => z ≤ s.length) (fun z : Nat => keep [(5, .cel (Kd.slice kField) s), (11, .box 36 kCard e), (12, .box 36 kCard (e.1, (wornM e.2 (wrD (y, 0, 0#64))))), (18, .box 36 kCard (e.1, (repM s (wornM e.2 (wrD (y, 0, 0#64))) [e.2, e.2, e.2] s.length))), (19, .cel (Kd.slice (Kd.int .i64)) (repW s (wornM e.2 (wrD (y, 0, 0#64))) [e.2, e.2, e.2] s.length)), (21, .box 34 kMask (jp (s.take z))), (22, .cel (Kd.int .i64) (z : Int))]) (fun z : Nat => s.length - z) (0) (Nat.zero_le _) (Kc 5 _ (Kv rfl rfl) <| Kc 11 _ (Kb rfl rfl) <| Kc 12 _ (Kb rfl (by rw [hwo])) <| Kc 18 _ (Kb rfl (by rw [hwo, hrc])) <| Kc 19 _ (Kv rfl (by rw [hwo, hrc])) <| Kc 21 _ (Kb rfl rfl) <| Kc 22 _ (Kv rfl rfl) <| Kn) ?_
     intro z hI
     refine AW.seq ?_
     refine sr ?_
     refine st (mvT rfl) rfl ?_
     refine st (mvT rfl) rfl ?_
     refine st (OpT.len (H rfl) (T1 rfl) el24) rfl ?_
     refine st (OpT.lss (H rfl) (T1 rfl) (T1 rfl)) rfl ?_
     refine ng ?_
     refine cd rfl (fun hc5 => ?_) fun hc5 => ?_
     ·
      obtain ⟨hc5, hc5'⟩ := pT hc5
      obtain ⟨f, hf⟩ := getI (x := s) (z := z) (by omega)
      have hk : s[z]? = some f := by rw [toN] at hf; exact hf
      have hfo := sch_at hs.1 hk
      have hlw := rep_law (m := (wornM e.2 (wrD (y, 0, 0#64)))) (c := e.2) hs.1 hk
      have hv1 := value_is (e := e.1) (w := (wornM e.2 (wrD (y, 0, 0#64)))) hfo ⟨hec.1, hwk⟩
      have hv2 : valueS f e = (valIn f e.2, 0) := value_is (e := e.1) (w := e.2) hfo hec
      have hv3 := value_is (e := e.1) (w := (repM s (wornM e.2 (wrD (y, 0, 0#64))) [e.2, e.2, e.2] s.length)) hfo ⟨hec.1, hrk⟩
      have hty := repW_get (s := s) (w := (wornM e.2 (wrD (y, 0, 0#64)))) (x := [e.2, e.2, e.2]) (z := z) (n := s.length) (by omega)
      have hr4 := rep_four (w := (wornM e.2 (wrD (y, 0, 0#64)))) (a := e.2) hfo hwk hec.2
      refine AW.skip ?_
      refine AX.go ?_
      refine AW.seq ?_
      refine AW.block ?_
      refine AW.seq ?_
      refine dh fomo ?_
      refine d1 [5] (fun ve h => OpT.move (A := .cel _ _) (.inl rfl) rfl (ok' rfl) (D1 h rfl) rfl) rfl ?_
      refine d1 [22] (fun ve h => OpT.move (A := .cel _ _) (.inl rfl) rfl (ok' rfl) (D1 h rfl) rfl) rfl ?_
      refine d1 [150, 151] (fun ve h => OpT.indexAddr (H rfl) (D1 h rfl) (D1 h rfl) el24 sz52 (by omega) hf) rfl ?_
      refine d1 [152] (fun ve h => OpT.loadA (H rfl) (D1 h rfl) ag52 sz52) rfl ?_
      refine d1 [12] (fun ve h => OpT.loadB (H rfl) (Root.self (t := 12) (by decide)) ((h _ (List.elem_iff.1 rfl)).trans rfl) ag36 sz36) rfl ?_
      refine d2 [153, 154] (fun ve h => OpT.c2 (ms := [.flat, .flat]) (c_spec_ValueIn _ _) (H rfl) (Af (D1 h rfl) rfl rfl <| Af (D1 h rfl) rfl rfl <| An) rfl rfl rfl) rfl ?_
      refine d1 [] (fun ve h => OpT.alias (H rfl) (by decide) (by decide)) rfl ?_
      refine d1 [149, 10155] (fun ve h => OpT.extractV (m := 10155) (H rfl) ((h _ (List.elem_iff.1 rfl)).trans rfl) rfl rfl rfl ((h _ (List.elem_iff.1 rfl)).trans rfl) rfl rfl) rfl ?_
      refine d1 [149, 20155] (fun ve h => OpT.extractV (m := 20155) (H rfl) ((h _ (List.elem_iff.1 rfl)).trans rfl) rfl rfl rfl ((h _ (List.elem_iff.1 rfl)).trans rfl) rfl rfl) rfl ?_
      refine d1 [156] (fun ve h => OpT.move (A := .cel _ _) (.inr rfl) rfl (ok' rfl) (D1 h rfl) rfl) rfl ?_
      refine d1 [157] (fun ve h => OpT.move (A := .cel _ _) (.inr rfl) rfl (ok' rfl) (D1 h rfl) rfl) rfl ?_
      refine dn ⟨by kernel_rfl, by kernel_rfl, ?_⟩
      refine AX.go ?_
      refine AW.seq ?_
      refine dh fomo ?_
      refine d1 [5] (fun ve h => OpT.move (A := .cel _ _) (.inl rfl) rfl (ok' rfl) (D1 h rfl) rfl) rfl ?_
      refine d1 [22] (fun ve h => OpT.move (A := .cel _ _) (.inl rfl) rfl (ok' rfl) (D1 h rfl) rfl) rfl ?_
      refine d1 [159, 160] (fun ve h => OpT.indexAddr (H rfl) (D1 h rfl) (D1 h rfl) el24 sz52 (by omega) hf) rfl ?_
      refine d1 [161] (fun ve h => OpT.loadA (H rfl) (D1 h rfl) ag52 sz52) rfl ?_
      refine d1 [11] (fun ve h => OpT.loadB (H rfl) (Root.self (t := 11) (by decide)) ((h _ (List.elem_iff.1 rfl)).trans rfl) ag36 sz36) rfl ?_
      refine d2 [162, 163] (fun ve h => OpT.c2 (ms := [.flat, .flat]) (c_spec_ValueIn _ _) (H rfl) (Af (D1 h rfl) rfl rfl <| Af (D1 h rfl) rfl rfl <| An) rfl rfl rfl) rfl ?_
      refine d1 [] (fun ve h => OpT.alias (H rfl) (by decide) (by decide)) rfl ?_
      refine d1 [158, 10164] (fun ve h => OpT.extractV (m := 10164) (H rfl) ((h _ (List.elem_iff.1 rfl)).trans rfl) rfl rfl rfl ((h _ (List.elem_iff.1 rfl)).trans rfl) rfl rfl) rfl ?_
      refine d1 [158, 20164] (fun ve h => OpT.extractV (m := 20164) (H rfl) ((h _ (List.elem_iff.1 rfl)).trans rfl) rfl rfl rfl ((h _ (List.elem_iff.1 rfl)).trans rfl) rfl rfl) rfl ?_
      refine d1 [165] (fun ve h => OpT.move (A := .cel _ _) (.inr rfl) rfl (ok' rfl) (D1 h rfl) rfl) rfl ?_
      refine d1 [166] (fun ve h => OpT.move (A := .cel _ _) (.inr rfl) rfl (ok' rfl) (D1 h rfl) rfl) rfl ?_
      refine dn ⟨by kernel_rfl, by kernel_rfl, ?_⟩
      refine AX.go ?_
      refine AW.seq ?_
      refine dh fomo ?_
      refine d1 [5] (fun ve h => OpT.move (A := .cel _ _) (.inl rfl) rfl (ok' rfl) (D1 h rfl) rfl) rfl ?_
      refine d1 [22] (fun ve h => OpT.move (A := .cel _ _) (.inl rfl) rfl (ok' rfl) (D1 h rfl) rfl) rfl ?_
      refine d1 [168, 169] (fun ve h => OpT.indexAddr (H rfl) (D1 h rfl) (D1 h rfl) el24 sz52 (by omega) hf) rfl ?_
      refine d1 [170] (fun ve h => OpT.loadA (H rfl) (D1 h rfl) ag52 sz52) rfl ?_
      refine d1 [18] (fun ve h => OpT.loadB (H rfl) (Root.self (t := 18) (by decide)) ((h _ (List.elem_iff.1 rfl)).trans rfl) ag36 sz36) rfl ?_
      refine d2 [171, 172] (fun ve h => OpT.c2 (ms := [.flat, .flat]) (c_impl_ValueIn _ _) (H rfl) (Af (D1 h rfl) rfl rfl <| Af (D1 h rfl) rfl rfl <| An) rfl rfl rfl) rfl ?_
      refine d1 [] (fun ve h => OpT.alias (H rfl) (by decide) (by decide)) rfl ?_
      refine d1 [167, 10173] (fun ve h => OpT.extractV (m := 10173) (H rfl) ((h _ (List.elem_iff.1 rfl)).trans rfl) rfl rfl rfl ((h _ (List.elem_iff.1 rfl)).trans rfl) rfl rfl) rfl ?_
      refine d1 [167, 20173] (fun ve h => OpT.extractV (m := 20173) (H rfl) ((h _ (List.elem_iff.1 rfl)).trans rfl) rfl rfl rfl ((h _ (List.elem_iff.1 rfl)).trans rfl) rfl rfl) rfl ?_
      refine d1 [174] (fun ve h => OpT.move (A := .cel _ _) (.inr rfl) rfl (ok' rfl) (D1 h rfl) rfl) rfl ?_
      refine d1 [175] (fun ve h => OpT.move (A := .cel _ _) (.inr rfl) rfl (ok' rfl) (D1 h rfl) rfl) rfl ?_
      refine dn ⟨by kernel_rfl, by kernel_rfl, ?_⟩
      refine AX.go ?_
      refine AW.seq ?_
      refine sr ?_
      refine st (mvT rfl) rfl ?_
      refine st (OpT.neq (H rfl) (T1 rfl) (I rfl)) rfl ?_
      refine st (mvT rfl) rfl ?_
      apply AWl.or (d := 181) (t := 178) rfl
      ·
       intro hb9 Q1 k1
       have hb9' := lF hb9
       refine rs hb9 (mvT rfl) rfl ?_
       refine rs hb9 (OpT.neq (H rfl) (T1 rfl) (I rfl)) rfl ?_
       refine st (OpT.pickF (A := .cel _ _) (H rfl) (T1 rfl) hb9 (T1 rfl) rfl) rfl ?_
       exact AWl.to (junk 2 rfl) k1
      ·
       intro hb9 Q1 k1
       refine ps hb9 rfl ?_
       refine ps hb9 rfl ?_
       refine st (OpT.pickT (A := .cel _ _) (H rfl) (T1 rfl) hb9 Opd.bool rfl) rfl ?_
       exact k1
      refine st (mvT rfl) rfl ?_
      apply AWl.or (d := 185) (t := 182) rfl
      ·
       intro hb10 Q1 k1
       have hb10' := lF hb10
       refine rs hb10 (mvT rfl) rfl ?_
       refine rs hb10 (OpT.neq (H rfl) (T1 rfl) (I rfl)) rfl ?_
       refine st (OpT.pickF (A := .cel _ _) (H rfl) (T1 rfl) hb10 (T1 rfl) rfl) rfl ?_
       exact AWl.to (junk 2 rfl) k1
      ·
       intro hb10 Q1 k1
       refine ps hb10 rfl ?_
       refine ps hb10 rfl ?_
       refine st (OpT.pickT (A := .cel _ _) (H rfl) (T1 rfl) hb10 Opd.bool rfl) rfl ?_
       exact k1
      refine st (mvT rfl) rfl ?_
      apply AWl.or (d := 195) (t := 186) rfl
      ·
       intro hb11 Q1 k1
       have hb11' := lF hb11
       refine rs hb11 (mvT rfl) rfl ?_
       refine rs hb11 (mvT rfl) rfl ?_
       refine rs hb11 (OpT.indexAddr (H rfl) (T1 rfl) (T1 rfl) el43 sz2 (by omega) hty) rfl ?_
       refine rs hb11 (OpT.load (H rfl) (T1 rfl) ag2 rfl) rfl ?_
       refine rs hb11 (OpT.eql (H rfl) (T1 rfl) (I rfl)) rfl ?_
       refine rs hb11 (mvT rfl) rfl ?_
       refine rs hb11 (OpT.neq (H rfl) (T1 rfl) (I rfl)) rfl ?_
       refine rs hb11 (OpT.bneq (H rfl) Tryz.underlying4 (T1 rfl) (T1 rfl)) rfl ?_
       refine st (OpT.pickF (A := .cel _ _) (H rfl) (T1 rfl) hb11 (T1 rfl) rfl) rfl ?_
       exact AWl.to (junk 8 rfl) k1
      ·
       intro hb11 Q1 k1
       refine ps hb11 rfl ?_
       refine ps hb11 rfl ?_
       refine ps hb11 rfl ?_
       refine ps hb11 rfl ?_
       refine ps hb11 rfl ?_
       refine ps hb11 rfl ?_
       refine ps hb11 rfl ?_
       refine ps hb11 rfl ?_
       refine st (OpT.pickT (A := .cel _ _) (H rfl) (T1 rfl) hb11 Opd.bool rfl) rfl ?_
       exact k1
      refine st (mvT rfl) rfl ?_
      apply AWl.or (d := 204) (t := 196) rfl
      ·
       intro hb12 Q1 k1
       have hb12' := lF hb12
       refine rs hb12 (mvT rfl) rfl ?_
       refine rs hb12 (OpT.neq (H rfl) (T1 rfl) (I rfl)) rfl ?_
       refine rs hb12 (mvT rfl) rfl ?_
       apply AWl.and (d := 203) (t := 199) rfl
       ·
        intro hb13 Q1 k1
        have hb13' := lT hb13
        refine rs hb13 (mvT rfl) rfl ?_
        refine rs hb13 (mvT rfl) rfl ?_
        refine rs hb13 (OpT.neq (H rfl) (T1 rfl) (T1 rfl)) rfl ?_
        refine rs hb12 (OpT.pickT (A := .cel _ _) (H rfl) (T1 rfl) hb13 (T1 rfl) rfl) rfl ?_
        exact AWl.to (junk 3 rfl) k1
       ·
        intro hb13 Q1 k1
        refine ps hb13 rfl ?_
        refine ps hb13 rfl ?_
        refine ps hb13 rfl ?_
        refine rs hb12 (OpT.pickF (A := .cel _ _) (H rfl) (T1 rfl) hb13 Opd.bool rfl) rfl ?_
        exact k1
       refine st (OpT.pickF (A := .cel _ _) (H rfl) (T1 rfl) hb12 (T1 rfl) rfl) rfl ?_
       exact AWl.to (junk 4 rfl) k1
      ·
       intro hb12 Q1 k1
       refine ps hb12 rfl ?_
       refine ps hb12 rfl ?_
       refine AWl.pasv rfl rfl rfl rfl hb12 rfl (ok' rfl) rfl ?_
       refine AWl.pasu rfl rfl rfl rfl rfl (ok' rfl) rfl ?_
       refine AWl.pasu rfl rfl rfl rfl rfl (ok' rfl) rfl ?_
       refine AWl.pasu rfl rfl rfl rfl rfl (ok' rfl) rfl ?_
       refine ps hb12 rfl ?_
       refine st (OpT.pickT (A := .cel _ _) (H rfl) (T1 rfl) hb12 Opd.bool rfl) rfl ?_
       exact AWl.to (junk 4 rfl) k1
      refine st (mvT rfl) rfl ?_
      apply AWl.or (d := 224) (t := 205) rfl
      ·
       intro hb14 Q1 k1
       have hb14' := lF hb14
       refine rs hb14 (mvT rfl) rfl ?_
       refine rs hb14 (OpT.eql (H rfl) (T1 rfl) (I rfl)) rfl ?_
       refine rs hb14 (mvT rfl) rfl ?_
       apply AWl.and (d := 211) (t := 208) rfl
       ·
        intro hb15 Q1 k1
        have hb15' := lT hb15
        refine rs hb15 (mvT rfl) rfl ?_
        refine rs hb15 (OpT.geq (H rfl) (T1 rfl) (I rfl)) rfl ?_
        refine rs hb14 (OpT.pickT (A := .cel _ _) (H rfl) (T1 rfl) hb15 (T1 rfl) rfl) rfl ?_
        exact AWl.to (junk 2 rfl) k1
       ·
        intro hb15 Q1 k1
        refine ps hb15 rfl ?_
        refine ps hb15 rfl ?_
        refine rs hb14 (OpT.pickF (A := .cel _ _) (H rfl) (T1 rfl) hb15 Opd.bool rfl) rfl ?_
        exact k1
       refine rs hb14 (mvT rfl) rfl ?_
       apply AWl.and (d := 223) (t := 212) rfl
       ·
        intro hb16 Q1 k1
        have hb16' := lT hb16
        refine rs hb16 (mvT rfl) rfl ?_
        refine rs hb16 (mvT rfl) rfl ?_
        refine rs hb16 (OpT.indexAddr (H rfl) (T1 rfl) (T1 rfl) el43 sz2 (by omega) hty) rfl ?_
        refine rs hb16 (OpT.load (H rfl) (T1 rfl) ag2 rfl) rfl ?_
        refine rs hb16 (OpT.neq (H rfl) (T1 rfl) (I rfl)) rfl ?_
        refine rs hb16 (mvT rfl) rfl ?_
        apply AWl.or (d := 222) (t := 218) rfl
        ·
         intro hb17 Q1 k1
         have hb17' := lF hb17
         refine rs hb17 (mvT rfl) rfl ?_
         refine rs hb17 (mvT rfl) rfl ?_
         refine rs hb17 (OpT.neq (H rfl) (T1 rfl) (T1 rfl)) rfl ?_
         refine rs hb16 (OpT.pickF (A := .cel _ _) (H rfl) (T1 rfl) hb17 (T1 rfl) rfl) rfl ?_
         exact AWl.to (junk 3 rfl) k1
        ·
         intro hb17 Q1 k1
         refine ps hb17 rfl ?_
         refine ps hb17 rfl ?_
         refine ps hb17 rfl ?_
         refine rs hb16 (OpT.pickT (A := .cel _ _) (H rfl) (T1 rfl) hb17 Opd.bool rfl) rfl ?_
         exact k1
        refine rs hb14 (OpT.pickT (A := .cel _ _) (H rfl) (T1 rfl) hb16 (T1 rfl) rfl) rfl ?_
        exact AWl.to (junk 7 rfl) k1
       ·
        intro hb16 Q1 k1
        refine ps hb16 rfl ?_
        refine ps hb16 rfl ?_
        refine ps hb16 rfl ?_
        refine ps hb16 rfl ?_
        refine ps hb16 rfl ?_
        refine AWl.pasv rfl rfl rfl rfl hb16 rfl (ok' rfl) rfl ?_
        refine AWl.pasu rfl rfl rfl rfl rfl (ok' rfl) rfl ?_
        refine AWl.pasu rfl rfl rfl rfl rfl (ok' rfl) rfl ?_
        refine AWl.pasu rfl rfl rfl rfl rfl (ok' rfl) rfl ?_
        refine ps hb16 rfl ?_
        refine rs hb14 (OpT.pickF (A := .cel _ _) (H rfl) (T1 rfl) hb16 Opd.bool rfl) rfl ?_
        exact AWl.to (junk 4 rfl) k1
       refine st (OpT.pickF (A := .cel _ _) (H rfl) (T1 rfl) hb14 (T1 rfl) rfl) rfl ?_
       exact AWl.to (junk 6 rfl) k1
      ·
       intro hb14 Q1 k1
       refine ps hb14 rfl ?_
       refine ps hb14 rfl ?_
       refine AWl.pasv rfl rfl rfl rfl hb14 rfl (ok' rfl) rfl ?_
       refine AWl.pasu rfl rfl rfl rfl rfl (ok' rfl) rfl ?_
       refine AWl.pasu rfl rfl rfl rfl rfl (ok' rfl) rfl ?_
       refine ps hb14 rfl ?_
       refine AWl.pasv rfl rfl rfl rfl hb14 rfl (ok' rfl) rfl ?_
       refine AWl.pasu rfl rfl rfl rfl rfl (ok' rfl) rfl ?_
       refine AWl.pasu rfl rfl rfl rfl rfl (ok' rfl) rfl ?_
       refine AWl.pasu rfl rfl rfl rfl rfl (ok' rfl) rfl ?_
       refine AWl.pasu rfl rfl rfl rfl rfl (ok' rfl) rfl ?_
       refine AWl.pasu rfl rfl rfl rfl rfl (ok' rfl) rfl ?_
       refine AWl.pasu rfl rfl rfl rfl rfl (ok' rfl) rfl ?_
       refine AWl.pasu rfl rfl rfl rfl rfl (ok' rfl) rfl ?_
       refine AWl.pasu rfl rfl rfl rfl rfl (ok' rfl) rfl ?_
       refine AWl.pasu rfl rfl rfl rfl rfl (ok' rfl) rfl ?_
       refine AWl.pasu rfl rfl rfl rfl rfl (ok' rfl) rfl ?_
       refine ps hb14 rfl ?_
       refine st (OpT.pickT (A := .cel _ _) (H rfl) (T1 rfl) hb14 Opd.bool rfl) rfl ?_
       exact AWl.to (junk 14 rfl) k1
      refine ng ?_
      refine cd rfl (fun hc6 => ?_) fun hc6 => ?_
      ·
       obtain ⟨hc6, hc6'⟩ := pT hc6
       exact (show False from (by obtain ⟨_, hA, hB, hC⟩ := hlw; have h9 := rep_cond hA hB hC; simp only [hv1, hv2, hv3] at hc6; simp only [bne_self_eq_false, Bool.false_or] at hc6; rw [h9] at hc6; cases hc6)).elim
      ·
       obtain ⟨hc6, hc6'⟩ := pF hc6
       refine AW.skip ?_
       refine AX.go ?_
       refine AW.seq ?_
       refine dh fomo ?_
       refine d1 [5] (fun ve h => OpT.move (A := .cel _ _) (.inl rfl) rfl (ok' rfl) (D1 h rfl) rfl) rfl ?_
       refine d1 [22] (fun ve h => OpT.move (A := .cel _ _) (.inl rfl) rfl (ok' rfl) (D1 h rfl) rfl) rfl ?_
       refine d1 [226, 227] (fun ve h => OpT.indexAddr (H rfl) (D1 h rfl) (D1 h rfl) el24 sz52 (by omega) hf) rfl ?_
       refine d1 [228] (fun ve h => OpT.loadA (H rfl) (D1 h rfl) ag52 sz52) rfl ?_
       refine d1 [12] (fun ve h => OpT.fieldAddrB (H rfl) (Root.self (t := 12) (by decide)) ((h _ (List.elem_iff.1 rfl)).trans rfl) (by decide) fd36_1 sz34 (by decide) sb36_1) rfl ?_
       refine d1 [12, 230] (fun ve h => OpT.loadPA (H rfl) (D1 h rfl) (.inl ⟨_, ((h _ (List.elem_iff.1 rfl)).trans rfl), rfl⟩) ag34 sz34) rfl ?_
       refine d1 [11] (fun ve h => OpT.fieldAddrB (H rfl) (Root.self (t := 11) (by decide)) ((h _ (List.elem_iff.1 rfl)).trans rfl) (by decide) fd36_1 sz34 (by decide) sb36_1) rfl ?_
       refine d1 [11, 232] (fun ve h => OpT.loadPA (H rfl) (D1 h rfl) (.inl ⟨_, ((h _ (List.elem_iff.1 rfl)).trans rfl), rfl⟩) ag34 sz34) rfl ?_
       refine d1 [233] (fun ve h => OpT.buildSlice (H rfl) el55 zr34 sz34 rfl (by decide) zk34 (by decide) (Built.agg (D1 h rfl) rfl (by decide) (sub_arr (by decide) ((0, 0) : BitVec 64 × BitVec 64)) (Built.nil _))) rfl ?_
       refine d3 [229, 231, 234] (fun ve h => cN (ms := [.flat, .flat, .bor 234]) (c_impl_RepairField _ _ _) (H rfl) (Af (D1 h rfl) rfl rfl <| Af (D1 h rfl) rfl rfl <| Ab (Root.self (t := 234) (by decide)) ((h _ (List.elem_iff.1 rfl)).trans rfl) <| An) rfl (.inr (ind3 (indA fun _ _ _ _ h => h) (indC fun _ _ _ _ h => h) (indC fun _ _ _ _ h => h)))) rfl ?_
       refine d1 [] (fun ve h => OpT.alias (H rfl) (by decide) (by decide)) rfl ?_
       refine d1 [225, 10235] (fun ve h => OpT.extractV (m := 10235) (H rfl) ((h _ (List.elem_iff.1 rfl)).trans rfl) rfl rfl rfl ((h _ (List.elem_iff.1 rfl)).trans rfl) rfl rfl) rfl ?_
       refine d1 [225, 20235] (fun ve h => OpT.extractV (m := 20235) (H rfl) ((h _ (List.elem_iff.1 rfl)).trans rfl) rfl rfl rfl ((h _ (List.elem_iff.1 rfl)).trans rfl) rfl rfl) rfl ?_
       refine d1 [225, 30235] (fun ve h => OpT.extractV (m := 30235) (H rfl) ((h _ (List.elem_iff.1 rfl)).trans rfl) rfl rfl rfl ((h _ (List.elem_iff.1 rfl)).trans rfl) rfl rfl) rfl ?_
       refine d1 [] (fun ve h => OpT.alloc (H rfl) zr34 zk34) rfl ?_
       refine dm (t := 29) [29, 236] (fun ve h => OpT.storeBA rfl rfl (Opd.whole (Root.self (t := 29) (by decide)) ((h _ (List.elem_iff.1 rfl)).trans rfl)) ((h _ (List.elem_iff.1 rfl)).trans rfl) sz34 (by decide) (D1 h rfl)) rfl ?_
       refine d1 [237] (fun ve h => OpT.move (A := .cel _ _) (.inr rfl) rfl (ok' rfl) (D1 h rfl) rfl) rfl ?_
       refine d1 [238] (fun ve h => OpT.move (A := .cel _ _) (.inr rfl) rfl (ok' rfl) (D1 h rfl) rfl) rfl ?_
       refine dn ⟨by kernel_rfl, by kernel_rfl, ?_⟩
       refine AX.pr (kc2 31 30 rfl <| kb 29 rfl <| kc2 238 237 rfl <| ka 236 rfl <| Kc 225 (.ali _) rfl <| ka 10235 rfl <| kc2 20235 30235 rfl <| ko 234 rfl <| ka 233 rfl <| Kc 232 (.pel _ _ _ _ _ _ _) rfl <| ka 231 rfl <| Kc 230 (.pel _ _ _ _ _ _ _) rfl <| ka 229 rfl <| kc4 228 227 226 224 rfl <| kc4 205 204 196 195 rfl <| kc4 186 185 182 181 rfl <| kc4 178 177 176 28 rfl <| kc3 27 175 174 rfl <| Kc 167 (.ali _) rfl <| kc2 10173 20173 rfl <| ka 172 rfl <| ka 171 rfl <| kc4 170 169 168 26 rfl <| kc3 25 166 165 rfl <| Kc 158 (.ali _) rfl <| kc2 10164 20164 rfl <| ka 163 rfl <| ka 162 rfl <| kc4 161 160 159 24 rfl <| kc3 23 157 156 rfl <| Kc 149 (.ali _) rfl <| kc2 10155 20155 rfl <| ka 154 rfl <| ka 153 rfl <| kc4 152 151 150 146 rfl <| kc4 145 144 143 5 rfl <| kb 11 rfl <| kb 12 rfl <| kb 18 rfl <| kc 19 rfl <| kb 21 rfl <| kc 22 rfl <| Kn) ?_
       refine AX.go ?_
       refine AW.seq ?_
       refine dh fomo ?_
       refine d1 [5] (fun ve h => OpT.move (A := .cel _ _) (.inl rfl) rfl (ok' rfl) (D1 h rfl) rfl) rfl ?_
       refine d1 [22] (fun ve h => OpT.move (A := .cel _ _) (.inl rfl) rfl (ok' rfl) (D1 h rfl) rfl) rfl ?_
       refine d1 [240, 241] (fun ve h => OpT.indexAddr (H rfl) (D1 h rfl) (D1 h rfl) el24 sz52 (by omega) hf) rfl ?_
       refine d1 [242] (fun ve h => OpT.loadA (H rfl) (D1 h rfl) ag52 sz52) rfl ?_
       refine d1 [12] (fun ve h => OpT.fieldAddrB (H rfl) (Root.self (t := 12) (by decide)) ((h _ (List.elem_iff.1 rfl)).trans rfl) (by decide) fd36_1 sz34 (by decide) sb36_1) rfl ?_
       refine d1 [12, 244] (fun ve h => OpT.loadPA (H rfl) (D1 h rfl) (.inl ⟨_, ((h _ (List.elem_iff.1 rfl)).trans rfl), rfl⟩) ag34 sz34) rfl ?_
       refine d1 [11] (fun ve h => OpT.fieldAddrB (H rfl) (Root.self (t := 11) (by decide)) ((h _ (List.elem_iff.1 rfl)).trans rfl) (by decide) fd36_1 sz34 (by decide) sb36_1) rfl ?_
       refine d1 [11, 246] (fun ve h => OpT.loadPA (H rfl) (D1 h rfl) (.inl ⟨_, ((h _ (List.elem_iff.1 rfl)).trans rfl), rfl⟩) ag34 sz34) rfl ?_
       refine d1 [247] (fun ve h => OpT.buildSlice (H rfl) el55 zr34 sz34 rfl (by decide) zk34 (by decide) (Built.agg (D1 h rfl) rfl (by decide) (sub_arr (by decide) ((0, 0) : BitVec 64 × BitVec 64)) (Built.nil _))) rfl ?_
       refine d3 [243, 245, 248] (fun ve h => cN (ms := [.flat, .flat, .bor 248]) (c_spec_RepairField _ _ _) (H rfl) (Af (D1 h rfl) rfl rfl <| Af (D1 h rfl) rfl rfl <| Ab (Root.self (t := 248) (by decide)) ((h _ (List.elem_iff.1 rfl)).trans rfl) <| An) rfl (.inr (ind3 (indA fun _ _ _ _ h => h) (indC fun _ _ _ _ h => h) (indC fun _ _ _ _ h => h)))) rfl ?_
       refine d1 [] (fun ve h => OpT.alias (H rfl) (by decide) (by decide)) rfl ?_
       refine d1 [239, 10249] (fun ve h => OpT.extractV (m := 10249) (H rfl) ((h _ (List.elem_iff.1 rfl)).trans rfl) rfl rfl rfl ((h _ (List.elem_iff.1 rfl)).trans rfl) rfl rfl) rfl ?_
       refine d1 [239, 20249] (fun ve h => OpT.extractV (m := 20249) (H rfl) ((h _ (List.elem_iff.1 rfl)).trans rfl) rfl rfl rfl ((h _ (List.elem_iff.1 rfl)).trans rfl) rfl rfl) rfl ?_
       refine d1 [239, 30249] (fun ve h => OpT.extractV (m := 30249) (H rfl) ((h _ (List.elem_iff.1 rfl)).trans rfl) rfl rfl rfl ((h _ (List.elem_iff.1 rfl)).trans rfl) rfl rfl) rfl ?_
       refine d1 [] (fun ve h => OpT.alloc (H rfl) zr34 zk34) rfl ?_
       refine dm (t := 32) [32, 250] (fun ve h => OpT.storeBA rfl rfl (Opd.whole (Root.self (t := 32) (by decide)) ((h _ (List.elem_iff.1 rfl)).trans rfl)) ((h _ (List.elem_iff.1 rfl)).trans rfl) sz34 (by decide) (D1 h rfl)) rfl ?_
       refine d1 [251] (fun ve h => OpT.move (A := .cel _ _) (.inr rfl) rfl (ok' rfl) (D1 h rfl) rfl) rfl ?_
       refine d1 [252] (fun ve h => OpT.move (A := .cel _ _) (.inr rfl) rfl (ok' rfl) (D1 h rfl) rfl) rfl ?_
       refine dn ⟨by kernel_rfl, by kernel_rfl, ?_⟩
       refine AX.go ?_
       refine AW.seq ?_
       refine sr ?_
       refine st (mvT rfl) rfl ?_
       refine st (mvT rfl) rfl ?_
       refine st (OpT.neq (H rfl) (T1 rfl) (T1 rfl)) rfl ?_
       refine st (mvT rfl) rfl ?_
       apply AWl.or (d := 260) (t := 256) rfl
       ·
        intro hb18 Q1 k1
        have hb18' := lF hb18
        refine rs hb18 (OpT.loadB (H rfl) (Root.self (t := 29) (by decide)) rfl ag34 sz34) rfl ?_
        refine rs hb18 (OpT.loadB (H rfl) (Root.self (t := 32) (by decide)) rfl ag34 sz34) rfl ?_
        refine rs hb18 (OpT.neA (H rfl) (T1 rfl) (T1 rfl) eq34 ag34 rfl eg34) rfl ?_
        refine st (OpT.pickF (A := .cel _ _) (H rfl) (T1 rfl) hb18 (T1 rfl) rfl) rfl ?_
        exact AWl.to (junk 3 rfl) k1
       ·
        intro hb18 Q1 k1
        refine ps hb18 rfl ?_
        refine ps hb18 rfl ?_
        refine ps hb18 rfl ?_
        refine st (OpT.pickT (A := .cel _ _) (H rfl) (T1 rfl) hb18 Opd.bool rfl) rfl ?_
        exact k1
       refine st (mvT rfl) rfl ?_
       apply AWl.or (d := 265) (t := 261) rfl
       ·
        intro hb19 Q1 k1
        have hb19' := lF hb19
        refine rs hb19 (mvT rfl) rfl ?_
        refine rs hb19 (mvT rfl) rfl ?_
        refine rs hb19 (OpT.neq (H rfl) (T1 rfl) (T1 rfl)) rfl ?_
        refine st (OpT.pickF (A := .cel _ _) (H rfl) (T1 rfl) hb19 (T1 rfl) rfl) rfl ?_
        exact AWl.to (junk 3 rfl) k1
       ·
        intro hb19 Q1 k1
        refine ps hb19 rfl ?_
        refine ps hb19 rfl ?_
        refine ps hb19 rfl ?_
        refine st (OpT.pickT (A := .cel _ _) (H rfl) (T1 rfl) hb19 Opd.bool rfl) rfl ?_
        exact k1
       refine st (mvT rfl) rfl ?_
       apply AWl.or (d := 275) (t := 266) rfl
       ·
        intro hb20 Q1 k1
        have hb20' := lF hb20
        refine rs hb20 (mvT rfl) rfl ?_
        refine rs hb20 (OpT.eql (H rfl) (T1 rfl) (I rfl)) rfl ?_
        refine rs hb20 (mvT rfl) rfl ?_
        refine rs hb20 (mvT rfl) rfl ?_
        refine rs hb20 (OpT.indexAddr (H rfl) (T1 rfl) (T1 rfl) el43 sz2 (by omega) hty) rfl ?_
        refine rs hb20 (OpT.load (H rfl) (T1 rfl) ag2 rfl) rfl ?_
        refine rs hb20 (OpT.eql (H rfl) (T1 rfl) (I rfl)) rfl ?_
        refine rs hb20 (OpT.bneq (H rfl) Tryz.underlying4 (T1 rfl) (T1 rfl)) rfl ?_
        refine st (OpT.pickF (A := .cel _ _) (H rfl) (T1 rfl) hb20 (T1 rfl) rfl) rfl ?_
        exact AWl.to (junk 8 rfl) k1
       ·
        intro hb20 Q1 k1
        refine ps hb20 rfl ?_
        refine ps hb20 rfl ?_
        refine ps hb20 rfl ?_
        refine ps hb20 rfl ?_
        refine ps hb20 rfl ?_
        refine ps hb20 rfl ?_
        refine ps hb20 rfl ?_
        refine ps hb20 rfl ?_
        refine st (OpT.pickT (A := .cel _ _) (H rfl) (T1 rfl) hb20 Opd.bool rfl) rfl ?_
        exact k1
       refine ng ?_
       refine cd rfl (fun hc7 => ?_) fun hc7 => ?_
       ·
        obtain ⟨hc7, hc7'⟩ := pT hc7
        exact (show False from (by rw [hlw.1] at hc7; simp [hr4, eqv_self] at hc7)).elim
       ·
        obtain ⟨hc7, hc7'⟩ := pF hc7
        refine AW.skip ?_
        refine AX.go ?_
        refine sr ?_
        refine st (mvT rfl) rfl ?_
        refine st (mvT rfl) rfl ?_
        refine st (OpT.indexAddr (H rfl) (T1 rfl) (T1 rfl) el24 sz52 (by omega) hf) rfl ?_
        refine st (OpT.loadA (H rfl) (T1 rfl) ag52 sz52) rfl ?_
        refine s2 (OpT.c2 (ms := [.flat]) (c_spec_PartOf _ hfo) (H rfl) (Af (T1 rfl) rfl rfl <| An) rfl rfl rfl) rfl ?_
        refine st (OpT.alias (H rfl) (by decide) (by decide)) rfl ?_
        refine st (OpT.extractV (m := 10281) (H rfl) rfl rfl rfl rfl rfl rfl rfl) rfl ?_
        refine st (OpT.extractV (m := 20281) (H rfl) rfl rfl rfl rfl rfl rfl rfl) rfl ?_
        refine st (OpT.alloc (H rfl) zr34 zk34) rfl ?_
        refine sk (OpT.storeBA rfl rfl (Opd.whole (Root.self (t := 35) (by decide)) rfl) rfl sz34 (by decide) (T1 rfl)) rfl ?_
        refine st (asT rfl) rfl ?_
        refine ng ?_
        refine AW.seq ?_
        refine sr ?_
        refine st (mvT rfl) rfl ?_
        refine st (OpT.neq (H rfl) (T1 rfl) (I rfl)) rfl ?_
        refine ng ?_
        refine cd rfl (fun hc8 => ?_) fun hc8 => ?_
        ·
         obtain ⟨hc8, hc8'⟩ := pT hc8
         exact (show False from (by simp at hc8)).elim
        ·
         obtain ⟨hc8, hc8'⟩ := pF hc8
         refine AW.skip ?_
         refine AX.go ?_
         refine AW.region ?_
         refine st (OpT.loadB (H rfl) (Root.self (t := 21) (by decide)) rfl ag34 sz34) rfl ?_
         refine st (OpT.loadB (H rfl) (Root.self (t := 35) (by decide)) rfl ag34 sz34) rfl ?_
         refine st (OpT.c1 (ms := [.flat, .flat]) (c_spec_JoinMasks _ _) (H rfl) (Af (T1 rfl) rfl rfl <| Af (T1 rfl) rfl rfl <| An) rfl rfl) rfl ?_
         refine sk (OpT.storeBA rfl rfl (Opd.whole (Root.self (t := 21) (by decide)) rfl) rfl sz34 (by decide) (T1 rfl)) rfl ?_
         refine nn ?_
         refine AX.normal_block ?_
         refine AX.go ?_
         refine AW.region ?_
         refine st (mvT rfl) rfl ?_
         refine st (OpT.add (H rfl) (T1 rfl) (I rfl) (nw (by omega))) rfl ?_
         refine st (asT rfl) rfl ?_
         refine nn ?_
         exact AX.again (z + 1) (by omega) (by omega) (Kc 5 _ (Kv rfl rfl) <| Kc 11 _ (Kb rfl rfl) <| Kc 12 _ (Kb rfl rfl) <| Kc 18 _ (Kb rfl rfl) <| Kc 19 _ (Kv rfl rfl) <| Kc 21 _ (Kb rfl (jp_next hf)) <| Kc 22 _ (Kv rfl (by omega)) <| Kn)
     ·
      obtain ⟨hc5, hc5'⟩ := pF hc5
      have hz9 : z = s.length := by omega
      have hls := repM_less (m := (wornM e.2 (wrD (y, 0, 0#64)))) (x := [e.2, e.2, e.2]) hs.1 s.length (Nat.le_refl _)
      refine AW.exit ?_
      refine xT <| xT <| AX.exit_hit ?_
      refine AX.pr (kb 12 rfl <| kb 18 rfl <| kb 21 rfl <| Kn) ?_
      refine AX.go ?_
      refine AW.seq ?_
      refine dh fomo ?_
      refine d1 [18] (fun ve h => OpT.fieldAddrB (H rfl) (Root.self (t := 18) (by decide)) ((h _ (List.elem_iff.1 rfl)).trans rfl) (by decide) fd36_1 sz34 (by decide) sb36_1) rfl ?_
      refine d1 [18, 289] (fun ve h => OpT.loadPA (H rfl) (D1 h rfl) (.inl ⟨_, ((h _ (List.elem_iff.1 rfl)).trans rfl), rfl⟩) ag34 sz34) rfl ?_
      refine d1 [21] (fun ve h => OpT.loadB (H rfl) (Root.self (t := 21) (by decide)) ((h _ (List.elem_iff.1 rfl)).trans rfl) ag34 sz34) rfl ?_
      refine d1 [290, 291] (fun ve h => OpT.c1 (ms := [.flat, .flat]) (c_spec_LessMask _ _) (H rfl) (Af (D1 h rfl) rfl rfl <| Af (D1 h rfl) rfl rfl <| An) rfl rfl) rfl ?_
      refine d1 [12] (fun ve h => OpT.fieldAddrB (H rfl) (Root.self (t := 12) (by decide)) ((h _ (List.elem_iff.1 rfl)).trans rfl) (by decide) fd36_1 sz34 (by decide) sb36_1) rfl ?_
      refine d1 [12, 293] (fun ve h => OpT.loadPA (H rfl) (D1 h rfl) (.inl ⟨_, ((h _ (List.elem_iff.1 rfl)).trans rfl), rfl⟩) ag34 sz34) rfl ?_
      refine d1 [21] (fun ve h => OpT.loadB (H rfl) (Root.self (t := 21) (by decide)) ((h _ (List.elem_iff.1 rfl)).trans rfl) ag34 sz34) rfl ?_
      refine d1 [294, 295] (fun ve h => OpT.c1 (ms := [.flat, .flat]) (c_spec_LessMask _ _) (H rfl) (Af (D1 h rfl) rfl rfl <| Af (D1 h rfl) rfl rfl <| An) rfl rfl) rfl ?_
      refine d1 [292, 296] (fun ve h => OpT.eqA (H rfl) (D1 h rfl) (D1 h rfl) eq34 ag34 rfl eg34) rfl ?_
      refine d1 [297] (fun ve h => OpT.move (A := .cel _ _) (.inr rfl) rfl (ok' rfl) (D1 h rfl) rfl) rfl ?_
      refine dn ⟨by kernel_rfl, by kernel_rfl, ?_⟩
      refine AX.pr (kc 4 rfl <| Kn) ?_
      refine AX.go ?_
      refine AW.ret ?_
      exact rt1 rfl (.inl rfl) (by first | rfl | (rw [hdb, hdn]; rfl) | (rw [hz9, List.take_length, hls]; exact eqv_self _))
end Go.Proofs.YtmdiimhighlllaaGreatDoor.VL
