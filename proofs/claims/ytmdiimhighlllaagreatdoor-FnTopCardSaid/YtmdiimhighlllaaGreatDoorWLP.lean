/- Proved here: what some functions of the program take and give: walks with the words of VA..VQ. Printed by program. -/
import Derived.Test.YtmdiimhighlllaaGreatDoorWT
import Derived.Test.YtmdiimhighlllaaGreatDoorPZW
import Derived.Test.YtmdiimhighlllaaGreatDoorWLH
import Derived.Test.YtmdiimhighlllaaGreatDoorWDR
import Derived.Test.YtmdiimhighlllaaGreatDoorWTV
import Derived.Test.YtmdiimhighlllaaGreatDoorWPS
import Derived.Test.YtmdiimhighlllaaGreatDoorWDK
import Derived.Test.YtmdiimhighlllaaGreatDoorWPA
import Derived.Test.YtmdiimhighlllaaGreatDoorWLT
import Derived.Test.YtmdiimhighlllaaGreatDoorWMA
import Derived.Test.YtmdiimhighlllaaGreatDoorWN
import Derived.Test.YtmdiimhighlllaaGreatDoorWD
import Derived.Test.YtmdiimhighlllaaGreatDoorWCH
import Derived.Test.YtmdiimhighlllaaGreatDoorWZ
import Derived.Test.YtmdiimhighlllaaGreatDoorWY
import Derived.Test.YtmdiimhighlllaaGreatDoorWL
set_option linter.unusedVariables false
set_option linter.unusedSimpArgs false
set_option maxRecDepth 4000
namespace Go.Proofs.YtmdiimhighlllaaGreatDoor.VL
open Go
set_option maxHeartbeats 4000000 in
/-- laws.FnTop -/
theorem c_laws_FnTop (x y : List Int) : AC Tryz.prog 4 [.cel (Kd.slice (Kd.int .u8)) x, .cel (Kd.slice (Kd.int .u8)) y] [.cel Kd.bool true] [] := by
 refine acI (N := 219) Tryz.func4 (Nat.le_of_ble_eq_true rfl) rfl fun w0 hd s0 ar => ?_
 refine AW.to (kc2 0 1 rfl <| Kn) ?_
 refine AW.fact (fun a w hr => ok_slice (R_ok (t := 0) rfl hr)) (fun hb0 => ?_)
 refine AW.fact (fun a w hr => ok_slice (R_ok (t := 1) rfl hr)) (fun hb1 => ?_)
 have hu0 : ∀ b ∈ x, 0 ≤ b ∧ b ≤ 255 := fun b hb => ok_u8 (hb0.1 b hb)
 have hu1 : ∀ b ∈ y, 0 ≤ b ∧ b ≤ 255 := fun b hb => ok_u8 (hb1.1 b hb)
 refine sr ?_
 refine st (asB rfl) rfl ?_
 refine ng ?_
 refine AW.seq ?_
 refine sr ?_
 refine st (mvT rfl) rfl ?_
 refine st (mvT rfl) rfl ?_
 refine st (OpT.c1 (ms := [.flat, .flat]) (c_laws_a2Long _ _) (H rfl) (Af (T1 rfl) rfl rfl <| Af (T1 rfl) rfl rfl <| An) rfl rfl) rfl ?_
 refine ng ?_
 refine cd rfl (fun hc1 => ?_) fun hc1 => ?_
 ·
  obtain ⟨hc1, hc1'⟩ := pT hc1
  refine sr ?_
  refine st (asB rfl) rfl ?_
  refine ng ?_
  refine AW.ret ?_
  refine rT ?_
  exact rt1 rfl (.inl rfl) (by first | rfl | (have h9 := top_edits hy1 hB.1 hB.2; simp_all))
 ·
  obtain ⟨hc1, hc1'⟩ := pF hc1
  refine AW.skip ?_
  refine AX.go ?_
  refine sr ?_
  refine st (mvT rfl) rfl ?_
  refine st (OpT.c1 (ms := [.flat]) (c_spec_A2Scheme _ ⟨hu0, by omega⟩) (H rfl) (Af (T1 rfl) rfl rfl <| An) rfl rfl) rfl ?_
  refine AWl.vw (vex 41 9097 rfl rfl (by decide) (fun _ => rfl)) fun xh => ?_
  obtain ⟨s, hs⟩ := xh
  refine AWl.to (kc4 41 40 39 38 rfl <| kc4 37 4 0 1 rfl <| Kn) ?_
  refine AWl.to (Kc 41 _ (Kv rfl (show _ = s from rfl)) <| (kc4 40 39 38 37 rfl <| kc3 4 0 1 rfl <| Kn)) ?_
  refine st (asT rfl) rfl ?_
  refine ng ?_
  refine sr ?_
  refine st (mvT rfl) rfl ?_
  refine st (mvT rfl) rfl ?_
  refine st (OpT.c1 (ms := [.flat, .flat]) (c_spec_A2Values _ _ ⟨hu1, by omega⟩ hs.1) (H rfl) (Af (T1 rfl) rfl rfl <| Af (T1 rfl) rfl rfl <| An) rfl rfl) rfl ?_
  refine AWl.vw (vex 44 9097 rfl rfl (by decide) (fun _ => rfl)) fun xh => ?_
  obtain ⟨vs, hv⟩ := xh
  refine AWl.to (kc4 44 43 42 5 rfl <| kc4 41 40 39 38 rfl <| kc4 37 4 0 1 rfl <| Kn) ?_
  refine AWl.to (Kc 44 _ (Kv rfl (show _ = vs from rfl)) <| (kc4 43 42 5 41 rfl <| kc4 40 39 38 37 rfl <| kc3 4 0 1 rfl <| Kn)) ?_
  refine st (asT rfl) rfl ?_
  refine ng ?_
  refine sr ?_
  refine st (mvT rfl) rfl ?_
  refine st (mvT rfl) rfl ?_
  refine s2 (OpT.c2 (ms := [.flat, .flat, .flat]) (c_impl_MakeCard _ _ _) (H rfl) (Af (T1 rfl) rfl rfl <| Af (Opd.str (by decide)) rfl rfl <| Af (T1 rfl) rfl rfl <| An) rfl rfl rfl) rfl ?_
  refine st (OpT.alias (H rfl) (by decide) (by decide)) rfl ?_
  refine st (OpT.extractV (m := 10048) (H rfl) rfl rfl rfl rfl rfl rfl rfl) rfl ?_
  refine st (OpT.extractV (m := 20048) (H rfl) rfl rfl rfl rfl rfl rfl rfl) rfl ?_
  refine st (OpT.alloc (H rfl) zr36 zk36) rfl ?_
  refine sk (OpT.storeBA rfl rfl (Opd.whole (Root.self (t := 7) (by decide)) rfl) rfl sz36 (by decide) (T1 rfl)) rfl ?_
  refine st (asT rfl) rfl ?_
  refine AWl.to (kc 8 rfl <| kb 7 rfl <| kc4 6 5 4 0 rfl <| kc 1 rfl <| Kn) ?_
  refine ng ?_
  refine sr ?_
  refine st (mvT rfl) rfl ?_
  refine st (OpT.loadB (H rfl) (Root.self (t := 7) (by decide)) rfl ag36 sz36) rfl ?_
  refine s2 (OpT.c2 (ms := [.flat, .flat]) (c_impl_ValuesOf _ _) (H rfl) (Af (T1 rfl) rfl rfl <| Af (T1 rfl) rfl rfl <| An) rfl rfl rfl) rfl ?_
  refine st (OpT.alias (H rfl) (by decide) (by decide)) rfl ?_
  refine st (OpT.extractV (m := 10054) (H rfl) rfl rfl rfl rfl rfl rfl rfl) rfl ?_
  refine st (OpT.extractV (m := 20054) (H rfl) rfl rfl rfl rfl rfl rfl rfl) rfl ?_
  refine st (asT rfl) rfl ?_
  refine st (asT rfl) rfl ?_
  refine AWl.to (kc3 10 9 8 rfl <| kb 7 rfl <| kc4 6 5 4 0 rfl <| kc 1 rfl <| Kn) ?_
  refine ng ?_
  refine AW.seq ?_
  refine dh fomo ?_
  refine d1 [7] (fun ve h => OpT.loadB (H rfl) (Root.self (t := 7) (by decide)) ((h _ (List.elem_iff.1 rfl)).trans rfl) ag36 sz36) rfl ?_
  refine d1 [57] (fun ve h => OpT.buildSlice (H rfl) el25 zr36 sz36 rfl (by decide) zk36 (by decide) (Built.agg (D1 h rfl) rfl (by decide) (sub_arr (by decide) ((.empty, (0, 0)) : ByteArray × (BitVec 64 × BitVec 64))) (Built.nil _))) rfl ?_
  refine d1 [1] (fun ve h => OpT.move (A := .cel _ _) (.inl rfl) rfl (ok' rfl) (D1 h rfl) rfl) rfl ?_
  refine d1 [5] (fun ve h => OpT.move (A := .cel _ _) (.inl rfl) rfl (ok' rfl) (D1 h rfl) rfl) rfl ?_
  refine d1 [59, 60] (fun ve h => OpT.c1 (ms := [.flat, .flat]) (c_spec_A2Deck _ _ ⟨hu1, by omega⟩ hs.1) (H rfl) (Af (D1 h rfl) rfl rfl <| Af (D1 h rfl) rfl rfl <| An) rfl rfl) rfl ?_
  refine dt (t := 58) [58, 61] (fun ve h => OpT.appX (H rfl) (by decide) (by decide) ((h _ (List.elem_iff.1 rfl)).trans rfl) ((h _ (List.elem_iff.1 rfl)).trans rfl) (by decide) el25 zr36 rfl sz36 by36 (by decide) (fun d hd => by have h70 := hd.1.2; simp only [List.length_set, List.length_replicate]; omega)) rfl ?_
  refine dt (t := 62) [62] (fun ve h => OpT.take (.inl rfl) rfl (ok' rfl) (Root.self (by decide)) ((h _ (List.elem_iff.1 rfl)).trans rfl) rfl (by decide)) rfl ?_
  refine dn ⟨by kernel_rfl, by kernel_rfl, ?_⟩
  refine AX.go ?_
  refine sr ?_
  refine st (mvT rfl) rfl ?_
  refine st (OpT.indexAddr (H rfl) (T1 rfl) (I rfl) el24 sz52 (by omega) (fst0_get hs.2.1)) rfl ?_
  refine st (OpT.loadA (H rfl) (T1 rfl) ag52 sz52) rfl ?_
  refine AWl.vw (vex 11 9097 rfl rfl (by decide) (fun _ => rfl)) fun xh => ?_
  obtain ⟨d, hD⟩ := xh
  refine AWl.to (ko 11 rfl <| ka 65 rfl <| kc2 64 63 rfl <| Kc 61 (.deep _) rfl <| kc2 60 59 rfl <| ka 57 rfl <| kc3 10 9 8 rfl <| kb 7 rfl <| kc4 6 5 4 0 rfl <| kc 1 rfl <| Kn) ?_
  refine AWl.freeze (t := 11) rfl ?_
  refine AWl.to (kc 11 rfl <| ka 65 rfl <| kc2 64 63 rfl <| Kc 61 (.deep _) rfl <| kc2 60 59 rfl <| ka 57 rfl <| kc3 10 9 8 rfl <| kb 7 rfl <| kc4 6 5 4 0 rfl <| kc 1 rfl <| Kn) ?_
  refine AWl.to (Kc 11 _ (Kv rfl (show _ = topX s vs d from by rw [make_is hs.1 hv]; rfl)) <| (ka 65 rfl <| kc2 64 63 rfl <| Kc 61 (.deep _) rfl <| kc2 60 59 rfl <| ka 57 rfl <| kc3 10 9 8 rfl <| kb 7 rfl <| kc4 6 5 4 0 rfl <| kc 1 rfl <| Kn)) ?_
  refine st (OpT.alloc (H rfl) zr52 zk52) rfl ?_
  refine sk (OpT.storeBA rfl rfl (Opd.whole (Root.self (t := 12) (by decide)) rfl) rfl sz52 (by decide) (T1 rfl)) rfl ?_
  refine AWl.to (kb 12 rfl <| kc4 11 10 9 8 rfl <| kc3 6 4 0 rfl <| Kn) ?_
  refine ng ?_
  refine sr ?_
  refine st (mvT rfl) rfl ?_
  refine st (OpT.loadB (H rfl) (Root.self (t := 12) (by decide)) rfl ag52 sz52) rfl ?_
  refine s2 (OpT.c2 (ms := [.flat, .flat]) (c_impl_SortDeck _ _) (H rfl) (Af (T1 rfl) rfl rfl <| Af (T1 rfl) rfl rfl <| An) rfl rfl rfl) rfl ?_
  refine st (OpT.alias (H rfl) (by decide) (by decide)) rfl ?_
  refine st (OpT.extractV (m := 10069) (H rfl) rfl rfl rfl rfl rfl rfl rfl) rfl ?_
  refine st (OpT.extractV (m := 20069) (H rfl) rfl rfl rfl rfl rfl rfl rfl) rfl ?_
  refine st (asT rfl) rfl ?_
  refine st (asT rfl) rfl ?_
  refine ng ?_
  refine sr ?_
  refine st (mvT rfl) rfl ?_
  refine st (OpT.loadB (H rfl) (Root.self (t := 12) (by decide)) rfl ag52 sz52) rfl ?_
  refine s2 (OpT.c2 (ms := [.flat, .flat]) (c_spec_SortDeck _ _) (H rfl) (Af (T1 rfl) rfl rfl <| Af (T1 rfl) rfl rfl <| An) rfl rfl rfl) rfl ?_
  refine st (OpT.alias (H rfl) (by decide) (by decide)) rfl ?_
  refine st (OpT.extractV (m := 10075) (H rfl) rfl rfl rfl rfl rfl rfl rfl) rfl ?_
  refine st (OpT.extractV (m := 20075) (H rfl) rfl rfl rfl rfl rfl rfl rfl) rfl ?_
  refine st (asT rfl) rfl ?_
  refine st (asT rfl) rfl ?_
  refine AWl.to (Kc 15 _ (Kv rfl (show _ = topY s vs d (fst0 s) from congrArg Prod.fst (top_one hs.1 hv hD.1.1 hD.2 hD.1.2 (sch_at hs.1 (fst0_get hs.2.1))).2.1)) <| (kc3 16 77 76 rfl <| Kc 72 (.ali _) rfl <| kc2 10075 20075 rfl <| ka 74 rfl <| kc4 73 14 13 71 rfl <| kc 70 rfl <| Kc 66 (.ali _) rfl <| kc2 10069 20069 rfl <| ka 68 rfl <| kc 67 rfl <| kb 12 rfl <| kc4 11 10 9 8 rfl <| kc3 6 4 0 rfl <| Kn)) ?_
  refine AWl.to (kc4 15 16 14 13 rfl <| kb 12 rfl <| kc4 10 9 8 6 rfl <| kc2 4 0 rfl <| Kn) ?_
  refine ng ?_
  refine AW.seq ?_
  refine sr ?_
  refine st (mvT rfl) rfl ?_
  refine st (OpT.neq (H rfl) (T1 rfl) (I rfl)) rfl ?_
  refine st (mvT rfl) rfl ?_
  apply AWl.or (d := 83) (t := 80) rfl
  ·
   intro hb1 Q1 k1
   have hb1' := lF hb1
   refine rs hb1 (mvT rfl) rfl ?_
   refine rs hb1 (OpT.neq (H rfl) (T1 rfl) (I rfl)) rfl ?_
   refine st (OpT.pickF (A := .cel _ _) (H rfl) (T1 rfl) hb1 (T1 rfl) rfl) rfl ?_
   exact AWl.to (junk 2 rfl) k1
  ·
   intro hb1 Q1 k1
   refine ps hb1 rfl ?_
   refine ps hb1 rfl ?_
   refine st (OpT.pickT (A := .cel _ _) (H rfl) (T1 rfl) hb1 Opd.bool rfl) rfl ?_
   exact k1
  refine st (mvT rfl) rfl ?_
  apply AWl.or (d := 89) (t := 84) rfl
  ·
   intro hb2 Q1 k1
   have hb2' := lF hb2
   refine rs hb2 (mvT rfl) rfl ?_
   refine rs hb2 (mvT rfl) rfl ?_
   refine rs hb2 (OpT.c1 (ms := [.flat, .flat]) (c_spec_A2Same _ _) (H rfl) (Af (T1 rfl) rfl rfl <| Af (T1 rfl) rfl rfl <| An) rfl rfl) rfl ?_
   refine rs hb2 (OpT.not (H rfl) (T1 rfl)) rfl ?_
   refine st (OpT.pickF (A := .cel _ _) (H rfl) (T1 rfl) hb2 (T1 rfl) rfl) rfl ?_
   exact AWl.to (junk 4 rfl) k1
  ·
   intro hb2 Q1 k1
   refine ps hb2 rfl ?_
   refine ps hb2 rfl ?_
   refine ps hb2 rfl ?_
   refine ps hb2 rfl ?_
   refine st (OpT.pickT (A := .cel _ _) (H rfl) (T1 rfl) hb2 Opd.bool rfl) rfl ?_
   exact k1
  refine st (mvT rfl) rfl ?_
  apply AWl.or (d := 94) (t := 90) rfl
  ·
   intro hb3 Q1 k1
   have hb3' := lF hb3
   refine rs hb3 (mvT rfl) rfl ?_
   refine rs hb3 (mvT rfl) rfl ?_
   refine rs hb3 (OpT.neq (H rfl) (T1 rfl) (T1 rfl)) rfl ?_
   refine st (OpT.pickF (A := .cel _ _) (H rfl) (T1 rfl) hb3 (T1 rfl) rfl) rfl ?_
   exact AWl.to (junk 3 rfl) k1
  ·
   intro hb3 Q1 k1
   refine ps hb3 rfl ?_
   refine ps hb3 rfl ?_
   refine ps hb3 rfl ?_
   refine st (OpT.pickT (A := .cel _ _) (H rfl) (T1 rfl) hb3 Opd.bool rfl) rfl ?_
   exact k1
  refine st (mvT rfl) rfl ?_
  apply AWl.or (d := 98) (t := 95) rfl
  ·
   intro hb4 Q1 k1
   have hb4' := lF hb4
   refine rs hb4 (mvT rfl) rfl ?_
   refine rs hb4 (OpT.neq (H rfl) (T1 rfl) (I rfl)) rfl ?_
   refine st (OpT.pickF (A := .cel _ _) (H rfl) (T1 rfl) hb4 (T1 rfl) rfl) rfl ?_
   exact AWl.to (junk 2 rfl) k1
  ·
   intro hb4 Q1 k1
   refine ps hb4 rfl ?_
   refine ps hb4 rfl ?_
   refine st (OpT.pickT (A := .cel _ _) (H rfl) (T1 rfl) hb4 Opd.bool rfl) rfl ?_
   exact k1
  refine st (mvT rfl) rfl ?_
  apply AWl.or (d := 104) (t := 99) rfl
  ·
   intro hb5 Q1 k1
   have hb5' := lF hb5
   refine rs hb5 (mvT rfl) rfl ?_
   refine rs hb5 (mvT rfl) rfl ?_
   refine rs hb5 (OpT.c1 (ms := [.flat, .flat]) (c_spec_SameDeck _ _) (H rfl) (Af (T1 rfl) rfl rfl <| Af (T1 rfl) rfl rfl <| An) rfl rfl) rfl ?_
   refine rs hb5 (OpT.not (H rfl) (T1 rfl)) rfl ?_
   refine st (OpT.pickF (A := .cel _ _) (H rfl) (T1 rfl) hb5 (T1 rfl) rfl) rfl ?_
   exact AWl.to (junk 4 rfl) k1
  ·
   intro hb5 Q1 k1
   refine ps hb5 rfl ?_
   refine ps hb5 rfl ?_
   refine ps hb5 rfl ?_
   refine ps hb5 rfl ?_
   refine st (OpT.pickT (A := .cel _ _) (H rfl) (T1 rfl) hb5 Opd.bool rfl) rfl ?_
   exact k1
  refine AWl.to (kc2 104 15 rfl <| kb 12 rfl <| kc3 6 4 0 rfl <| Kn) ?_
  refine ng ?_
  refine cd rfl (fun hc2 => ?_) fun hc2 => ?_
  ·
   obtain ⟨hc2, hc2'⟩ := pT hc2
   have hmk := make_is hs.1 hv
   obtain ⟨e1, e2, e3, e4, hy1, hy2, hy3, hy4, hy5⟩ := (top_one hs.1 hv hD.1.1 hD.2 hD.1.2 (sch_at hs.1 (fst0_get hs.2.1)))
   exact (show False from (by simp [hmk, e1, e2, eqv_self] at hc2)).elim
  ·
   obtain ⟨hc2, hc2'⟩ := pF hc2
   have hmk := make_is hs.1 hv
   obtain ⟨e1, e2, e3, e4, hy1, hy2, hy3, hy4, hy5⟩ := (top_one hs.1 hv hD.1.1 hD.2 hD.1.2 (sch_at hs.1 (fst0_get hs.2.1)))
   refine AW.skip ?_
   refine AX.go ?_
   refine sr ?_
   refine st (mvT rfl) rfl ?_
   refine st (OpT.loadB (H rfl) (Root.self (t := 12) (by decide)) rfl ag52 sz52) rfl ?_
   refine s2 (OpT.c2 (ms := [.flat, .flat]) (c_impl_IsSorted _ _) (H rfl) (Af (T1 rfl) rfl rfl <| Af (T1 rfl) rfl rfl <| An) rfl rfl rfl) rfl ?_
   refine st (OpT.alias (H rfl) (by decide) (by decide)) rfl ?_
   refine st (OpT.extractV (m := 10108) (H rfl) rfl rfl rfl rfl rfl rfl rfl) rfl ?_
   refine st (OpT.extractV (m := 20108) (H rfl) rfl rfl rfl rfl rfl rfl rfl) rfl ?_
   refine st (asT rfl) rfl ?_
   refine st (asT rfl) rfl ?_
   refine ng ?_
   refine sr ?_
   refine st (mvT rfl) rfl ?_
   refine s2 (OpT.c2 (ms := [.flat, .flat]) (c_impl_FindCard _ _) (H rfl) (Af (T1 rfl) rfl rfl <| Af (Opd.str (by decide)) rfl rfl <| An) rfl rfl rfl) rfl ?_
   refine st (OpT.alias (H rfl) (by decide) (by decide)) rfl ?_
   refine st (OpT.extractV (m := 10113) (H rfl) rfl rfl rfl rfl rfl rfl rfl) rfl ?_
   refine st (OpT.extractV (m := 20113) (H rfl) rfl rfl rfl rfl rfl rfl rfl) rfl ?_
   refine st (asT rfl) rfl ?_
   refine st (asT rfl) rfl ?_
   refine AWl.to (kc4 20 19 18 17 rfl <| kc 15 rfl <| kb 12 rfl <| kc3 6 4 0 rfl <| Kn) ?_
   refine ng ?_
   refine AW.seq ?_
   refine sr ?_
   refine st (mvT rfl) rfl ?_
   refine st (OpT.neq (H rfl) (T1 rfl) (I rfl)) rfl ?_
   refine st (mvT rfl) rfl ?_
   apply AWl.or (d := 121) (t := 118) rfl
   ·
    intro hb6 Q1 k1
    have hb6' := lF hb6
    refine rs hb6 (mvT rfl) rfl ?_
    refine rs hb6 (OpT.not (H rfl) (T1 rfl)) rfl ?_
    refine st (OpT.pickF (A := .cel _ _) (H rfl) (T1 rfl) hb6 (T1 rfl) rfl) rfl ?_
    exact AWl.to (junk 2 rfl) k1
   ·
    intro hb6 Q1 k1
    refine ps hb6 rfl ?_
    refine ps hb6 rfl ?_
    refine st (OpT.pickT (A := .cel _ _) (H rfl) (T1 rfl) hb6 Opd.bool rfl) rfl ?_
    exact k1
   refine st (mvT rfl) rfl ?_
   apply AWl.or (d := 125) (t := 122) rfl
   ·
    intro hb7 Q1 k1
    have hb7' := lF hb7
    refine rs hb7 (mvT rfl) rfl ?_
    refine rs hb7 (OpT.neq (H rfl) (T1 rfl) (I rfl)) rfl ?_
    refine st (OpT.pickF (A := .cel _ _) (H rfl) (T1 rfl) hb7 (T1 rfl) rfl) rfl ?_
    exact AWl.to (junk 2 rfl) k1
   ·
    intro hb7 Q1 k1
    refine ps hb7 rfl ?_
    refine ps hb7 rfl ?_
    refine st (OpT.pickT (A := .cel _ _) (H rfl) (T1 rfl) hb7 Opd.bool rfl) rfl ?_
    exact k1
   refine ng ?_
   refine cd rfl (fun hc3 => ?_) fun hc3 => ?_
   ·
    obtain ⟨hc3, hc3'⟩ := pT hc3
    exact (show False from (by simp [e3, e4] at hc3)).elim
   ·
    obtain ⟨hc3, hc3'⟩ := pF hc3
    refine AW.skip ?_
    refine AX.go ?_
    refine AW.seq ?_
    refine sr ?_
    refine st (mvT rfl) rfl ?_
    refine st (OpT.indexAddr (H rfl) (T1 rfl) (I rfl) el43 sz2 (by omega) (val0_get (by have h70 := hv.1; omega))) rfl ?_
    refine st (OpT.load (H rfl) (T1 rfl) ag2 rfl) rfl ?_
    refine st (OpT.geq (H rfl) (T1 rfl) (I rfl)) rfl ?_
    refine AWl.to (kc3 129 19 15 rfl <| kb 12 rfl <| kc3 6 4 0 rfl <| Kn) ?_
    refine ng ?_
    refine cd rfl (fun hc4 => ?_) fun hc4 => ?_
    ·
     obtain ⟨hc4, hc4'⟩ := pT hc4
     obtain ⟨g1, g2, g3⟩ := top_query (v := val0 vs) hs.1 hv hD.1.1 hD.2 hD.1.2 (fst0_get hs.2.1) (val0_get (by have h70 := hv.1; omega)) (by omega)
     obtain ⟨a1, a2, _, _⟩ := ans_law hy1 g2
     have g4 := hasV_of g3
     refine AW.seq ?_
     refine dh fomo ?_
     refine d1 [12] (fun ve h => OpT.loadB (H rfl) (Root.self (t := 12) (by decide)) ((h _ (List.elem_iff.1 rfl)).trans rfl) ag52 sz52) rfl ?_
     refine d1 [6] (fun ve h => OpT.move (A := .cel _ _) (.inl rfl) rfl (ok' rfl) (D1 h rfl) rfl) rfl ?_
     refine d1 [132] (fun ve h => OpT.indexAddr (H rfl) (D1 h rfl) (I rfl) el43 sz2 (by omega) (val0_get (by have h70 := hv.1; omega))) rfl ?_
     refine d1 [133] (fun ve h => OpT.load (H rfl) (D1 h rfl) ag2 rfl) rfl ?_
     refine d2 [131, 134] (fun ve h => OpT.c2 (ms := [.flat, .flat]) (c_impl_QueryFor _ _) (H rfl) (Af (D1 h rfl) rfl rfl <| Af (D1 h rfl) rfl rfl <| An) rfl rfl rfl) rfl ?_
     refine d1 [] (fun ve h => OpT.alias (H rfl) (by decide) (by decide)) rfl ?_
     refine d1 [130, 10135] (fun ve h => OpT.extractV (m := 10135) (H rfl) ((h _ (List.elem_iff.1 rfl)).trans rfl) rfl rfl rfl ((h _ (List.elem_iff.1 rfl)).trans rfl) rfl rfl) rfl ?_
     refine d1 [130, 20135] (fun ve h => OpT.extractV (m := 20135) (H rfl) ((h _ (List.elem_iff.1 rfl)).trans rfl) rfl rfl rfl ((h _ (List.elem_iff.1 rfl)).trans rfl) rfl rfl) rfl ?_
     refine d1 [] (fun ve h => OpT.alloc (H rfl) zr73 zk73) rfl ?_
     refine dm (t := 21) [21, 136] (fun ve h => OpT.storeBA rfl rfl (Opd.whole (Root.self (t := 21) (by decide)) ((h _ (List.elem_iff.1 rfl)).trans rfl)) ((h _ (List.elem_iff.1 rfl)).trans rfl) sz73 (by decide) (D1 h rfl)) rfl ?_
     refine d1 [137] (fun ve h => OpT.move (A := .cel _ _) (.inr rfl) rfl (ok' rfl) (D1 h rfl) rfl) rfl ?_
     refine dn ⟨by kernel_rfl, by kernel_rfl, ?_⟩
     refine AX.pr (kc 22 rfl <| kb 21 rfl <| kc4 19 15 4 0 rfl <| Kn) ?_
     refine AX.go ?_
     refine sr ?_
     refine st (mvT rfl) rfl ?_
     refine st (OpT.loadB (H rfl) (Root.self (t := 21) (by decide)) rfl ag73 sz73) rfl ?_
     refine s2 (OpT.c2 (ms := [.flat, .flat]) (c_impl_MakeAnswer _ _) (H rfl) (Af (T1 rfl) rfl rfl <| Af (T1 rfl) rfl rfl <| An) rfl rfl rfl) rfl ?_
     refine st (OpT.alias (H rfl) (by decide) (by decide)) rfl ?_
     refine st (OpT.extractV (m := 10141) (H rfl) rfl rfl rfl rfl rfl rfl rfl) rfl ?_
     refine st (OpT.extractV (m := 20141) (H rfl) rfl rfl rfl rfl rfl rfl rfl) rfl ?_
     refine st (OpT.alloc (H rfl) zr78 zk78) rfl ?_
     refine sk (OpT.storeBA rfl rfl (Opd.whole (Root.self (t := 23) (by decide)) rfl) rfl sz78 (by decide) (T1 rfl)) rfl ?_
     refine st (asT rfl) rfl ?_
     refine ng ?_
     refine sr ?_
     refine st (mvT rfl) rfl ?_
     refine st (OpT.loadB (H rfl) (Root.self (t := 21) (by decide)) rfl ag73 sz73) rfl ?_
     refine s2 (OpT.c2 (ms := [.flat, .flat]) (c_spec_MakeAnswer _ _) (H rfl) (Af (T1 rfl) rfl rfl <| Af (T1 rfl) rfl rfl <| An) rfl rfl rfl) rfl ?_
     refine st (OpT.alias (H rfl) (by decide) (by decide)) rfl ?_
     refine st (OpT.extractV (m := 10147) (H rfl) rfl rfl rfl rfl rfl rfl rfl) rfl ?_
     refine st (OpT.extractV (m := 20147) (H rfl) rfl rfl rfl rfl rfl rfl rfl) rfl ?_
     refine st (OpT.alloc (H rfl) zr78 zk78) rfl ?_
     refine sk (OpT.storeBA rfl rfl (Opd.whole (Root.self (t := 25) (by decide)) rfl) rfl sz78 (by decide) (T1 rfl)) rfl ?_
     refine st (asT rfl) rfl ?_
     refine AWl.to (kc 26 rfl <| kb 25 rfl <| kc 24 rfl <| kb 23 rfl <| kc4 22 19 15 4 rfl <| kc 0 rfl <| Kn) ?_
     refine ng ?_
     refine sr ?_
     refine st (mvT rfl) rfl ?_
     refine st (OpT.loadB (H rfl) (Root.self (t := 23) (by decide)) rfl ag78 sz78) rfl ?_
     refine s2 (OpT.c2 (ms := [.flat, .flat]) (c_impl_CheckAnswer _ _ (mkA_small _ _)) (H rfl) (Af (T1 rfl) rfl rfl <| Af (T1 rfl) rfl rfl <| An) rfl rfl rfl) rfl ?_
     refine st (OpT.alias (H rfl) (by decide) (by decide)) rfl ?_
     refine st (OpT.extractV (m := 10153) (H rfl) rfl rfl rfl rfl rfl rfl rfl) rfl ?_
     refine st (OpT.extractV (m := 20153) (H rfl) rfl rfl rfl rfl rfl rfl rfl) rfl ?_
     refine st (asT rfl) rfl ?_
     refine st (asT rfl) rfl ?_
     refine ng ?_
     refine sr ?_
     refine st (mvT rfl) rfl ?_
     refine st (OpT.neq (H rfl) (T1 rfl) (I rfl)) rfl ?_
     refine st (mvT rfl) rfl ?_
     apply AWl.or (d := 162) (t := 158) rfl
     ·
      intro hb8 Q1 k1
      have hb8' := lF hb8
      refine rs hb8 (mvT rfl) rfl ?_
      refine rs hb8 (mvT rfl) rfl ?_
      refine rs hb8 (OpT.neq (H rfl) (T1 rfl) (T1 rfl)) rfl ?_
      refine st (OpT.pickF (A := .cel _ _) (H rfl) (T1 rfl) hb8 (T1 rfl) rfl) rfl ?_
      exact AWl.to (junk 3 rfl) k1
     ·
      intro hb8 Q1 k1
      refine ps hb8 rfl ?_
      refine ps hb8 rfl ?_
      refine ps hb8 rfl ?_
      refine st (OpT.pickT (A := .cel _ _) (H rfl) (T1 rfl) hb8 Opd.bool rfl) rfl ?_
      exact k1
     refine st (mvT rfl) rfl ?_
     apply AWl.or (d := 168) (t := 163) rfl
     ·
      intro hb9 Q1 k1
      have hb9' := lF hb9
      refine rs hb9 (OpT.loadB (H rfl) (Root.self (t := 23) (by decide)) rfl ag78 sz78) rfl ?_
      refine rs hb9 (OpT.loadB (H rfl) (Root.self (t := 25) (by decide)) rfl ag78 sz78) rfl ?_
      refine rs hb9 (OpT.c1 (ms := [.flat, .flat]) (c_spec_SameAnswer _ _) (H rfl) (Af (T1 rfl) rfl rfl <| Af (T1 rfl) rfl rfl <| An) rfl rfl) rfl ?_
      refine rs hb9 (OpT.not (H rfl) (T1 rfl)) rfl ?_
      refine st (OpT.pickF (A := .cel _ _) (H rfl) (T1 rfl) hb9 (T1 rfl) rfl) rfl ?_
      exact AWl.to (junk 4 rfl) k1
     ·
      intro hb9 Q1 k1
      refine ps hb9 rfl ?_
      refine ps hb9 rfl ?_
      refine ps hb9 rfl ?_
      refine ps hb9 rfl ?_
      refine st (OpT.pickT (A := .cel _ _) (H rfl) (T1 rfl) hb9 Opd.bool rfl) rfl ?_
      exact k1
     refine st (mvT rfl) rfl ?_
     apply AWl.or (d := 172) (t := 169) rfl
     ·
      intro hb10 Q1 k1
      have hb10' := lF hb10
      refine rs hb10 (mvT rfl) rfl ?_
      refine rs hb10 (OpT.neq (H rfl) (T1 rfl) (I rfl)) rfl ?_
      refine st (OpT.pickF (A := .cel _ _) (H rfl) (T1 rfl) hb10 (T1 rfl) rfl) rfl ?_
      exact AWl.to (junk 2 rfl) k1
     ·
      intro hb10 Q1 k1
      refine ps hb10 rfl ?_
      refine ps hb10 rfl ?_
      refine st (OpT.pickT (A := .cel _ _) (H rfl) (T1 rfl) hb10 Opd.bool rfl) rfl ?_
      exact k1
     refine st (mvT rfl) rfl ?_
     apply AWl.or (d := 176) (t := 173) rfl
     ·
      intro hb11 Q1 k1
      have hb11' := lF hb11
      refine rs hb11 (mvT rfl) rfl ?_
      refine rs hb11 (OpT.not (H rfl) (T1 rfl)) rfl ?_
      refine st (OpT.pickF (A := .cel _ _) (H rfl) (T1 rfl) hb11 (T1 rfl) rfl) rfl ?_
      exact AWl.to (junk 2 rfl) k1
     ·
      intro hb11 Q1 k1
      refine ps hb11 rfl ?_
      refine ps hb11 rfl ?_
      refine st (OpT.pickT (A := .cel _ _) (H rfl) (T1 rfl) hb11 Opd.bool rfl) rfl ?_
      exact k1
     refine st (mvT rfl) rfl ?_
     apply AWl.or (d := 183) (t := 177) rfl
     ·
      intro hb12 Q1 k1
      have hb12' := lF hb12
      refine rs hb12 (OpT.fieldAddrB (H rfl) (Root.self (t := 25) (by decide)) rfl (by decide) fd78_1 sz43 (by decide) sb78_1) rfl ?_
      refine rs hb12 (OpT.loadP (H rfl) (T1 rfl) (.inl ⟨_, rfl, rfl⟩) ag43 rfl) rfl ?_
      refine rs hb12 (mvT rfl) rfl ?_
      refine rs hb12 (OpT.c1 (ms := [.flat, .flat]) (c_spec_A2Has _ _) (H rfl) (Af (T1 rfl) rfl rfl <| Af (T1 rfl) rfl rfl <| An) rfl rfl) rfl ?_
      refine rs hb12 (OpT.not (H rfl) (T1 rfl)) rfl ?_
      refine st (OpT.pickF (A := .cel _ _) (H rfl) (T1 rfl) hb12 (T1 rfl) rfl) rfl ?_
      exact AWl.to (junk 5 rfl) k1
     ·
      intro hb12 Q1 k1
      refine ps hb12 rfl ?_
      refine ps hb12 rfl ?_
      refine ps hb12 rfl ?_
      refine ps hb12 rfl ?_
      refine ps hb12 rfl ?_
      refine st (OpT.pickT (A := .cel _ _) (H rfl) (T1 rfl) hb12 Opd.bool rfl) rfl ?_
      exact k1
     refine AWl.to (kc4 183 15 4 0 rfl <| Kn) ?_
     refine ng ?_
     refine cd rfl (fun hc5 => ?_) fun hc5 => ?_
     ·
      obtain ⟨hc5, hc5'⟩ := pT hc5
      exact (show False from (by simp [g1, a1, a2, e4, eqv_self] at hc5; simp [ansR, g4] at hc5)).elim
     ·
      obtain ⟨hc5, hc5'⟩ := pF hc5
      refine AW.skip ?_
      refine AX.go ?_
      refine sr ?_
      refine st (mvT rfl) rfl ?_
      refine st (mvT rfl) rfl ?_
      refine st (OpT.c1 (ms := [.flat, .flat]) (c_spec_A2Changed _ _ ⟨hu0, by omega⟩ ⟨hy1, hy3, hy2⟩) (H rfl) (Af (T1 rfl) rfl rfl <| Af (T1 rfl) rfl rfl <| An) rfl rfl) rfl ?_
      refine AWl.vw (vex 186 9097 rfl rfl (by decide) (fun _ => rfl)) fun xh => ?_
      obtain ⟨b, hB⟩ := xh
      refine AWl.to (kc4 186 185 184 183 rfl <| kc3 15 4 0 rfl <| Kn) ?_
      refine AWl.to (Kc 186 _ (Kv rfl (show _ = b from rfl)) <| (kc4 185 184 183 15 rfl <| kc2 4 0 rfl <| Kn)) ?_
      refine st (asT rfl) rfl ?_
      refine ng ?_
      refine sr ?_
      refine st (mvT rfl) rfl ?_
      refine st (mvT rfl) rfl ?_
      refine s2 (OpT.c2 (ms := [.flat, .flat]) (c_impl_EditsBetween _ _) (H rfl) (Af (T1 rfl) rfl rfl <| Af (T1 rfl) rfl rfl <| An) rfl rfl rfl) rfl ?_
      refine st (OpT.alias (H rfl) (by decide) (by decide)) rfl ?_
      refine st (OpT.extractV (m := 10190) (H rfl) rfl rfl rfl rfl rfl rfl rfl) rfl ?_
      refine st (OpT.extractV (m := 20190) (H rfl) rfl rfl rfl rfl rfl rfl rfl) rfl ?_
      refine st (asT rfl) rfl ?_
      refine st (asT rfl) rfl ?_
      refine AWl.to (kc4 31 30 29 15 rfl <| kc 4 rfl <| Kn) ?_
      refine ng ?_
      refine sr ?_
      refine st (mvT rfl) rfl ?_
      refine st (mvT rfl) rfl ?_
      refine s3 (cN (ms := [.flat, .flat]) (c_impl_ApplyEdits _ _) (H rfl) (Af (T1 rfl) rfl rfl <| Af (T1 rfl) rfl rfl <| An) rfl (.inl rfl)) rfl ?_
      refine st (OpT.alias (H rfl) (by decide) (by decide)) rfl ?_
      refine st (OpT.extractV (m := 10196) (H rfl) rfl rfl rfl rfl rfl rfl rfl) rfl ?_
      refine st (OpT.extractV (m := 20196) (H rfl) rfl rfl rfl rfl rfl rfl rfl) rfl ?_
      refine st (OpT.extractV (m := 30196) (H rfl) rfl rfl rfl rfl rfl rfl rfl) rfl ?_
      refine st (asT rfl) rfl ?_
      refine st (asT rfl) rfl ?_
      refine st (asT rfl) rfl ?_
      refine AWl.to (kc4 34 32 31 29 rfl <| kc 4 rfl <| Kn) ?_
      refine ng ?_
      refine sr ?_
      refine st (mvT rfl) rfl ?_
      refine st (mvT rfl) rfl ?_
      refine s2 (OpT.c2 (ms := [.flat, .flat]) (c_impl_SameCards _ _) (H rfl) (Af (T1 rfl) rfl rfl <| Af (T1 rfl) rfl rfl <| An) rfl rfl rfl) rfl ?_
      refine st (OpT.alias (H rfl) (by decide) (by decide)) rfl ?_
      refine st (OpT.extractV (m := 10203) (H rfl) rfl rfl rfl rfl rfl rfl rfl) rfl ?_
      refine st (OpT.extractV (m := 20203) (H rfl) rfl rfl rfl rfl rfl rfl rfl) rfl ?_
      refine st (asT rfl) rfl ?_
      refine st (asT rfl) rfl ?_
      refine ng ?_
      refine sr ?_
      refine st (mvT rfl) rfl ?_
      refine st (OpT.eql (H rfl) (T1 rfl) (I rfl)) rfl ?_
      refine st (mvT rfl) rfl ?_
      apply AWl.and (d := 211) (t := 208) rfl
      ·
       intro hb13 Q1 k1
       have hb13' := lT hb13
       refine rs hb13 (mvT rfl) rfl ?_
       refine rs hb13 (OpT.eql (H rfl) (T1 rfl) (I rfl)) rfl ?_
       refine st (OpT.pickT (A := .cel _ _) (H rfl) (T1 rfl) hb13 (T1 rfl) rfl) rfl ?_
       exact AWl.to (junk 2 rfl) k1
      ·
       intro hb13 Q1 k1
       refine ps hb13 rfl ?_
       refine ps hb13 rfl ?_
       refine st (OpT.pickF (A := .cel _ _) (H rfl) (T1 rfl) hb13 Opd.bool rfl) rfl ?_
       exact k1
      refine st (mvT rfl) rfl ?_
      apply AWl.and (d := 215) (t := 212) rfl
      ·
       intro hb14 Q1 k1
       have hb14' := lT hb14
       refine rs hb14 (mvT rfl) rfl ?_
       refine rs hb14 (OpT.eql (H rfl) (T1 rfl) (I rfl)) rfl ?_
       refine st (OpT.pickT (A := .cel _ _) (H rfl) (T1 rfl) hb14 (T1 rfl) rfl) rfl ?_
       exact AWl.to (junk 2 rfl) k1
      ·
       intro hb14 Q1 k1
       refine ps hb14 rfl ?_
       refine ps hb14 rfl ?_
       refine st (OpT.pickF (A := .cel _ _) (H rfl) (T1 rfl) hb14 Opd.bool rfl) rfl ?_
       exact k1
      refine st (mvT rfl) rfl ?_
      apply AWl.and (d := 218) (t := 216) rfl
      ·
       intro hb15 Q1 k1
       have hb15' := lT hb15
       refine rs hb15 (mvT rfl) rfl ?_
       refine st (OpT.pickT (A := .cel _ _) (H rfl) (T1 rfl) hb15 (T1 rfl) rfl) rfl ?_
       exact AWl.to (junk 1 rfl) k1
      ·
       intro hb15 Q1 k1
       refine ps hb15 rfl ?_
       refine st (OpT.pickF (A := .cel _ _) (H rfl) (T1 rfl) hb15 Opd.bool rfl) rfl ?_
       exact k1
      refine st (asT rfl) rfl ?_
      refine AWl.to (kc 4 rfl <| Kn) ?_
      refine ng ?_
      refine AW.ret ?_
      exact rt1 rfl (.inl rfl) (by first | rfl | (have h9 := top_edits hy1 hB.1 hB.2; simp_all))
    ·
     obtain ⟨hc4, hc4'⟩ := pF hc4
     refine AW.skip ?_
     refine AX.go ?_
     refine sr ?_
     refine st (mvT rfl) rfl ?_
     refine st (mvT rfl) rfl ?_
     refine st (OpT.c1 (ms := [.flat, .flat]) (c_spec_A2Changed _ _ ⟨hu0, by omega⟩ ⟨hy1, hy3, hy2⟩) (H rfl) (Af (T1 rfl) rfl rfl <| Af (T1 rfl) rfl rfl <| An) rfl rfl) rfl ?_
     refine AWl.vw (vex 186 9097 rfl rfl (by decide) (fun _ => rfl)) fun xh => ?_
     obtain ⟨b, hB⟩ := xh
     refine AWl.to (kc4 186 185 184 129 rfl <| kc2 19 15 rfl <| kb 12 rfl <| kc3 6 4 0 rfl <| Kn) ?_
     refine AWl.to (Kc 186 _ (Kv rfl (show _ = b from rfl)) <| (kc4 185 184 129 19 rfl <| kc 15 rfl <| kb 12 rfl <| kc3 6 4 0 rfl <| Kn)) ?_
     refine st (asT rfl) rfl ?_
     refine ng ?_
     refine sr ?_
     refine st (mvT rfl) rfl ?_
     refine st (mvT rfl) rfl ?_
     refine s2 (OpT.c2 (ms := [.flat, .flat]) (c_impl_EditsBetween _ _) (H rfl) (Af (T1 rfl) rfl rfl <| Af (T1 rfl) rfl rfl <| An) rfl rfl rfl) rfl ?_
     refine st (OpT.alias (H rfl) (by decide) (by decide)) rfl ?_
     refine st (OpT.extractV (m := 10190) (H rfl) rfl rfl rfl rfl rfl rfl rfl) rfl ?_
     refine st (OpT.extractV (m := 20190) (H rfl) rfl rfl rfl rfl rfl rfl rfl) rfl ?_
     refine st (asT rfl) rfl ?_
     refine st (asT rfl) rfl ?_
     refine AWl.to (kc4 31 30 29 15 rfl <| kc 4 rfl <| Kn) ?_
     refine ng ?_
     refine sr ?_
     refine st (mvT rfl) rfl ?_
     refine st (mvT rfl) rfl ?_
     refine s3 (cN (ms := [.flat, .flat]) (c_impl_ApplyEdits _ _) (H rfl) (Af (T1 rfl) rfl rfl <| Af (T1 rfl) rfl rfl <| An) rfl (.inl rfl)) rfl ?_
     refine st (OpT.alias (H rfl) (by decide) (by decide)) rfl ?_
     refine st (OpT.extractV (m := 10196) (H rfl) rfl rfl rfl rfl rfl rfl rfl) rfl ?_
     refine st (OpT.extractV (m := 20196) (H rfl) rfl rfl rfl rfl rfl rfl rfl) rfl ?_
     refine st (OpT.extractV (m := 30196) (H rfl) rfl rfl rfl rfl rfl rfl rfl) rfl ?_
     refine st (asT rfl) rfl ?_
     refine st (asT rfl) rfl ?_
     refine st (asT rfl) rfl ?_
     refine AWl.to (kc4 34 32 31 29 rfl <| kc 4 rfl <| Kn) ?_
     refine ng ?_
     refine sr ?_
     refine st (mvT rfl) rfl ?_
     refine st (mvT rfl) rfl ?_
     refine s2 (OpT.c2 (ms := [.flat, .flat]) (c_impl_SameCards _ _) (H rfl) (Af (T1 rfl) rfl rfl <| Af (T1 rfl) rfl rfl <| An) rfl rfl rfl) rfl ?_
     refine st (OpT.alias (H rfl) (by decide) (by decide)) rfl ?_
     refine st (OpT.extractV (m := 10203) (H rfl) rfl rfl rfl rfl rfl rfl rfl) rfl ?_
     refine st (OpT.extractV (m := 20203) (H rfl) rfl rfl rfl rfl rfl rfl rfl) rfl ?_
     refine st (asT rfl) rfl ?_
     refine st (asT rfl) rfl ?_
     refine ng ?_
     refine sr ?_
     refine st (mvT rfl) rfl ?_
     refine st (OpT.eql (H rfl) (T1 rfl) (I rfl)) rfl ?_
     refine st (mvT rfl) rfl ?_
     apply AWl.and (d := 211) (t := 208) rfl
     ·
      intro hb16 Q1 k1
      have hb16' := lT hb16
      refine rs hb16 (mvT rfl) rfl ?_
      refine rs hb16 (OpT.eql (H rfl) (T1 rfl) (I rfl)) rfl ?_
      refine st (OpT.pickT (A := .cel _ _) (H rfl) (T1 rfl) hb16 (T1 rfl) rfl) rfl ?_
      exact AWl.to (junk 2 rfl) k1
     ·
      intro hb16 Q1 k1
      refine ps hb16 rfl ?_
      refine ps hb16 rfl ?_
      refine st (OpT.pickF (A := .cel _ _) (H rfl) (T1 rfl) hb16 Opd.bool rfl) rfl ?_
      exact k1
     refine st (mvT rfl) rfl ?_
     apply AWl.and (d := 215) (t := 212) rfl
     ·
      intro hb17 Q1 k1
      have hb17' := lT hb17
      refine rs hb17 (mvT rfl) rfl ?_
      refine rs hb17 (OpT.eql (H rfl) (T1 rfl) (I rfl)) rfl ?_
      refine st (OpT.pickT (A := .cel _ _) (H rfl) (T1 rfl) hb17 (T1 rfl) rfl) rfl ?_
      exact AWl.to (junk 2 rfl) k1
     ·
      intro hb17 Q1 k1
      refine ps hb17 rfl ?_
      refine ps hb17 rfl ?_
      refine st (OpT.pickF (A := .cel _ _) (H rfl) (T1 rfl) hb17 Opd.bool rfl) rfl ?_
      exact k1
     refine st (mvT rfl) rfl ?_
     apply AWl.and (d := 218) (t := 216) rfl
     ·
      intro hb18 Q1 k1
      have hb18' := lT hb18
      refine rs hb18 (mvT rfl) rfl ?_
      refine st (OpT.pickT (A := .cel _ _) (H rfl) (T1 rfl) hb18 (T1 rfl) rfl) rfl ?_
      exact AWl.to (junk 1 rfl) k1
     ·
      intro hb18 Q1 k1
      refine ps hb18 rfl ?_
      refine st (OpT.pickF (A := .cel _ _) (H rfl) (T1 rfl) hb18 Opd.bool rfl) rfl ?_
      exact k1
     refine st (asT rfl) rfl ?_
     refine AWl.to (kc 4 rfl <| Kn) ?_
     refine ng ?_
     refine AW.ret ?_
     exact rt1 rfl (.inl rfl) (by first | rfl | (have h9 := top_edits hy1 hB.1 hB.2; simp_all))
end Go.Proofs.YtmdiimhighlllaaGreatDoor.VL
