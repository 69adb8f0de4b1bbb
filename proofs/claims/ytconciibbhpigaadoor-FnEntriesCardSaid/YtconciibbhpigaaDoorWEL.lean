/- Proved here: what some functions of the program take and give: walks with the words of VA..VQ. Printed by program. -/
import Derived.Test.YtconciibbhpigaaDoorWT
import Derived.Test.YtconciibbhpigaaDoorPXG
import Derived.Test.YtconciibbhpigaaDoorPZN
import Derived.Test.YtconciibbhpigaaDoorPXD
import Derived.Test.YtconciibbhpigaaDoorWLH
import Derived.Test.YtconciibbhpigaaDoorWET
import Derived.Test.YtconciibbhpigaaDoorWAQ
import Derived.Test.YtconciibbhpigaaDoorWEN
set_option linter.unusedVariables false
set_option linter.unusedSimpArgs false
set_option maxRecDepth 4000
namespace Go.Proofs.YtconciibbhpigaaDoor.VL
open Go
set_option maxHeartbeats 4000000 in
/-- laws.FnEntries -/
theorem c_laws_FnEntries (x y : List Int) : AC Tryd.prog 3 [.cel (Kd.slice (Kd.int .u8)) x, .cel (Kd.slice (Kd.int .u8)) y] [.cel Kd.bool true] [] := by
 refine acI (N := 317) Tryd.func3 (Nat.le_of_ble_eq_true rfl) rfl fun w0 hd s0 ar => ?_
 refine AW.to (kc2 0 1 rfl <| Kn) ?_
 refine AW.fact (fun a w hr => ok_slice (R_ok (t := 0) rfl hr)) (fun hb0 => ?_)
 refine AW.fact (fun a w hr => ok_slice (R_ok (t := 1) rfl hr)) (fun hb1 => ?_)
 have hu0 : ∀ b ∈ x, 0 ≤ b ∧ b ≤ 255 := fun b hb => ok_u8 (hb0.1 b hb)
 have hu1 : ∀ b ∈ y, 0 ≤ b ∧ b ≤ 255 := fun b hb => ok_u8 (hb1.1 b hb)
 refine sr ?_
 refine st (asB rfl) rfl ?_
 refine ng ?_
 refine AW.seq ?_
 refine sr ?_
 refine st (mvT rfl) rfl ?_
 refine st (mvT rfl) rfl ?_
 refine st (OpT.c1 (ms := [.flat, .flat]) (c_laws_a2Long _ _) (H rfl) (Af (T1 rfl) rfl rfl <| Af (T1 rfl) rfl rfl <| An) rfl rfl) rfl ?_
 refine ng ?_
 refine cd rfl (fun hc1 => ?_) fun hc1 => ?_
 ·
  obtain ⟨hc1, hc1'⟩ := pT hc1
  refine sr ?_
  refine st (asB rfl) rfl ?_
  refine ng ?_
  refine AW.ret ?_
  refine rT ?_
  exact rt1 rfl (.inl rfl) (by first | rfl | (have h9 : (comL (pthE d (atS y 0 (d.length : Int))) (pthE d (atS y 1 (d.length : Int)))).2 = 6 := (by omega); rw [h9]; rfl) | (rw [hci.1, hci.2]; rfl))
 ·
  obtain ⟨hc1, hc1'⟩ := pF hc1
  refine AW.skip ?_
  refine AX.go ?_
  refine sr ?_
  refine st (mvT rfl) rfl ?_
  refine st (OpT.c1 (ms := [.flat]) (c_spec_A2Catalogue _ ⟨hu0, by omega⟩) (H rfl) (Af (T1 rfl) rfl rfl <| An) rfl rfl) rfl ?_
  refine AWl.vw (vex 42 9097 rfl rfl (by decide) (fun _ => rfl)) fun xh => ?_
  obtain ⟨d, hd⟩ := xh
  refine AWl.to (kc4 42 41 40 39 rfl <| kc4 38 4 0 1 rfl <| Kn) ?_
  refine AWl.to (Kc 42 _ (Kv rfl (show _ = d from rfl)) <| (kc4 41 40 39 38 rfl <| kc3 4 0 1 rfl <| Kn)) ?_
  have hnl := hd.1.len
  have ha0 := atS_rng hu1 (i := 0) (n := (d.length : Int)) (by omega) (by omega)
  have ha1 := atS_rng hu1 (i := 1) (n := (d.length : Int)) (by omega) (by omega)
  have h0 : 0 ≤ (atS y 0 (d.length : Int)) ∧ (atS y 0 (d.length : Int)) < d.length := by omega
  have h1 : 0 ≤ (atS y 1 (d.length : Int)) ∧ (atS y 1 (d.length : Int)) < d.length := by omega
  have hp0 := pre_in hd.1 h0
  have hs0 : expE d (preI d (atS y 0 (d.length : Int))) = expE d (atS y 0 (d.length : Int)) := (exp_same hd.1 ⟨hp0.1, hp0.2.1⟩).symm.trans (exp_own hd.1 h0)
  have hcc := com_code (pthE d (atS y 0 (d.length : Int))) (pthE d (atS y 1 (d.length : Int)))
  refine st (asT rfl) rfl ?_
  refine ng ?_
  refine sr ?_
  refine st (mvT rfl) rfl ?_
  refine st (OpT.len (H rfl) (T1 rfl) el24) rfl ?_
  refine st (asT rfl) rfl ?_
  refine ng ?_
  refine sr ?_
  refine st (mvT rfl) rfl ?_
  refine st (mvT rfl) rfl ?_
  refine st (OpT.c1 (ms := [.flat, .flat, .flat]) (c_laws_a2At _ 0 _ ⟨by omega, hu1⟩) (H rfl) (Af (T1 rfl) rfl rfl <| Af (I rfl) rfl rfl <| Af (T1 rfl) rfl rfl <| An) rfl rfl) rfl ?_
  refine st (asT rfl) rfl ?_
  refine AWl.to (kc4 7 6 5 4 rfl <| kc 1 rfl <| Kn) ?_
  refine ng ?_
  refine sr ?_
  refine st (mvT rfl) rfl ?_
  refine st (mvT rfl) rfl ?_
  refine st (OpT.c1 (ms := [.flat, .flat, .flat]) (c_laws_a2At _ 1 _ ⟨by omega, hu1⟩) (H rfl) (Af (T1 rfl) rfl rfl <| Af (I rfl) rfl rfl <| Af (T1 rfl) rfl rfl <| An) rfl rfl) rfl ?_
  refine st (asT rfl) rfl ?_
  refine ng ?_
  refine sr ?_
  refine st (mvT rfl) rfl ?_
  refine st (OpT.c1 (ms := [.flat]) (c_impl_CatalogueText d hd.1) (H rfl) (Af (T1 rfl) rfl rfl <| An) rfl rfl) rfl ?_
  refine s2 (OpT.c2 (ms := [.flat]) (c_impl_ReadCatalogue d hd.1) (H rfl) (Af (T1 rfl) rfl rfl <| An) rfl rfl rfl) rfl ?_
  refine st (OpT.alias (H rfl) (by decide) (by decide)) rfl ?_
  refine st (OpT.extractV (m := 10054) (H rfl) rfl rfl rfl rfl rfl rfl rfl) rfl ?_
  refine st (OpT.extractV (m := 20054) (H rfl) rfl rfl rfl rfl rfl rfl rfl) rfl ?_
  refine st (asT rfl) rfl ?_
  refine st (asT rfl) rfl ?_
  refine AWl.to (kc4 10 9 8 7 rfl <| kc3 6 5 4 rfl <| Kn) ?_
  refine ng ?_
  refine sr ?_
  refine st (mvT rfl) rfl ?_
  refine st (mvT rfl) rfl ?_
  refine s2 (OpT.c2 (ms := [.flat, .flat]) (c_impl_PreferredOf d (atS y 0 (d.length : Int)) ⟨hd.1, h0⟩) (H rfl) (Af (T1 rfl) rfl rfl <| Af (T1 rfl) rfl rfl <| An) rfl rfl rfl) rfl ?_
  refine st (OpT.alias (H rfl) (by decide) (by decide)) rfl ?_
  refine st (OpT.extractV (m := 10060) (H rfl) rfl rfl rfl rfl rfl rfl rfl) rfl ?_
  refine st (OpT.extractV (m := 20060) (H rfl) rfl rfl rfl rfl rfl rfl rfl) rfl ?_
  refine st (asT rfl) rfl ?_
  refine st (asT rfl) rfl ?_
  refine ng ?_
  refine sr ?_
  refine st (mvT rfl) rfl ?_
  refine st (mvT rfl) rfl ?_
  refine s2 (OpT.c2 (ms := [.flat, .flat]) (c_impl_ExpandEntry d (atS y 0 (d.length : Int)) ⟨hd.1, h0⟩) (H rfl) (Af (T1 rfl) rfl rfl <| Af (T1 rfl) rfl rfl <| An) rfl rfl rfl) rfl ?_
  refine st (OpT.alias (H rfl) (by decide) (by decide)) rfl ?_
  refine st (OpT.extractV (m := 10066) (H rfl) rfl rfl rfl rfl rfl rfl rfl) rfl ?_
  refine st (OpT.extractV (m := 20066) (H rfl) rfl rfl rfl rfl rfl rfl rfl) rfl ?_
  refine st (asT rfl) rfl ?_
  refine st (asT rfl) rfl ?_
  refine AWl.to (kc4 14 13 12 11 rfl <| kc4 10 9 8 7 rfl <| kc3 6 5 4 rfl <| Kn) ?_
  refine ng ?_
  refine sr ?_
  refine st (mvT rfl) rfl ?_
  refine st (mvT rfl) rfl ?_
  refine s2 (OpT.c2 (ms := [.flat, .flat]) (c_spec_ExpandEntry d (atS y 0 (d.length : Int)) ⟨hd.1, h0⟩) (H rfl) (Af (T1 rfl) rfl rfl <| Af (T1 rfl) rfl rfl <| An) rfl rfl rfl) rfl ?_
  refine st (OpT.alias (H rfl) (by decide) (by decide)) rfl ?_
  refine st (OpT.extractV (m := 10072) (H rfl) rfl rfl rfl rfl rfl rfl rfl) rfl ?_
  refine st (OpT.extractV (m := 20072) (H rfl) rfl rfl rfl rfl rfl rfl rfl) rfl ?_
  refine st (asT rfl) rfl ?_
  refine st (asT rfl) rfl ?_
  refine ng ?_
  refine AW.seq ?_
  refine sr ?_
  refine st (mvT rfl) rfl ?_
  refine st (OpT.neq (H rfl) (T1 rfl) (I rfl)) rfl ?_
  refine st (mvT rfl) rfl ?_
  apply AWl.or (d := 82) (t := 77) rfl
  ·
   intro hb1 Q1 k1
   have hb1' := lF hb1
   refine rs hb1 (mvT rfl) rfl ?_
   refine rs hb1 (mvT rfl) rfl ?_
   refine rs hb1 (OpT.c1 (ms := [.flat, .flat]) (c_impl_SameCatalogue _ _) (H rfl) (Af (T1 rfl) rfl rfl <| Af (T1 rfl) rfl rfl <| An) rfl rfl) rfl ?_
   refine rs hb1 (OpT.not (H rfl) (T1 rfl)) rfl ?_
   refine st (OpT.pickF (A := .cel _ _) (H rfl) (T1 rfl) hb1 (T1 rfl) rfl) rfl ?_
   exact AWl.to (junk 4 rfl) k1
  ·
   intro hb1 Q1 k1
   refine ps hb1 rfl ?_
   refine ps hb1 rfl ?_
   refine ps hb1 rfl ?_
   refine ps hb1 rfl ?_
   refine st (OpT.pickT (A := .cel _ _) (H rfl) (T1 rfl) hb1 Opd.bool rfl) rfl ?_
   exact k1
  refine st (mvT rfl) rfl ?_
  apply AWl.or (d := 88) (t := 83) rfl
  ·
   intro hb2 Q1 k1
   have hb2' := lF hb2
   refine rs hb2 (mvT rfl) rfl ?_
   refine rs hb2 (mvT rfl) rfl ?_
   refine rs hb2 (OpT.c1 (ms := [.flat, .flat]) (c_spec_SameCatalogue _ _) (H rfl) (Af (T1 rfl) rfl rfl <| Af (T1 rfl) rfl rfl <| An) rfl rfl) rfl ?_
   refine rs hb2 (OpT.not (H rfl) (T1 rfl)) rfl ?_
   refine st (OpT.pickF (A := .cel _ _) (H rfl) (T1 rfl) hb2 (T1 rfl) rfl) rfl ?_
   exact AWl.to (junk 4 rfl) k1
  ·
   intro hb2 Q1 k1
   refine ps hb2 rfl ?_
   refine ps hb2 rfl ?_
   refine ps hb2 rfl ?_
   refine ps hb2 rfl ?_
   refine st (OpT.pickT (A := .cel _ _) (H rfl) (T1 rfl) hb2 Opd.bool rfl) rfl ?_
   exact k1
  refine st (mvT rfl) rfl ?_
  apply AWl.or (d := 93) (t := 89) rfl
  ·
   intro hb3 Q1 k1
   have hb3' := lF hb3
   refine rs hb3 (mvT rfl) rfl ?_
   refine rs hb3 (OpT.c1 (ms := [.flat]) (c_impl_ValidCatalogue d hd.1) (H rfl) (Af (T1 rfl) rfl rfl <| An) rfl rfl) rfl ?_
   refine rs hb3 (OpT.not (H rfl) (T1 rfl)) rfl ?_
   refine st (OpT.pickF (A := .cel _ _) (H rfl) (T1 rfl) hb3 (T1 rfl) rfl) rfl ?_
   exact AWl.to (junk 3 rfl) k1
  ·
   intro hb3 Q1 k1
   refine ps hb3 rfl ?_
   refine ps hb3 rfl ?_
   refine ps hb3 rfl ?_
   refine st (OpT.pickT (A := .cel _ _) (H rfl) (T1 rfl) hb3 Opd.bool rfl) rfl ?_
   exact k1
  refine st (mvT rfl) rfl ?_
  apply AWl.or (d := 97) (t := 94) rfl
  ·
   intro hb4 Q1 k1
   have hb4' := lF hb4
   refine rs hb4 (mvT rfl) rfl ?_
   refine rs hb4 (OpT.neq (H rfl) (T1 rfl) (I rfl)) rfl ?_
   refine st (OpT.pickF (A := .cel _ _) (H rfl) (T1 rfl) hb4 (T1 rfl) rfl) rfl ?_
   exact AWl.to (junk 2 rfl) k1
  ·
   intro hb4 Q1 k1
   refine ps hb4 rfl ?_
   refine ps hb4 rfl ?_
   refine st (OpT.pickT (A := .cel _ _) (H rfl) (T1 rfl) hb4 Opd.bool rfl) rfl ?_
   exact k1
  refine st (mvT rfl) rfl ?_
  apply AWl.or (d := 101) (t := 98) rfl
  ·
   intro hb5 Q1 k1
   have hb5' := lF hb5
   refine rs hb5 (mvT rfl) rfl ?_
   refine rs hb5 (OpT.lss (H rfl) (T1 rfl) (I rfl)) rfl ?_
   refine st (OpT.pickF (A := .cel _ _) (H rfl) (T1 rfl) hb5 (T1 rfl) rfl) rfl ?_
   exact AWl.to (junk 2 rfl) k1
  ·
   intro hb5 Q1 k1
   refine ps hb5 rfl ?_
   refine ps hb5 rfl ?_
   refine st (OpT.pickT (A := .cel _ _) (H rfl) (T1 rfl) hb5 Opd.bool rfl) rfl ?_
   exact k1
  refine st (mvT rfl) rfl ?_
  apply AWl.or (d := 106) (t := 102) rfl
  ·
   intro hb6 Q1 k1
   have hb6' := lF hb6
   refine rs hb6 (mvT rfl) rfl ?_
   refine rs hb6 (mvT rfl) rfl ?_
   refine rs hb6 (OpT.geq (H rfl) (T1 rfl) (T1 rfl)) rfl ?_
   refine st (OpT.pickF (A := .cel _ _) (H rfl) (T1 rfl) hb6 (T1 rfl) rfl) rfl ?_
   exact AWl.to (junk 3 rfl) k1
  ·
   intro hb6 Q1 k1
   refine ps hb6 rfl ?_
   refine ps hb6 rfl ?_
   refine ps hb6 rfl ?_
   refine st (OpT.pickT (A := .cel _ _) (H rfl) (T1 rfl) hb6 Opd.bool rfl) rfl ?_
   exact k1
  refine st (mvT rfl) rfl ?_
  apply AWl.or (d := 114) (t := 107) rfl
  ·
   intro hb7 Q1 k1
   have hb7' := lF hb7
   refine rs hb7 (mvT rfl) rfl ?_
   refine rs hb7 (mvT rfl) rfl ?_
   refine rs hb7 (OpT.indexAddr (H rfl) (T1 rfl) (T1 rfl) el24 sz38 (by omega) (eAt_get ⟨hp0.1, hp0.2.1⟩)) rfl ?_
   refine rs hb7 (OpT.fieldAddr (H rfl) (T1 rfl) fd38_1 sz2 (by decide) sb38_1) rfl ?_
   refine rs hb7 (OpT.load (H rfl) (T1 rfl) ag2 rfl) rfl ?_
   refine rs hb7 (OpT.neq (H rfl) (T1 rfl) (I rfl)) rfl ?_
   refine st (OpT.pickF (A := .cel _ _) (H rfl) (T1 rfl) hb7 (T1 rfl) rfl) rfl ?_
   exact AWl.to (junk 6 rfl) k1
  ·
   intro hb7 Q1 k1
   refine ps hb7 rfl ?_
   refine ps hb7 rfl ?_
   refine ps hb7 rfl ?_
   refine ps hb7 rfl ?_
   refine ps hb7 rfl ?_
   refine ps hb7 rfl ?_
   refine st (OpT.pickT (A := .cel _ _) (H rfl) (T1 rfl) hb7 Opd.bool rfl) rfl ?_
   exact k1
  refine st (mvT rfl) rfl ?_
  apply AWl.or (d := 119) (t := 115) rfl
  ·
   intro hb8 Q1 k1
   have hb8' := lF hb8
   refine rs hb8 (mvT rfl) rfl ?_
   refine rs hb8 (mvT rfl) rfl ?_
   refine rs hb8 (OpT.neq (H rfl) (T1 rfl) (T1 rfl)) rfl ?_
   refine st (OpT.pickF (A := .cel _ _) (H rfl) (T1 rfl) hb8 (T1 rfl) rfl) rfl ?_
   exact AWl.to (junk 3 rfl) k1
  ·
   intro hb8 Q1 k1
   refine ps hb8 rfl ?_
   refine ps hb8 rfl ?_
   refine ps hb8 rfl ?_
   refine st (OpT.pickT (A := .cel _ _) (H rfl) (T1 rfl) hb8 Opd.bool rfl) rfl ?_
   exact k1
  refine st (mvT rfl) rfl ?_
  apply AWl.or (d := 123) (t := 120) rfl
  ·
   intro hb9 Q1 k1
   have hb9' := lF hb9
   refine rs hb9 (mvT rfl) rfl ?_
   refine rs hb9 (OpT.neq (H rfl) (T1 rfl) (I rfl)) rfl ?_
   refine st (OpT.pickF (A := .cel _ _) (H rfl) (T1 rfl) hb9 (T1 rfl) rfl) rfl ?_
   exact AWl.to (junk 2 rfl) k1
  ·
   intro hb9 Q1 k1
   refine ps hb9 rfl ?_
   refine ps hb9 rfl ?_
   refine st (OpT.pickT (A := .cel _ _) (H rfl) (T1 rfl) hb9 Opd.bool rfl) rfl ?_
   exact k1
  refine st (mvT rfl) rfl ?_
  apply AWl.or (d := 129) (t := 124) rfl
  ·
   intro hb10 Q1 k1
   have hb10' := lF hb10
   refine rs hb10 (mvT rfl) rfl ?_
   refine rs hb10 (mvT rfl) rfl ?_
   refine rs hb10 (OpT.c1 (ms := [.flat, .flat]) (c_spec_A2Same _ _) (H rfl) (Af (T1 rfl) rfl rfl <| Af (T1 rfl) rfl rfl <| An) rfl rfl) rfl ?_
   refine rs hb10 (OpT.not (H rfl) (T1 rfl)) rfl ?_
   refine st (OpT.pickF (A := .cel _ _) (H rfl) (T1 rfl) hb10 (T1 rfl) rfl) rfl ?_
   exact AWl.to (junk 4 rfl) k1
  ·
   intro hb10 Q1 k1
   refine ps hb10 rfl ?_
   refine ps hb10 rfl ?_
   refine ps hb10 rfl ?_
   refine ps hb10 rfl ?_
   refine st (OpT.pickT (A := .cel _ _) (H rfl) (T1 rfl) hb10 Opd.bool rfl) rfl ?_
   exact k1
  refine AWl.to (kc4 129 15 11 8 rfl <| kc4 7 6 5 4 rfl <| Kn) ?_
  refine ng ?_
  refine cd rfl (fun hc2 => ?_) fun hc2 => ?_
  ·
   obtain ⟨hc2, hc2'⟩ := pT hc2
   exact (show False from (by simp [eqv_self, hp0.2.2] at hc2; omega)).elim
  ·
   obtain ⟨hc2, hc2'⟩ := pF hc2
   refine AW.skip ?_
   refine AX.go ?_
   refine sr ?_
   refine st (mvT rfl) rfl ?_
   refine st (mvT rfl) rfl ?_
   refine s2 (OpT.c2 (ms := [.flat, .flat]) (c_impl_ExpandEntry d (preI d (atS y 0 (d.length : Int))) ⟨hd.1, hp0.1, hp0.2.1⟩) (H rfl) (Af (T1 rfl) rfl rfl <| Af (T1 rfl) rfl rfl <| An) rfl rfl rfl) rfl ?_
   refine st (OpT.alias (H rfl) (by decide) (by decide)) rfl ?_
   refine st (OpT.extractV (m := 10133) (H rfl) rfl rfl rfl rfl rfl rfl rfl) rfl ?_
   refine st (OpT.extractV (m := 20133) (H rfl) rfl rfl rfl rfl rfl rfl rfl) rfl ?_
   refine st (asT rfl) rfl ?_
   refine st (asT rfl) rfl ?_
   refine ng ?_
   refine sr ?_
   refine st (mvT rfl) rfl ?_
   refine st (mvT rfl) rfl ?_
   refine s2 (OpT.c2 (ms := [.flat, .flat]) (c_impl_NarrowerOf d (atS y 0 (d.length : Int)) ⟨hd.1, h0⟩) (H rfl) (Af (T1 rfl) rfl rfl <| Af (T1 rfl) rfl rfl <| An) rfl rfl rfl) rfl ?_
   refine st (OpT.alias (H rfl) (by decide) (by decide)) rfl ?_
   refine st (OpT.extractV (m := 10139) (H rfl) rfl rfl rfl rfl rfl rfl rfl) rfl ?_
   refine st (OpT.extractV (m := 20139) (H rfl) rfl rfl rfl rfl rfl rfl rfl) rfl ?_
   refine st (asT rfl) rfl ?_
   refine st (asT rfl) rfl ?_
   refine AWl.to (kc4 20 19 18 17 rfl <| kc4 15 11 8 7 rfl <| kc3 6 5 4 rfl <| Kn) ?_
   refine ng ?_
   refine sr ?_
   refine st (mvT rfl) rfl ?_
   refine st (mvT rfl) rfl ?_
   refine s2 (OpT.c2 (ms := [.flat, .flat]) (c_impl_SynonymsOf d (atS y 0 (d.length : Int)) ⟨hd.1, h0⟩) (H rfl) (Af (T1 rfl) rfl rfl <| Af (T1 rfl) rfl rfl <| An) rfl rfl rfl) rfl ?_
   refine st (OpT.alias (H rfl) (by decide) (by decide)) rfl ?_
   refine st (OpT.extractV (m := 10145) (H rfl) rfl rfl rfl rfl rfl rfl rfl) rfl ?_
   refine st (OpT.extractV (m := 20145) (H rfl) rfl rfl rfl rfl rfl rfl rfl) rfl ?_
   refine st (asT rfl) rfl ?_
   refine st (asT rfl) rfl ?_
   refine ng ?_
   refine sr ?_
   refine st (mvT rfl) rfl ?_
   refine s2 (OpT.c2 (ms := [.flat]) (c_impl_TopsOf d hd.1) (H rfl) (Af (T1 rfl) rfl rfl <| An) rfl rfl rfl) rfl ?_
   refine st (OpT.alias (H rfl) (by decide) (by decide)) rfl ?_
   refine st (OpT.extractV (m := 10150) (H rfl) rfl rfl rfl rfl rfl rfl rfl) rfl ?_
   refine st (OpT.extractV (m := 20150) (H rfl) rfl rfl rfl rfl rfl rfl rfl) rfl ?_
   refine st (asT rfl) rfl ?_
   refine st (asT rfl) rfl ?_
   refine AWl.to (kc4 24 23 22 21 rfl <| kc4 20 19 18 17 rfl <| kc4 15 11 8 7 rfl <| kc3 6 5 4 rfl <| Kn) ?_
   refine ng ?_
   refine AW.seq ?_
   refine sr ?_
   refine st (mvT rfl) rfl ?_
   refine st (OpT.neq (H rfl) (T1 rfl) (I rfl)) rfl ?_
   refine st (mvT rfl) rfl ?_
   apply AWl.or (d := 160) (t := 155) rfl
   ·
    intro hb11 Q1 k1
    have hb11' := lF hb11
    refine rs hb11 (mvT rfl) rfl ?_
    refine rs hb11 (mvT rfl) rfl ?_
    refine rs hb11 (OpT.c1 (ms := [.flat, .flat]) (c_spec_A2Same _ _) (H rfl) (Af (T1 rfl) rfl rfl <| Af (T1 rfl) rfl rfl <| An) rfl rfl) rfl ?_
    refine rs hb11 (OpT.not (H rfl) (T1 rfl)) rfl ?_
    refine st (OpT.pickF (A := .cel _ _) (H rfl) (T1 rfl) hb11 (T1 rfl) rfl) rfl ?_
    exact AWl.to (junk 4 rfl) k1
   ·
    intro hb11 Q1 k1
    refine ps hb11 rfl ?_
    refine ps hb11 rfl ?_
    refine ps hb11 rfl ?_
    refine ps hb11 rfl ?_
    refine st (OpT.pickT (A := .cel _ _) (H rfl) (T1 rfl) hb11 Opd.bool rfl) rfl ?_
    exact k1
   refine st (mvT rfl) rfl ?_
   apply AWl.or (d := 164) (t := 161) rfl
   ·
    intro hb12 Q1 k1
    have hb12' := lF hb12
    refine rs hb12 (mvT rfl) rfl ?_
    refine rs hb12 (OpT.neq (H rfl) (T1 rfl) (I rfl)) rfl ?_
    refine st (OpT.pickF (A := .cel _ _) (H rfl) (T1 rfl) hb12 (T1 rfl) rfl) rfl ?_
    exact AWl.to (junk 2 rfl) k1
   ·
    intro hb12 Q1 k1
    refine ps hb12 rfl ?_
    refine ps hb12 rfl ?_
    refine st (OpT.pickT (A := .cel _ _) (H rfl) (T1 rfl) hb12 Opd.bool rfl) rfl ?_
    exact k1
   refine st (mvT rfl) rfl ?_
   apply AWl.or (d := 168) (t := 165) rfl
   ·
    intro hb13 Q1 k1
    have hb13' := lF hb13
    refine rs hb13 (mvT rfl) rfl ?_
    refine rs hb13 (OpT.neq (H rfl) (T1 rfl) (I rfl)) rfl ?_
    refine st (OpT.pickF (A := .cel _ _) (H rfl) (T1 rfl) hb13 (T1 rfl) rfl) rfl ?_
    exact AWl.to (junk 2 rfl) k1
   ·
    intro hb13 Q1 k1
    refine ps hb13 rfl ?_
    refine ps hb13 rfl ?_
    refine st (OpT.pickT (A := .cel _ _) (H rfl) (T1 rfl) hb13 Opd.bool rfl) rfl ?_
    exact k1
   refine st (mvT rfl) rfl ?_
   apply AWl.or (d := 172) (t := 169) rfl
   ·
    intro hb14 Q1 k1
    have hb14' := lF hb14
    refine rs hb14 (mvT rfl) rfl ?_
    refine rs hb14 (OpT.neq (H rfl) (T1 rfl) (I rfl)) rfl ?_
    refine st (OpT.pickF (A := .cel _ _) (H rfl) (T1 rfl) hb14 (T1 rfl) rfl) rfl ?_
    exact AWl.to (junk 2 rfl) k1
   ·
    intro hb14 Q1 k1
    refine ps hb14 rfl ?_
    refine ps hb14 rfl ?_
    refine st (OpT.pickT (A := .cel _ _) (H rfl) (T1 rfl) hb14 Opd.bool rfl) rfl ?_
    exact k1
   refine AWl.to (kc4 172 23 21 19 rfl <| kc4 15 11 8 7 rfl <| kc3 6 5 4 rfl <| Kn) ?_
   refine ng ?_
   refine cd rfl (fun hc3 => ?_) fun hc3 => ?_
   ·
    obtain ⟨hc3, hc3'⟩ := pT hc3
    exact (show False from (by rw [hs0] at hc3; simp [eqv_self] at hc3)).elim
   ·
    obtain ⟨hc3, hc3'⟩ := pF hc3
    refine AW.skip ?_
    refine AX.go ?_
    refine AW.seq ?_
    refine sr ?_
    refine st (asI rfl) rfl ?_
    refine ng ?_
    refine AW.block ?_
    refine AW.loop (fun m : Nat => m ≤ d.length) (fun m : Nat => keep [(5, .cel (Kd.slice kEnt) d), (6, .cel (Kd.int .i64) (d.length : Int)), (7, .cel (Kd.int .i64) (atS y 0 (d.length : Int))), (8, .cel (Kd.int .i64) (atS y 1 (d.length : Int))), (11, .cel (Kd.int .i64) (preI d (atS y 0 (d.length : Int)))), (15, .cel (Kd.slice (Kd.int .i64)) (expE d (atS y 0 (d.length : Int)))), (19, .cel (Kd.slice (Kd.int .i64)) (narP d (atS y 0 (d.length : Int)))), (21, .cel (Kd.slice (Kd.int .i64)) (synP d (atS y 0 (d.length : Int)))), (23, .cel (Kd.slice (Kd.int .i64)) (topP d)), (25, .cel (Kd.int .i64) (m : Int))]) (fun m : Nat => d.length - m) (0) (Nat.zero_le _) (Kc 5 _ (Kv rfl rfl) <| Kc 6 _ (Kv rfl rfl) <| Kc 7 _ (Kv rfl rfl) <| Kc 8 _ (Kv rfl rfl) <| Kc 11 _ (Kv rfl rfl) <| Kc 15 _ (Kv rfl rfl) <| Kc 19 _ (Kv rfl rfl) <| Kc 21 _ (Kv rfl rfl) <| Kc 23 _ (Kv rfl rfl) <| Kc 25 _ (Kv rfl rfl) <| Kn) ?_
    intro m hI
    refine AW.seq ?_
    refine sr ?_
    refine st (mvT rfl) rfl ?_
    refine st (mvT rfl) rfl ?_
    refine st (OpT.lss (H rfl) (T1 rfl) (T1 rfl)) rfl ?_
    refine ng ?_
    refine cd rfl (fun hc4 => ?_) fun hc4 => ?_
    ·
     obtain ⟨hc4, hc4'⟩ := pT hc4
     have hm : m < d.length := by omega
     have hpl := pthE_len hd.1 (i := (m : Int)) (by omega)
     obtain ⟨w, hw, hwt⟩ := top_has hd.1 (m := (m : Int)) (by omega)
     have hxh := exp_has hm (atS y 0 (d.length : Int))
     have hnh := nar_has hd.1 hm (atS y 0 (d.length : Int))
     have hyh := syn_has hm (atS y 0 (d.length : Int))
     refine AW.skip ?_
     refine AX.go ?_
     refine AW.seq ?_
     refine AW.block ?_
     refine sr ?_
     refine st (mvT rfl) rfl ?_
     refine st (mvT rfl) rfl ?_
     refine s2 (OpT.c2 (ms := [.flat, .flat]) (c_impl_PathUp d (m : Int) ⟨hd.1, by omega, by omega⟩) (H rfl) (Af (T1 rfl) rfl rfl <| Af (T1 rfl) rfl rfl <| An) rfl rfl rfl) rfl ?_
     refine st (OpT.alias (H rfl) (by decide) (by decide)) rfl ?_
     refine st (OpT.extractV (m := 10181) (H rfl) rfl rfl rfl rfl rfl rfl rfl) rfl ?_
     refine st (OpT.extractV (m := 20181) (H rfl) rfl rfl rfl rfl rfl rfl rfl) rfl ?_
     refine st (asT rfl) rfl ?_
     refine st (asT rfl) rfl ?_
     refine ng ?_
     refine AW.seq ?_
     refine sr ?_
     refine st (mvT rfl) rfl ?_
     refine st (OpT.neq (H rfl) (T1 rfl) (I rfl)) rfl ?_
     refine st (mvT rfl) rfl ?_
     apply AWl.or (d := 190) (t := 186) rfl
     ·
      intro hb15 Q1 k1
      have hb15' := lF hb15
      refine rs hb15 (mvT rfl) rfl ?_
      refine rs hb15 (OpT.len (H rfl) (T1 rfl) el32) rfl ?_
      refine rs hb15 (OpT.eql (H rfl) (T1 rfl) (I rfl)) rfl ?_
      refine st (OpT.pickF (A := .cel _ _) (H rfl) (T1 rfl) hb15 (T1 rfl) rfl) rfl ?_
      exact AWl.to (junk 3 rfl) k1
     ·
      intro hb15 Q1 k1
      refine ps hb15 rfl ?_
      refine ps hb15 rfl ?_
      refine ps hb15 rfl ?_
      refine st (OpT.pickT (A := .cel _ _) (H rfl) (T1 rfl) hb15 Opd.bool rfl) rfl ?_
      exact k1
     refine st (mvT rfl) rfl ?_
     apply AWl.or (d := 201) (t := 191) rfl
     ·
      intro hb16 Q1 k1
      have hb16' := lF hb16
      refine rs hb16 (mvT rfl) rfl ?_
      refine rs hb16 (mvT rfl) rfl ?_
      refine rs hb16 (mvT rfl) rfl ?_
      refine rs hb16 (OpT.len (H rfl) (T1 rfl) el32) rfl ?_
      refine rs hb16 (OpT.sub (H rfl) (T1 rfl) (I rfl) (nw (by omega))) rfl ?_
      refine rs hb16 (OpT.indexAddr (H rfl) (T1 rfl) (T1 rfl) el32 sz2 (by omega) hw) rfl ?_
      refine rs hb16 (OpT.load (H rfl) (T1 rfl) ag2 rfl) rfl ?_
      refine rs hb16 (OpT.c1 (ms := [.flat, .flat]) (c_spec_A2Has _ _) (H rfl) (Af (T1 rfl) rfl rfl <| Af (T1 rfl) rfl rfl <| An) rfl rfl) rfl ?_
      refine rs hb16 (OpT.not (H rfl) (T1 rfl)) rfl ?_
      refine st (OpT.pickF (A := .cel _ _) (H rfl) (T1 rfl) hb16 (T1 rfl) rfl) rfl ?_
      exact AWl.to (junk 9 rfl) k1
     ·
      intro hb16 Q1 k1
      refine ps hb16 rfl ?_
      refine ps hb16 rfl ?_
      refine ps hb16 rfl ?_
      refine ps hb16 rfl ?_
      refine ps hb16 rfl ?_
      refine ps hb16 rfl ?_
      refine ps hb16 rfl ?_
      refine ps hb16 rfl ?_
      refine ps hb16 rfl ?_
      refine st (OpT.pickT (A := .cel _ _) (H rfl) (T1 rfl) hb16 Opd.bool rfl) rfl ?_
      exact k1
     refine st (mvT rfl) rfl ?_
     apply AWl.or (d := 210) (t := 202) rfl
     ·
      intro hb17 Q1 k1
      have hb17' := lF hb17
      refine rs hb17 (mvT rfl) rfl ?_
      refine rs hb17 (mvT rfl) rfl ?_
      refine rs hb17 (OpT.c1 (ms := [.flat, .flat]) (c_spec_A2Has _ _) (H rfl) (Af (T1 rfl) rfl rfl <| Af (T1 rfl) rfl rfl <| An) rfl rfl) rfl ?_
      refine rs hb17 (mvT rfl) rfl ?_
      refine rs hb17 (mvT rfl) rfl ?_
      refine rs hb17 (OpT.c1 (ms := [.flat, .flat]) (c_spec_A2Has _ _) (H rfl) (Af (T1 rfl) rfl rfl <| Af (T1 rfl) rfl rfl <| An) rfl rfl) rfl ?_
      refine rs hb17 (OpT.bneq (H rfl) Tryd.underlying4 (T1 rfl) (T1 rfl)) rfl ?_
      refine st (OpT.pickF (A := .cel _ _) (H rfl) (T1 rfl) hb17 (T1 rfl) rfl) rfl ?_
      exact AWl.to (junk 7 rfl) k1
     ·
      intro hb17 Q1 k1
      refine ps hb17 rfl ?_
      refine ps hb17 rfl ?_
      refine ps hb17 rfl ?_
      refine ps hb17 rfl ?_
      refine ps hb17 rfl ?_
      refine ps hb17 rfl ?_
      refine ps hb17 rfl ?_
      refine st (OpT.pickT (A := .cel _ _) (H rfl) (T1 rfl) hb17 Opd.bool rfl) rfl ?_
      exact k1
     refine ng ?_
     refine cd rfl (fun hc5 => ?_) fun hc5 => ?_
     ·
      obtain ⟨hc5, hc5'⟩ := pT hc5
      exact (show False from (by rw [hwt, hxh] at hc5; simp [expR] at hc5; rw [hc5] at hpl; simp at hpl)).elim
     ·
      obtain ⟨hc5, hc5'⟩ := pF hc5
      refine AW.skip ?_
      refine AX.go ?_
      refine AW.seq ?_
      rcases Bool.eq_false_or_eq_true ((eAt d (m : Int)).2.1 == (-1 : Int)) with hd1 | hd1
      ·
       have hd1' := lT hd1
       rcases Bool.eq_false_or_eq_true ((m : Int) != (preI d (atS y 0 (d.length : Int)))) with hd2 | hd2
       ·
        have hd2' := lT hd2
        have hd3 : (!((hasV (m : Int) (narP d (atS y 0 (d.length : Int)))) == (hasV (preI d (atS y 0 (d.length : Int))) (pthE d (m : Int))))) = false := (by rw [hnh]; first | (simp [hd1, hd2]; done) | (simp [hd1]; done) | (simp_all; done))
        refine dhm [0, 0, 3, 0, 0, 24, 56, 120, 248, 511, 1023, 1023, 4095, 8191, 16383, 32767, 32767, 131071, 262143, 524287, 1048575, 2097151, 2097151, 8388607, 2097151, 2097151, 52428799, 119537663, 253755391, 2097151, 1059061759, 2147483647, 4294967295] [] fomo ?_
        refine d1 [19] (fun ve h => OpT.move (A := .cel _ _) (.inl rfl) rfl (ok' rfl) (D1 h rfl) rfl) rfl ?_
        refine d1 [25] (fun ve h => OpT.move (A := .cel _ _) (.inl rfl) rfl (ok' rfl) (D1 h rfl) rfl) rfl ?_
        refine d1 [211, 212] (fun ve h => OpT.c1 (ms := [.flat, .flat]) (c_spec_A2Has _ _) (H rfl) (Af (D1 h rfl) rfl rfl <| Af (D1 h rfl) rfl rfl <| An) rfl rfl) rfl ?_
        refine d1 [5] (fun ve h => OpT.move (A := .cel _ _) (.inl rfl) rfl (ok' rfl) (D1 h rfl) rfl) rfl ?_
        refine d1 [25] (fun ve h => OpT.move (A := .cel _ _) (.inl rfl) rfl (ok' rfl) (D1 h rfl) rfl) rfl ?_
        refine d1 [214, 215] (fun ve h => OpT.indexAddr (H rfl) (D1 h rfl) (D1 h rfl) el24 sz38 (by omega) (eAt_get (by omega))) rfl ?_
        refine d1 [216] (fun ve h => OpT.fieldAddr (H rfl) (D1 h rfl) fd38_1 sz2 (by decide) sb38_1) rfl ?_
        refine d1 [217] (fun ve h => OpT.load (H rfl) (D1 h rfl) ag2 rfl) rfl ?_
        refine d1 [218] (fun ve h => OpT.eql (H rfl) (D1 h rfl) (I rfl)) rfl ?_
        refine d1 [219] (fun ve h => OpT.move (A := .cel _ _) (.inl rfl) rfl (ok' rfl) (D1 h rfl) rfl) rfl ?_
        refine dr [25, 220] hd1 (fun ve h => OpT.move (A := .cel _ _) (.inl rfl) rfl (ok' rfl) (D1 h rfl) rfl) rfl ?_
        refine dr [11, 220] hd1 (fun ve h => OpT.move (A := .cel _ _) (.inl rfl) rfl (ok' rfl) (D1 h rfl) rfl) rfl ?_
        refine dr [220, 221, 222] hd1 (fun ve h => OpT.neq (H rfl) (D1 h rfl) (D1 h rfl)) rfl ?_
        refine d1 [220, 223] (fun ve h => OpT.pickT (A := .cel _ _) (H rfl) (D1 h rfl) hd1 (D1 h rfl) rfl) rfl ?_
        refine d1 [224] (fun ve h => OpT.move (A := .cel _ _) (.inl rfl) rfl (ok' rfl) (D1 h rfl) rfl) rfl ?_
        refine dr [26, 225] hd2 (fun ve h => OpT.move (A := .cel _ _) (.inl rfl) rfl (ok' rfl) (D1 h rfl) rfl) rfl ?_
        refine dr [11, 225] hd2 (fun ve h => OpT.move (A := .cel _ _) (.inl rfl) rfl (ok' rfl) (D1 h rfl) rfl) rfl ?_
        refine dr [225, 226, 227] hd2 (fun ve h => OpT.c1 (ms := [.flat, .flat]) (c_spec_A2Has _ _) (H rfl) (Af (D1 h rfl) rfl rfl <| Af (D1 h rfl) rfl rfl <| An) rfl rfl) rfl ?_
        refine d1 [225, 228] (fun ve h => OpT.pickT (A := .cel _ _) (H rfl) (D1 h rfl) hd2 (D1 h rfl) rfl) rfl ?_
        refine d1 [213, 229] (fun ve h => OpT.bneq (H rfl) Tryd.underlying4 (D1 h rfl) (D1 h rfl)) rfl ?_
        refine d1 [230] (fun ve h => OpT.move (A := .cel _ _) (.inl rfl) rfl (ok' rfl) (D1 h rfl) rfl) rfl ?_
        refine dr [21, 231] hd3 (fun ve h => OpT.move (A := .cel _ _) (.inl rfl) rfl (ok' rfl) (D1 h rfl) rfl) rfl ?_
        refine dr [25, 231] hd3 (fun ve h => OpT.move (A := .cel _ _) (.inl rfl) rfl (ok' rfl) (D1 h rfl) rfl) rfl ?_
        refine dr [231, 232, 233] hd3 (fun ve h => OpT.c1 (ms := [.flat, .flat]) (c_spec_A2Has _ _) (H rfl) (Af (D1 h rfl) rfl rfl <| Af (D1 h rfl) rfl rfl <| An) rfl rfl) rfl ?_
        refine dr [5, 231] hd3 (fun ve h => OpT.move (A := .cel _ _) (.inl rfl) rfl (ok' rfl) (D1 h rfl) rfl) rfl ?_
        refine dr [25, 231] hd3 (fun ve h => OpT.move (A := .cel _ _) (.inl rfl) rfl (ok' rfl) (D1 h rfl) rfl) rfl ?_
        refine dr [231, 235, 236] hd3 (fun ve h => OpT.indexAddr (H rfl) (D1 h rfl) (D1 h rfl) el24 sz38 (by omega) (eAt_get (by omega))) rfl ?_
        refine dr [231, 237] hd3 (fun ve h => OpT.fieldAddr (H rfl) (D1 h rfl) fd38_1 sz2 (by decide) sb38_1) rfl ?_
        refine dr [231, 238] hd3 (fun ve h => OpT.load (H rfl) (D1 h rfl) ag2 rfl) rfl ?_
        refine dr [11, 231] hd3 (fun ve h => OpT.move (A := .cel _ _) (.inl rfl) rfl (ok' rfl) (D1 h rfl) rfl) rfl ?_
        refine dr [231, 239, 240] hd3 (fun ve h => OpT.eql (H rfl) (D1 h rfl) (D1 h rfl)) rfl ?_
        refine dr [231, 234, 241] hd3 (fun ve h => OpT.bneq (H rfl) Tryd.underlying4 (D1 h rfl) (D1 h rfl)) rfl ?_
        refine d1 [231, 242] (fun ve h => OpT.pickF (A := .cel _ _) (H rfl) (D1 h rfl) hd3 (D1 h rfl) rfl) rfl ?_
        refine dn ⟨by kernel_rfl, by kernel_rfl, ?_⟩
        refine AX.go ?_
        refine cd rfl (fun hc6 => ?_) fun hc6 => ?_
        ·
         obtain ⟨hc6, hc6'⟩ := pT hc6
         exact (show False from (by rw [hyh] at hc6; simp at hc6)).elim
        ·
         obtain ⟨hc6, hc6'⟩ := pF hc6
         refine AW.skip ?_
         refine AX.normal_block ?_
         refine AX.go ?_
         refine AW.region ?_
         refine st (mvT rfl) rfl ?_
         refine st (OpT.add (H rfl) (T1 rfl) (I rfl) (nw (by omega))) rfl ?_
         refine st (asT rfl) rfl ?_
         refine nn ?_
         exact AX.again (m + 1) (by omega) (by omega) (Kc 5 _ (Kv rfl rfl) <| Kc 6 _ (Kv rfl rfl) <| Kc 7 _ (Kv rfl rfl) <| Kc 8 _ (Kv rfl rfl) <| Kc 11 _ (Kv rfl rfl) <| Kc 15 _ (Kv rfl rfl) <| Kc 19 _ (Kv rfl rfl) <| Kc 21 _ (Kv rfl rfl) <| Kc 23 _ (Kv rfl rfl) <| Kc 25 _ (Kv rfl (by omega)) <| Kn)
       ·
        have hd2' := lF hd2
        have hd4 : (!((hasV (m : Int) (narP d (atS y 0 (d.length : Int)))) == false)) = false := (by rw [hnh]; first | (simp [hd1, hd2]; done) | (simp [hd1]; done) | (simp_all; done))
        refine dhm [0, 0, 3, 0, 0, 24, 56, 120, 248, 511, 1023, 1023, 4095, 8191, 16383, 32767, 32767, 131071, 262143, 524287, 1048575, 2097151, 2097151, 8388607, 2097151, 2097151, 52428799, 119537663, 253755391, 2097151, 1059061759, 2147483647, 4294967295] [] fomo ?_
        refine d1 [19] (fun ve h => OpT.move (A := .cel _ _) (.inl rfl) rfl (ok' rfl) (D1 h rfl) rfl) rfl ?_
        refine d1 [25] (fun ve h => OpT.move (A := .cel _ _) (.inl rfl) rfl (ok' rfl) (D1 h rfl) rfl) rfl ?_
        refine d1 [211, 212] (fun ve h => OpT.c1 (ms := [.flat, .flat]) (c_spec_A2Has _ _) (H rfl) (Af (D1 h rfl) rfl rfl <| Af (D1 h rfl) rfl rfl <| An) rfl rfl) rfl ?_
        refine d1 [5] (fun ve h => OpT.move (A := .cel _ _) (.inl rfl) rfl (ok' rfl) (D1 h rfl) rfl) rfl ?_
        refine d1 [25] (fun ve h => OpT.move (A := .cel _ _) (.inl rfl) rfl (ok' rfl) (D1 h rfl) rfl) rfl ?_
        refine d1 [214, 215] (fun ve h => OpT.indexAddr (H rfl) (D1 h rfl) (D1 h rfl) el24 sz38 (by omega) (eAt_get (by omega))) rfl ?_
        refine d1 [216] (fun ve h => OpT.fieldAddr (H rfl) (D1 h rfl) fd38_1 sz2 (by decide) sb38_1) rfl ?_
        refine d1 [217] (fun ve h => OpT.load (H rfl) (D1 h rfl) ag2 rfl) rfl ?_
        refine d1 [218] (fun ve h => OpT.eql (H rfl) (D1 h rfl) (I rfl)) rfl ?_
        refine d1 [219] (fun ve h => OpT.move (A := .cel _ _) (.inl rfl) rfl (ok' rfl) (D1 h rfl) rfl) rfl ?_
        refine dr [25, 220] hd1 (fun ve h => OpT.move (A := .cel _ _) (.inl rfl) rfl (ok' rfl) (D1 h rfl) rfl) rfl ?_
        refine dr [11, 220] hd1 (fun ve h => OpT.move (A := .cel _ _) (.inl rfl) rfl (ok' rfl) (D1 h rfl) rfl) rfl ?_
        refine dr [220, 221, 222] hd1 (fun ve h => OpT.neq (H rfl) (D1 h rfl) (D1 h rfl)) rfl ?_
        refine d1 [220, 223] (fun ve h => OpT.pickT (A := .cel _ _) (H rfl) (D1 h rfl) hd1 (D1 h rfl) rfl) rfl ?_
        refine d1 [224] (fun ve h => OpT.move (A := .cel _ _) (.inl rfl) rfl (ok' rfl) (D1 h rfl) rfl) rfl ?_
        refine dp hd2 rfl ?_
        refine dp hd2 rfl ?_
        refine dp hd2 rfl ?_
        refine d1 [225] (fun ve h => OpT.pickF (A := .cel _ _) (H rfl) (D1 h rfl) hd2 Opd.bool rfl) rfl ?_
        refine d1 [213, 229] (fun ve h => OpT.bneq (H rfl) Tryd.underlying4 (D1 h rfl) (D1 h rfl)) rfl ?_
        refine d1 [230] (fun ve h => OpT.move (A := .cel _ _) (.inl rfl) rfl (ok' rfl) (D1 h rfl) rfl) rfl ?_
        refine dr [21, 231] hd4 (fun ve h => OpT.move (A := .cel _ _) (.inl rfl) rfl (ok' rfl) (D1 h rfl) rfl) rfl ?_
        refine dr [25, 231] hd4 (fun ve h => OpT.move (A := .cel _ _) (.inl rfl) rfl (ok' rfl) (D1 h rfl) rfl) rfl ?_
        refine dr [231, 232, 233] hd4 (fun ve h => OpT.c1 (ms := [.flat, .flat]) (c_spec_A2Has _ _) (H rfl) (Af (D1 h rfl) rfl rfl <| Af (D1 h rfl) rfl rfl <| An) rfl rfl) rfl ?_
        refine dr [5, 231] hd4 (fun ve h => OpT.move (A := .cel _ _) (.inl rfl) rfl (ok' rfl) (D1 h rfl) rfl) rfl ?_
        refine dr [25, 231] hd4 (fun ve h => OpT.move (A := .cel _ _) (.inl rfl) rfl (ok' rfl) (D1 h rfl) rfl) rfl ?_
        refine dr [231, 235, 236] hd4 (fun ve h => OpT.indexAddr (H rfl) (D1 h rfl) (D1 h rfl) el24 sz38 (by omega) (eAt_get (by omega))) rfl ?_
        refine dr [231, 237] hd4 (fun ve h => OpT.fieldAddr (H rfl) (D1 h rfl) fd38_1 sz2 (by decide) sb38_1) rfl ?_
        refine dr [231, 238] hd4 (fun ve h => OpT.load (H rfl) (D1 h rfl) ag2 rfl) rfl ?_
        refine dr [11, 231] hd4 (fun ve h => OpT.move (A := .cel _ _) (.inl rfl) rfl (ok' rfl) (D1 h rfl) rfl) rfl ?_
        refine dr [231, 239, 240] hd4 (fun ve h => OpT.eql (H rfl) (D1 h rfl) (D1 h rfl)) rfl ?_
        refine dr [231, 234, 241] hd4 (fun ve h => OpT.bneq (H rfl) Tryd.underlying4 (D1 h rfl) (D1 h rfl)) rfl ?_
        refine d1 [231, 242] (fun ve h => OpT.pickF (A := .cel _ _) (H rfl) (D1 h rfl) hd4 (D1 h rfl) rfl) rfl ?_
        refine dn ⟨by kernel_rfl, by kernel_rfl, ?_⟩
        refine AX.go ?_
        refine cd rfl (fun hc7 => ?_) fun hc7 => ?_
        ·
         obtain ⟨hc7, hc7'⟩ := pT hc7
         exact (show False from (by rw [hyh] at hc7; simp at hc7)).elim
        ·
         obtain ⟨hc7, hc7'⟩ := pF hc7
         refine AW.skip ?_
         refine AX.normal_block ?_
         refine AX.go ?_
         refine AW.region ?_
         refine st (mvT rfl) rfl ?_
         refine st (OpT.add (H rfl) (T1 rfl) (I rfl) (nw (by omega))) rfl ?_
         refine st (asT rfl) rfl ?_
         refine nn ?_
         exact AX.again (m + 1) (by omega) (by omega) (Kc 5 _ (Kv rfl rfl) <| Kc 6 _ (Kv rfl rfl) <| Kc 7 _ (Kv rfl rfl) <| Kc 8 _ (Kv rfl rfl) <| Kc 11 _ (Kv rfl rfl) <| Kc 15 _ (Kv rfl rfl) <| Kc 19 _ (Kv rfl rfl) <| Kc 21 _ (Kv rfl rfl) <| Kc 23 _ (Kv rfl rfl) <| Kc 25 _ (Kv rfl (by omega)) <| Kn)
      ·
       have hd1' := lF hd1
       have hd5 : (!((hasV (m : Int) (narP d (atS y 0 (d.length : Int)))) == false)) = false := (by rw [hnh]; first | (simp [hd1, hd2]; done) | (simp [hd1]; done) | (simp_all; done))
       refine dhm [0, 0, 3, 0, 0, 24, 56, 120, 248, 511, 1023, 1023, 4095, 8191, 16383, 32767, 32767, 131071, 262143, 524287, 1048575, 2097151, 2097151, 8388607, 2097151, 2097151, 52428799, 119537663, 253755391, 2097151, 1059061759, 2147483647, 4294967295] [] fomo ?_
       refine d1 [19] (fun ve h => OpT.move (A := .cel _ _) (.inl rfl) rfl (ok' rfl) (D1 h rfl) rfl) rfl ?_
       refine d1 [25] (fun ve h => OpT.move (A := .cel _ _) (.inl rfl) rfl (ok' rfl) (D1 h rfl) rfl) rfl ?_
       refine d1 [211, 212] (fun ve h => OpT.c1 (ms := [.flat, .flat]) (c_spec_A2Has _ _) (H rfl) (Af (D1 h rfl) rfl rfl <| Af (D1 h rfl) rfl rfl <| An) rfl rfl) rfl ?_
       refine d1 [5] (fun ve h => OpT.move (A := .cel _ _) (.inl rfl) rfl (ok' rfl) (D1 h rfl) rfl) rfl ?_
       refine d1 [25] (fun ve h => OpT.move (A := .cel _ _) (.inl rfl) rfl (ok' rfl) (D1 h rfl) rfl) rfl ?_
       refine d1 [214, 215] (fun ve h => OpT.indexAddr (H rfl) (D1 h rfl) (D1 h rfl) el24 sz38 (by omega) (eAt_get (by omega))) rfl ?_
       refine d1 [216] (fun ve h => OpT.fieldAddr (H rfl) (D1 h rfl) fd38_1 sz2 (by decide) sb38_1) rfl ?_
       refine d1 [217] (fun ve h => OpT.load (H rfl) (D1 h rfl) ag2 rfl) rfl ?_
       refine d1 [218] (fun ve h => OpT.eql (H rfl) (D1 h rfl) (I rfl)) rfl ?_
       refine d1 [219] (fun ve h => OpT.move (A := .cel _ _) (.inl rfl) rfl (ok' rfl) (D1 h rfl) rfl) rfl ?_
       refine dp hd1 rfl ?_
       refine dp hd1 rfl ?_
       refine dp hd1 rfl ?_
       refine d1 [220] (fun ve h => OpT.pickF (A := .cel _ _) (H rfl) (D1 h rfl) hd1 Opd.bool rfl) rfl ?_
       refine d1 [224] (fun ve h => OpT.move (A := .cel _ _) (.inl rfl) rfl (ok' rfl) (D1 h rfl) rfl) rfl ?_
       refine dp rfl rfl ?_
       refine dp rfl rfl ?_
       refine dp rfl rfl ?_
       refine d1 [225] (fun ve h => OpT.pickF (A := .cel _ _) (H rfl) (D1 h rfl) rfl Opd.bool rfl) rfl ?_
       refine d1 [213, 229] (fun ve h => OpT.bneq (H rfl) Tryd.underlying4 (D1 h rfl) (D1 h rfl)) rfl ?_
       refine d1 [230] (fun ve h => OpT.move (A := .cel _ _) (.inl rfl) rfl (ok' rfl) (D1 h rfl) rfl) rfl ?_
       refine dr [21, 231] hd5 (fun ve h => OpT.move (A := .cel _ _) (.inl rfl) rfl (ok' rfl) (D1 h rfl) rfl) rfl ?_
       refine dr [25, 231] hd5 (fun ve h => OpT.move (A := .cel _ _) (.inl rfl) rfl (ok' rfl) (D1 h rfl) rfl) rfl ?_
       refine dr [231, 232, 233] hd5 (fun ve h => OpT.c1 (ms := [.flat, .flat]) (c_spec_A2Has _ _) (H rfl) (Af (D1 h rfl) rfl rfl <| Af (D1 h rfl) rfl rfl <| An) rfl rfl) rfl ?_
       refine dr [5, 231] hd5 (fun ve h => OpT.move (A := .cel _ _) (.inl rfl) rfl (ok' rfl) (D1 h rfl) rfl) rfl ?_
       refine dr [25, 231] hd5 (fun ve h => OpT.move (A := .cel _ _) (.inl rfl) rfl (ok' rfl) (D1 h rfl) rfl) rfl ?_
       refine dr [231, 235, 236] hd5 (fun ve h => OpT.indexAddr (H rfl) (D1 h rfl) (D1 h rfl) el24 sz38 (by omega) (eAt_get (by omega))) rfl ?_
       refine dr [231, 237] hd5 (fun ve h => OpT.fieldAddr (H rfl) (D1 h rfl) fd38_1 sz2 (by decide) sb38_1) rfl ?_
       refine dr [231, 238] hd5 (fun ve h => OpT.load (H rfl) (D1 h rfl) ag2 rfl) rfl ?_
       refine dr [11, 231] hd5 (fun ve h => OpT.move (A := .cel _ _) (.inl rfl) rfl (ok' rfl) (D1 h rfl) rfl) rfl ?_
       refine dr [231, 239, 240] hd5 (fun ve h => OpT.eql (H rfl) (D1 h rfl) (D1 h rfl)) rfl ?_
       refine dr [231, 234, 241] hd5 (fun ve h => OpT.bneq (H rfl) Tryd.underlying4 (D1 h rfl) (D1 h rfl)) rfl ?_
       refine d1 [231, 242] (fun ve h => OpT.pickF (A := .cel _ _) (H rfl) (D1 h rfl) hd5 (D1 h rfl) rfl) rfl ?_
       refine dn ⟨by kernel_rfl, by kernel_rfl, ?_⟩
       refine AX.go ?_
       refine cd rfl (fun hc8 => ?_) fun hc8 => ?_
       ·
        obtain ⟨hc8, hc8'⟩ := pT hc8
        exact (show False from (by rw [hyh] at hc8; simp at hc8)).elim
       ·
        obtain ⟨hc8, hc8'⟩ := pF hc8
        refine AW.skip ?_
        refine AX.normal_block ?_
        refine AX.go ?_
        refine AW.region ?_
        refine st (mvT rfl) rfl ?_
        refine st (OpT.add (H rfl) (T1 rfl) (I rfl) (nw (by omega))) rfl ?_
        refine st (asT rfl) rfl ?_
        refine nn ?_
        exact AX.again (m + 1) (by omega) (by omega) (Kc 5 _ (Kv rfl rfl) <| Kc 6 _ (Kv rfl rfl) <| Kc 7 _ (Kv rfl rfl) <| Kc 8 _ (Kv rfl rfl) <| Kc 11 _ (Kv rfl rfl) <| Kc 15 _ (Kv rfl rfl) <| Kc 19 _ (Kv rfl rfl) <| Kc 21 _ (Kv rfl rfl) <| Kc 23 _ (Kv rfl rfl) <| Kc 25 _ (Kv rfl (by omega)) <| Kn)
    ·
     obtain ⟨hc4, hc4'⟩ := pF hc4
     refine AW.exit ?_
     refine xT <| xT <| AX.exit_hit ?_
     refine AX.go ?_
     refine sr ?_
     refine st (mvT rfl) rfl ?_
     refine st (mvT rfl) rfl ?_
     refine st (mvT rfl) rfl ?_
     refine s2 (OpT.c2 (ms := [.flat, .flat, .flat]) (c_impl_CommonBroader d (atS y 0 (d.length : Int)) (atS y 1 (d.length : Int)) ⟨hd.1, h0, h1⟩) (H rfl) (Af (T1 rfl) rfl rfl <| Af (T1 rfl) rfl rfl <| Af (T1 rfl) rfl rfl <| An) rfl rfl rfl) rfl ?_
     refine st (OpT.alias (H rfl) (by decide) (by decide)) rfl ?_
     refine st (OpT.extractV (m := 10248) (H rfl) rfl rfl rfl rfl rfl rfl rfl) rfl ?_
     refine st (OpT.extractV (m := 20248) (H rfl) rfl rfl rfl rfl rfl rfl rfl) rfl ?_
     refine st (asT rfl) rfl ?_
     refine st (asT rfl) rfl ?_
     refine AWl.to (kc4 29 28 5 7 rfl <| kc 8 rfl <| Kn) ?_
     refine ng ?_
     refine sr ?_
     refine st (mvT rfl) rfl ?_
     refine st (mvT rfl) rfl ?_
     refine st (mvT rfl) rfl ?_
     refine s2 (OpT.c2 (ms := [.flat, .flat, .flat]) (c_spec_CommonBroader d (atS y 0 (d.length : Int)) (atS y 1 (d.length : Int)) ⟨hd.1, h0, h1⟩) (H rfl) (Af (T1 rfl) rfl rfl <| Af (T1 rfl) rfl rfl <| Af (T1 rfl) rfl rfl <| An) rfl rfl rfl) rfl ?_
     refine st (OpT.alias (H rfl) (by decide) (by decide)) rfl ?_
     refine st (OpT.extractV (m := 10255) (H rfl) rfl rfl rfl rfl rfl rfl rfl) rfl ?_
     refine st (OpT.extractV (m := 20255) (H rfl) rfl rfl rfl rfl rfl rfl rfl) rfl ?_
     refine st (asT rfl) rfl ?_
     refine st (asT rfl) rfl ?_
     refine ng ?_
     refine sr ?_
     refine st (mvT rfl) rfl ?_
     refine st (mvT rfl) rfl ?_
     refine st (mvT rfl) rfl ?_
     refine st (OpT.indexAddr (H rfl) (T1 rfl) (T1 rfl) el24 sz38 (by omega) (eAt_get h0)) rfl ?_
     refine st (OpT.fieldAddr (H rfl) (T1 rfl) fd38_0 sz9 (by decide) sb38_0) rfl ?_
     refine st (OpT.load (H rfl) (T1 rfl) ag9 rfl) rfl ?_
     refine s2 (OpT.c2 (ms := [.flat, .flat]) (c_impl_FindEntry d (atS y 0 (d.length : Int)) ⟨hd.1, h0⟩) (H rfl) (Af (T1 rfl) rfl rfl <| Af (T1 rfl) rfl rfl <| An) rfl rfl rfl) rfl ?_
     refine st (OpT.alias (H rfl) (by decide) (by decide)) rfl ?_
     refine st (OpT.extractV (m := 10265) (H rfl) rfl rfl rfl rfl rfl rfl rfl) rfl ?_
     refine st (OpT.extractV (m := 20265) (H rfl) rfl rfl rfl rfl rfl rfl rfl) rfl ?_
     refine st (asT rfl) rfl ?_
     refine st (asT rfl) rfl ?_
     refine AWl.to (kc4 33 32 31 30 rfl <| kc4 29 28 5 7 rfl <| kc 8 rfl <| Kn) ?_
     refine ng ?_
     refine AW.seq ?_
     refine sr ?_
     refine st (mvT rfl) rfl ?_
     refine st (mvT rfl) rfl ?_
     refine st (OpT.neq (H rfl) (T1 rfl) (T1 rfl)) rfl ?_
     refine st (mvT rfl) rfl ?_
     apply AWl.or (d := 275) (t := 271) rfl
     ·
      intro hb18 Q1 k1
      have hb18' := lF hb18
      refine rs hb18 (mvT rfl) rfl ?_
      refine rs hb18 (mvT rfl) rfl ?_
      refine rs hb18 (OpT.neq (H rfl) (T1 rfl) (T1 rfl)) rfl ?_
      refine st (OpT.pickF (A := .cel _ _) (H rfl) (T1 rfl) hb18 (T1 rfl) rfl) rfl ?_
      exact AWl.to (junk 3 rfl) k1
     ·
      intro hb18 Q1 k1
      refine ps hb18 rfl ?_
      refine ps hb18 rfl ?_
      refine ps hb18 rfl ?_
      refine st (OpT.pickT (A := .cel _ _) (H rfl) (T1 rfl) hb18 Opd.bool rfl) rfl ?_
      exact k1
     refine st (mvT rfl) rfl ?_
     apply AWl.or (d := 279) (t := 276) rfl
     ·
      intro hb19 Q1 k1
      have hb19' := lF hb19
      refine rs hb19 (mvT rfl) rfl ?_
      refine rs hb19 (OpT.neq (H rfl) (T1 rfl) (I rfl)) rfl ?_
      refine st (OpT.pickF (A := .cel _ _) (H rfl) (T1 rfl) hb19 (T1 rfl) rfl) rfl ?_
      exact AWl.to (junk 2 rfl) k1
     ·
      intro hb19 Q1 k1
      refine ps hb19 rfl ?_
      refine ps hb19 rfl ?_
      refine st (OpT.pickT (A := .cel _ _) (H rfl) (T1 rfl) hb19 Opd.bool rfl) rfl ?_
      exact k1
     refine st (mvT rfl) rfl ?_
     apply AWl.or (d := 284) (t := 280) rfl
     ·
      intro hb20 Q1 k1
      have hb20' := lF hb20
      refine rs hb20 (mvT rfl) rfl ?_
      refine rs hb20 (mvT rfl) rfl ?_
      refine rs hb20 (OpT.neq (H rfl) (T1 rfl) (T1 rfl)) rfl ?_
      refine st (OpT.pickF (A := .cel _ _) (H rfl) (T1 rfl) hb20 (T1 rfl) rfl) rfl ?_
      exact AWl.to (junk 3 rfl) k1
     ·
      intro hb20 Q1 k1
      refine ps hb20 rfl ?_
      refine ps hb20 rfl ?_
      refine ps hb20 rfl ?_
      refine st (OpT.pickT (A := .cel _ _) (H rfl) (T1 rfl) hb20 Opd.bool rfl) rfl ?_
      exact k1
     refine AWl.to (kc4 284 30 29 5 rfl <| kc2 7 8 rfl <| Kn) ?_
     refine ng ?_
     refine cd rfl (fun hc9 => ?_) fun hc9 => ?_
     ·
      obtain ⟨hc9, hc9'⟩ := pT hc9
      exact (show False from (by simp at hc9)).elim
     ·
      obtain ⟨hc9, hc9'⟩ := pF hc9
      refine AW.skip ?_
      refine AX.go ?_
      refine AW.seq ?_
      refine sr ?_
      refine st (mvT rfl) rfl ?_
      refine st (OpT.neq (H rfl) (T1 rfl) (I rfl)) rfl ?_
      refine ng ?_
      refine cd rfl (fun hc10 => ?_) fun hc10 => ?_
      ·
       obtain ⟨hc10, hc10'⟩ := pT hc10
       refine sr ?_
       refine st (mvT rfl) rfl ?_
       refine st (OpT.eql (H rfl) (T1 rfl) (I rfl)) rfl ?_
       refine st (asT rfl) rfl ?_
       refine ng ?_
       refine AW.ret ?_
       refine rT ?_
       exact rt1 rfl (.inl rfl) (by first | rfl | (have h9 : (comL (pthE d (atS y 0 (d.length : Int))) (pthE d (atS y 1 (d.length : Int)))).2 = 6 := (by omega); rw [h9]; rfl) | (rw [hci.1, hci.2]; rfl))
      ·
       obtain ⟨hc10, hc10'⟩ := pF hc10
       have hc0 : (comL (pthE d (atS y 0 (d.length : Int))) (pthE d (atS y 1 (d.length : Int)))).2 = 0 := by omega
       have hci := com_in hc0
       refine AW.skip ?_
       refine AX.go ?_
       refine sr ?_
       refine st (mvT rfl) rfl ?_
       refine st (mvT rfl) rfl ?_
       refine s2 (OpT.c2 (ms := [.flat, .flat]) (c_spec_PathUp d (atS y 0 (d.length : Int)) ⟨hd.1, h0⟩) (H rfl) (Af (T1 rfl) rfl rfl <| Af (T1 rfl) rfl rfl <| An) rfl rfl rfl) rfl ?_
       refine st (OpT.alias (H rfl) (by decide) (by decide)) rfl ?_
       refine st (OpT.extractV (m := 10292) (H rfl) rfl rfl rfl rfl rfl rfl rfl) rfl ?_
       refine st (OpT.extractV (m := 20292) (H rfl) rfl rfl rfl rfl rfl rfl rfl) rfl ?_
       refine st (asT rfl) rfl ?_
       refine st (asT rfl) rfl ?_
       refine AWl.to (kc4 35 34 30 5 rfl <| kc 8 rfl <| Kn) ?_
       refine ng ?_
       refine sr ?_
       refine st (mvT rfl) rfl ?_
       refine st (mvT rfl) rfl ?_
       refine s2 (OpT.c2 (ms := [.flat, .flat]) (c_spec_PathUp d (atS y 1 (d.length : Int)) ⟨hd.1, h1⟩) (H rfl) (Af (T1 rfl) rfl rfl <| Af (T1 rfl) rfl rfl <| An) rfl rfl rfl) rfl ?_
       refine st (OpT.alias (H rfl) (by decide) (by decide)) rfl ?_
       refine st (OpT.extractV (m := 10298) (H rfl) rfl rfl rfl rfl rfl rfl rfl) rfl ?_
       refine st (OpT.extractV (m := 20298) (H rfl) rfl rfl rfl rfl rfl rfl rfl) rfl ?_
       refine st (asT rfl) rfl ?_
       refine st (asT rfl) rfl ?_
       refine ng ?_
       refine sr ?_
       refine st (mvT rfl) rfl ?_
       refine st (OpT.eql (H rfl) (T1 rfl) (I rfl)) rfl ?_
       refine st (mvT rfl) rfl ?_
       apply AWl.and (d := 306) (t := 303) rfl
       ·
        intro hb21 Q1 k1
        have hb21' := lT hb21
        refine rs hb21 (mvT rfl) rfl ?_
        refine rs hb21 (OpT.eql (H rfl) (T1 rfl) (I rfl)) rfl ?_
        refine st (OpT.pickT (A := .cel _ _) (H rfl) (T1 rfl) hb21 (T1 rfl) rfl) rfl ?_
        exact AWl.to (junk 2 rfl) k1
       ·
        intro hb21 Q1 k1
        refine ps hb21 rfl ?_
        refine ps hb21 rfl ?_
        refine st (OpT.pickF (A := .cel _ _) (H rfl) (T1 rfl) hb21 Opd.bool rfl) rfl ?_
        exact k1
       refine st (mvT rfl) rfl ?_
       apply AWl.and (d := 311) (t := 307) rfl
       ·
        intro hb22 Q1 k1
        have hb22' := lT hb22
        refine rs hb22 (mvT rfl) rfl ?_
        refine rs hb22 (mvT rfl) rfl ?_
        refine rs hb22 (OpT.c1 (ms := [.flat, .flat]) (c_spec_A2Has _ _) (H rfl) (Af (T1 rfl) rfl rfl <| Af (T1 rfl) rfl rfl <| An) rfl rfl) rfl ?_
        refine st (OpT.pickT (A := .cel _ _) (H rfl) (T1 rfl) hb22 (T1 rfl) rfl) rfl ?_
        exact AWl.to (junk 3 rfl) k1
       ·
        intro hb22 Q1 k1
        refine ps hb22 rfl ?_
        refine ps hb22 rfl ?_
        refine ps hb22 rfl ?_
        refine st (OpT.pickF (A := .cel _ _) (H rfl) (T1 rfl) hb22 Opd.bool rfl) rfl ?_
        exact k1
       refine st (mvT rfl) rfl ?_
       apply AWl.and (d := 316) (t := 312) rfl
       ·
        intro hb23 Q1 k1
        have hb23' := lT hb23
        refine rs hb23 (mvT rfl) rfl ?_
        refine rs hb23 (mvT rfl) rfl ?_
        refine rs hb23 (OpT.c1 (ms := [.flat, .flat]) (c_spec_A2Has _ _) (H rfl) (Af (T1 rfl) rfl rfl <| Af (T1 rfl) rfl rfl <| An) rfl rfl) rfl ?_
        refine st (OpT.pickT (A := .cel _ _) (H rfl) (T1 rfl) hb23 (T1 rfl) rfl) rfl ?_
        exact AWl.to (junk 3 rfl) k1
       ·
        intro hb23 Q1 k1
        refine ps hb23 rfl ?_
        refine ps hb23 rfl ?_
        refine ps hb23 rfl ?_
        refine st (OpT.pickF (A := .cel _ _) (H rfl) (T1 rfl) hb23 Opd.bool rfl) rfl ?_
        exact k1
       refine st (asT rfl) rfl ?_
       refine AWl.to (kc 4 rfl <| Kn) ?_
       refine ng ?_
       refine AW.ret ?_
       exact rt1 rfl (.inl rfl) (by first | rfl | (have h9 : (comL (pthE d (atS y 0 (d.length : Int))) (pthE d (atS y 1 (d.length : Int)))).2 = 6 := (by omega); rw [h9]; rfl) | (rw [hci.1, hci.2]; rfl))
end Go.Proofs.YtconciibbhpigaaDoor.VL
