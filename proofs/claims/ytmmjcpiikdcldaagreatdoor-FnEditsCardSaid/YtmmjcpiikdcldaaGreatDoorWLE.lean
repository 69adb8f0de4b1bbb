/- Proved here: what some functions of the program take and give: walks with the words of VA..VQ. Printed by program. -/
import Derived.Test.YtmmjcpiikdcldaaGreatDoorWT
import Derived.Test.YtmmjcpiikdcldaaGreatDoorPXE
import Derived.Test.YtmmjcpiikdcldaaGreatDoorPZW
import Derived.Test.YtmmjcpiikdcldaaGreatDoorWX
import Derived.Test.YtmmjcpiikdcldaaGreatDoorWY
import Derived.Test.YtmmjcpiikdcldaaGreatDoorWLH
import Derived.Test.YtmmjcpiikdcldaaGreatDoorWDR
import Derived.Test.YtmmjcpiikdcldaaGreatDoorWDK
import Derived.Test.YtmmjcpiikdcldaaGreatDoorWLT
import Derived.Test.YtmmjcpiikdcldaaGreatDoorWL
import Derived.Test.YtmmjcpiikdcldaaGreatDoorWCH
import Derived.Test.YtmmjcpiikdcldaaGreatDoorWZ
import Derived.Test.YtmmjcpiikdcldaaGreatDoorWRE
import Derived.Test.YtmmjcpiikdcldaaGreatDoorWE1
set_option linter.unusedVariables false
set_option linter.unusedSimpArgs false
set_option maxRecDepth 4000
namespace Go.Proofs.YtmmjcpiikdcldaaGreatDoor.VL
open Go
set_option maxHeartbeats 4000000 in
/-- laws.FnEdits -/
theorem c_laws_FnEdits (x y : List Int) : AC Tryz.prog 4 [.cel (Kd.slice (Kd.int .u8)) x, .cel (Kd.slice (Kd.int .u8)) y] [.cel Kd.bool true] [] := by
 refine acI (N := 261) Tryz.func4 (Nat.le_of_ble_eq_true rfl) rfl fun w0 hd s0 ar => ?_
 refine AW.to (kc2 0 1 rfl <| Kn) ?_
 refine AW.fact (fun a w hr => ok_slice (R_ok (t := 0) rfl hr)) (fun hb0 => ?_)
 refine AW.fact (fun a w hr => ok_slice (R_ok (t := 1) rfl hr)) (fun hb1 => ?_)
 have hu0 : ∀ b ∈ x, 0 ≤ b ∧ b ≤ 255 := fun b hb => ok_u8 (hb0.1 b hb)
 have hu1 : ∀ b ∈ y, 0 ≤ b ∧ b ≤ 255 := fun b hb => ok_u8 (hb1.1 b hb)
 refine sr ?_
 refine st (asB rfl) rfl ?_
 refine ng ?_
 refine AW.seq ?_
 refine sr ?_
 refine st (mvT rfl) rfl ?_
 refine st (mvT rfl) rfl ?_
 refine st (OpT.c1 (ms := [.flat, .flat]) (c_laws_a2Long _ _) (H rfl) (Af (T1 rfl) rfl rfl <| Af (T1 rfl) rfl rfl <| An) rfl rfl) rfl ?_
 refine ng ?_
 refine cd rfl (fun hc1 => ?_) fun hc1 => ?_
 ·
  obtain ⟨hc1, hc1'⟩ := pT hc1
  refine sr ?_
  refine st (asB rfl) rfl ?_
  refine ng ?_
  refine AW.ret ?_
  refine rT ?_
  exact rt1 rfl (.inl rfl) (by first | rfl | (rw [ck2, ed_last hD.1.1 hB.1 hI.2.2 (by omega)]; simp))
 ·
  obtain ⟨hc1, hc1'⟩ := pF hc1
  refine AW.skip ?_
  refine AX.go ?_
  refine sr ?_
  refine st (mvT rfl) rfl ?_
  refine st (OpT.c1 (ms := [.flat]) (c_spec_A2Scheme _ ⟨hu0, by omega⟩) (H rfl) (Af (T1 rfl) rfl rfl <| An) rfl rfl) rfl ?_
  refine AWl.vw (vex 46 9097 rfl rfl (by decide) (fun _ => rfl)) fun xh => ?_
  obtain ⟨s, hs⟩ := xh
  refine AWl.to (kc4 46 45 44 43 rfl <| kc4 42 4 0 1 rfl <| Kn) ?_
  refine AWl.to (Kc 46 _ (Kv rfl (show _ = s from rfl)) <| (kc4 45 44 43 42 rfl <| kc3 4 0 1 rfl <| Kn)) ?_
  refine st (asT rfl) rfl ?_
  refine ng ?_
  refine sr ?_
  refine st (mvT rfl) rfl ?_
  refine st (mvT rfl) rfl ?_
  refine st (OpT.c1 (ms := [.flat, .flat]) (c_spec_A2Deck _ _ ⟨hu1, by omega⟩ hs.1) (H rfl) (Af (T1 rfl) rfl rfl <| Af (T1 rfl) rfl rfl <| An) rfl rfl) rfl ?_
  refine AWl.vw (vex 49 9097 rfl rfl (by decide) (fun _ => rfl)) fun xh => ?_
  obtain ⟨d, hD⟩ := xh
  refine AWl.to (kc4 49 48 47 5 rfl <| kc4 46 45 44 43 rfl <| kc4 42 4 0 1 rfl <| Kn) ?_
  refine AWl.to (Kc 49 _ (Kv rfl (show _ = d from rfl)) <| (kc4 48 47 5 46 rfl <| kc4 45 44 43 42 rfl <| kc3 4 0 1 rfl <| Kn)) ?_
  refine st (asT rfl) rfl ?_
  refine ng ?_
  refine sr ?_
  refine st (mvT rfl) rfl ?_
  refine st (mvT rfl) rfl ?_
  refine st (OpT.c1 (ms := [.flat, .flat]) (c_spec_A2Changed _ _ ⟨hu0, by omega⟩ ⟨hD.1.1, by omega, dkI_old hD.2 hD.1.2⟩) (H rfl) (Af (T1 rfl) rfl rfl <| Af (T1 rfl) rfl rfl <| An) rfl rfl) rfl ?_
  refine AWl.vw (vex 52 9097 rfl rfl (by decide) (fun _ => rfl)) fun xh => ?_
  obtain ⟨b, hB⟩ := xh
  refine AWl.to (kc4 52 51 50 6 rfl <| kc4 49 48 47 5 rfl <| kc4 46 45 44 43 rfl <| kc4 42 4 0 1 rfl <| Kn) ?_
  refine AWl.to (Kc 52 _ (Kv rfl (show _ = b from rfl)) <| (kc4 51 50 6 49 rfl <| kc4 48 47 5 46 rfl <| kc4 45 44 43 42 rfl <| kc3 4 0 1 rfl <| Kn)) ?_
  refine st (asT rfl) rfl ?_
  refine AWl.to (kc3 7 6 4 rfl <| Kn) ?_
  refine ng ?_
  refine sr ?_
  refine st (mvT rfl) rfl ?_
  refine st (mvT rfl) rfl ?_
  refine s2 (OpT.c2 (ms := [.flat, .flat]) (c_impl_EditsBetween _ _) (H rfl) (Af (T1 rfl) rfl rfl <| Af (T1 rfl) rfl rfl <| An) rfl rfl rfl) rfl ?_
  refine st (OpT.alias (H rfl) (by decide) (by decide)) rfl ?_
  refine st (OpT.extractV (m := 10056) (H rfl) rfl rfl rfl rfl rfl rfl rfl) rfl ?_
  refine st (OpT.extractV (m := 20056) (H rfl) rfl rfl rfl rfl rfl rfl rfl) rfl ?_
  refine st (asT rfl) rfl ?_
  refine AWl.to (Kc 8 _ (Kv rfl (show _ = betw d b from congrArg Prod.fst (edits_law hD.1.1 hB.1 (by omega)).1)) <| (kc2 58 57 rfl <| Kc 53 (.ali _) rfl <| kc4 10056 20056 55 54 rfl <| kc3 7 6 4 rfl <| Kn)) ?_
  refine st (asT rfl) rfl ?_
  refine ng ?_
  refine sr ?_
  refine st (mvT rfl) rfl ?_
  refine st (mvT rfl) rfl ?_
  refine s2 (OpT.c2 (ms := [.flat, .flat]) (c_spec_EditsBetween _ _) (H rfl) (Af (T1 rfl) rfl rfl <| Af (T1 rfl) rfl rfl <| An) rfl rfl rfl) rfl ?_
  refine st (OpT.alias (H rfl) (by decide) (by decide)) rfl ?_
  refine st (OpT.extractV (m := 10062) (H rfl) rfl rfl rfl rfl rfl rfl rfl) rfl ?_
  refine st (OpT.extractV (m := 20062) (H rfl) rfl rfl rfl rfl rfl rfl rfl) rfl ?_
  refine st (asT rfl) rfl ?_
  refine AWl.to (Kc 10 _ (Kv rfl (show _ = betw d b from congrArg Prod.fst (edits_law hD.1.1 hB.1 (by omega)).1)) <| (kc2 64 63 rfl <| Kc 59 (.ali _) rfl <| kc4 10062 20062 61 60 rfl <| kc4 9 8 58 57 rfl <| Kc 53 (.ali _) rfl <| kc4 10056 20056 55 54 rfl <| kc3 7 6 4 rfl <| Kn)) ?_
  refine st (asT rfl) rfl ?_
  refine AWl.to (kc4 11 10 9 8 rfl <| kc3 7 6 4 rfl <| Kn) ?_
  refine ng ?_
  refine sr ?_
  refine st (mvT rfl) rfl ?_
  refine st (OpT.c1 (ms := [.flat]) (c_impl_EditsText _) (H rfl) (Af (T1 rfl) rfl rfl <| An) rfl rfl) rfl ?_
  refine s2 (OpT.c2 (ms := [.flat]) (c_impl_ReadEdits _ (ed_in (betw_all hD.1.1 hB.1) (by omega)).1 (fun l hl w hw => by obtain ⟨n, hn, rfl⟩ := (ed_in (betw_all hD.1.1 hB.1) (by omega)).2.1 l hl w hw; exact c_impl_readNumber _ (c_pin_dec n (by omega)) (c_fin_dec n (by omega)))) (H rfl) (Af (T1 rfl) rfl rfl <| An) rfl rfl rfl) rfl ?_
  refine st (OpT.alias (H rfl) (by decide) (by decide)) rfl ?_
  refine st (OpT.extractV (m := 10068) (H rfl) rfl rfl rfl rfl rfl rfl rfl) rfl ?_
  refine st (OpT.extractV (m := 20068) (H rfl) rfl rfl rfl rfl rfl rfl rfl) rfl ?_
  refine st (asT rfl) rfl ?_
  refine st (asT rfl) rfl ?_
  refine ng ?_
  refine sr ?_
  refine st (mvT rfl) rfl ?_
  refine st (mvT rfl) rfl ?_
  refine s3 (cN (ms := [.flat, .flat]) (c_impl_ApplyEdits _ _) (H rfl) (Af (T1 rfl) rfl rfl <| Af (T1 rfl) rfl rfl <| An) rfl (.inl rfl)) rfl ?_
  refine st (OpT.alias (H rfl) (by decide) (by decide)) rfl ?_
  refine st (OpT.extractV (m := 10074) (H rfl) rfl rfl rfl rfl rfl rfl rfl) rfl ?_
  refine st (OpT.extractV (m := 20074) (H rfl) rfl rfl rfl rfl rfl rfl rfl) rfl ?_
  refine st (OpT.extractV (m := 30074) (H rfl) rfl rfl rfl rfl rfl rfl rfl) rfl ?_
  refine st (asT rfl) rfl ?_
  refine st (asT rfl) rfl ?_
  refine st (asT rfl) rfl ?_
  refine AWl.to (kc4 16 15 14 13 rfl <| kc4 12 11 10 9 rfl <| kc4 8 7 6 4 rfl <| Kn) ?_
  refine ng ?_
  refine sr ?_
  refine st (mvT rfl) rfl ?_
  refine s2 (OpT.c2 (ms := [.flat]) (c_impl_UndoEdits _) (H rfl) (Af (T1 rfl) rfl rfl <| An) rfl rfl rfl) rfl ?_
  refine st (OpT.alias (H rfl) (by decide) (by decide)) rfl ?_
  refine st (OpT.extractV (m := 10080) (H rfl) rfl rfl rfl rfl rfl rfl rfl) rfl ?_
  refine st (OpT.extractV (m := 20080) (H rfl) rfl rfl rfl rfl rfl rfl rfl) rfl ?_
  refine st (asT rfl) rfl ?_
  refine st (asT rfl) rfl ?_
  refine ng ?_
  refine sr ?_
  refine st (mvT rfl) rfl ?_
  refine s2 (OpT.c2 (ms := [.flat]) (c_spec_UndoEdits _) (H rfl) (Af (T1 rfl) rfl rfl <| An) rfl rfl rfl) rfl ?_
  refine st (OpT.alias (H rfl) (by decide) (by decide)) rfl ?_
  refine st (OpT.extractV (m := 10085) (H rfl) rfl rfl rfl rfl rfl rfl rfl) rfl ?_
  refine st (OpT.extractV (m := 20085) (H rfl) rfl rfl rfl rfl rfl rfl rfl) rfl ?_
  refine st (asT rfl) rfl ?_
  refine st (asT rfl) rfl ?_
  refine AWl.to (kc4 20 19 18 17 rfl <| kc4 16 15 14 13 rfl <| kc4 12 11 10 9 rfl <| kc4 8 7 6 4 rfl <| Kn) ?_
  refine ng ?_
  refine AW.seq ?_
  refine sr ?_
  refine st (mvT rfl) rfl ?_
  refine st (mvT rfl) rfl ?_
  refine st (OpT.neq (H rfl) (T1 rfl) (T1 rfl)) rfl ?_
  refine st (mvT rfl) rfl ?_
  apply AWl.or (d := 94) (t := 91) rfl
  ·
   intro hb1 Q1 k1
   have hb1' := lF hb1
   refine rs hb1 (mvT rfl) rfl ?_
   refine rs hb1 (OpT.neq (H rfl) (T1 rfl) (I rfl)) rfl ?_
   refine st (OpT.pickF (A := .cel _ _) (H rfl) (T1 rfl) hb1 (T1 rfl) rfl) rfl ?_
   exact AWl.to (junk 2 rfl) k1
  ·
   intro hb1 Q1 k1
   refine ps hb1 rfl ?_
   refine ps hb1 rfl ?_
   refine st (OpT.pickT (A := .cel _ _) (H rfl) (T1 rfl) hb1 Opd.bool rfl) rfl ?_
   exact k1
  refine st (mvT rfl) rfl ?_
  apply AWl.or (d := 100) (t := 95) rfl
  ·
   intro hb2 Q1 k1
   have hb2' := lF hb2
   refine rs hb2 (mvT rfl) rfl ?_
   refine rs hb2 (mvT rfl) rfl ?_
   refine rs hb2 (OpT.c1 (ms := [.flat, .flat]) (c_spec_A2Edits _ _) (H rfl) (Af (T1 rfl) rfl rfl <| Af (T1 rfl) rfl rfl <| An) rfl rfl) rfl ?_
   refine rs hb2 (OpT.not (H rfl) (T1 rfl)) rfl ?_
   refine st (OpT.pickF (A := .cel _ _) (H rfl) (T1 rfl) hb2 (T1 rfl) rfl) rfl ?_
   exact AWl.to (junk 4 rfl) k1
  ·
   intro hb2 Q1 k1
   refine ps hb2 rfl ?_
   refine ps hb2 rfl ?_
   refine ps hb2 rfl ?_
   refine ps hb2 rfl ?_
   refine st (OpT.pickT (A := .cel _ _) (H rfl) (T1 rfl) hb2 Opd.bool rfl) rfl ?_
   exact k1
  refine st (mvT rfl) rfl ?_
  apply AWl.or (d := 104) (t := 101) rfl
  ·
   intro hb3 Q1 k1
   have hb3' := lF hb3
   refine rs hb3 (mvT rfl) rfl ?_
   refine rs hb3 (OpT.neq (H rfl) (T1 rfl) (I rfl)) rfl ?_
   refine st (OpT.pickF (A := .cel _ _) (H rfl) (T1 rfl) hb3 (T1 rfl) rfl) rfl ?_
   exact AWl.to (junk 2 rfl) k1
  ·
   intro hb3 Q1 k1
   refine ps hb3 rfl ?_
   refine ps hb3 rfl ?_
   refine st (OpT.pickT (A := .cel _ _) (H rfl) (T1 rfl) hb3 Opd.bool rfl) rfl ?_
   exact k1
  refine st (mvT rfl) rfl ?_
  apply AWl.or (d := 110) (t := 105) rfl
  ·
   intro hb4 Q1 k1
   have hb4' := lF hb4
   refine rs hb4 (mvT rfl) rfl ?_
   refine rs hb4 (mvT rfl) rfl ?_
   refine rs hb4 (OpT.c1 (ms := [.flat, .flat]) (c_spec_A2Edits _ _) (H rfl) (Af (T1 rfl) rfl rfl <| Af (T1 rfl) rfl rfl <| An) rfl rfl) rfl ?_
   refine rs hb4 (OpT.not (H rfl) (T1 rfl)) rfl ?_
   refine st (OpT.pickF (A := .cel _ _) (H rfl) (T1 rfl) hb4 (T1 rfl) rfl) rfl ?_
   exact AWl.to (junk 4 rfl) k1
  ·
   intro hb4 Q1 k1
   refine ps hb4 rfl ?_
   refine ps hb4 rfl ?_
   refine ps hb4 rfl ?_
   refine ps hb4 rfl ?_
   refine st (OpT.pickT (A := .cel _ _) (H rfl) (T1 rfl) hb4 Opd.bool rfl) rfl ?_
   exact k1
  refine st (mvT rfl) rfl ?_
  apply AWl.or (d := 114) (t := 111) rfl
  ·
   intro hb5 Q1 k1
   have hb5' := lF hb5
   refine rs hb5 (mvT rfl) rfl ?_
   refine rs hb5 (OpT.neq (H rfl) (T1 rfl) (I rfl)) rfl ?_
   refine st (OpT.pickF (A := .cel _ _) (H rfl) (T1 rfl) hb5 (T1 rfl) rfl) rfl ?_
   exact AWl.to (junk 2 rfl) k1
  ·
   intro hb5 Q1 k1
   refine ps hb5 rfl ?_
   refine ps hb5 rfl ?_
   refine st (OpT.pickT (A := .cel _ _) (H rfl) (T1 rfl) hb5 Opd.bool rfl) rfl ?_
   exact k1
  refine st (mvT rfl) rfl ?_
  apply AWl.or (d := 120) (t := 115) rfl
  ·
   intro hb6 Q1 k1
   have hb6' := lF hb6
   refine rs hb6 (mvT rfl) rfl ?_
   refine rs hb6 (mvT rfl) rfl ?_
   refine rs hb6 (OpT.len (H rfl) (T1 rfl) el49) rfl ?_
   refine rs hb6 (OpT.neq (H rfl) (T1 rfl) (T1 rfl)) rfl ?_
   refine st (OpT.pickF (A := .cel _ _) (H rfl) (T1 rfl) hb6 (T1 rfl) rfl) rfl ?_
   exact AWl.to (junk 4 rfl) k1
  ·
   intro hb6 Q1 k1
   refine ps hb6 rfl ?_
   refine ps hb6 rfl ?_
   refine ps hb6 rfl ?_
   refine ps hb6 rfl ?_
   refine st (OpT.pickT (A := .cel _ _) (H rfl) (T1 rfl) hb6 Opd.bool rfl) rfl ?_
   exact k1
  refine st (mvT rfl) rfl ?_
  apply AWl.or (d := 125) (t := 121) rfl
  ·
   intro hb7 Q1 k1
   have hb7' := lF hb7
   refine rs hb7 (mvT rfl) rfl ?_
   refine rs hb7 (mvT rfl) rfl ?_
   refine rs hb7 (OpT.neq (H rfl) (T1 rfl) (T1 rfl)) rfl ?_
   refine st (OpT.pickF (A := .cel _ _) (H rfl) (T1 rfl) hb7 (T1 rfl) rfl) rfl ?_
   exact AWl.to (junk 3 rfl) k1
  ·
   intro hb7 Q1 k1
   refine ps hb7 rfl ?_
   refine ps hb7 rfl ?_
   refine ps hb7 rfl ?_
   refine st (OpT.pickT (A := .cel _ _) (H rfl) (T1 rfl) hb7 Opd.bool rfl) rfl ?_
   exact k1
  refine st (mvT rfl) rfl ?_
  apply AWl.or (d := 131) (t := 126) rfl
  ·
   intro hb8 Q1 k1
   have hb8' := lF hb8
   refine rs hb8 (mvT rfl) rfl ?_
   refine rs hb8 (mvT rfl) rfl ?_
   refine rs hb8 (OpT.c1 (ms := [.flat, .flat]) (c_spec_A2Edits _ _) (H rfl) (Af (T1 rfl) rfl rfl <| Af (T1 rfl) rfl rfl <| An) rfl rfl) rfl ?_
   refine rs hb8 (OpT.not (H rfl) (T1 rfl)) rfl ?_
   refine st (OpT.pickF (A := .cel _ _) (H rfl) (T1 rfl) hb8 (T1 rfl) rfl) rfl ?_
   exact AWl.to (junk 4 rfl) k1
  ·
   intro hb8 Q1 k1
   refine ps hb8 rfl ?_
   refine ps hb8 rfl ?_
   refine ps hb8 rfl ?_
   refine ps hb8 rfl ?_
   refine st (OpT.pickT (A := .cel _ _) (H rfl) (T1 rfl) hb8 Opd.bool rfl) rfl ?_
   exact k1
  refine AWl.to (kc4 131 19 14 10 rfl <| kc3 7 6 4 rfl <| Kn) ?_
  refine ng ?_
  refine cd rfl (fun hc2 => ?_) fun hc2 => ?_
  ·
   obtain ⟨hc2, hc2'⟩ := pT hc2
   obtain ⟨l1, l2, l3, l4, l5, l6, l7, l8⟩ := (edits_law hD.1.1 hB.1 (by omega))
   obtain ⟨_, _, x3⟩ := ed_in (betw_all hD.1.1 hB.1) (by omega)
   have hn0 := ed_none (b := b) hD.1.1
   have ck1 := checkC_yes (tt_iff.2 hD.1.1)
   have ck2 := checkC_yes (tt_iff.2 hB.1)
   exact (show False from (by simp [l1, l2, l3, l6, x3, eqv_self] at hc2)).elim
  ·
   obtain ⟨hc2, hc2'⟩ := pF hc2
   obtain ⟨l1, l2, l3, l4, l5, l6, l7, l8⟩ := (edits_law hD.1.1 hB.1 (by omega))
   obtain ⟨_, _, x3⟩ := ed_in (betw_all hD.1.1 hB.1) (by omega)
   have hn0 := ed_none (b := b) hD.1.1
   have ck1 := checkC_yes (tt_iff.2 hD.1.1)
   have ck2 := checkC_yes (tt_iff.2 hB.1)
   refine AW.skip ?_
   refine AX.go ?_
   refine sr ?_
   refine st (mvT rfl) rfl ?_
   refine st (mvT rfl) rfl ?_
   refine s2 (OpT.c2 (ms := [.flat, .flat]) (c_impl_SameCards _ _) (H rfl) (Af (T1 rfl) rfl rfl <| Af (T1 rfl) rfl rfl <| An) rfl rfl rfl) rfl ?_
   refine st (OpT.alias (H rfl) (by decide) (by decide)) rfl ?_
   refine st (OpT.extractV (m := 10135) (H rfl) rfl rfl rfl rfl rfl rfl rfl) rfl ?_
   refine st (OpT.extractV (m := 20135) (H rfl) rfl rfl rfl rfl rfl rfl rfl) rfl ?_
   refine st (asT rfl) rfl ?_
   refine st (asT rfl) rfl ?_
   refine ng ?_
   refine sr ?_
   refine st (mvT rfl) rfl ?_
   refine st (mvT rfl) rfl ?_
   refine s3 (cN (ms := [.flat, .flat]) (c_impl_ApplyEdits _ _) (H rfl) (Af (T1 rfl) rfl rfl <| Af (T1 rfl) rfl rfl <| An) rfl (.inl rfl)) rfl ?_
   refine st (OpT.alias (H rfl) (by decide) (by decide)) rfl ?_
   refine st (OpT.extractV (m := 10141) (H rfl) rfl rfl rfl rfl rfl rfl rfl) rfl ?_
   refine st (OpT.extractV (m := 20141) (H rfl) rfl rfl rfl rfl rfl rfl rfl) rfl ?_
   refine st (OpT.extractV (m := 30141) (H rfl) rfl rfl rfl rfl rfl rfl rfl) rfl ?_
   refine st (asT rfl) rfl ?_
   refine st (asT rfl) rfl ?_
   refine st (asT rfl) rfl ?_
   refine AWl.to (kc4 25 23 22 21 rfl <| kc4 14 10 7 6 rfl <| kc 4 rfl <| Kn) ?_
   refine ng ?_
   refine sr ?_
   refine st (mvT rfl) rfl ?_
   refine st (mvT rfl) rfl ?_
   refine s2 (OpT.c2 (ms := [.flat, .flat]) (c_impl_SameCards _ _) (H rfl) (Af (T1 rfl) rfl rfl <| Af (T1 rfl) rfl rfl <| An) rfl rfl rfl) rfl ?_
   refine st (OpT.alias (H rfl) (by decide) (by decide)) rfl ?_
   refine st (OpT.extractV (m := 10148) (H rfl) rfl rfl rfl rfl rfl rfl rfl) rfl ?_
   refine st (OpT.extractV (m := 20148) (H rfl) rfl rfl rfl rfl rfl rfl rfl) rfl ?_
   refine st (asT rfl) rfl ?_
   refine st (asT rfl) rfl ?_
   refine ng ?_
   refine AW.seq ?_
   refine sr ?_
   refine st (mvT rfl) rfl ?_
   refine st (OpT.neq (H rfl) (T1 rfl) (I rfl)) rfl ?_
   refine st (mvT rfl) rfl ?_
   apply AWl.or (d := 156) (t := 153) rfl
   ·
    intro hb9 Q1 k1
    have hb9' := lF hb9
    refine rs hb9 (mvT rfl) rfl ?_
    refine rs hb9 (OpT.not (H rfl) (T1 rfl)) rfl ?_
    refine st (OpT.pickF (A := .cel _ _) (H rfl) (T1 rfl) hb9 (T1 rfl) rfl) rfl ?_
    exact AWl.to (junk 2 rfl) k1
   ·
    intro hb9 Q1 k1
    refine ps hb9 rfl ?_
    refine ps hb9 rfl ?_
    refine st (OpT.pickT (A := .cel _ _) (H rfl) (T1 rfl) hb9 Opd.bool rfl) rfl ?_
    exact k1
   refine st (mvT rfl) rfl ?_
   apply AWl.or (d := 160) (t := 157) rfl
   ·
    intro hb10 Q1 k1
    have hb10' := lF hb10
    refine rs hb10 (mvT rfl) rfl ?_
    refine rs hb10 (OpT.neq (H rfl) (T1 rfl) (I rfl)) rfl ?_
    refine st (OpT.pickF (A := .cel _ _) (H rfl) (T1 rfl) hb10 (T1 rfl) rfl) rfl ?_
    exact AWl.to (junk 2 rfl) k1
   ·
    intro hb10 Q1 k1
    refine ps hb10 rfl ?_
    refine ps hb10 rfl ?_
    refine st (OpT.pickT (A := .cel _ _) (H rfl) (T1 rfl) hb10 Opd.bool rfl) rfl ?_
    exact k1
   refine st (mvT rfl) rfl ?_
   apply AWl.or (d := 164) (t := 161) rfl
   ·
    intro hb11 Q1 k1
    have hb11' := lF hb11
    refine rs hb11 (mvT rfl) rfl ?_
    refine rs hb11 (OpT.neq (H rfl) (T1 rfl) (I rfl)) rfl ?_
    refine st (OpT.pickF (A := .cel _ _) (H rfl) (T1 rfl) hb11 (T1 rfl) rfl) rfl ?_
    exact AWl.to (junk 2 rfl) k1
   ·
    intro hb11 Q1 k1
    refine ps hb11 rfl ?_
    refine ps hb11 rfl ?_
    refine st (OpT.pickT (A := .cel _ _) (H rfl) (T1 rfl) hb11 Opd.bool rfl) rfl ?_
    exact k1
   refine st (mvT rfl) rfl ?_
   apply AWl.or (d := 168) (t := 165) rfl
   ·
    intro hb12 Q1 k1
    have hb12' := lF hb12
    refine rs hb12 (mvT rfl) rfl ?_
    refine rs hb12 (OpT.not (H rfl) (T1 rfl)) rfl ?_
    refine st (OpT.pickF (A := .cel _ _) (H rfl) (T1 rfl) hb12 (T1 rfl) rfl) rfl ?_
    exact AWl.to (junk 2 rfl) k1
   ·
    intro hb12 Q1 k1
    refine ps hb12 rfl ?_
    refine ps hb12 rfl ?_
    refine st (OpT.pickT (A := .cel _ _) (H rfl) (T1 rfl) hb12 Opd.bool rfl) rfl ?_
    exact k1
   refine st (mvT rfl) rfl ?_
   apply AWl.or (d := 182) (t := 169) rfl
   ·
    intro hb13 Q1 k1
    have hb13' := lF hb13
    refine rs hb13 (mvT rfl) rfl ?_
    refine rs hb13 (OpT.len (H rfl) (T1 rfl) el49) rfl ?_
    refine rs hb13 (OpT.eql (H rfl) (T1 rfl) (I rfl)) rfl ?_
    refine rs hb13 (mvT rfl) rfl ?_
    refine rs hb13 (mvT rfl) rfl ?_
    refine rs hb13 (OpT.c1 (ms := [.flat, .flat]) (c_spec_SameDeck _ _) (H rfl) (Af (T1 rfl) rfl rfl <| Af (T1 rfl) rfl rfl <| An) rfl rfl) rfl ?_
    refine rs hb13 (OpT.bneq (H rfl) Tryz.underlying4 (T1 rfl) (T1 rfl)) rfl ?_
    refine rs hb13 (mvT rfl) rfl ?_
    apply AWl.and (d := 181) (t := 177) rfl
    ·
     intro hb14 Q1 k1
     have hb14' := lT hb14
     refine rs hb14 (mvT rfl) rfl ?_
     refine rs hb14 (OpT.len (H rfl) (T1 rfl) el49) rfl ?_
     refine rs hb14 (OpT.eql (H rfl) (T1 rfl) (I rfl)) rfl ?_
     refine rs hb13 (OpT.pickT (A := .cel _ _) (H rfl) (T1 rfl) hb14 (T1 rfl) rfl) rfl ?_
     exact AWl.to (junk 3 rfl) k1
    ·
     intro hb14 Q1 k1
     refine ps hb14 rfl ?_
     refine ps hb14 rfl ?_
     refine ps hb14 rfl ?_
     refine rs hb13 (OpT.pickF (A := .cel _ _) (H rfl) (T1 rfl) hb14 Opd.bool rfl) rfl ?_
     exact k1
    refine st (OpT.pickF (A := .cel _ _) (H rfl) (T1 rfl) hb13 (T1 rfl) rfl) rfl ?_
    exact AWl.to (junk 9 rfl) k1
   ·
    intro hb13 Q1 k1
    refine ps hb13 rfl ?_
    refine ps hb13 rfl ?_
    refine ps hb13 rfl ?_
    refine ps hb13 rfl ?_
    refine ps hb13 rfl ?_
    refine ps hb13 rfl ?_
    refine ps hb13 rfl ?_
    refine AWl.pasv rfl rfl rfl rfl hb13 rfl (ok' rfl) rfl ?_
    refine AWl.pasu rfl rfl rfl rfl rfl (ok' rfl) rfl ?_
    refine AWl.pasu rfl rfl rfl rfl rfl (ok' rfl) rfl ?_
    refine AWl.pasu rfl rfl rfl rfl rfl (ok' rfl) rfl ?_
    refine ps hb13 rfl ?_
    refine st (OpT.pickT (A := .cel _ _) (H rfl) (T1 rfl) hb13 Opd.bool rfl) rfl ?_
    exact AWl.to (junk 4 rfl) k1
   refine AWl.to (kc4 182 10 7 6 rfl <| kc 4 rfl <| Kn) ?_
   refine ng ?_
   refine cd rfl (fun hc3 => ?_) fun hc3 => ?_
   ·
    obtain ⟨hc3, hc3'⟩ := pT hc3
    exact (show False from (by simp [l5, l6, l7, l8] at hc3; first | omega | (simp_all; done))).elim
   ·
    obtain ⟨hc3, hc3'⟩ := pF hc3
    refine AW.skip ?_
    refine AX.go ?_
    refine sr ?_
    refine st (mvT rfl) rfl ?_
    refine s2 (OpT.c2 (ms := [.flat]) (c_impl_CheckOfDeck _) (H rfl) (Af (T1 rfl) rfl rfl <| An) rfl rfl rfl) rfl ?_
    refine st (OpT.alias (H rfl) (by decide) (by decide)) rfl ?_
    refine st (OpT.extractV (m := 10185) (H rfl) rfl rfl rfl rfl rfl rfl rfl) rfl ?_
    refine st (OpT.extractV (m := 20185) (H rfl) rfl rfl rfl rfl rfl rfl rfl) rfl ?_
    refine st (asT rfl) rfl ?_
    refine st (asT rfl) rfl ?_
    refine ng ?_
    refine sr ?_
    refine st (mvT rfl) rfl ?_
    refine s2 (OpT.c2 (ms := [.flat]) (c_impl_CheckOfDeck _) (H rfl) (Af (T1 rfl) rfl rfl <| An) rfl rfl rfl) rfl ?_
    refine st (OpT.alias (H rfl) (by decide) (by decide)) rfl ?_
    refine st (OpT.extractV (m := 10190) (H rfl) rfl rfl rfl rfl rfl rfl rfl) rfl ?_
    refine st (OpT.extractV (m := 20190) (H rfl) rfl rfl rfl rfl rfl rfl rfl) rfl ?_
    refine st (asT rfl) rfl ?_
    refine st (asT rfl) rfl ?_
    refine AWl.to (kc4 31 30 29 28 rfl <| kc3 10 6 4 rfl <| Kn) ?_
    refine ng ?_
    refine sr ?_
    refine st (mvT rfl) rfl ?_
    refine s2 (OpT.c2 (ms := [.flat]) (c_spec_CheckOfDeck _) (H rfl) (Af (T1 rfl) rfl rfl <| An) rfl rfl rfl) rfl ?_
    refine st (OpT.alias (H rfl) (by decide) (by decide)) rfl ?_
    refine st (OpT.extractV (m := 10195) (H rfl) rfl rfl rfl rfl rfl rfl rfl) rfl ?_
    refine st (OpT.extractV (m := 20195) (H rfl) rfl rfl rfl rfl rfl rfl rfl) rfl ?_
    refine st (asT rfl) rfl ?_
    refine st (asT rfl) rfl ?_
    refine ng ?_
    refine AW.seq ?_
    refine sr ?_
    refine st (mvT rfl) rfl ?_
    refine st (mvT rfl) rfl ?_
    refine st (OpT.neq (H rfl) (T1 rfl) (T1 rfl)) rfl ?_
    refine st (mvT rfl) rfl ?_
    apply AWl.or (d := 205) (t := 201) rfl
    ·
     intro hb15 Q1 k1
     have hb15' := lF hb15
     refine rs hb15 (mvT rfl) rfl ?_
     refine rs hb15 (mvT rfl) rfl ?_
     refine rs hb15 (OpT.uneq (H rfl) (T1 rfl) (T1 rfl)) rfl ?_
     refine st (OpT.pickF (A := .cel _ _) (H rfl) (T1 rfl) hb15 (T1 rfl) rfl) rfl ?_
     exact AWl.to (junk 3 rfl) k1
    ·
     intro hb15 Q1 k1
     refine ps hb15 rfl ?_
     refine ps hb15 rfl ?_
     refine ps hb15 rfl ?_
     refine st (OpT.pickT (A := .cel _ _) (H rfl) (T1 rfl) hb15 Opd.bool rfl) rfl ?_
     exact k1
    refine st (mvT rfl) rfl ?_
    apply AWl.or (d := 209) (t := 206) rfl
    ·
     intro hb16 Q1 k1
     have hb16' := lF hb16
     refine rs hb16 (mvT rfl) rfl ?_
     refine rs hb16 (OpT.neq (H rfl) (T1 rfl) (I rfl)) rfl ?_
     refine st (OpT.pickF (A := .cel _ _) (H rfl) (T1 rfl) hb16 (T1 rfl) rfl) rfl ?_
     exact AWl.to (junk 2 rfl) k1
    ·
     intro hb16 Q1 k1
     refine ps hb16 rfl ?_
     refine ps hb16 rfl ?_
     refine st (OpT.pickT (A := .cel _ _) (H rfl) (T1 rfl) hb16 Opd.bool rfl) rfl ?_
     exact k1
    refine AWl.to (kc4 209 32 30 10 rfl <| kc2 6 4 rfl <| Kn) ?_
    refine ng ?_
    refine cd rfl (fun hc4 => ?_) fun hc4 => ?_
    ·
     obtain ⟨hc4, hc4'⟩ := pT hc4
     exact (show False from (by simp [ck1, ck2] at hc4)).elim
    ·
     obtain ⟨hc4, hc4'⟩ := pF hc4
     refine AW.skip ?_
     refine AX.go ?_
     refine sr ?_
     refine st (mvT rfl) rfl ?_
     refine st (asT rfl) rfl ?_
     refine ng ?_
     refine AW.seq ?_
     refine sr ?_
     refine st (asI rfl) rfl ?_
     refine ng ?_
     refine AW.block ?_
     refine AW.loop (fun p : Nat × List DCard => p.1 ≤ (betw d b).length ∧ deckOK p.2 ∧ amS p.2 ((betw d b).drop p.1) = amS d (betw d b)) (fun p : Nat × List DCard => keep [(10, .cel (Kd.slice kEdit) (betw d b)), (30, .cel Kd.u64 (checkC b).1), (32, .cel Kd.u64 (sumH p.2)), (34, .cel (Kd.slice kCard) p.2), (35, .cel (Kd.int .i64) (p.1 : Int))]) (fun p : Nat × List DCard => (betw d b).length - p.1) ((0, d)) ⟨Nat.zero_le _, hD.1.1, rfl⟩ (Kc 10 _ (Kv rfl rfl) <| Kc 30 _ (Kv rfl rfl) <| Kc 32 _ (Kv rfl (by rw [ck1])) <| Kc 34 _ (Kv rfl rfl) <| Kc 35 _ (Kv rfl rfl) <| Kn) ?_
     intro p hI
     refine AW.seq ?_
     refine sr ?_
     refine st (mvT rfl) rfl ?_
     refine st (mvT rfl) rfl ?_
     refine st (OpT.len (H rfl) (T1 rfl) el49) rfl ?_
     refine st (OpT.lss (H rfl) (T1 rfl) (T1 rfl)) rfl ?_
     refine ng ?_
     refine cd rfl (fun hc5 => ?_) fun hc5 => ?_
     ·
      obtain ⟨hc5, hc5'⟩ := pT hc5
      obtain ⟨e, he⟩ := getI (x := (betw d b)) (z := p.1) (by omega)
      obtain ⟨q1, q2, q3, q4, q5, q6⟩ := ed_step hD.1.1 hB.1 hI.2.2 hI.2.1 he
      have o1 := one_ok (x := p.2) (e := e) (by rw [tt_iff.2 hI.2.1, q1]; rfl)
      refine AW.skip ?_
      refine AX.go ?_
      refine AW.seq ?_
      refine AW.block ?_
      refine sr ?_
      refine st (mvT rfl) rfl ?_
      refine st (mvT rfl) rfl ?_
      refine st (mvT rfl) rfl ?_
      refine st (mvT rfl) rfl ?_
      refine st (OpT.indexAddr (H rfl) (T1 rfl) (T1 rfl) el49 sz63 (by omega) he) rfl ?_
      refine st (OpT.loadA (H rfl) (T1 rfl) ag63 sz63) rfl ?_
      refine s2 (OpT.c2 (ms := [.flat, .flat, .flat]) (c_impl_CheckAfter _ _ _) (H rfl) (Af (T1 rfl) rfl rfl <| Af (T1 rfl) rfl rfl <| Af (T1 rfl) rfl rfl <| An) rfl rfl rfl) rfl ?_
      refine st (OpT.alias (H rfl) (by decide) (by decide)) rfl ?_
      refine st (OpT.extractV (m := 10224) (H rfl) rfl rfl rfl rfl rfl rfl rfl) rfl ?_
      refine st (OpT.extractV (m := 20224) (H rfl) rfl rfl rfl rfl rfl rfl rfl) rfl ?_
      refine st (asT rfl) rfl ?_
      refine st (asT rfl) rfl ?_
      refine ng ?_
      refine sr ?_
      refine st (mvT rfl) rfl ?_
      refine st (mvT rfl) rfl ?_
      refine st (mvT rfl) rfl ?_
      refine st (OpT.indexAddr (H rfl) (T1 rfl) (T1 rfl) el49 sz63 (by omega) he) rfl ?_
      refine st (OpT.loadA (H rfl) (T1 rfl) ag63 sz63) rfl ?_
      refine s2 (OpT.c2 (ms := [.flat, .flat]) (c_impl_ApplyEdit _ _) (H rfl) (Af (T1 rfl) rfl rfl <| Af (T1 rfl) rfl rfl <| An) rfl rfl rfl) rfl ?_
      refine st (OpT.alias (H rfl) (by decide) (by decide)) rfl ?_
      refine st (OpT.extractV (m := 10233) (H rfl) rfl rfl rfl rfl rfl rfl rfl) rfl ?_
      refine st (OpT.extractV (m := 20233) (H rfl) rfl rfl rfl rfl rfl rfl rfl) rfl ?_
      refine st (asT rfl) rfl ?_
      refine st (asT rfl) rfl ?_
      refine ng ?_
      refine sr ?_
      refine st (mvT rfl) rfl ?_
      refine s2 (OpT.c2 (ms := [.flat]) (c_spec_CheckOfDeck _) (H rfl) (Af (T1 rfl) rfl rfl <| An) rfl rfl rfl) rfl ?_
      refine st (OpT.alias (H rfl) (by decide) (by decide)) rfl ?_
      refine st (OpT.extractV (m := 10238) (H rfl) rfl rfl rfl rfl rfl rfl rfl) rfl ?_
      refine st (OpT.extractV (m := 20238) (H rfl) rfl rfl rfl rfl rfl rfl rfl) rfl ?_
      refine st (asT rfl) rfl ?_
      refine st (asT rfl) rfl ?_
      refine ng ?_
      refine AW.seq ?_
      refine sr ?_
      refine st (mvT rfl) rfl ?_
      refine st (OpT.neq (H rfl) (T1 rfl) (I rfl)) rfl ?_
      refine st (mvT rfl) rfl ?_
      apply AWl.or (d := 246) (t := 243) rfl
      ·
       intro hb17 Q1 k1
       have hb17' := lF hb17
       refine rs hb17 (mvT rfl) rfl ?_
       refine rs hb17 (OpT.neq (H rfl) (T1 rfl) (I rfl)) rfl ?_
       refine st (OpT.pickF (A := .cel _ _) (H rfl) (T1 rfl) hb17 (T1 rfl) rfl) rfl ?_
       exact AWl.to (junk 2 rfl) k1
      ·
       intro hb17 Q1 k1
       refine ps hb17 rfl ?_
       refine ps hb17 rfl ?_
       refine st (OpT.pickT (A := .cel _ _) (H rfl) (T1 rfl) hb17 Opd.bool rfl) rfl ?_
       exact k1
      refine st (mvT rfl) rfl ?_
      apply AWl.or (d := 250) (t := 247) rfl
      ·
       intro hb18 Q1 k1
       have hb18' := lF hb18
       refine rs hb18 (mvT rfl) rfl ?_
       refine rs hb18 (OpT.neq (H rfl) (T1 rfl) (I rfl)) rfl ?_
       refine st (OpT.pickF (A := .cel _ _) (H rfl) (T1 rfl) hb18 (T1 rfl) rfl) rfl ?_
       exact AWl.to (junk 2 rfl) k1
      ·
       intro hb18 Q1 k1
       refine ps hb18 rfl ?_
       refine ps hb18 rfl ?_
       refine st (OpT.pickT (A := .cel _ _) (H rfl) (T1 rfl) hb18 Opd.bool rfl) rfl ?_
       exact k1
      refine st (mvT rfl) rfl ?_
      apply AWl.or (d := 255) (t := 251) rfl
      ·
       intro hb19 Q1 k1
       have hb19' := lF hb19
       refine rs hb19 (mvT rfl) rfl ?_
       refine rs hb19 (mvT rfl) rfl ?_
       refine rs hb19 (OpT.uneq (H rfl) (T1 rfl) (T1 rfl)) rfl ?_
       refine st (OpT.pickF (A := .cel _ _) (H rfl) (T1 rfl) hb19 (T1 rfl) rfl) rfl ?_
       exact AWl.to (junk 3 rfl) k1
      ·
       intro hb19 Q1 k1
       refine ps hb19 rfl ?_
       refine ps hb19 rfl ?_
       refine ps hb19 rfl ?_
       refine st (OpT.pickT (A := .cel _ _) (H rfl) (T1 rfl) hb19 Opd.bool rfl) rfl ?_
       exact k1
      refine ng ?_
      refine cd rfl (fun hc6 => ?_) fun hc6 => ?_
      ·
       obtain ⟨hc6, hc6'⟩ := pT hc6
       exact (show False from (by simp [q2, q4, q5, o1] at hc6)).elim
      ·
       obtain ⟨hc6, hc6'⟩ := pF hc6
       refine AW.skip ?_
       refine AX.go ?_
       refine sr ?_
       refine st (mvT rfl) rfl ?_
       refine st (asT rfl) rfl ?_
       refine ng ?_
       refine AW.region ?_
       refine st (mvT rfl) rfl ?_
       refine st (asT rfl) rfl ?_
       refine nn ?_
       refine AX.normal_block ?_
       refine AX.go ?_
       refine AW.region ?_
       refine st (mvT rfl) rfl ?_
       refine st (OpT.add (H rfl) (T1 rfl) (I rfl) (nw (by omega))) rfl ?_
       refine st (asT rfl) rfl ?_
       refine nn ?_
       exact AX.again ((p.1 + 1, (applyS p.2 e).1)) ⟨by simp only []; omega, q3, q6⟩ (by simp only []; omega) (Kc 10 _ (Kv rfl rfl) <| Kc 30 _ (Kv rfl rfl) <| Kc 32 _ (Kv rfl (by rw [q4])) <| Kc 34 _ (Kv rfl (by rw [o1])) <| Kc 35 _ (Kv rfl (by simp only []; omega)) <| Kn)
     ·
      obtain ⟨hc5, hc5'⟩ := pF hc5
      refine AW.exit ?_
      refine xT <| xT <| AX.exit_hit ?_
      refine AX.go ?_
      refine sr ?_
      refine st (mvT rfl) rfl ?_
      refine st (mvT rfl) rfl ?_
      refine st (OpT.ueql (H rfl) (T1 rfl) (T1 rfl)) rfl ?_
      refine st (asT rfl) rfl ?_
      refine AWl.to (kc 4 rfl <| Kn) ?_
      refine ng ?_
      refine AW.ret ?_
      exact rt1 rfl (.inl rfl) (by first | rfl | (rw [ck2, ed_last hD.1.1 hB.1 hI.2.2 (by omega)]; simp))
end Go.Proofs.YtmmjcpiikdcldaaGreatDoor.VL
