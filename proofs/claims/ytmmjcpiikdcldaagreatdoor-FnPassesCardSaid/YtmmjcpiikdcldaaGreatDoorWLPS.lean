/- Proved here: what some functions of the program take and give: walks with the words of VA..VQ. Printed by program. -/
import Derived.Test.YtmmjcpiikdcldaaGreatDoorWT
import Derived.Test.YtmmjcpiikdcldaaGreatDoorPXD
import Derived.Test.YtmmjcpiikdcldaaGreatDoorWLH
import Derived.Test.YtmmjcpiikdcldaaGreatDoorWDR
import Derived.Test.YtmmjcpiikdcldaaGreatDoorWDK
import Derived.Test.YtmmjcpiikdcldaaGreatDoorWAQ
import Derived.Test.YtmmjcpiikdcldaaGreatDoorWPD
import Derived.Test.YtmmjcpiikdcldaaGreatDoorWLT
import Derived.Test.YtmmjcpiikdcldaaGreatDoorWL
set_option linter.unusedVariables false
set_option linter.unusedSimpArgs false
set_option maxRecDepth 4000
namespace Go.Proofs.YtmmjcpiikdcldaaGreatDoor.VL
open Go
set_option maxHeartbeats 4000000 in
/-- laws.FnPasses -/
theorem c_laws_FnPasses (x y : List Int) : AC Tryz.prog 3 [.cel (Kd.slice (Kd.int .u8)) x, .cel (Kd.slice (Kd.int .u8)) y] [.cel Kd.bool true] [] := by
 refine acI (N := 232) Tryz.func3 (Nat.le_of_ble_eq_true rfl) rfl fun w0 hd s0 ar => ?_
 refine AW.to (kc2 0 1 rfl <| Kn) ?_
 refine AW.fact (fun a w hr => ok_slice (R_ok (t := 0) rfl hr)) (fun hb0 => ?_)
 refine AW.fact (fun a w hr => ok_slice (R_ok (t := 1) rfl hr)) (fun hb1 => ?_)
 have hu0 : ∀ b ∈ x, 0 ≤ b ∧ b ≤ 255 := fun b hb => ok_u8 (hb0.1 b hb)
 have hu1 : ∀ b ∈ y, 0 ≤ b ∧ b ≤ 255 := fun b hb => ok_u8 (hb1.1 b hb)
 refine sr ?_
 refine st (asB rfl) rfl ?_
 refine ng ?_
 refine AW.seq ?_
 refine sr ?_
 refine st (mvT rfl) rfl ?_
 refine st (mvT rfl) rfl ?_
 refine st (OpT.c1 (ms := [.flat, .flat]) (c_laws_a2Long _ _) (H rfl) (Af (T1 rfl) rfl rfl <| Af (T1 rfl) rfl rfl <| An) rfl rfl) rfl ?_
 refine ng ?_
 refine cd rfl (fun hc1 => ?_) fun hc1 => ?_
 ·
  obtain ⟨hc1, hc1'⟩ := pT hc1
  refine sr ?_
  refine st (asB rfl) rfl ?_
  refine ng ?_
  refine AW.ret ?_
  refine rT ?_
  exact rt1 rfl (.inl rfl) (by first | rfl | (simp [p1, p3, p4, p5, p6, p7, eqv_self]))
 ·
  obtain ⟨hc1, hc1'⟩ := pF hc1
  refine AW.skip ?_
  refine AX.go ?_
  refine sr ?_
  refine st (mvT rfl) rfl ?_
  refine st (OpT.c1 (ms := [.flat]) (c_spec_A2Scheme _ ⟨hu0, by omega⟩) (H rfl) (Af (T1 rfl) rfl rfl <| An) rfl rfl) rfl ?_
  refine AWl.vw (vex 34 9097 rfl rfl (by decide) (fun _ => rfl)) fun xh => ?_
  obtain ⟨s, hs⟩ := xh
  refine AWl.to (kc4 34 33 32 31 rfl <| kc4 30 4 0 1 rfl <| Kn) ?_
  refine AWl.to (Kc 34 _ (Kv rfl (show _ = s from rfl)) <| (kc4 33 32 31 30 rfl <| kc3 4 0 1 rfl <| Kn)) ?_
  refine st (asT rfl) rfl ?_
  refine ng ?_
  refine sr ?_
  refine st (mvT rfl) rfl ?_
  refine st (mvT rfl) rfl ?_
  refine st (OpT.c1 (ms := [.flat, .flat]) (c_spec_A2Deck _ _ ⟨hu1, by omega⟩ hs.1) (H rfl) (Af (T1 rfl) rfl rfl <| Af (T1 rfl) rfl rfl <| An) rfl rfl) rfl ?_
  refine AWl.vw (vex 37 9097 rfl rfl (by decide) (fun _ => rfl)) fun xh => ?_
  obtain ⟨d, hD⟩ := xh
  refine AWl.to (kc4 37 36 35 5 rfl <| kc4 34 33 32 31 rfl <| kc4 30 4 0 1 rfl <| Kn) ?_
  refine AWl.to (Kc 37 _ (Kv rfl (show _ = d from rfl)) <| (kc4 36 35 5 34 rfl <| kc4 33 32 31 30 rfl <| kc3 4 0 1 rfl <| Kn)) ?_
  refine st (asT rfl) rfl ?_
  refine ng ?_
  refine sr ?_
  refine st (mvT rfl) rfl ?_
  refine st (OpT.c1 (ms := [.flat, .flat, .flat]) (c_laws_a2At _ 0 40 ⟨by omega, hu1⟩) (H rfl) (Af (T1 rfl) rfl rfl <| Af (I rfl) rfl rfl <| Af (I rfl) rfl rfl <| An) rfl rfl) rfl ?_
  refine st (asT rfl) rfl ?_
  refine AWl.to (kc4 7 6 4 1 rfl <| Kn) ?_
  refine ng ?_
  refine sr ?_
  refine st (mvT rfl) rfl ?_
  refine st (OpT.c1 (ms := [.flat, .flat, .flat]) (c_laws_a2At _ 1 40 ⟨by omega, hu1⟩) (H rfl) (Af (T1 rfl) rfl rfl <| Af (I rfl) rfl rfl <| Af (I rfl) rfl rfl <| An) rfl rfl) rfl ?_
  refine st (asT rfl) rfl ?_
  refine ng ?_
  refine sr ?_
  refine st (mvT rfl) rfl ?_
  refine st (mvT rfl) rfl ?_
  refine s3 (cN (ms := [.flat, .flat]) (c_impl_PassNeedle _ _) (H rfl) (Af (T1 rfl) rfl rfl <| Af (T1 rfl) rfl rfl <| An) rfl (.inl rfl)) rfl ?_
  refine st (OpT.alias (H rfl) (by decide) (by decide)) rfl ?_
  refine st (OpT.extractV (m := 10045) (H rfl) rfl rfl rfl rfl rfl rfl rfl) rfl ?_
  refine st (OpT.extractV (m := 20045) (H rfl) rfl rfl rfl rfl rfl rfl rfl) rfl ?_
  refine st (OpT.extractV (m := 30045) (H rfl) rfl rfl rfl rfl rfl rfl rfl) rfl ?_
  refine st (asT rfl) rfl ?_
  refine st (asT rfl) rfl ?_
  refine st (asT rfl) rfl ?_
  refine AWl.to (kc4 11 10 9 8 rfl <| kc3 7 6 4 rfl <| Kn) ?_
  refine ng ?_
  refine sr ?_
  refine st (mvT rfl) rfl ?_
  refine st (mvT rfl) rfl ?_
  refine s3 (cN (ms := [.flat, .flat]) (c_spec_PassNeedle _ _) (H rfl) (Af (T1 rfl) rfl rfl <| Af (T1 rfl) rfl rfl <| An) rfl (.inl rfl)) rfl ?_
  refine st (OpT.alias (H rfl) (by decide) (by decide)) rfl ?_
  refine st (OpT.extractV (m := 10052) (H rfl) rfl rfl rfl rfl rfl rfl rfl) rfl ?_
  refine st (OpT.extractV (m := 20052) (H rfl) rfl rfl rfl rfl rfl rfl rfl) rfl ?_
  refine st (OpT.extractV (m := 30052) (H rfl) rfl rfl rfl rfl rfl rfl rfl) rfl ?_
  refine st (asT rfl) rfl ?_
  refine st (asT rfl) rfl ?_
  refine st (asT rfl) rfl ?_
  refine ng ?_
  refine sr ?_
  refine st (mvT rfl) rfl ?_
  refine st (mvT rfl) rfl ?_
  refine s3 (cN (ms := [.flat, .flat]) (c_impl_SplitDeck _ _) (H rfl) (Af (T1 rfl) rfl rfl <| Af (T1 rfl) rfl rfl <| An) rfl (.inl rfl)) rfl ?_
  refine st (OpT.alias (H rfl) (by decide) (by decide)) rfl ?_
  refine st (OpT.extractV (m := 10059) (H rfl) rfl rfl rfl rfl rfl rfl rfl) rfl ?_
  refine st (OpT.extractV (m := 20059) (H rfl) rfl rfl rfl rfl rfl rfl rfl) rfl ?_
  refine st (OpT.extractV (m := 30059) (H rfl) rfl rfl rfl rfl rfl rfl rfl) rfl ?_
  refine st (asT rfl) rfl ?_
  refine st (asT rfl) rfl ?_
  refine st (asT rfl) rfl ?_
  refine AWl.to (kc4 17 16 15 14 rfl <| kc4 13 12 11 10 rfl <| kc4 9 8 7 6 rfl <| kc 4 rfl <| Kn) ?_
  refine ng ?_
  refine AW.seq ?_
  refine sr ?_
  refine st (mvT rfl) rfl ?_
  refine st (mvT rfl) rfl ?_
  refine st (OpT.neq (H rfl) (T1 rfl) (T1 rfl)) rfl ?_
  refine st (mvT rfl) rfl ?_
  apply AWl.or (d := 69) (t := 66) rfl
  ·
   intro hb1 Q1 k1
   have hb1' := lF hb1
   refine rs hb1 (mvT rfl) rfl ?_
   refine rs hb1 (OpT.neq (H rfl) (T1 rfl) (I rfl)) rfl ?_
   refine st (OpT.pickF (A := .cel _ _) (H rfl) (T1 rfl) hb1 (T1 rfl) rfl) rfl ?_
   exact AWl.to (junk 2 rfl) k1
  ·
   intro hb1 Q1 k1
   refine ps hb1 rfl ?_
   refine ps hb1 rfl ?_
   refine st (OpT.pickT (A := .cel _ _) (H rfl) (T1 rfl) hb1 Opd.bool rfl) rfl ?_
   exact k1
  refine st (mvT rfl) rfl ?_
  apply AWl.or (d := 75) (t := 70) rfl
  ·
   intro hb2 Q1 k1
   have hb2' := lF hb2
   refine rs hb2 (mvT rfl) rfl ?_
   refine rs hb2 (mvT rfl) rfl ?_
   refine rs hb2 (OpT.c1 (ms := [.flat, .flat]) (c_spec_SameDeck _ _) (H rfl) (Af (T1 rfl) rfl rfl <| Af (T1 rfl) rfl rfl <| An) rfl rfl) rfl ?_
   refine rs hb2 (OpT.not (H rfl) (T1 rfl)) rfl ?_
   refine st (OpT.pickF (A := .cel _ _) (H rfl) (T1 rfl) hb2 (T1 rfl) rfl) rfl ?_
   exact AWl.to (junk 4 rfl) k1
  ·
   intro hb2 Q1 k1
   refine ps hb2 rfl ?_
   refine ps hb2 rfl ?_
   refine ps hb2 rfl ?_
   refine ps hb2 rfl ?_
   refine st (OpT.pickT (A := .cel _ _) (H rfl) (T1 rfl) hb2 Opd.bool rfl) rfl ?_
   exact k1
  refine st (mvT rfl) rfl ?_
  apply AWl.or (d := 80) (t := 76) rfl
  ·
   intro hb3 Q1 k1
   have hb3' := lF hb3
   refine rs hb3 (mvT rfl) rfl ?_
   refine rs hb3 (mvT rfl) rfl ?_
   refine rs hb3 (OpT.neq (H rfl) (T1 rfl) (T1 rfl)) rfl ?_
   refine st (OpT.pickF (A := .cel _ _) (H rfl) (T1 rfl) hb3 (T1 rfl) rfl) rfl ?_
   exact AWl.to (junk 3 rfl) k1
  ·
   intro hb3 Q1 k1
   refine ps hb3 rfl ?_
   refine ps hb3 rfl ?_
   refine ps hb3 rfl ?_
   refine st (OpT.pickT (A := .cel _ _) (H rfl) (T1 rfl) hb3 Opd.bool rfl) rfl ?_
   exact k1
  refine st (mvT rfl) rfl ?_
  apply AWl.or (d := 84) (t := 81) rfl
  ·
   intro hb4 Q1 k1
   have hb4' := lF hb4
   refine rs hb4 (mvT rfl) rfl ?_
   refine rs hb4 (OpT.neq (H rfl) (T1 rfl) (I rfl)) rfl ?_
   refine st (OpT.pickF (A := .cel _ _) (H rfl) (T1 rfl) hb4 (T1 rfl) rfl) rfl ?_
   exact AWl.to (junk 2 rfl) k1
  ·
   intro hb4 Q1 k1
   refine ps hb4 rfl ?_
   refine ps hb4 rfl ?_
   refine st (OpT.pickT (A := .cel _ _) (H rfl) (T1 rfl) hb4 Opd.bool rfl) rfl ?_
   exact k1
  refine st (mvT rfl) rfl ?_
  apply AWl.or (d := 90) (t := 85) rfl
  ·
   intro hb5 Q1 k1
   have hb5' := lF hb5
   refine rs hb5 (mvT rfl) rfl ?_
   refine rs hb5 (OpT.len (H rfl) (T1 rfl) el26) rfl ?_
   refine rs hb5 (mvT rfl) rfl ?_
   refine rs hb5 (OpT.neq (H rfl) (T1 rfl) (T1 rfl)) rfl ?_
   refine st (OpT.pickF (A := .cel _ _) (H rfl) (T1 rfl) hb5 (T1 rfl) rfl) rfl ?_
   exact AWl.to (junk 4 rfl) k1
  ·
   intro hb5 Q1 k1
   refine ps hb5 rfl ?_
   refine ps hb5 rfl ?_
   refine ps hb5 rfl ?_
   refine ps hb5 rfl ?_
   refine st (OpT.pickT (A := .cel _ _) (H rfl) (T1 rfl) hb5 Opd.bool rfl) rfl ?_
   exact k1
  refine st (mvT rfl) rfl ?_
  apply AWl.or (d := 100) (t := 91) rfl
  ·
   intro hb6 Q1 k1
   have hb6' := lF hb6
   refine rs hb6 (mvT rfl) rfl ?_
   refine rs hb6 (OpT.len (H rfl) (T1 rfl) el26) rfl ?_
   refine rs hb6 (mvT rfl) rfl ?_
   refine rs hb6 (OpT.len (H rfl) (T1 rfl) el26) rfl ?_
   refine rs hb6 (OpT.add (H rfl) (T1 rfl) (T1 rfl) (nw (by have q1 := spd_len d (atS y 0 40); omega))) rfl ?_
   refine rs hb6 (mvT rfl) rfl ?_
   refine rs hb6 (OpT.len (H rfl) (T1 rfl) el26) rfl ?_
   refine rs hb6 (OpT.neq (H rfl) (T1 rfl) (T1 rfl)) rfl ?_
   refine st (OpT.pickF (A := .cel _ _) (H rfl) (T1 rfl) hb6 (T1 rfl) rfl) rfl ?_
   exact AWl.to (junk 8 rfl) k1
  ·
   intro hb6 Q1 k1
   refine ps hb6 rfl ?_
   refine ps hb6 rfl ?_
   refine ps hb6 rfl ?_
   refine ps hb6 rfl ?_
   refine ps hb6 rfl ?_
   refine ps hb6 rfl ?_
   refine ps hb6 rfl ?_
   refine ps hb6 rfl ?_
   refine st (OpT.pickT (A := .cel _ _) (H rfl) (T1 rfl) hb6 Opd.bool rfl) rfl ?_
   exact k1
  refine st (mvT rfl) rfl ?_
  apply AWl.or (d := 107) (t := 101) rfl
  ·
   intro hb7 Q1 k1
   have hb7' := lF hb7
   refine rs hb7 (mvT rfl) rfl ?_
   refine rs hb7 (OpT.len (H rfl) (T1 rfl) el26) rfl ?_
   refine rs hb7 (mvT rfl) rfl ?_
   refine rs hb7 (OpT.len (H rfl) (T1 rfl) el26) rfl ?_
   refine rs hb7 (OpT.neq (H rfl) (T1 rfl) (T1 rfl)) rfl ?_
   refine st (OpT.pickF (A := .cel _ _) (H rfl) (T1 rfl) hb7 (T1 rfl) rfl) rfl ?_
   exact AWl.to (junk 5 rfl) k1
  ·
   intro hb7 Q1 k1
   refine ps hb7 rfl ?_
   refine ps hb7 rfl ?_
   refine ps hb7 rfl ?_
   refine ps hb7 rfl ?_
   refine ps hb7 rfl ?_
   refine st (OpT.pickT (A := .cel _ _) (H rfl) (T1 rfl) hb7 Opd.bool rfl) rfl ?_
   exact k1
  refine AWl.to (kc4 107 16 15 12 rfl <| kc4 8 7 6 4 rfl <| Kn) ?_
  refine ng ?_
  refine cd rfl (fun hc2 => ?_) fun hc2 => ?_
  ·
   obtain ⟨hc2, hc2'⟩ := pT hc2
   obtain ⟨p1, p2, p3, p4, p5, p6, p7⟩ := pass_law hD.1.1 (atS_40 hu1 (i := 0) (by decide)) (atS_40 hu1 (i := 1) (by decide))
   have psl := split_len d (atS y 0 40)
   have ppl := pass_len d (atS y 0 40)
   have e1 : stayM d (atS y 0 40) = (spdS d (atS y 0 40)).1 := by rw [p2]
   have e2 : dropM d (atS y 0 40) = (spdS d (atS y 0 40)).2.1 := by rw [p2]
   exact (show False from (by simp [p1, p2, eqv_self] at hc2; omega)).elim
  ·
   obtain ⟨hc2, hc2'⟩ := pF hc2
   obtain ⟨p1, p2, p3, p4, p5, p6, p7⟩ := pass_law hD.1.1 (atS_40 hu1 (i := 0) (by decide)) (atS_40 hu1 (i := 1) (by decide))
   have psl := split_len d (atS y 0 40)
   have ppl := pass_len d (atS y 0 40)
   have e1 : stayM d (atS y 0 40) = (spdS d (atS y 0 40)).1 := by rw [p2]
   have e2 : dropM d (atS y 0 40) = (spdS d (atS y 0 40)).2.1 := by rw [p2]
   refine AW.skip ?_
   refine AX.go ?_
   refine AW.seq ?_
   refine sr ?_
   refine st (asI rfl) rfl ?_
   refine ng ?_
   refine AW.block ?_
   refine AW.loop (fun z : Nat => z ≤ (pasS d (atS y 0 40)).1.length) (fun z : Nat => keep [(6, .cel (Kd.slice kCard) d), (7, .cel (Kd.int .i64) (atS y 0 40)), (8, .cel (Kd.int .i64) (atS y 1 40)), (12, .cel (Kd.slice kCard) (pasS d (atS y 0 40)).1), (15, .cel (Kd.slice kCard) (spdS d (atS y 0 40)).1), (16, .cel (Kd.slice kCard) (spdS d (atS y 0 40)).2.1), (18, .cel (Kd.int .i64) (z : Int))]) (fun z : Nat => (pasS d (atS y 0 40)).1.length - z) (0) (Nat.zero_le _) (Kc 6 _ (Kv rfl rfl) <| Kc 7 _ (Kv rfl rfl) <| Kc 8 _ (Kv rfl rfl) <| Kc 12 _ (Kv rfl rfl) <| Kc 15 _ (Kv rfl rfl) <| Kc 16 _ (Kv rfl rfl) <| Kc 18 _ (Kv rfl rfl) <| Kn) ?_
   intro z hI
   refine AW.seq ?_
   refine sr ?_
   refine st (mvT rfl) rfl ?_
   refine st (mvT rfl) rfl ?_
   refine st (OpT.len (H rfl) (T1 rfl) el26) rfl ?_
   refine st (OpT.lss (H rfl) (T1 rfl) (T1 rfl)) rfl ?_
   refine ng ?_
   refine cd rfl (fun hc3 => ?_) fun hc3 => ?_
   ·
    obtain ⟨hc3, hc3'⟩ := pT hc3
    obtain ⟨cw, hcd⟩ := getI (x := (pasS d (atS y 0 40)).1) (z := z) (by omega)
    have hpc := pass_at hD.1.1 (atS_40 hu1 (i := 0) (by decide)) (by rw [p1] at hcd; exact hcd)
    rw [e1, e2] at hpc
    refine AW.skip ?_
    refine AX.go ?_
    refine AW.seq ?_
    refine AW.block ?_
    refine sr ?_
    refine st (mvT rfl) rfl ?_
    refine st (mvT rfl) rfl ?_
    refine st (OpT.indexAddr (H rfl) (T1 rfl) (T1 rfl) el26 sz40 (by omega) hcd) rfl ?_
    refine st (OpT.fieldAddr (H rfl) (T1 rfl) fd40_1 sz38 (by decide) sb40_1) rfl ?_
    refine st (OpT.loadA (H rfl) (T1 rfl) ag38 sz38) rfl ?_
    refine st (mvT rfl) rfl ?_
    refine s2 (OpT.c2 (ms := [.flat, .flat]) (c_impl_HasHole _ _) (H rfl) (Af (T1 rfl) rfl rfl <| Af (T1 rfl) rfl rfl <| An) rfl rfl rfl) rfl ?_
    refine st (OpT.alias (H rfl) (by decide) (by decide)) rfl ?_
    refine st (OpT.extractV (m := 10121) (H rfl) rfl rfl rfl rfl rfl rfl rfl) rfl ?_
    refine st (OpT.extractV (m := 20121) (H rfl) rfl rfl rfl rfl rfl rfl rfl) rfl ?_
    refine st (asT rfl) rfl ?_
    refine st (asT rfl) rfl ?_
    refine ng ?_
    refine AW.seq ?_
    refine sr ?_
    refine st (mvT rfl) rfl ?_
    refine st (OpT.neq (H rfl) (T1 rfl) (I rfl)) rfl ?_
    refine st (mvT rfl) rfl ?_
    apply AWl.or (d := 133) (t := 126) rfl
    ·
     intro hb8 Q1 k1
     have hb8' := lF hb8
     refine rs hb8 (mvT rfl) rfl ?_
     refine rs hb8 (mvT rfl) rfl ?_
     refine rs hb8 (mvT rfl) rfl ?_
     refine rs hb8 (OpT.len (H rfl) (T1 rfl) el26) rfl ?_
     refine rs hb8 (OpT.geq (H rfl) (T1 rfl) (T1 rfl)) rfl ?_
     refine rs hb8 (OpT.bneq (H rfl) Tryz.underlying4 (T1 rfl) (T1 rfl)) rfl ?_
     refine st (OpT.pickF (A := .cel _ _) (H rfl) (T1 rfl) hb8 (T1 rfl) rfl) rfl ?_
     exact AWl.to (junk 6 rfl) k1
    ·
     intro hb8 Q1 k1
     refine ps hb8 rfl ?_
     refine ps hb8 rfl ?_
     refine ps hb8 rfl ?_
     refine ps hb8 rfl ?_
     refine ps hb8 rfl ?_
     refine ps hb8 rfl ?_
     refine st (OpT.pickT (A := .cel _ _) (H rfl) (T1 rfl) hb8 Opd.bool rfl) rfl ?_
     exact k1
    refine ng ?_
    refine cd rfl (fun hc4 => ?_) fun hc4 => ?_
    ·
     obtain ⟨hc4, hc4'⟩ := pT hc4
     exact (show False from (by simp [hpc.1] at hc4)).elim
    ·
     obtain ⟨hc4, hc4'⟩ := pF hc4
     refine AW.skip ?_
     refine AX.go ?_
     refine AW.seq ?_
     rcases Bool.eq_false_or_eq_true (decide ((z : Int) < (((spdS d (atS y 0 40)).1).length : Int))) with hd1 | hd1
     ·
      have hd1' := lT hd1
      rcases Bool.eq_false_or_eq_true (!(eqv cw cw)) with hd2 | hd2
      ·
       have hd2' := lT hd2
       refine dh fomo ?_
       refine d1 [18] (fun ve h => OpT.move (A := .cel _ _) (.inl rfl) rfl (ok' rfl) (D1 h rfl) rfl) rfl ?_
       refine d1 [15] (fun ve h => OpT.move (A := .cel _ _) (.inl rfl) rfl (ok' rfl) (D1 h rfl) rfl) rfl ?_
       refine d1 [135] (fun ve h => OpT.len (H rfl) (D1 h rfl) el26) rfl ?_
       refine d1 [134, 136] (fun ve h => OpT.lss (H rfl) (D1 h rfl) (D1 h rfl)) rfl ?_
       refine d1 [137] (fun ve h => OpT.move (A := .cel _ _) (.inl rfl) rfl (ok' rfl) (D1 h rfl) rfl) rfl ?_
       refine dr [15, 138] hd1 (fun ve h => OpT.move (A := .cel _ _) (.inl rfl) rfl (ok' rfl) (D1 h rfl) rfl) rfl ?_
       refine dr [18, 138] hd1 (fun ve h => OpT.move (A := .cel _ _) (.inl rfl) rfl (ok' rfl) (D1 h rfl) rfl) rfl ?_
       refine dr [138, 139, 140] hd1 (fun ve h => OpT.indexAddr (H rfl) (D1 h rfl) (D1 h rfl) el26 sz40 (by omega) (hpc.2.1 (by omega))) rfl ?_
       refine dr [138, 141] hd1 (fun ve h => OpT.loadA (H rfl) (D1 h rfl) ag40 sz40) rfl ?_
       refine dr [12, 138] hd1 (fun ve h => OpT.move (A := .cel _ _) (.inl rfl) rfl (ok' rfl) (D1 h rfl) rfl) rfl ?_
       refine dr [18, 138] hd1 (fun ve h => OpT.move (A := .cel _ _) (.inl rfl) rfl (ok' rfl) (D1 h rfl) rfl) rfl ?_
       refine dr [138, 143, 144] hd1 (fun ve h => OpT.indexAddr (H rfl) (D1 h rfl) (D1 h rfl) el26 sz40 (by omega) hcd) rfl ?_
       refine dr [138, 145] hd1 (fun ve h => OpT.loadA (H rfl) (D1 h rfl) ag40 sz40) rfl ?_
       refine dr [138, 142, 146] hd1 (fun ve h => OpT.neA (H rfl) (D1 h rfl) (D1 h rfl) eq40 ag40 rfl eg40) rfl ?_
       refine d1 [138, 147] (fun ve h => OpT.pickT (A := .cel _ _) (H rfl) (D1 h rfl) hd1 (D1 h rfl) rfl) rfl ?_
       refine d1 [148] (fun ve h => OpT.move (A := .cel _ _) (.inl rfl) rfl (ok' rfl) (D1 h rfl) rfl) rfl ?_
       refine dp hd2 rfl ?_
       refine dp hd2 rfl ?_
       refine dp hd2 rfl ?_
       refine dp hd2 rfl ?_
       refine dq hd2 rfl ?_
       refine dpu rfl ?_
       refine dpu rfl ?_
       refine dpu rfl ?_
       refine dpu rfl ?_
       refine dpu rfl ?_
       refine dpu rfl ?_
       refine dpu rfl ?_
       refine dpu rfl ?_
       refine dpu rfl ?_
       refine dpu rfl ?_
       refine dpu rfl ?_
       refine dpu rfl ?_
       refine dp hd2 rfl ?_
       refine d1 [149] (fun ve h => OpT.pickT (A := .cel _ _) (H rfl) (D1 h rfl) hd2 Opd.bool rfl) rfl ?_
       refine dn ⟨by kernel_rfl, by kernel_rfl, ?_⟩
       refine AX.go ?_
       refine cd rfl (fun hc5 => ?_) fun hc5 => ?_
       ·
        obtain ⟨hc5, hc5'⟩ := pT hc5
        exact (show False from (by first | omega | (simp [eqv_self] at hd2; done) | (simp [eqv_self] at hd3; done) | (simp [eqv_self] at hc5; done) | (cases hc5))).elim
       ·
        obtain ⟨hc5, hc5'⟩ := pF hc5
        exact absurd hc5 (by decide)
      ·
       have hd2' := lF hd2
       rcases Bool.eq_false_or_eq_true (decide ((z : Int) ≥ (((spdS d (atS y 0 40)).1).length : Int))) with hd3 | hd3
       ·
        have hd3' := lT hd3
        refine dh fomo ?_
        refine d1 [18] (fun ve h => OpT.move (A := .cel _ _) (.inl rfl) rfl (ok' rfl) (D1 h rfl) rfl) rfl ?_
        refine d1 [15] (fun ve h => OpT.move (A := .cel _ _) (.inl rfl) rfl (ok' rfl) (D1 h rfl) rfl) rfl ?_
        refine d1 [135] (fun ve h => OpT.len (H rfl) (D1 h rfl) el26) rfl ?_
        refine d1 [134, 136] (fun ve h => OpT.lss (H rfl) (D1 h rfl) (D1 h rfl)) rfl ?_
        refine d1 [137] (fun ve h => OpT.move (A := .cel _ _) (.inl rfl) rfl (ok' rfl) (D1 h rfl) rfl) rfl ?_
        refine dr [15, 138] hd1 (fun ve h => OpT.move (A := .cel _ _) (.inl rfl) rfl (ok' rfl) (D1 h rfl) rfl) rfl ?_
        refine dr [18, 138] hd1 (fun ve h => OpT.move (A := .cel _ _) (.inl rfl) rfl (ok' rfl) (D1 h rfl) rfl) rfl ?_
        refine dr [138, 139, 140] hd1 (fun ve h => OpT.indexAddr (H rfl) (D1 h rfl) (D1 h rfl) el26 sz40 (by omega) (hpc.2.1 (by omega))) rfl ?_
        refine dr [138, 141] hd1 (fun ve h => OpT.loadA (H rfl) (D1 h rfl) ag40 sz40) rfl ?_
        refine dr [12, 138] hd1 (fun ve h => OpT.move (A := .cel _ _) (.inl rfl) rfl (ok' rfl) (D1 h rfl) rfl) rfl ?_
        refine dr [18, 138] hd1 (fun ve h => OpT.move (A := .cel _ _) (.inl rfl) rfl (ok' rfl) (D1 h rfl) rfl) rfl ?_
        refine dr [138, 143, 144] hd1 (fun ve h => OpT.indexAddr (H rfl) (D1 h rfl) (D1 h rfl) el26 sz40 (by omega) hcd) rfl ?_
        refine dr [138, 145] hd1 (fun ve h => OpT.loadA (H rfl) (D1 h rfl) ag40 sz40) rfl ?_
        refine dr [138, 142, 146] hd1 (fun ve h => OpT.neA (H rfl) (D1 h rfl) (D1 h rfl) eq40 ag40 rfl eg40) rfl ?_
        refine d1 [138, 147] (fun ve h => OpT.pickT (A := .cel _ _) (H rfl) (D1 h rfl) hd1 (D1 h rfl) rfl) rfl ?_
        refine d1 [148] (fun ve h => OpT.move (A := .cel _ _) (.inl rfl) rfl (ok' rfl) (D1 h rfl) rfl) rfl ?_
        refine dr [18, 149] hd2 (fun ve h => OpT.move (A := .cel _ _) (.inl rfl) rfl (ok' rfl) (D1 h rfl) rfl) rfl ?_
        refine dr [15, 149] hd2 (fun ve h => OpT.move (A := .cel _ _) (.inl rfl) rfl (ok' rfl) (D1 h rfl) rfl) rfl ?_
        refine dr [149, 151] hd2 (fun ve h => OpT.len (H rfl) (D1 h rfl) el26) rfl ?_
        refine dr [149, 150, 152] hd2 (fun ve h => OpT.geq (H rfl) (D1 h rfl) (D1 h rfl)) rfl ?_
        refine dr [149, 153] hd2 (fun ve h => OpT.move (A := .cel _ _) (.inl rfl) rfl (ok' rfl) (D1 h rfl) rfl) rfl ?_
        refine dr [16, 154] hd3 (fun ve h => OpT.move (A := .cel _ _) (.inl rfl) rfl (ok' rfl) (D1 h rfl) rfl) rfl ?_
        refine dr [18, 154] hd3 (fun ve h => OpT.move (A := .cel _ _) (.inl rfl) rfl (ok' rfl) (D1 h rfl) rfl) rfl ?_
        refine dr [15, 154] hd3 (fun ve h => OpT.move (A := .cel _ _) (.inl rfl) rfl (ok' rfl) (D1 h rfl) rfl) rfl ?_
        refine dr [154, 157] hd3 (fun ve h => OpT.len (H rfl) (D1 h rfl) el26) rfl ?_
        refine dr [154, 156, 158] hd3 (fun ve h => OpT.sub (H rfl) (D1 h rfl) (D1 h rfl) (nw (by omega))) rfl ?_
        refine dr [154, 155, 159] hd3 (fun ve h => OpT.indexAddr (H rfl) (D1 h rfl) (D1 h rfl) el26 sz40 (by omega) (hpc.2.2 (by omega))) rfl ?_
        refine dr [154, 160] hd3 (fun ve h => OpT.loadA (H rfl) (D1 h rfl) ag40 sz40) rfl ?_
        refine dr [12, 154] hd3 (fun ve h => OpT.move (A := .cel _ _) (.inl rfl) rfl (ok' rfl) (D1 h rfl) rfl) rfl ?_
        refine dr [18, 154] hd3 (fun ve h => OpT.move (A := .cel _ _) (.inl rfl) rfl (ok' rfl) (D1 h rfl) rfl) rfl ?_
        refine dr [154, 162, 163] hd3 (fun ve h => OpT.indexAddr (H rfl) (D1 h rfl) (D1 h rfl) el26 sz40 (by omega) hcd) rfl ?_
        refine dr [154, 164] hd3 (fun ve h => OpT.loadA (H rfl) (D1 h rfl) ag40 sz40) rfl ?_
        refine dr [154, 161, 165] hd3 (fun ve h => OpT.neA (H rfl) (D1 h rfl) (D1 h rfl) eq40 ag40 rfl eg40) rfl ?_
        refine dr [149, 154, 166] hd2 (fun ve h => OpT.pickT (A := .cel _ _) (H rfl) (D1 h rfl) hd3 (D1 h rfl) rfl) rfl ?_
        refine d1 [149, 167] (fun ve h => OpT.pickF (A := .cel _ _) (H rfl) (D1 h rfl) hd2 (D1 h rfl) rfl) rfl ?_
        refine dn ⟨by kernel_rfl, by kernel_rfl, ?_⟩
        refine AX.go ?_
        refine cd rfl (fun hc6 => ?_) fun hc6 => ?_
        ·
         obtain ⟨hc6, hc6'⟩ := pT hc6
         exact (show False from (by first | omega | (simp [eqv_self] at hd2; done) | (simp [eqv_self] at hd3; done) | (simp [eqv_self] at hc6; done) | (cases hc6))).elim
        ·
         obtain ⟨hc6, hc6'⟩ := pF hc6
         refine AW.skip ?_
         refine AX.normal_block ?_
         refine AX.go ?_
         refine AW.region ?_
         refine st (mvT rfl) rfl ?_
         refine st (OpT.add (H rfl) (T1 rfl) (I rfl) (nw (by omega))) rfl ?_
         refine st (asT rfl) rfl ?_
         refine nn ?_
         exact AX.again (z + 1) (by omega) (by omega) (Kc 6 _ (Kv rfl rfl) <| Kc 7 _ (Kv rfl rfl) <| Kc 8 _ (Kv rfl rfl) <| Kc 12 _ (Kv rfl rfl) <| Kc 15 _ (Kv rfl rfl) <| Kc 16 _ (Kv rfl rfl) <| Kc 18 _ (Kv rfl (by omega)) <| Kn)
       ·
        have hd3' := lF hd3
        refine dh fomo ?_
        refine d1 [18] (fun ve h => OpT.move (A := .cel _ _) (.inl rfl) rfl (ok' rfl) (D1 h rfl) rfl) rfl ?_
        refine d1 [15] (fun ve h => OpT.move (A := .cel _ _) (.inl rfl) rfl (ok' rfl) (D1 h rfl) rfl) rfl ?_
        refine d1 [135] (fun ve h => OpT.len (H rfl) (D1 h rfl) el26) rfl ?_
        refine d1 [134, 136] (fun ve h => OpT.lss (H rfl) (D1 h rfl) (D1 h rfl)) rfl ?_
        refine d1 [137] (fun ve h => OpT.move (A := .cel _ _) (.inl rfl) rfl (ok' rfl) (D1 h rfl) rfl) rfl ?_
        refine dr [15, 138] hd1 (fun ve h => OpT.move (A := .cel _ _) (.inl rfl) rfl (ok' rfl) (D1 h rfl) rfl) rfl ?_
        refine dr [18, 138] hd1 (fun ve h => OpT.move (A := .cel _ _) (.inl rfl) rfl (ok' rfl) (D1 h rfl) rfl) rfl ?_
        refine dr [138, 139, 140] hd1 (fun ve h => OpT.indexAddr (H rfl) (D1 h rfl) (D1 h rfl) el26 sz40 (by omega) (hpc.2.1 (by omega))) rfl ?_
        refine dr [138, 141] hd1 (fun ve h => OpT.loadA (H rfl) (D1 h rfl) ag40 sz40) rfl ?_
        refine dr [12, 138] hd1 (fun ve h => OpT.move (A := .cel _ _) (.inl rfl) rfl (ok' rfl) (D1 h rfl) rfl) rfl ?_
        refine dr [18, 138] hd1 (fun ve h => OpT.move (A := .cel _ _) (.inl rfl) rfl (ok' rfl) (D1 h rfl) rfl) rfl ?_
        refine dr [138, 143, 144] hd1 (fun ve h => OpT.indexAddr (H rfl) (D1 h rfl) (D1 h rfl) el26 sz40 (by omega) hcd) rfl ?_
        refine dr [138, 145] hd1 (fun ve h => OpT.loadA (H rfl) (D1 h rfl) ag40 sz40) rfl ?_
        refine dr [138, 142, 146] hd1 (fun ve h => OpT.neA (H rfl) (D1 h rfl) (D1 h rfl) eq40 ag40 rfl eg40) rfl ?_
        refine d1 [138, 147] (fun ve h => OpT.pickT (A := .cel _ _) (H rfl) (D1 h rfl) hd1 (D1 h rfl) rfl) rfl ?_
        refine d1 [148] (fun ve h => OpT.move (A := .cel _ _) (.inl rfl) rfl (ok' rfl) (D1 h rfl) rfl) rfl ?_
        refine dr [18, 149] hd2 (fun ve h => OpT.move (A := .cel _ _) (.inl rfl) rfl (ok' rfl) (D1 h rfl) rfl) rfl ?_
        refine dr [15, 149] hd2 (fun ve h => OpT.move (A := .cel _ _) (.inl rfl) rfl (ok' rfl) (D1 h rfl) rfl) rfl ?_
        refine dr [149, 151] hd2 (fun ve h => OpT.len (H rfl) (D1 h rfl) el26) rfl ?_
        refine dr [149, 150, 152] hd2 (fun ve h => OpT.geq (H rfl) (D1 h rfl) (D1 h rfl)) rfl ?_
        refine dr [149, 153] hd2 (fun ve h => OpT.move (A := .cel _ _) (.inl rfl) rfl (ok' rfl) (D1 h rfl) rfl) rfl ?_
        refine dp hd3 rfl ?_
        refine dp hd3 rfl ?_
        refine dp hd3 rfl ?_
        refine dp hd3 rfl ?_
        refine dp hd3 rfl ?_
        refine dp hd3 rfl ?_
        refine dp hd3 rfl ?_
        refine dp hd3 rfl ?_
        refine dp hd3 rfl ?_
        refine dp hd3 rfl ?_
        refine dp hd3 rfl ?_
        refine dp hd3 rfl ?_
        refine dr [149, 154] hd2 (fun ve h => OpT.pickF (A := .cel _ _) (H rfl) (D1 h rfl) hd3 Opd.bool rfl) rfl ?_
        refine d1 [149, 167] (fun ve h => OpT.pickF (A := .cel _ _) (H rfl) (D1 h rfl) hd2 (D1 h rfl) rfl) rfl ?_
        refine dn ⟨by kernel_rfl, by kernel_rfl, ?_⟩
        refine AX.go ?_
        refine cd rfl (fun hc7 => ?_) fun hc7 => ?_
        ·
         obtain ⟨hc7, hc7'⟩ := pT hc7
         exact absurd hc7 (by decide)
        ·
         obtain ⟨hc7, hc7'⟩ := pF hc7
         refine AW.skip ?_
         refine AX.normal_block ?_
         refine AX.go ?_
         refine AW.region ?_
         refine st (mvT rfl) rfl ?_
         refine st (OpT.add (H rfl) (T1 rfl) (I rfl) (nw (by omega))) rfl ?_
         refine st (asT rfl) rfl ?_
         refine nn ?_
         exact AX.again (z + 1) (by omega) (by omega) (Kc 6 _ (Kv rfl rfl) <| Kc 7 _ (Kv rfl rfl) <| Kc 8 _ (Kv rfl rfl) <| Kc 12 _ (Kv rfl rfl) <| Kc 15 _ (Kv rfl rfl) <| Kc 16 _ (Kv rfl rfl) <| Kc 18 _ (Kv rfl (by omega)) <| Kn)
     ·
      have hd1' := lF hd1
      rcases Bool.eq_false_or_eq_true (decide ((z : Int) ≥ (((spdS d (atS y 0 40)).1).length : Int))) with hd4 | hd4
      ·
       have hd4' := lT hd4
       refine dh fomo ?_
       refine d1 [18] (fun ve h => OpT.move (A := .cel _ _) (.inl rfl) rfl (ok' rfl) (D1 h rfl) rfl) rfl ?_
       refine d1 [15] (fun ve h => OpT.move (A := .cel _ _) (.inl rfl) rfl (ok' rfl) (D1 h rfl) rfl) rfl ?_
       refine d1 [135] (fun ve h => OpT.len (H rfl) (D1 h rfl) el26) rfl ?_
       refine d1 [134, 136] (fun ve h => OpT.lss (H rfl) (D1 h rfl) (D1 h rfl)) rfl ?_
       refine d1 [137] (fun ve h => OpT.move (A := .cel _ _) (.inl rfl) rfl (ok' rfl) (D1 h rfl) rfl) rfl ?_
       refine dp hd1 rfl ?_
       refine dp hd1 rfl ?_
       refine dp hd1 rfl ?_
       refine dp hd1 rfl ?_
       refine dp hd1 rfl ?_
       refine dp hd1 rfl ?_
       refine dp hd1 rfl ?_
       refine dp hd1 rfl ?_
       refine dp hd1 rfl ?_
       refine d1 [138] (fun ve h => OpT.pickF (A := .cel _ _) (H rfl) (D1 h rfl) hd1 Opd.bool rfl) rfl ?_
       refine d1 [148] (fun ve h => OpT.move (A := .cel _ _) (.inl rfl) rfl (ok' rfl) (D1 h rfl) rfl) rfl ?_
       refine dr [18, 149] rfl (fun ve h => OpT.move (A := .cel _ _) (.inl rfl) rfl (ok' rfl) (D1 h rfl) rfl) rfl ?_
       refine dr [15, 149] rfl (fun ve h => OpT.move (A := .cel _ _) (.inl rfl) rfl (ok' rfl) (D1 h rfl) rfl) rfl ?_
       refine dr [149, 151] rfl (fun ve h => OpT.len (H rfl) (D1 h rfl) el26) rfl ?_
       refine dr [149, 150, 152] rfl (fun ve h => OpT.geq (H rfl) (D1 h rfl) (D1 h rfl)) rfl ?_
       refine dr [149, 153] rfl (fun ve h => OpT.move (A := .cel _ _) (.inl rfl) rfl (ok' rfl) (D1 h rfl) rfl) rfl ?_
       refine dr [16, 154] hd4 (fun ve h => OpT.move (A := .cel _ _) (.inl rfl) rfl (ok' rfl) (D1 h rfl) rfl) rfl ?_
       refine dr [18, 154] hd4 (fun ve h => OpT.move (A := .cel _ _) (.inl rfl) rfl (ok' rfl) (D1 h rfl) rfl) rfl ?_
       refine dr [15, 154] hd4 (fun ve h => OpT.move (A := .cel _ _) (.inl rfl) rfl (ok' rfl) (D1 h rfl) rfl) rfl ?_
       refine dr [154, 157] hd4 (fun ve h => OpT.len (H rfl) (D1 h rfl) el26) rfl ?_
       refine dr [154, 156, 158] hd4 (fun ve h => OpT.sub (H rfl) (D1 h rfl) (D1 h rfl) (nw (by omega))) rfl ?_
       refine dr [154, 155, 159] hd4 (fun ve h => OpT.indexAddr (H rfl) (D1 h rfl) (D1 h rfl) el26 sz40 (by omega) (hpc.2.2 (by omega))) rfl ?_
       refine dr [154, 160] hd4 (fun ve h => OpT.loadA (H rfl) (D1 h rfl) ag40 sz40) rfl ?_
       refine dr [12, 154] hd4 (fun ve h => OpT.move (A := .cel _ _) (.inl rfl) rfl (ok' rfl) (D1 h rfl) rfl) rfl ?_
       refine dr [18, 154] hd4 (fun ve h => OpT.move (A := .cel _ _) (.inl rfl) rfl (ok' rfl) (D1 h rfl) rfl) rfl ?_
       refine dr [154, 162, 163] hd4 (fun ve h => OpT.indexAddr (H rfl) (D1 h rfl) (D1 h rfl) el26 sz40 (by omega) hcd) rfl ?_
       refine dr [154, 164] hd4 (fun ve h => OpT.loadA (H rfl) (D1 h rfl) ag40 sz40) rfl ?_
       refine dr [154, 161, 165] hd4 (fun ve h => OpT.neA (H rfl) (D1 h rfl) (D1 h rfl) eq40 ag40 rfl eg40) rfl ?_
       refine dr [149, 154, 166] rfl (fun ve h => OpT.pickT (A := .cel _ _) (H rfl) (D1 h rfl) hd4 (D1 h rfl) rfl) rfl ?_
       refine d1 [149, 167] (fun ve h => OpT.pickF (A := .cel _ _) (H rfl) (D1 h rfl) rfl (D1 h rfl) rfl) rfl ?_
       refine dn ⟨by kernel_rfl, by kernel_rfl, ?_⟩
       refine AX.go ?_
       refine cd rfl (fun hc8 => ?_) fun hc8 => ?_
       ·
        obtain ⟨hc8, hc8'⟩ := pT hc8
        exact (show False from (by first | omega | (simp [eqv_self] at hd2; done) | (simp [eqv_self] at hd3; done) | (simp [eqv_self] at hc8; done) | (cases hc8))).elim
       ·
        obtain ⟨hc8, hc8'⟩ := pF hc8
        refine AW.skip ?_
        refine AX.normal_block ?_
        refine AX.go ?_
        refine AW.region ?_
        refine st (mvT rfl) rfl ?_
        refine st (OpT.add (H rfl) (T1 rfl) (I rfl) (nw (by omega))) rfl ?_
        refine st (asT rfl) rfl ?_
        refine nn ?_
        exact AX.again (z + 1) (by omega) (by omega) (Kc 6 _ (Kv rfl rfl) <| Kc 7 _ (Kv rfl rfl) <| Kc 8 _ (Kv rfl rfl) <| Kc 12 _ (Kv rfl rfl) <| Kc 15 _ (Kv rfl rfl) <| Kc 16 _ (Kv rfl rfl) <| Kc 18 _ (Kv rfl (by omega)) <| Kn)
      ·
       have hd4' := lF hd4
       refine dh fomo ?_
       refine d1 [18] (fun ve h => OpT.move (A := .cel _ _) (.inl rfl) rfl (ok' rfl) (D1 h rfl) rfl) rfl ?_
       refine d1 [15] (fun ve h => OpT.move (A := .cel _ _) (.inl rfl) rfl (ok' rfl) (D1 h rfl) rfl) rfl ?_
       refine d1 [135] (fun ve h => OpT.len (H rfl) (D1 h rfl) el26) rfl ?_
       refine d1 [134, 136] (fun ve h => OpT.lss (H rfl) (D1 h rfl) (D1 h rfl)) rfl ?_
       refine d1 [137] (fun ve h => OpT.move (A := .cel _ _) (.inl rfl) rfl (ok' rfl) (D1 h rfl) rfl) rfl ?_
       refine dp hd1 rfl ?_
       refine dp hd1 rfl ?_
       refine dp hd1 rfl ?_
       refine dp hd1 rfl ?_
       refine dp hd1 rfl ?_
       refine dp hd1 rfl ?_
       refine dp hd1 rfl ?_
       refine dp hd1 rfl ?_
       refine dp hd1 rfl ?_
       refine d1 [138] (fun ve h => OpT.pickF (A := .cel _ _) (H rfl) (D1 h rfl) hd1 Opd.bool rfl) rfl ?_
       refine d1 [148] (fun ve h => OpT.move (A := .cel _ _) (.inl rfl) rfl (ok' rfl) (D1 h rfl) rfl) rfl ?_
       refine dr [18, 149] rfl (fun ve h => OpT.move (A := .cel _ _) (.inl rfl) rfl (ok' rfl) (D1 h rfl) rfl) rfl ?_
       refine dr [15, 149] rfl (fun ve h => OpT.move (A := .cel _ _) (.inl rfl) rfl (ok' rfl) (D1 h rfl) rfl) rfl ?_
       refine dr [149, 151] rfl (fun ve h => OpT.len (H rfl) (D1 h rfl) el26) rfl ?_
       refine dr [149, 150, 152] rfl (fun ve h => OpT.geq (H rfl) (D1 h rfl) (D1 h rfl)) rfl ?_
       refine dr [149, 153] rfl (fun ve h => OpT.move (A := .cel _ _) (.inl rfl) rfl (ok' rfl) (D1 h rfl) rfl) rfl ?_
       refine dp hd4 rfl ?_
       refine dp hd4 rfl ?_
       refine dp hd4 rfl ?_
       refine dp hd4 rfl ?_
       refine dp hd4 rfl ?_
       refine dp hd4 rfl ?_
       refine dp hd4 rfl ?_
       refine dp hd4 rfl ?_
       refine dp hd4 rfl ?_
       refine dp hd4 rfl ?_
       refine dp hd4 rfl ?_
       refine dp hd4 rfl ?_
       refine dr [149, 154] rfl (fun ve h => OpT.pickF (A := .cel _ _) (H rfl) (D1 h rfl) hd4 Opd.bool rfl) rfl ?_
       refine d1 [149, 167] (fun ve h => OpT.pickF (A := .cel _ _) (H rfl) (D1 h rfl) rfl (D1 h rfl) rfl) rfl ?_
       refine dn ⟨by kernel_rfl, by kernel_rfl, ?_⟩
       refine AX.go ?_
       refine cd rfl (fun hc9 => ?_) fun hc9 => ?_
       ·
        obtain ⟨hc9, hc9'⟩ := pT hc9
        exact absurd hc9 (by decide)
       ·
        obtain ⟨hc9, hc9'⟩ := pF hc9
        refine AW.skip ?_
        refine AX.normal_block ?_
        refine AX.go ?_
        refine AW.region ?_
        refine st (mvT rfl) rfl ?_
        refine st (OpT.add (H rfl) (T1 rfl) (I rfl) (nw (by omega))) rfl ?_
        refine st (asT rfl) rfl ?_
        refine nn ?_
        exact AX.again (z + 1) (by omega) (by omega) (Kc 6 _ (Kv rfl rfl) <| Kc 7 _ (Kv rfl rfl) <| Kc 8 _ (Kv rfl rfl) <| Kc 12 _ (Kv rfl rfl) <| Kc 15 _ (Kv rfl rfl) <| Kc 16 _ (Kv rfl rfl) <| Kc 18 _ (Kv rfl (by omega)) <| Kn)
   ·
    obtain ⟨hc3, hc3'⟩ := pF hc3
    refine AW.exit ?_
    refine xT <| xT <| AX.exit_hit ?_
    refine AX.go ?_
    refine sr ?_
    refine st (mvT rfl) rfl ?_
    refine st (mvT rfl) rfl ?_
    refine s3 (cN (ms := [.flat, .flat]) (c_impl_PassNeedle _ _) (H rfl) (Af (T1 rfl) rfl rfl <| Af (T1 rfl) rfl rfl <| An) rfl (.inl rfl)) rfl ?_
    refine st (OpT.alias (H rfl) (by decide) (by decide)) rfl ?_
    refine st (OpT.extractV (m := 10172) (H rfl) rfl rfl rfl rfl rfl rfl rfl) rfl ?_
    refine st (OpT.extractV (m := 20172) (H rfl) rfl rfl rfl rfl rfl rfl rfl) rfl ?_
    refine st (OpT.extractV (m := 30172) (H rfl) rfl rfl rfl rfl rfl rfl rfl) rfl ?_
    refine st (asT rfl) rfl ?_
    refine st (asT rfl) rfl ?_
    refine st (asT rfl) rfl ?_
    refine AWl.to (kc4 23 21 6 7 rfl <| kc 8 rfl <| Kn) ?_
    refine ng ?_
    refine sr ?_
    refine st (mvT rfl) rfl ?_
    refine st (mvT rfl) rfl ?_
    refine st (mvT rfl) rfl ?_
    refine st (OpT.buildSlice (H rfl) el43 zr2 sz2 rfl (by decide) zk2 (by decide) (Built.cel (T1 rfl) rfl rfl (sub_arr (by decide) (0 : Int)) (Built.cel (T1 rfl) rfl rfl (sub_arr (by decide) (0 : Int)) (Built.nil _)))) rfl ?_
    refine AWl.freeze (t := 180) rfl ?_
    refine AWl.to (kc4 180 179 178 177 rfl <| kc4 23 21 6 7 rfl <| kc 8 rfl <| Kn) ?_
    refine s2 (OpT.c2 (ms := [.flat, .flat]) (c_impl_PassMany _ _) (H rfl) (Af (T1 rfl) rfl rfl <| Af (T1 rfl) rfl rfl <| An) rfl rfl rfl) rfl ?_
    refine st (OpT.alias (H rfl) (by decide) (by decide)) rfl ?_
    refine st (OpT.extractV (m := 10181) (H rfl) rfl rfl rfl rfl rfl rfl rfl) rfl ?_
    refine st (OpT.extractV (m := 20181) (H rfl) rfl rfl rfl rfl rfl rfl rfl) rfl ?_
    refine st (asT rfl) rfl ?_
    refine st (asT rfl) rfl ?_
    refine AWl.to (kc4 25 24 23 21 rfl <| kc 6 rfl <| Kn) ?_
    refine ng ?_
    refine sr ?_
    refine st (mvT rfl) rfl ?_
    refine st (mvT rfl) rfl ?_
    refine s2 (OpT.c2 (ms := [.flat, .flat]) (c_impl_SameCards _ _) (H rfl) (Af (T1 rfl) rfl rfl <| Af (T1 rfl) rfl rfl <| An) rfl rfl rfl) rfl ?_
    refine st (OpT.alias (H rfl) (by decide) (by decide)) rfl ?_
    refine st (OpT.extractV (m := 10187) (H rfl) rfl rfl rfl rfl rfl rfl rfl) rfl ?_
    refine st (OpT.extractV (m := 20187) (H rfl) rfl rfl rfl rfl rfl rfl rfl) rfl ?_
    refine st (asT rfl) rfl ?_
    refine st (asT rfl) rfl ?_
    refine ng ?_
    refine sr ?_
    refine st (mvT rfl) rfl ?_
    refine st (OpT.c1 (ms := [.flat]) (c_impl_DeckText _) (H rfl) (Af (T1 rfl) rfl rfl <| An) rfl rfl) rfl ?_
    refine s2 (OpT.c2 (ms := [.flat]) (c_impl_ReadDeck _ (by have h9 := dkT_size d; omega) (fun l hl w hw => by obtain ⟨n, hn, rfl⟩ := dk_words hD.1.1 l hl w hw; exact c_impl_readNumber _ (c_pin_dec n (by omega)) (c_fin_dec n (by omega)))) (H rfl) (Af (T1 rfl) rfl rfl <| An) rfl rfl rfl) rfl ?_
    refine st (OpT.alias (H rfl) (by decide) (by decide)) rfl ?_
    refine st (OpT.extractV (m := 10193) (H rfl) rfl rfl rfl rfl rfl rfl rfl) rfl ?_
    refine st (OpT.extractV (m := 20193) (H rfl) rfl rfl rfl rfl rfl rfl rfl) rfl ?_
    refine st (asT rfl) rfl ?_
    refine st (asT rfl) rfl ?_
    refine AWl.to (kc4 29 28 27 26 rfl <| kc4 25 24 23 21 rfl <| kc 6 rfl <| Kn) ?_
    refine ng ?_
    refine sr ?_
    refine st (mvT rfl) rfl ?_
    refine st (OpT.eql (H rfl) (T1 rfl) (I rfl)) rfl ?_
    refine st (mvT rfl) rfl ?_
    apply AWl.and (d := 201) (t := 198) rfl
    ·
     intro hb9 Q1 k1
     have hb9' := lT hb9
     refine rs hb9 (mvT rfl) rfl ?_
     refine rs hb9 (OpT.eql (H rfl) (T1 rfl) (I rfl)) rfl ?_
     refine st (OpT.pickT (A := .cel _ _) (H rfl) (T1 rfl) hb9 (T1 rfl) rfl) rfl ?_
     exact AWl.to (junk 2 rfl) k1
    ·
     intro hb9 Q1 k1
     refine ps hb9 rfl ?_
     refine ps hb9 rfl ?_
     refine st (OpT.pickF (A := .cel _ _) (H rfl) (T1 rfl) hb9 Opd.bool rfl) rfl ?_
     exact k1
    refine st (mvT rfl) rfl ?_
    apply AWl.and (d := 206) (t := 202) rfl
    ·
     intro hb10 Q1 k1
     have hb10' := lT hb10
     refine rs hb10 (mvT rfl) rfl ?_
     refine rs hb10 (mvT rfl) rfl ?_
     refine rs hb10 (OpT.c1 (ms := [.flat, .flat]) (c_spec_SameDeck _ _) (H rfl) (Af (T1 rfl) rfl rfl <| Af (T1 rfl) rfl rfl <| An) rfl rfl) rfl ?_
     refine st (OpT.pickT (A := .cel _ _) (H rfl) (T1 rfl) hb10 (T1 rfl) rfl) rfl ?_
     exact AWl.to (junk 3 rfl) k1
    ·
     intro hb10 Q1 k1
     refine ps hb10 rfl ?_
     refine ps hb10 rfl ?_
     refine ps hb10 rfl ?_
     refine st (OpT.pickF (A := .cel _ _) (H rfl) (T1 rfl) hb10 Opd.bool rfl) rfl ?_
     exact k1
    refine st (mvT rfl) rfl ?_
    apply AWl.and (d := 210) (t := 207) rfl
    ·
     intro hb11 Q1 k1
     have hb11' := lT hb11
     refine rs hb11 (mvT rfl) rfl ?_
     refine rs hb11 (OpT.eql (H rfl) (T1 rfl) (I rfl)) rfl ?_
     refine st (OpT.pickT (A := .cel _ _) (H rfl) (T1 rfl) hb11 (T1 rfl) rfl) rfl ?_
     exact AWl.to (junk 2 rfl) k1
    ·
     intro hb11 Q1 k1
     refine ps hb11 rfl ?_
     refine ps hb11 rfl ?_
     refine st (OpT.pickF (A := .cel _ _) (H rfl) (T1 rfl) hb11 Opd.bool rfl) rfl ?_
     exact k1
    refine st (mvT rfl) rfl ?_
    apply AWl.and (d := 213) (t := 211) rfl
    ·
     intro hb12 Q1 k1
     have hb12' := lT hb12
     refine rs hb12 (mvT rfl) rfl ?_
     refine st (OpT.pickT (A := .cel _ _) (H rfl) (T1 rfl) hb12 (T1 rfl) rfl) rfl ?_
     exact AWl.to (junk 1 rfl) k1
    ·
     intro hb12 Q1 k1
     refine ps hb12 rfl ?_
     refine st (OpT.pickF (A := .cel _ _) (H rfl) (T1 rfl) hb12 Opd.bool rfl) rfl ?_
     exact k1
    refine st (mvT rfl) rfl ?_
    apply AWl.and (d := 217) (t := 214) rfl
    ·
     intro hb13 Q1 k1
     have hb13' := lT hb13
     refine rs hb13 (mvT rfl) rfl ?_
     refine rs hb13 (OpT.eql (H rfl) (T1 rfl) (I rfl)) rfl ?_
     refine st (OpT.pickT (A := .cel _ _) (H rfl) (T1 rfl) hb13 (T1 rfl) rfl) rfl ?_
     exact AWl.to (junk 2 rfl) k1
    ·
     intro hb13 Q1 k1
     refine ps hb13 rfl ?_
     refine ps hb13 rfl ?_
     refine st (OpT.pickF (A := .cel _ _) (H rfl) (T1 rfl) hb13 Opd.bool rfl) rfl ?_
     exact k1
    refine st (mvT rfl) rfl ?_
    apply AWl.and (d := 222) (t := 218) rfl
    ·
     intro hb14 Q1 k1
     have hb14' := lT hb14
     refine rs hb14 (mvT rfl) rfl ?_
     refine rs hb14 (mvT rfl) rfl ?_
     refine rs hb14 (OpT.c1 (ms := [.flat, .flat]) (c_impl_SameDeck _ _) (H rfl) (Af (T1 rfl) rfl rfl <| Af (T1 rfl) rfl rfl <| An) rfl rfl) rfl ?_
     refine st (OpT.pickT (A := .cel _ _) (H rfl) (T1 rfl) hb14 (T1 rfl) rfl) rfl ?_
     exact AWl.to (junk 3 rfl) k1
    ·
     intro hb14 Q1 k1
     refine ps hb14 rfl ?_
     refine ps hb14 rfl ?_
     refine ps hb14 rfl ?_
     refine st (OpT.pickF (A := .cel _ _) (H rfl) (T1 rfl) hb14 Opd.bool rfl) rfl ?_
     exact k1
    refine st (mvT rfl) rfl ?_
    apply AWl.and (d := 227) (t := 223) rfl
    ·
     intro hb15 Q1 k1
     have hb15' := lT hb15
     refine rs hb15 (mvT rfl) rfl ?_
     refine rs hb15 (mvT rfl) rfl ?_
     refine rs hb15 (OpT.c1 (ms := [.flat, .flat]) (c_spec_SameDeck _ _) (H rfl) (Af (T1 rfl) rfl rfl <| Af (T1 rfl) rfl rfl <| An) rfl rfl) rfl ?_
     refine st (OpT.pickT (A := .cel _ _) (H rfl) (T1 rfl) hb15 (T1 rfl) rfl) rfl ?_
     exact AWl.to (junk 3 rfl) k1
    ·
     intro hb15 Q1 k1
     refine ps hb15 rfl ?_
     refine ps hb15 rfl ?_
     refine ps hb15 rfl ?_
     refine st (OpT.pickF (A := .cel _ _) (H rfl) (T1 rfl) hb15 Opd.bool rfl) rfl ?_
     exact k1
    refine st (mvT rfl) rfl ?_
    apply AWl.and (d := 231) (t := 228) rfl
    ·
     intro hb16 Q1 k1
     have hb16' := lT hb16
     refine rs hb16 (mvT rfl) rfl ?_
     refine rs hb16 (OpT.c1 (ms := [.flat]) (c_impl_ValidDeck _) (H rfl) (Af (T1 rfl) rfl rfl <| An) rfl rfl) rfl ?_
     refine st (OpT.pickT (A := .cel _ _) (H rfl) (T1 rfl) hb16 (T1 rfl) rfl) rfl ?_
     exact AWl.to (junk 2 rfl) k1
    ·
     intro hb16 Q1 k1
     refine ps hb16 rfl ?_
     refine ps hb16 rfl ?_
     refine st (OpT.pickF (A := .cel _ _) (H rfl) (T1 rfl) hb16 Opd.bool rfl) rfl ?_
     exact k1
    refine st (asT rfl) rfl ?_
    refine AWl.to (kc 4 rfl <| Kn) ?_
    refine ng ?_
    refine AW.ret ?_
    exact rt1 rfl (.inl rfl) (by first | rfl | (simp [p1, p3, p4, p5, p6, p7, eqv_self]))
end Go.Proofs.YtmmjcpiikdcldaaGreatDoor.VL
