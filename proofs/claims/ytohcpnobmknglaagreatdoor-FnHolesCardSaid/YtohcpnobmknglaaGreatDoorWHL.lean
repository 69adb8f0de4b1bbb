/- Proved here: what some functions of the program take and give: walks with the words of VA..VQ. Printed by program. -/
import Derived.Test.YtohcpnobmknglaaGreatDoorWT
import Derived.Test.YtohcpnobmknglaaGreatDoorPZH
import Derived.Test.YtohcpnobmknglaaGreatDoorWSM
import Derived.Test.YtohcpnobmknglaaGreatDoorWSN
import Derived.Test.YtohcpnobmknglaaGreatDoorWM
import Derived.Test.YtohcpnobmknglaaGreatDoorWQ
import Derived.Test.YtohcpnobmknglaaGreatDoorWHO
import Derived.Test.YtohcpnobmknglaaGreatDoorWB
import Derived.Test.YtohcpnobmknglaaGreatDoorWP
import Derived.Test.YtohcpnobmknglaaGreatDoorWA
import Derived.Test.YtohcpnobmknglaaGreatDoorWBS
import Derived.Test.YtohcpnobmknglaaGreatDoorWLO
import Derived.Test.YtohcpnobmknglaaGreatDoorWO
set_option linter.unusedVariables false
set_option linter.unusedSimpArgs false
set_option maxRecDepth 4000
namespace Go.Proofs.YtohcpnobmknglaaGreatDoor.VL
open Go
set_option maxHeartbeats 4000000 in
/-- laws.FnHoles -/
theorem c_laws_FnHoles (x y : List Int) : AC Tryz.prog 3 [.cel (Kd.slice (Kd.int .u8)) x, .cel (Kd.slice (Kd.int .u8)) y] [.cel Kd.bool true] [] := by
 refine acI (N := 376) Tryz.func3 (Nat.le_of_ble_eq_true rfl) rfl fun w0 hd s0 ar => ?_
 refine AW.to (kc2 0 1 rfl <| Kn) ?_
 refine AW.fact (fun a w hr => ok_slice (R_ok (t := 0) rfl hr)) (fun hb0 => ?_)
 refine AW.fact (fun a w hr => ok_slice (R_ok (t := 1) rfl hr)) (fun hb1 => ?_)
 have hu0 : ∀ b ∈ x, 0 ≤ b ∧ b ≤ 255 := fun b hb => ok_u8 (hb0.1 b hb)
 have hu1 : ∀ b ∈ y, 0 ≤ b ∧ b ≤ 255 := fun b hb => ok_u8 (hb1.1 b hb)
 refine sr ?_
 refine st (asB rfl) rfl ?_
 refine ng ?_
 refine AW.seq ?_
 refine sr ?_
 refine st (mvT rfl) rfl ?_
 refine st (OpT.c1 (ms := [.flat]) (c_laws_f6big _) (H rfl) (Af (T1 rfl) rfl rfl <| An) rfl rfl) rfl ?_
 refine st (mvT rfl) rfl ?_
 apply AWl.or (d := 55) (t := 52) rfl
 ·
  intro hb1 Q1 k1
  have hb1' := lF hb1
  refine rs hb1 (mvT rfl) rfl ?_
  refine rs hb1 (OpT.c1 (ms := [.flat]) (c_laws_f6big _) (H rfl) (Af (T1 rfl) rfl rfl <| An) rfl rfl) rfl ?_
  refine st (OpT.pickF (A := .cel _ _) (H rfl) (T1 rfl) hb1 (T1 rfl) rfl) rfl ?_
  exact AWl.to (junk 2 rfl) k1
 ·
  intro hb1 Q1 k1
  refine ps hb1 rfl ?_
  refine ps hb1 rfl ?_
  refine st (OpT.pickT (A := .cel _ _) (H rfl) (T1 rfl) hb1 Opd.bool rfl) rfl ?_
  exact k1
 refine ng ?_
 refine cd rfl (fun hc1 => ?_) fun hc1 => ?_
 ·
  obtain ⟨hc1, hc1'⟩ := pT hc1
  refine sr ?_
  refine st (asB rfl) rfl ?_
  refine ng ?_
  refine AW.ret ?_
  refine rT ?_
  exact rt1 rfl (.inl rfl) (by first | rfl | (rw [ey, hu9, List.take_length]; simp [bl.1]; omega))
 ·
  obtain ⟨hc1, hc1'⟩ := pF hc1
  have hs0 : srcI 0 (x, 0, 0#64) := ⟨hu0, (by show x.length ≤ 1000000; omega), Int.le_refl 0, Int.le_refl 0⟩
  have hs1 : srcI 0 (y, 0, 0#64) := ⟨hu1, (by show y.length ≤ 1000000; omega), Int.le_refl 0, Int.le_refl 0⟩
  have hpa := pick_in hs0 96
  have hpb := pick_in hs1 96
  have hpw := pick_in hs0 12
  have hpk := pick_in hs1 3
  have hmd := mixD_in hs1
  have hmo := mixD_ok hs1
  refine AW.skip ?_
  refine AX.go ?_
  refine sr ?_
  refine st (mvT rfl) rfl ?_
  refine s2 (OpT.c2 (ms := [.flat]) (c_spec_P6Table _ ⟨hu0, by omega⟩) (H rfl) (Af (T1 rfl) rfl rfl <| An) rfl rfl rfl) rfl ?_
  refine AWl.vw (vex 10058 9097 rfl rfl (by decide) (fun _ => rfl)) fun xh => ?_
  obtain ⟨s, hs⟩ := xh
  refine AWl.to (kc 10058 rfl <| Kc 20058 (.deep _) rfl <| kc4 57 55 52 51 rfl <| kc4 50 4 0 1 rfl <| Kn) ?_
  refine AWl.vw (vex 20058 9097 rfl rfl (by decide) (fun _ => rfl)) fun xh => ?_
  obtain ⟨d, hD⟩ := xh
  refine AWl.to (kc4 20058 10058 57 55 rfl <| kc4 52 51 50 4 rfl <| kc2 0 1 rfl <| Kn) ?_
  refine st (OpT.alias (H rfl) (by decide) (by decide)) rfl ?_
  refine st (OpT.extractV (m := 10058) (H rfl) rfl rfl rfl rfl rfl rfl rfl) rfl ?_
  refine st (OpT.extractV (m := 20058) (H rfl) rfl rfl rfl rfl rfl rfl rfl) rfl ?_
  refine st (asT rfl) rfl ?_
  refine st (asT rfl) rfl ?_
  refine AWl.to (kc4 6 4 0 1 rfl <| Kn) ?_
  refine ng ?_
  refine sr ?_
  refine st (mvT rfl) rfl ?_
  refine s2 (OpT.c2 (ms := [.flat]) (c_impl_HoleTally _) (H rfl) (Af (T1 rfl) rfl rfl <| An) rfl rfl rfl) rfl ?_
  refine st (OpT.alias (H rfl) (by decide) (by decide)) rfl ?_
  refine st (OpT.extractV (m := 10063) (H rfl) rfl rfl rfl rfl rfl rfl rfl) rfl ?_
  refine st (OpT.extractV (m := 20063) (H rfl) rfl rfl rfl rfl rfl rfl rfl) rfl ?_
  refine st (asT rfl) rfl ?_
  refine st (asT rfl) rfl ?_
  refine ng ?_
  refine sr ?_
  refine st (mvT rfl) rfl ?_
  refine s2 (OpT.c2 (ms := [.flat]) (c_spec_HoleTally _) (H rfl) (Af (T1 rfl) rfl rfl <| An) rfl rfl rfl) rfl ?_
  refine st (OpT.alias (H rfl) (by decide) (by decide)) rfl ?_
  refine st (OpT.extractV (m := 10068) (H rfl) rfl rfl rfl rfl rfl rfl rfl) rfl ?_
  refine st (OpT.extractV (m := 20068) (H rfl) rfl rfl rfl rfl rfl rfl rfl) rfl ?_
  refine st (asT rfl) rfl ?_
  refine st (asT rfl) rfl ?_
  refine AWl.to (kc4 10 9 8 7 rfl <| kc4 6 4 0 1 rfl <| Kn) ?_
  refine ng ?_
  refine sr ?_
  refine st (mvT rfl) rfl ?_
  refine s2 (OpT.c2 (ms := [.flat]) (c_impl_IdleHoles _) (H rfl) (Af (T1 rfl) rfl rfl <| An) rfl rfl rfl) rfl ?_
  refine st (OpT.alias (H rfl) (by decide) (by decide)) rfl ?_
  refine st (OpT.extractV (m := 10073) (H rfl) rfl rfl rfl rfl rfl rfl rfl) rfl ?_
  refine st (OpT.extractV (m := 20073) (H rfl) rfl rfl rfl rfl rfl rfl rfl) rfl ?_
  refine st (OpT.alloc (H rfl) zr33 zk33) rfl ?_
  refine sk (OpT.storeBA rfl rfl (Opd.whole (Root.self (t := 11) (by decide)) rfl) rfl sz33 (by decide) (T1 rfl)) rfl ?_
  refine st (asT rfl) rfl ?_
  refine ng ?_
  refine sr ?_
  refine st (mvT rfl) rfl ?_
  refine s2 (OpT.c2 (ms := [.flat]) (c_spec_IdleHoles _) (H rfl) (Af (T1 rfl) rfl rfl <| An) rfl rfl rfl) rfl ?_
  refine st (OpT.alias (H rfl) (by decide) (by decide)) rfl ?_
  refine st (OpT.extractV (m := 10078) (H rfl) rfl rfl rfl rfl rfl rfl rfl) rfl ?_
  refine st (OpT.extractV (m := 20078) (H rfl) rfl rfl rfl rfl rfl rfl rfl) rfl ?_
  refine st (OpT.alloc (H rfl) zr33 zk33) rfl ?_
  refine sk (OpT.storeBA rfl rfl (Opd.whole (Root.self (t := 13) (by decide)) rfl) rfl sz33 (by decide) (T1 rfl)) rfl ?_
  refine st (asT rfl) rfl ?_
  refine AWl.to (kc 14 rfl <| kb 13 rfl <| kc 12 rfl <| kb 11 rfl <| kc4 10 9 8 7 rfl <| kc4 6 4 0 1 rfl <| Kn) ?_
  refine ng ?_
  refine AW.seq ?_
  refine sr ?_
  refine st (mvT rfl) rfl ?_
  refine st (mvT rfl) rfl ?_
  refine st (OpT.neq (H rfl) (T1 rfl) (T1 rfl)) rfl ?_
  refine st (mvT rfl) rfl ?_
  apply AWl.or (d := 87) (t := 84) rfl
  ·
   intro hb2 Q1 k1
   have hb2' := lF hb2
   refine rs hb2 (mvT rfl) rfl ?_
   refine rs hb2 (OpT.neq (H rfl) (T1 rfl) (I rfl)) rfl ?_
   refine st (OpT.pickF (A := .cel _ _) (H rfl) (T1 rfl) hb2 (T1 rfl) rfl) rfl ?_
   exact AWl.to (junk 2 rfl) k1
  ·
   intro hb2 Q1 k1
   refine ps hb2 rfl ?_
   refine ps hb2 rfl ?_
   refine st (OpT.pickT (A := .cel _ _) (H rfl) (T1 rfl) hb2 Opd.bool rfl) rfl ?_
   exact k1
  refine st (mvT rfl) rfl ?_
  apply AWl.or (d := 93) (t := 88) rfl
  ·
   intro hb3 Q1 k1
   have hb3' := lF hb3
   refine rs hb3 (mvT rfl) rfl ?_
   refine rs hb3 (mvT rfl) rfl ?_
   refine rs hb3 (OpT.c1 (ms := [.flat, .flat]) (c_spec_SameIndices _ _) (H rfl) (Af (T1 rfl) rfl rfl <| Af (T1 rfl) rfl rfl <| An) rfl rfl) rfl ?_
   refine rs hb3 (OpT.not (H rfl) (T1 rfl)) rfl ?_
   refine st (OpT.pickF (A := .cel _ _) (H rfl) (T1 rfl) hb3 (T1 rfl) rfl) rfl ?_
   exact AWl.to (junk 4 rfl) k1
  ·
   intro hb3 Q1 k1
   refine ps hb3 rfl ?_
   refine ps hb3 rfl ?_
   refine ps hb3 rfl ?_
   refine ps hb3 rfl ?_
   refine st (OpT.pickT (A := .cel _ _) (H rfl) (T1 rfl) hb3 Opd.bool rfl) rfl ?_
   exact k1
  refine st (mvT rfl) rfl ?_
  apply AWl.or (d := 98) (t := 94) rfl
  ·
   intro hb4 Q1 k1
   have hb4' := lF hb4
   refine rs hb4 (mvT rfl) rfl ?_
   refine rs hb4 (OpT.len (H rfl) (T1 rfl) el28) rfl ?_
   refine rs hb4 (OpT.neq (H rfl) (T1 rfl) (I rfl)) rfl ?_
   refine st (OpT.pickF (A := .cel _ _) (H rfl) (T1 rfl) hb4 (T1 rfl) rfl) rfl ?_
   exact AWl.to (junk 3 rfl) k1
  ·
   intro hb4 Q1 k1
   refine ps hb4 rfl ?_
   refine ps hb4 rfl ?_
   refine ps hb4 rfl ?_
   refine st (OpT.pickT (A := .cel _ _) (H rfl) (T1 rfl) hb4 Opd.bool rfl) rfl ?_
   exact k1
  refine st (mvT rfl) rfl ?_
  apply AWl.or (d := 103) (t := 99) rfl
  ·
   intro hb5 Q1 k1
   have hb5' := lF hb5
   refine rs hb5 (mvT rfl) rfl ?_
   refine rs hb5 (mvT rfl) rfl ?_
   refine rs hb5 (OpT.neq (H rfl) (T1 rfl) (T1 rfl)) rfl ?_
   refine st (OpT.pickF (A := .cel _ _) (H rfl) (T1 rfl) hb5 (T1 rfl) rfl) rfl ?_
   exact AWl.to (junk 3 rfl) k1
  ·
   intro hb5 Q1 k1
   refine ps hb5 rfl ?_
   refine ps hb5 rfl ?_
   refine ps hb5 rfl ?_
   refine st (OpT.pickT (A := .cel _ _) (H rfl) (T1 rfl) hb5 Opd.bool rfl) rfl ?_
   exact k1
  refine st (mvT rfl) rfl ?_
  apply AWl.or (d := 107) (t := 104) rfl
  ·
   intro hb6 Q1 k1
   have hb6' := lF hb6
   refine rs hb6 (mvT rfl) rfl ?_
   refine rs hb6 (OpT.neq (H rfl) (T1 rfl) (I rfl)) rfl ?_
   refine st (OpT.pickF (A := .cel _ _) (H rfl) (T1 rfl) hb6 (T1 rfl) rfl) rfl ?_
   exact AWl.to (junk 2 rfl) k1
  ·
   intro hb6 Q1 k1
   refine ps hb6 rfl ?_
   refine ps hb6 rfl ?_
   refine st (OpT.pickT (A := .cel _ _) (H rfl) (T1 rfl) hb6 Opd.bool rfl) rfl ?_
   exact k1
  refine st (mvT rfl) rfl ?_
  apply AWl.or (d := 112) (t := 108) rfl
  ·
   intro hb7 Q1 k1
   have hb7' := lF hb7
   refine rs hb7 (OpT.loadB (H rfl) (Root.self (t := 11) (by decide)) rfl ag33 sz33) rfl ?_
   refine rs hb7 (OpT.loadB (H rfl) (Root.self (t := 13) (by decide)) rfl ag33 sz33) rfl ?_
   refine rs hb7 (OpT.neA (H rfl) (T1 rfl) (T1 rfl) eq33 ag33 rfl eg33) rfl ?_
   refine st (OpT.pickF (A := .cel _ _) (H rfl) (T1 rfl) hb7 (T1 rfl) rfl) rfl ?_
   exact AWl.to (junk 3 rfl) k1
  ·
   intro hb7 Q1 k1
   refine ps hb7 rfl ?_
   refine ps hb7 rfl ?_
   refine ps hb7 rfl ?_
   refine st (OpT.pickT (A := .cel _ _) (H rfl) (T1 rfl) hb7 Opd.bool rfl) rfl ?_
   exact k1
  refine AWl.to (kc 112 rfl <| kb 13 rfl <| kc4 9 6 4 0 rfl <| kc 1 rfl <| Kn) ?_
  refine ng ?_
  refine cd rfl (fun hc2 => ?_) fun hc2 => ?_
  ·
   obtain ⟨hc2, hc2'⟩ := pT hc2
   have hta := holes_all hD.1 (by omega)
   exact (show False from (by dsimp only at hc2; rw [hta.1, hta.2] at hc2; simp [tally_len, eqv_self] at hc2)).elim
  ·
   obtain ⟨hc2, hc2'⟩ := pF hc2
   have hta := holes_all hD.1 (by omega)
   refine AW.skip ?_
   refine AX.go ?_
   refine sr ?_
   refine st (asI rfl) rfl ?_
   refine ng ?_
   refine AW.seq ?_
   refine sr ?_
   refine st (asI rfl) rfl ?_
   refine ng ?_
   refine AW.block ?_
   refine AW.loop (fun z : Nat => z ≤ d.length) (fun z : Nat => keep [(0, .cel (Kd.slice (Kd.int .u8)) x), (1, .cel (Kd.slice (Kd.int .u8)) y), (6, .cel (Kd.slice kCard) d), (9, .cel (Kd.slice (Kd.int .i64)) (talS d).1), (13, .box 33 kMask (idlS d).1), (15, .cel (Kd.int .i64) (sumM (d.take z))), (16, .cel (Kd.int .i64) (z : Int))]) (fun z : Nat => d.length - z) (0) (Nat.zero_le _) (Kc 0 _ (Kv rfl rfl) <| Kc 1 _ (Kv rfl rfl) <| Kc 6 _ (Kv rfl rfl) <| Kc 9 _ (Kv rfl rfl) <| Kc 13 _ (Kb rfl rfl) <| Kc 15 _ (Kv rfl rfl) <| Kc 16 _ (Kv rfl rfl) <| Kn) ?_
   intro z hI
   refine AW.seq ?_
   refine sr ?_
   refine st (mvT rfl) rfl ?_
   refine st (mvT rfl) rfl ?_
   refine st (OpT.len (H rfl) (T1 rfl) el25) rfl ?_
   refine st (OpT.lss (H rfl) (T1 rfl) (T1 rfl)) rfl ?_
   refine ng ?_
   refine cd rfl (fun hc3 => ?_) fun hc3 => ?_
   ·
    obtain ⟨hc3, hc3'⟩ := pT hc3
    obtain ⟨e, he⟩ := getI (x := d) (z := z) (by omega)
    have hci := cntM_in e.2
    have hsm := sumM_in (d.take z)
    rw [List.length_take] at hsm
    refine AW.skip ?_
    refine AX.go ?_
    refine AW.seq ?_
    refine AW.block ?_
    refine AW.region ?_
    refine st (mvT rfl) rfl ?_
    refine st (mvT rfl) rfl ?_
    refine st (mvT rfl) rfl ?_
    refine st (OpT.indexAddr (H rfl) (T1 rfl) (T1 rfl) el25 sz39 (by omega) he) rfl ?_
    refine st (OpT.fieldAddr (H rfl) (T1 rfl) fd39_1 sz33 (by decide) sb39_1) rfl ?_
    refine st (OpT.loadA (H rfl) (T1 rfl) ag33 sz33) rfl ?_
    refine st (OpT.c1 (ms := [.flat]) (c_spec_CountHoles _) (H rfl) (Af (T1 rfl) rfl rfl <| An) rfl rfl) rfl ?_
    refine st (OpT.add (H rfl) (T1 rfl) (T1 rfl) (nw (by omega))) rfl ?_
    refine st (asT rfl) rfl ?_
    refine nn ?_
    refine AX.normal_block ?_
    refine AX.go ?_
    refine AW.region ?_
    refine st (mvT rfl) rfl ?_
    refine st (OpT.add (H rfl) (T1 rfl) (I rfl) (nw (by omega))) rfl ?_
    refine st (asT rfl) rfl ?_
    refine nn ?_
    exact AX.again (z + 1) (by omega) (by omega) (Kc 0 _ (Kv rfl rfl) <| Kc 1 _ (Kv rfl rfl) <| Kc 6 _ (Kv rfl rfl) <| Kc 9 _ (Kv rfl rfl) <| Kc 13 _ (Kb rfl rfl) <| Kc 15 _ (Kv rfl (sumM_next he)) <| Kc 16 _ (Kv rfl (by omega)) <| Kn)
   ·
    obtain ⟨hc3, hc3'⟩ := pF hc3
    refine AW.exit ?_
    refine xT <| xT <| AX.exit_hit ?_
    refine AX.go ?_
    refine AW.seq ?_
    refine sr ?_
    refine st (asI rfl) rfl ?_
    refine ng ?_
    refine AW.block ?_
    obtain rfl : z = d.length := by omega
    refine AW.loop (fun k : Nat => k ≤ 96) (fun k : Nat => keep [(0, .cel (Kd.slice (Kd.int .u8)) x), (1, .cel (Kd.slice (Kd.int .u8)) y), (6, .cel (Kd.slice kCard) d), (9, .cel (Kd.slice (Kd.int .i64)) (talS d).1), (13, .box 33 kMask (idlS d).1), (15, .cel (Kd.int .i64) (sumM d - sH d k)), (17, .cel (Kd.int .i64) (k : Int))]) (fun k : Nat => 96 - k) (0) (Nat.zero_le _) (Kc 0 _ (Kv rfl rfl) <| Kc 1 _ (Kv rfl rfl) <| Kc 6 _ (Kv rfl rfl) <| Kc 9 _ (Kv rfl rfl) <| Kc 13 _ (Kb rfl rfl) <| Kc 15 _ (Kv rfl (by rw [List.take_length]; simp [sH])) <| Kc 17 _ (Kv rfl rfl) <| Kn) ?_
    intro k hI
    refine AW.seq ?_
    refine sr ?_
    refine st (mvT rfl) rfl ?_
    refine st (OpT.lss (H rfl) (T1 rfl) (I rfl)) rfl ?_
    refine ng ?_
    refine cd rfl (fun hc4 => ?_) fun hc4 => ?_
    ·
     obtain ⟨hc4, hc4'⟩ := pT hc4
     have hty : (talS d).1[Int.toNat ((k : Nat) : Int)]? = some (cntH d (k : Int)) := by rw [hta.1]; exact tally_get d (by omega)
     have hho := holes_one hD.1 (by omega) (h := k) (by omega)
     have hsm := sumM_in d
     have hsh := sH_in d k
     have hcq : 0 ≤ cntH d (k : Int) ∧ cntH d (k : Int) ≤ d.length := cntQ_in (q := hasH (k : Int)) (x := d)
     have hsl : (d.length : Int) * (k : Int) ≤ 960 := Int.le_trans (Int.mul_le_mul (by omega : (d.length : Int) ≤ 10) (by omega : (k : Int) ≤ 96) (by omega) (by omega)) (by omega)
     refine AW.skip ?_
     refine AX.go ?_
     refine AW.seq ?_
     refine AW.block ?_
     refine sr ?_
     refine st (OpT.loadB (H rfl) (Root.self (t := 13) (by decide)) rfl ag33 sz33) rfl ?_
     refine st (mvT rfl) rfl ?_
     refine s2 (OpT.c2 (ms := [.flat, .flat]) (c_spec_HasHole _ _) (H rfl) (Af (T1 rfl) rfl rfl <| Af (T1 rfl) rfl rfl <| An) rfl rfl rfl) rfl ?_
     refine st (OpT.alias (H rfl) (by decide) (by decide)) rfl ?_
     refine st (OpT.extractV (m := 10134) (H rfl) rfl rfl rfl rfl rfl rfl rfl) rfl ?_
     refine st (OpT.extractV (m := 20134) (H rfl) rfl rfl rfl rfl rfl rfl rfl) rfl ?_
     refine st (asT rfl) rfl ?_
     refine st (asT rfl) rfl ?_
     refine ng ?_
     refine sr ?_
     refine st (mvT rfl) rfl ?_
     refine st (mvT rfl) rfl ?_
     refine st (mvT rfl) rfl ?_
     refine s2 (OpT.c2 (ms := [.flat, .flat, .flat]) (c_impl_TogetherOf _ _ _) (H rfl) (Af (T1 rfl) rfl rfl <| Af (T1 rfl) rfl rfl <| Af (T1 rfl) rfl rfl <| An) rfl rfl rfl) rfl ?_
     refine st (OpT.alias (H rfl) (by decide) (by decide)) rfl ?_
     refine st (OpT.extractV (m := 10141) (H rfl) rfl rfl rfl rfl rfl rfl rfl) rfl ?_
     refine st (OpT.extractV (m := 20141) (H rfl) rfl rfl rfl rfl rfl rfl rfl) rfl ?_
     refine st (asT rfl) rfl ?_
     refine st (asT rfl) rfl ?_
     refine ng ?_
     refine AW.seq ?_
     refine sr ?_
     refine st (mvT rfl) rfl ?_
     refine st (OpT.neq (H rfl) (T1 rfl) (I rfl)) rfl ?_
     refine st (mvT rfl) rfl ?_
     apply AWl.or (d := 154) (t := 146) rfl
     ·
      intro hb8 Q1 k1
      have hb8' := lF hb8
      refine rs hb8 (mvT rfl) rfl ?_
      refine rs hb8 (mvT rfl) rfl ?_
      refine rs hb8 (mvT rfl) rfl ?_
      refine rs hb8 (OpT.indexAddr (H rfl) (T1 rfl) (T1 rfl) el28 sz2 (by omega) hty) rfl ?_
      refine rs hb8 (OpT.load (H rfl) (T1 rfl) ag2 rfl) rfl ?_
      refine rs hb8 (OpT.eql (H rfl) (T1 rfl) (I rfl)) rfl ?_
      refine rs hb8 (OpT.bneq (H rfl) Tryz.underlying4 (T1 rfl) (T1 rfl)) rfl ?_
      refine st (OpT.pickF (A := .cel _ _) (H rfl) (T1 rfl) hb8 (T1 rfl) rfl) rfl ?_
      exact AWl.to (junk 7 rfl) k1
     ·
      intro hb8 Q1 k1
      refine ps hb8 rfl ?_
      refine ps hb8 rfl ?_
      refine ps hb8 rfl ?_
      refine ps hb8 rfl ?_
      refine ps hb8 rfl ?_
      refine ps hb8 rfl ?_
      refine ps hb8 rfl ?_
      refine st (OpT.pickT (A := .cel _ _) (H rfl) (T1 rfl) hb8 Opd.bool rfl) rfl ?_
      exact k1
     refine st (mvT rfl) rfl ?_
     apply AWl.or (d := 158) (t := 155) rfl
     ·
      intro hb9 Q1 k1
      have hb9' := lF hb9
      refine rs hb9 (mvT rfl) rfl ?_
      refine rs hb9 (OpT.neq (H rfl) (T1 rfl) (I rfl)) rfl ?_
      refine st (OpT.pickF (A := .cel _ _) (H rfl) (T1 rfl) hb9 (T1 rfl) rfl) rfl ?_
      exact AWl.to (junk 2 rfl) k1
     ·
      intro hb9 Q1 k1
      refine ps hb9 rfl ?_
      refine ps hb9 rfl ?_
      refine st (OpT.pickT (A := .cel _ _) (H rfl) (T1 rfl) hb9 Opd.bool rfl) rfl ?_
      exact k1
     refine st (mvT rfl) rfl ?_
     apply AWl.or (d := 166) (t := 159) rfl
     ·
      intro hb10 Q1 k1
      have hb10' := lF hb10
      refine rs hb10 (mvT rfl) rfl ?_
      refine rs hb10 (mvT rfl) rfl ?_
      refine rs hb10 (mvT rfl) rfl ?_
      refine rs hb10 (OpT.indexAddr (H rfl) (T1 rfl) (T1 rfl) el28 sz2 (by omega) hty) rfl ?_
      refine rs hb10 (OpT.load (H rfl) (T1 rfl) ag2 rfl) rfl ?_
      refine rs hb10 (OpT.neq (H rfl) (T1 rfl) (T1 rfl)) rfl ?_
      refine st (OpT.pickF (A := .cel _ _) (H rfl) (T1 rfl) hb10 (T1 rfl) rfl) rfl ?_
      exact AWl.to (junk 6 rfl) k1
     ·
      intro hb10 Q1 k1
      refine ps hb10 rfl ?_
      refine ps hb10 rfl ?_
      refine ps hb10 rfl ?_
      refine ps hb10 rfl ?_
      refine ps hb10 rfl ?_
      refine ps hb10 rfl ?_
      refine st (OpT.pickT (A := .cel _ _) (H rfl) (T1 rfl) hb10 Opd.bool rfl) rfl ?_
      exact k1
     refine ng ?_
     refine cd rfl (fun hc5 => ?_) fun hc5 => ?_
     ·
      obtain ⟨hc5, hc5'⟩ := pT hc5
      exact (show False from (by rw [hta.2] at hc5; simp only [hho.1, hho.2] at hc5; simp at hc5)).elim
     ·
      obtain ⟨hc5, hc5'⟩ := pF hc5
      refine AW.skip ?_
      refine AX.go ?_
      refine AW.region ?_
      refine st (mvT rfl) rfl ?_
      refine st (mvT rfl) rfl ?_
      refine st (mvT rfl) rfl ?_
      refine st (OpT.indexAddr (H rfl) (T1 rfl) (T1 rfl) el28 sz2 (by omega) hty) rfl ?_
      refine st (OpT.load (H rfl) (T1 rfl) ag2 rfl) rfl ?_
      refine st (OpT.sub (H rfl) (T1 rfl) (T1 rfl) (nw (by omega))) rfl ?_
      refine st (asT rfl) rfl ?_
      refine nn ?_
      refine AX.normal_block ?_
      refine AX.go ?_
      refine AW.region ?_
      refine st (mvT rfl) rfl ?_
      refine st (OpT.add (H rfl) (T1 rfl) (I rfl) (nw (by omega))) rfl ?_
      refine st (asT rfl) rfl ?_
      refine nn ?_
      exact AX.again (k + 1) (by omega) (by omega) (Kc 0 _ (Kv rfl rfl) <| Kc 1 _ (Kv rfl rfl) <| Kc 6 _ (Kv rfl rfl) <| Kc 9 _ (Kv rfl rfl) <| Kc 13 _ (Kb rfl rfl) <| Kc 15 _ (Kv rfl (by rw [sH]; omega)) <| Kc 17 _ (Kv rfl (by omega)) <| Kn)
    ·
     obtain ⟨hc4, hc4'⟩ := pF hc4
     have hga : (talS d).1[Int.toNat (pick (x, 0, 0#64) 96).1]? = some (cntH d (pick (x, 0, 0#64) 96).1) := by have h8 := tally_get d (z := 96) (h := (pick (x, 0, 0#64) 96).1.toNat) (by omega); rw [Int.toNat_of_nonneg (by omega)] at h8; rw [hta.1]; exact h8
     have hgb : (talS d).1[Int.toNat (pick (y, 0, 0#64) 96).1]? = some (cntH d (pick (y, 0, 0#64) 96).1) := by have h8 := tally_get d (z := 96) (h := (pick (y, 0, 0#64) 96).1.toNat) (by omega); rw [Int.toNat_of_nonneg (by omega)] at h8; rw [hta.1]; exact h8
     refine AW.exit ?_
     refine xT <| xT <| AX.exit_hit ?_
     refine AX.go ?_
     refine sr ?_
     refine st (mvT rfl) rfl ?_
     refine st (OpT.c1 (ms := [.flat, .flat]) (c_spec_P6Pick _ _ ⟨hu0, by omega⟩) (H rfl) (Af (T1 rfl) rfl rfl <| Af (I rfl) rfl rfl <| An) rfl rfl) rfl ?_
     refine st (asT rfl) rfl ?_
     refine ng ?_
     refine sr ?_
     refine st (mvT rfl) rfl ?_
     refine st (OpT.c1 (ms := [.flat, .flat]) (c_spec_P6Pick _ _ ⟨hu1, by omega⟩) (H rfl) (Af (T1 rfl) rfl rfl <| Af (I rfl) rfl rfl <| An) rfl rfl) rfl ?_
     refine st (asT rfl) rfl ?_
     refine ng ?_
     refine sr ?_
     refine st (mvT rfl) rfl ?_
     refine st (mvT rfl) rfl ?_
     refine st (mvT rfl) rfl ?_
     refine s2 (OpT.c2 (ms := [.flat, .flat, .flat]) (c_impl_TogetherOf _ _ _) (H rfl) (Af (T1 rfl) rfl rfl <| Af (T1 rfl) rfl rfl <| Af (T1 rfl) rfl rfl <| An) rfl rfl rfl) rfl ?_
     refine st (OpT.alias (H rfl) (by decide) (by decide)) rfl ?_
     refine st (OpT.extractV (m := 10181) (H rfl) rfl rfl rfl rfl rfl rfl rfl) rfl ?_
     refine st (OpT.extractV (m := 20181) (H rfl) rfl rfl rfl rfl rfl rfl rfl) rfl ?_
     refine st (asT rfl) rfl ?_
     refine st (asT rfl) rfl ?_
     refine AWl.to (kc4 25 24 23 22 rfl <| kc4 0 1 6 9 rfl <| kc 15 rfl <| Kn) ?_
     refine ng ?_
     refine sr ?_
     refine st (mvT rfl) rfl ?_
     refine st (mvT rfl) rfl ?_
     refine st (mvT rfl) rfl ?_
     refine s2 (OpT.c2 (ms := [.flat, .flat, .flat]) (c_impl_TogetherOf _ _ _) (H rfl) (Af (T1 rfl) rfl rfl <| Af (T1 rfl) rfl rfl <| Af (T1 rfl) rfl rfl <| An) rfl rfl rfl) rfl ?_
     refine st (OpT.alias (H rfl) (by decide) (by decide)) rfl ?_
     refine st (OpT.extractV (m := 10188) (H rfl) rfl rfl rfl rfl rfl rfl rfl) rfl ?_
     refine st (OpT.extractV (m := 20188) (H rfl) rfl rfl rfl rfl rfl rfl rfl) rfl ?_
     refine st (asT rfl) rfl ?_
     refine st (asT rfl) rfl ?_
     refine ng ?_
     refine AW.seq ?_
     refine sr ?_
     refine st (mvT rfl) rfl ?_
     refine st (OpT.neq (H rfl) (T1 rfl) (I rfl)) rfl ?_
     refine st (mvT rfl) rfl ?_
     apply AWl.or (d := 196) (t := 193) rfl
     ·
      intro hb11 Q1 k1
      have hb11' := lF hb11
      refine rs hb11 (mvT rfl) rfl ?_
      refine rs hb11 (OpT.neq (H rfl) (T1 rfl) (I rfl)) rfl ?_
      refine st (OpT.pickF (A := .cel _ _) (H rfl) (T1 rfl) hb11 (T1 rfl) rfl) rfl ?_
      exact AWl.to (junk 2 rfl) k1
     ·
      intro hb11 Q1 k1
      refine ps hb11 rfl ?_
      refine ps hb11 rfl ?_
      refine st (OpT.pickT (A := .cel _ _) (H rfl) (T1 rfl) hb11 Opd.bool rfl) rfl ?_
      exact k1
     refine st (mvT rfl) rfl ?_
     apply AWl.or (d := 200) (t := 197) rfl
     ·
      intro hb12 Q1 k1
      have hb12' := lF hb12
      refine rs hb12 (mvT rfl) rfl ?_
      refine rs hb12 (OpT.neq (H rfl) (T1 rfl) (I rfl)) rfl ?_
      refine st (OpT.pickF (A := .cel _ _) (H rfl) (T1 rfl) hb12 (T1 rfl) rfl) rfl ?_
      exact AWl.to (junk 2 rfl) k1
     ·
      intro hb12 Q1 k1
      refine ps hb12 rfl ?_
      refine ps hb12 rfl ?_
      refine st (OpT.pickT (A := .cel _ _) (H rfl) (T1 rfl) hb12 Opd.bool rfl) rfl ?_
      exact k1
     refine st (mvT rfl) rfl ?_
     apply AWl.or (d := 205) (t := 201) rfl
     ·
      intro hb13 Q1 k1
      have hb13' := lF hb13
      refine rs hb13 (mvT rfl) rfl ?_
      refine rs hb13 (mvT rfl) rfl ?_
      refine rs hb13 (OpT.neq (H rfl) (T1 rfl) (T1 rfl)) rfl ?_
      refine st (OpT.pickF (A := .cel _ _) (H rfl) (T1 rfl) hb13 (T1 rfl) rfl) rfl ?_
      exact AWl.to (junk 3 rfl) k1
     ·
      intro hb13 Q1 k1
      refine ps hb13 rfl ?_
      refine ps hb13 rfl ?_
      refine ps hb13 rfl ?_
      refine st (OpT.pickT (A := .cel _ _) (H rfl) (T1 rfl) hb13 Opd.bool rfl) rfl ?_
      exact k1
     refine st (mvT rfl) rfl ?_
     apply AWl.or (d := 213) (t := 206) rfl
     ·
      intro hb14 Q1 k1
      have hb14' := lF hb14
      refine rs hb14 (mvT rfl) rfl ?_
      refine rs hb14 (mvT rfl) rfl ?_
      refine rs hb14 (mvT rfl) rfl ?_
      refine rs hb14 (OpT.indexAddr (H rfl) (T1 rfl) (T1 rfl) el28 sz2 (by omega) hga) rfl ?_
      refine rs hb14 (OpT.load (H rfl) (T1 rfl) ag2 rfl) rfl ?_
      refine rs hb14 (OpT.gtr (H rfl) (T1 rfl) (T1 rfl)) rfl ?_
      refine st (OpT.pickF (A := .cel _ _) (H rfl) (T1 rfl) hb14 (T1 rfl) rfl) rfl ?_
      exact AWl.to (junk 6 rfl) k1
     ·
      intro hb14 Q1 k1
      refine ps hb14 rfl ?_
      refine ps hb14 rfl ?_
      refine ps hb14 rfl ?_
      refine ps hb14 rfl ?_
      refine ps hb14 rfl ?_
      refine ps hb14 rfl ?_
      refine st (OpT.pickT (A := .cel _ _) (H rfl) (T1 rfl) hb14 Opd.bool rfl) rfl ?_
      exact k1
     refine st (mvT rfl) rfl ?_
     apply AWl.or (d := 221) (t := 214) rfl
     ·
      intro hb15 Q1 k1
      have hb15' := lF hb15
      refine rs hb15 (mvT rfl) rfl ?_
      refine rs hb15 (mvT rfl) rfl ?_
      refine rs hb15 (mvT rfl) rfl ?_
      refine rs hb15 (OpT.indexAddr (H rfl) (T1 rfl) (T1 rfl) el28 sz2 (by omega) hgb) rfl ?_
      refine rs hb15 (OpT.load (H rfl) (T1 rfl) ag2 rfl) rfl ?_
      refine rs hb15 (OpT.gtr (H rfl) (T1 rfl) (T1 rfl)) rfl ?_
      refine st (OpT.pickF (A := .cel _ _) (H rfl) (T1 rfl) hb15 (T1 rfl) rfl) rfl ?_
      exact AWl.to (junk 6 rfl) k1
     ·
      intro hb15 Q1 k1
      refine ps hb15 rfl ?_
      refine ps hb15 rfl ?_
      refine ps hb15 rfl ?_
      refine ps hb15 rfl ?_
      refine ps hb15 rfl ?_
      refine ps hb15 rfl ?_
      refine st (OpT.pickT (A := .cel _ _) (H rfl) (T1 rfl) hb15 Opd.bool rfl) rfl ?_
      exact k1
     refine AWl.to (kc3 221 0 1 rfl <| Kn) ?_
     refine ng ?_
     refine cd rfl (fun hc6 => ?_) fun hc6 => ?_
     ·
      obtain ⟨hc6, hc6'⟩ := pT hc6
      have hk9 : k = 96 := by omega
      have hse : sH d 96 = sumM d := sH_sum (fun c hc => (deck_card hD.1 hc).2)
      have tg1 := tog_is hD.1 (by omega) (a := (pick (x, 0, 0#64) 96).1) (b := (pick (y, 0, 0#64) 96).1) (by omega) (by omega)
      have tg2 := tog_is hD.1 (by omega) (a := (pick (y, 0, 0#64) 96).1) (b := (pick (x, 0, 0#64) 96).1) (by omega) (by omega)
      have ts := two_sym (pick (x, 0, 0#64) 96).1 (pick (y, 0, 0#64) 96).1 d
      have tl1 := two_le (pick (x, 0, 0#64) 96).1 (pick (y, 0, 0#64) 96).1 d
      have tl2 := two_le (pick (y, 0, 0#64) 96).1 (pick (x, 0, 0#64) 96).1 d
      exact (show False from (by rw [tg1, tg2, hk9, hse] at hc6; simp [ts] at hc6; omega)).elim
     ·
      obtain ⟨hc6, hc6'⟩ := pF hc6
      have hk9 : k = 96 := by omega
      have hse : sH d 96 = sumM d := sH_sum (fun c hc => (deck_card hD.1 hc).2)
      have tg1 := tog_is hD.1 (by omega) (a := (pick (x, 0, 0#64) 96).1) (b := (pick (y, 0, 0#64) 96).1) (by omega) (by omega)
      have tg2 := tog_is hD.1 (by omega) (a := (pick (y, 0, 0#64) 96).1) (b := (pick (x, 0, 0#64) 96).1) (by omega) (by omega)
      have ts := two_sym (pick (x, 0, 0#64) 96).1 (pick (y, 0, 0#64) 96).1 d
      have tl1 := two_le (pick (x, 0, 0#64) 96).1 (pick (y, 0, 0#64) 96).1 d
      have tl2 := two_le (pick (y, 0, 0#64) 96).1 (pick (x, 0, 0#64) 96).1 d
      refine AW.skip ?_
      refine AX.go ?_
      refine sr ?_
      refine st (mvT rfl) rfl ?_
      refine st (OpT.c1 (ms := [.flat]) (c_spec_P6Mix _ ⟨hu1, by omega⟩) (H rfl) (Af (T1 rfl) rfl rfl <| An) rfl rfl) rfl ?_
      refine st (OpT.alloc (H rfl) zr47 zk47) rfl ?_
      refine sk (OpT.storeBA rfl rfl (Opd.whole (Root.self (t := 28) (by decide)) rfl) rfl sz47 (by decide) (T1 rfl)) rfl ?_
      refine ng ?_
      refine sr ?_
      refine st (mvT rfl) rfl ?_
      refine st (OpT.c1 (ms := [.flat, .flat]) (c_spec_P6Pick _ _ ⟨hu0, by omega⟩) (H rfl) (Af (T1 rfl) rfl rfl <| Af (I rfl) rfl rfl <| An) rfl rfl) rfl ?_
      refine st (asT rfl) rfl ?_
      refine ng ?_
      refine sr ?_
      refine st (mvT rfl) rfl ?_
      refine st (OpT.c1 (ms := [.flat, .flat]) (c_spec_P6Pick _ _ ⟨hu1, by omega⟩) (H rfl) (Af (T1 rfl) rfl rfl <| Af (I rfl) rfl rfl <| An) rfl rfl) rfl ?_
      refine st (OpT.add (H rfl) (I rfl) (T1 rfl) (nw (by omega))) rfl ?_
      refine st (asT rfl) rfl ?_
      refine ng ?_
      refine sr ?_
      refine st (OpT.loadB (H rfl) (Root.self (t := 28) (by decide)) rfl ag47 sz47) rfl ?_
      refine st (mvT rfl) rfl ?_
      refine st (mvT rfl) rfl ?_
      refine s2 (OpT.c2 (ms := [.flat, .flat, .flat]) (c_impl_FalseChance _ _ _) (H rfl) (Af (T1 rfl) rfl rfl <| Af (T1 rfl) rfl rfl <| Af (T1 rfl) rfl rfl <| An) rfl rfl rfl) rfl ?_
      refine st (OpT.alias (H rfl) (by decide) (by decide)) rfl ?_
      refine st (OpT.extractV (m := 10233) (H rfl) rfl rfl rfl rfl rfl rfl rfl) rfl ?_
      refine st (OpT.extractV (m := 20233) (H rfl) rfl rfl rfl rfl rfl rfl rfl) rfl ?_
      refine st (asT rfl) rfl ?_
      refine st (asT rfl) rfl ?_
      refine AWl.to (kc4 32 31 30 29 rfl <| kb 28 rfl <| kc 0 rfl <| Kn) ?_
      refine ng ?_
      refine sr ?_
      refine st (OpT.loadB (H rfl) (Root.self (t := 28) (by decide)) rfl ag47 sz47) rfl ?_
      refine st (mvT rfl) rfl ?_
      refine st (mvT rfl) rfl ?_
      refine s2 (OpT.c2 (ms := [.flat, .flat, .flat]) (c_spec_FalseChance _ _ _) (H rfl) (Af (T1 rfl) rfl rfl <| Af (T1 rfl) rfl rfl <| Af (T1 rfl) rfl rfl <| An) rfl rfl rfl) rfl ?_
      refine st (OpT.alias (H rfl) (by decide) (by decide)) rfl ?_
      refine st (OpT.extractV (m := 10240) (H rfl) rfl rfl rfl rfl rfl rfl rfl) rfl ?_
      refine st (OpT.extractV (m := 20240) (H rfl) rfl rfl rfl rfl rfl rfl rfl) rfl ?_
      refine st (asT rfl) rfl ?_
      refine st (asT rfl) rfl ?_
      refine ng ?_
      refine sr ?_
      refine st (OpT.loadB (H rfl) (Root.self (t := 28) (by decide)) rfl ag47 sz47) rfl ?_
      refine st (mvT rfl) rfl ?_
      refine st (OpT.add (H rfl) (T1 rfl) (I rfl) (nw (by omega))) rfl ?_
      refine st (mvT rfl) rfl ?_
      refine s2 (OpT.c2 (ms := [.flat, .flat, .flat]) (c_impl_FalseChance _ _ _) (H rfl) (Af (T1 rfl) rfl rfl <| Af (T1 rfl) rfl rfl <| Af (T1 rfl) rfl rfl <| An) rfl rfl rfl) rfl ?_
      refine st (OpT.alias (H rfl) (by decide) (by decide)) rfl ?_
      refine st (OpT.extractV (m := 10248) (H rfl) rfl rfl rfl rfl rfl rfl rfl) rfl ?_
      refine st (OpT.extractV (m := 20248) (H rfl) rfl rfl rfl rfl rfl rfl rfl) rfl ?_
      refine st (asT rfl) rfl ?_
      refine st (asT rfl) rfl ?_
      refine AWl.to (kc4 36 35 34 33 rfl <| kc4 32 31 30 29 rfl <| kb 28 rfl <| kc 0 rfl <| Kn) ?_
      refine ng ?_
      refine sr ?_
      refine st (OpT.loadB (H rfl) (Root.self (t := 28) (by decide)) rfl ag47 sz47) rfl ?_
      refine st (mvT rfl) rfl ?_
      refine st (mvT rfl) rfl ?_
      refine st (OpT.add (H rfl) (T1 rfl) (I rfl) (nw (by omega))) rfl ?_
      refine s2 (OpT.c2 (ms := [.flat, .flat, .flat]) (c_impl_FalseChance _ _ _) (H rfl) (Af (T1 rfl) rfl rfl <| Af (T1 rfl) rfl rfl <| Af (T1 rfl) rfl rfl <| An) rfl rfl rfl) rfl ?_
      refine st (OpT.alias (H rfl) (by decide) (by decide)) rfl ?_
      refine st (OpT.extractV (m := 10256) (H rfl) rfl rfl rfl rfl rfl rfl rfl) rfl ?_
      refine st (OpT.extractV (m := 20256) (H rfl) rfl rfl rfl rfl rfl rfl rfl) rfl ?_
      refine st (asT rfl) rfl ?_
      refine st (asT rfl) rfl ?_
      refine ng ?_
      refine AW.seq ?_
      refine sr ?_
      refine st (mvT rfl) rfl ?_
      refine st (mvT rfl) rfl ?_
      refine st (OpT.neq (H rfl) (T1 rfl) (T1 rfl)) rfl ?_
      refine st (mvT rfl) rfl ?_
      apply AWl.or (d := 265) (t := 262) rfl
      ·
       intro hb16 Q1 k1
       have hb16' := lF hb16
       refine rs hb16 (mvT rfl) rfl ?_
       refine rs hb16 (OpT.neq (H rfl) (T1 rfl) (I rfl)) rfl ?_
       refine st (OpT.pickF (A := .cel _ _) (H rfl) (T1 rfl) hb16 (T1 rfl) rfl) rfl ?_
       exact AWl.to (junk 2 rfl) k1
      ·
       intro hb16 Q1 k1
       refine ps hb16 rfl ?_
       refine ps hb16 rfl ?_
       refine st (OpT.pickT (A := .cel _ _) (H rfl) (T1 rfl) hb16 Opd.bool rfl) rfl ?_
       exact k1
      refine st (mvT rfl) rfl ?_
      apply AWl.or (d := 270) (t := 266) rfl
      ·
       intro hb17 Q1 k1
       have hb17' := lF hb17
       refine rs hb17 (mvT rfl) rfl ?_
       refine rs hb17 (mvT rfl) rfl ?_
       refine rs hb17 (OpT.neq (H rfl) (T1 rfl) (T1 rfl)) rfl ?_
       refine st (OpT.pickF (A := .cel _ _) (H rfl) (T1 rfl) hb17 (T1 rfl) rfl) rfl ?_
       exact AWl.to (junk 3 rfl) k1
      ·
       intro hb17 Q1 k1
       refine ps hb17 rfl ?_
       refine ps hb17 rfl ?_
       refine ps hb17 rfl ?_
       refine st (OpT.pickT (A := .cel _ _) (H rfl) (T1 rfl) hb17 Opd.bool rfl) rfl ?_
       exact k1
      refine st (mvT rfl) rfl ?_
      apply AWl.or (d := 274) (t := 271) rfl
      ·
       intro hb18 Q1 k1
       have hb18' := lF hb18
       refine rs hb18 (mvT rfl) rfl ?_
       refine rs hb18 (OpT.neq (H rfl) (T1 rfl) (I rfl)) rfl ?_
       refine st (OpT.pickF (A := .cel _ _) (H rfl) (T1 rfl) hb18 (T1 rfl) rfl) rfl ?_
       exact AWl.to (junk 2 rfl) k1
      ·
       intro hb18 Q1 k1
       refine ps hb18 rfl ?_
       refine ps hb18 rfl ?_
       refine st (OpT.pickT (A := .cel _ _) (H rfl) (T1 rfl) hb18 Opd.bool rfl) rfl ?_
       exact k1
      refine st (mvT rfl) rfl ?_
      apply AWl.or (d := 279) (t := 275) rfl
      ·
       intro hb19 Q1 k1
       have hb19' := lF hb19
       refine rs hb19 (mvT rfl) rfl ?_
       refine rs hb19 (mvT rfl) rfl ?_
       refine rs hb19 (OpT.lss (H rfl) (T1 rfl) (T1 rfl)) rfl ?_
       refine st (OpT.pickF (A := .cel _ _) (H rfl) (T1 rfl) hb19 (T1 rfl) rfl) rfl ?_
       exact AWl.to (junk 3 rfl) k1
      ·
       intro hb19 Q1 k1
       refine ps hb19 rfl ?_
       refine ps hb19 rfl ?_
       refine ps hb19 rfl ?_
       refine st (OpT.pickT (A := .cel _ _) (H rfl) (T1 rfl) hb19 Opd.bool rfl) rfl ?_
       exact k1
      refine st (mvT rfl) rfl ?_
      apply AWl.or (d := 283) (t := 280) rfl
      ·
       intro hb20 Q1 k1
       have hb20' := lF hb20
       refine rs hb20 (mvT rfl) rfl ?_
       refine rs hb20 (OpT.neq (H rfl) (T1 rfl) (I rfl)) rfl ?_
       refine st (OpT.pickF (A := .cel _ _) (H rfl) (T1 rfl) hb20 (T1 rfl) rfl) rfl ?_
       exact AWl.to (junk 2 rfl) k1
      ·
       intro hb20 Q1 k1
       refine ps hb20 rfl ?_
       refine ps hb20 rfl ?_
       refine st (OpT.pickT (A := .cel _ _) (H rfl) (T1 rfl) hb20 Opd.bool rfl) rfl ?_
       exact k1
      refine st (mvT rfl) rfl ?_
      apply AWl.or (d := 288) (t := 284) rfl
      ·
       intro hb21 Q1 k1
       have hb21' := lF hb21
       refine rs hb21 (mvT rfl) rfl ?_
       refine rs hb21 (mvT rfl) rfl ?_
       refine rs hb21 (OpT.gtr (H rfl) (T1 rfl) (T1 rfl)) rfl ?_
       refine st (OpT.pickF (A := .cel _ _) (H rfl) (T1 rfl) hb21 (T1 rfl) rfl) rfl ?_
       exact AWl.to (junk 3 rfl) k1
      ·
       intro hb21 Q1 k1
       refine ps hb21 rfl ?_
       refine ps hb21 rfl ?_
       refine ps hb21 rfl ?_
       refine st (OpT.pickT (A := .cel _ _) (H rfl) (T1 rfl) hb21 Opd.bool rfl) rfl ?_
       exact k1
      refine st (mvT rfl) rfl ?_
      apply AWl.or (d := 292) (t := 289) rfl
      ·
       intro hb22 Q1 k1
       have hb22' := lF hb22
       refine rs hb22 (mvT rfl) rfl ?_
       refine rs hb22 (OpT.lss (H rfl) (T1 rfl) (I rfl)) rfl ?_
       refine st (OpT.pickF (A := .cel _ _) (H rfl) (T1 rfl) hb22 (T1 rfl) rfl) rfl ?_
       exact AWl.to (junk 2 rfl) k1
      ·
       intro hb22 Q1 k1
       refine ps hb22 rfl ?_
       refine ps hb22 rfl ?_
       refine st (OpT.pickT (A := .cel _ _) (H rfl) (T1 rfl) hb22 Opd.bool rfl) rfl ?_
       exact k1
      refine st (mvT rfl) rfl ?_
      apply AWl.or (d := 296) (t := 293) rfl
      ·
       intro hb23 Q1 k1
       have hb23' := lF hb23
       refine rs hb23 (mvT rfl) rfl ?_
       refine rs hb23 (OpT.gtr (H rfl) (T1 rfl) (I rfl)) rfl ?_
       refine st (OpT.pickF (A := .cel _ _) (H rfl) (T1 rfl) hb23 (T1 rfl) rfl) rfl ?_
       exact AWl.to (junk 2 rfl) k1
      ·
       intro hb23 Q1 k1
       refine ps hb23 rfl ?_
       refine ps hb23 rfl ?_
       refine st (OpT.pickT (A := .cel _ _) (H rfl) (T1 rfl) hb23 Opd.bool rfl) rfl ?_
       exact k1
      refine AWl.to (kc4 296 33 30 29 rfl <| kb 28 rfl <| kc 0 rfl <| Kn) ?_
      refine ng ?_
      refine cd rfl (fun hc7 => ?_) fun hc7 => ?_
      ·
       obtain ⟨hc7, hc7'⟩ := pT hc7
       have e0 := false_same (x := mixD (y, 0, 0#64)) (by omega) (pick (x, 0, 0#64) 12).1 (1 + (pick (y, 0, 0#64) 3).1)
       have e1 := false_same (x := mixD (y, 0, 0#64)) (by omega) ((pick (x, 0, 0#64) 12).1 + 1) (1 + (pick (y, 0, 0#64) 3).1)
       have e2 := false_same (x := mixD (y, 0, 0#64)) (by omega) (pick (x, 0, 0#64) 12).1 ((1 + (pick (y, 0, 0#64) 3).1) + 1)
       have f1 := false_is hmo (n := (pick (x, 0, 0#64) 12).1) (k := (1 + (pick (y, 0, 0#64) 3).1)) (by omega) (by omega)
       have f2 := false_is hmo (n := (pick (x, 0, 0#64) 12).1 + 1) (k := (1 + (pick (y, 0, 0#64) 3).1)) (by omega) (by omega)
       have f3 := false_is hmo (n := (pick (x, 0, 0#64) 12).1) (k := (1 + (pick (y, 0, 0#64) 3).1) + 1) (by omega) (by omega)
       have c1 := chance_more (a := (mixD (y, 0, 0#64)).2.1) (b := (mixD (y, 0, 0#64)).2.2) (n := (pick (x, 0, 0#64) 12).1) (m := (1 + (pick (y, 0, 0#64) 3).1)) (by omega)
       have c_gosem_cut_init := chance_asked (a := (mixD (y, 0, 0#64)).2.1) (b := (mixD (y, 0, 0#64)).2.2) (n := (pick (x, 0, 0#64) 12).1) (m := (1 + (pick (y, 0, 0#64) 3).1)) (by omega)
       have c_laws_FnExactShareOf : 0 ≤ chance (mixD (y, 0, 0#64)).2.1 (mixD (y, 0, 0#64)).2.2 (pick (x, 0, 0#64) 12).1 (1 + (pick (y, 0, 0#64) 3).1) ∧ chance (mixD (y, 0, 0#64)).2.1 (mixD (y, 0, 0#64)).2.2 (pick (x, 0, 0#64) 12).1 (1 + (pick (y, 0, 0#64) 3).1) ≤ 1000000000 := hit_in (miss_in (by omega) _) _
       exact (show False from (by simp [e0, e1, e2, f1, f2, f3] at hc7; omega)).elim
      ·
       obtain ⟨hc7, hc7'⟩ := pF hc7
       have e0 := false_same (x := mixD (y, 0, 0#64)) (by omega) (pick (x, 0, 0#64) 12).1 (1 + (pick (y, 0, 0#64) 3).1)
       have e1 := false_same (x := mixD (y, 0, 0#64)) (by omega) ((pick (x, 0, 0#64) 12).1 + 1) (1 + (pick (y, 0, 0#64) 3).1)
       have e2 := false_same (x := mixD (y, 0, 0#64)) (by omega) (pick (x, 0, 0#64) 12).1 ((1 + (pick (y, 0, 0#64) 3).1) + 1)
       have f1 := false_is hmo (n := (pick (x, 0, 0#64) 12).1) (k := (1 + (pick (y, 0, 0#64) 3).1)) (by omega) (by omega)
       have f2 := false_is hmo (n := (pick (x, 0, 0#64) 12).1 + 1) (k := (1 + (pick (y, 0, 0#64) 3).1)) (by omega) (by omega)
       have f3 := false_is hmo (n := (pick (x, 0, 0#64) 12).1) (k := (1 + (pick (y, 0, 0#64) 3).1) + 1) (by omega) (by omega)
       have c1 := chance_more (a := (mixD (y, 0, 0#64)).2.1) (b := (mixD (y, 0, 0#64)).2.2) (n := (pick (x, 0, 0#64) 12).1) (m := (1 + (pick (y, 0, 0#64) 3).1)) (by omega)
       have c_gosem_cut_init := chance_asked (a := (mixD (y, 0, 0#64)).2.1) (b := (mixD (y, 0, 0#64)).2.2) (n := (pick (x, 0, 0#64) 12).1) (m := (1 + (pick (y, 0, 0#64) 3).1)) (by omega)
       have c_laws_FnExactShareOf : 0 ≤ chance (mixD (y, 0, 0#64)).2.1 (mixD (y, 0, 0#64)).2.2 (pick (x, 0, 0#64) 12).1 (1 + (pick (y, 0, 0#64) 3).1) ∧ chance (mixD (y, 0, 0#64)).2.1 (mixD (y, 0, 0#64)).2.2 (pick (x, 0, 0#64) 12).1 (1 + (pick (y, 0, 0#64) 3).1) ≤ 1000000000 := hit_in (miss_in (by omega) _) _
       refine AW.skip ?_
       refine AX.go ?_
       refine sr ?_
       refine st (OpT.fieldAddrB (H rfl) (Root.self (t := 28) (by decide)) rfl (by decide) fd47_2 sz45 (by decide) sb47_2) rfl ?_
       refine st (OpT.loadP (H rfl) (T1 rfl) (.inl ⟨_, rfl, rfl⟩) ag45 rfl) rfl ?_
       refine st (OpT.conv (H rfl) us45 Tryz.underlying2 (T1 rfl) (nw (by omega))) rfl ?_
       refine st (mvT rfl) rfl ?_
       refine st (mvT rfl) rfl ?_
       refine st (mvT rfl) rfl ?_
       refine s2 (OpT.c2 (ms := [.flat, .flat, .flat, .flat, .flat]) (c_impl_BestSize _ _ _ _ _) (H rfl) (Af (T1 rfl) rfl rfl <| Af (T1 rfl) rfl rfl <| Af (T1 rfl) rfl rfl <| Af (I rfl) rfl rfl <| Af (T1 rfl) rfl rfl <| An) rfl rfl rfl) rfl ?_
       refine st (OpT.alias (H rfl) (by decide) (by decide)) rfl ?_
       refine st (OpT.extractV (m := 10304) (H rfl) rfl rfl rfl rfl rfl rfl rfl) rfl ?_
       refine st (OpT.extractV (m := 20304) (H rfl) rfl rfl rfl rfl rfl rfl rfl) rfl ?_
       refine st (asT rfl) rfl ?_
       refine st (asT rfl) rfl ?_
       refine AWl.to (kc4 40 39 33 30 rfl <| kc 29 rfl <| kb 28 rfl <| kc 0 rfl <| Kn) ?_
       refine ng ?_
       refine sr ?_
       refine st (OpT.fieldAddrB (H rfl) (Root.self (t := 28) (by decide)) rfl (by decide) fd47_2 sz45 (by decide) sb47_2) rfl ?_
       refine st (OpT.loadP (H rfl) (T1 rfl) (.inl ⟨_, rfl, rfl⟩) ag45 rfl) rfl ?_
       refine st (OpT.conv (H rfl) us45 Tryz.underlying2 (T1 rfl) (nw (by omega))) rfl ?_
       refine st (mvT rfl) rfl ?_
       refine st (mvT rfl) rfl ?_
       refine st (mvT rfl) rfl ?_
       refine s2 (OpT.c2 (ms := [.flat, .flat, .flat, .flat, .flat]) (c_spec_BestSize _ _ _ _ _) (H rfl) (Af (T1 rfl) rfl rfl <| Af (T1 rfl) rfl rfl <| Af (T1 rfl) rfl rfl <| Af (I rfl) rfl rfl <| Af (T1 rfl) rfl rfl <| An) rfl rfl rfl) rfl ?_
       refine st (OpT.alias (H rfl) (by decide) (by decide)) rfl ?_
       refine st (OpT.extractV (m := 10314) (H rfl) rfl rfl rfl rfl rfl rfl rfl) rfl ?_
       refine st (OpT.extractV (m := 20314) (H rfl) rfl rfl rfl rfl rfl rfl rfl) rfl ?_
       refine st (asT rfl) rfl ?_
       refine st (asT rfl) rfl ?_
       refine AWl.to (kc4 42 41 40 39 rfl <| kc 30 rfl <| kb 28 rfl <| kc 0 rfl <| Kn) ?_
       refine ng ?_
       refine sr ?_
       refine st (mvT rfl) rfl ?_
       refine st (OpT.c1 (ms := [.flat]) (c_spec_P6Lot _ ⟨hu0, by omega⟩) (H rfl) (Af (T1 rfl) rfl rfl <| An) rfl rfl) rfl ?_
       refine AWl.vw (vex 318 9097 rfl rfl (by decide) (fun _ => rfl)) fun xh => ?_
       obtain ⟨lt, hL⟩ := xh
       refine AWl.to (kc4 318 317 42 41 rfl <| kc3 40 39 30 rfl <| kb 28 rfl <| kc 0 rfl <| Kn) ?_
       refine st (asT rfl) rfl ?_
       refine ng ?_
       refine sr ?_
       refine st (OpT.loadB (H rfl) (Root.self (t := 28) (by decide)) rfl ag47 sz47) rfl ?_
       refine st (mvT rfl) rfl ?_
       refine st (mvT rfl) rfl ?_
       refine s2 (OpT.c2 (ms := [.flat, .flat, .flat]) (c_impl_ExpectedFalse _ _ _) (H rfl) (Af (T1 rfl) rfl rfl <| Af (T1 rfl) rfl rfl <| Af (T1 rfl) rfl rfl <| An) rfl rfl rfl) rfl ?_
       refine st (OpT.alias (H rfl) (by decide) (by decide)) rfl ?_
       refine st (OpT.extractV (m := 10323) (H rfl) rfl rfl rfl rfl rfl rfl rfl) rfl ?_
       refine st (OpT.extractV (m := 20323) (H rfl) rfl rfl rfl rfl rfl rfl rfl) rfl ?_
       refine st (asT rfl) rfl ?_
       refine st (asT rfl) rfl ?_
       refine AWl.to (kc4 45 44 43 42 rfl <| kc4 41 40 39 30 rfl <| kb 28 rfl <| Kn) ?_
       refine ng ?_
       refine sr ?_
       refine st (asI rfl) rfl ?_
       refine ng ?_
       refine AW.seq ?_
       refine sr ?_
       refine st (asI rfl) rfl ?_
       refine ng ?_
       refine AW.block ?_
       refine AW.loop (fun u : Nat => u ≤ lt.length) (fun u : Nat => keep [(28, .box 47 kMix (mixD (y, 0, 0#64))), (30, .cel (Kd.int .i64) (1 + (pick (y, 0, 0#64) 3).1)), (39, .cel (Kd.int .i64) (bsS (mixD (y, 0, 0#64)).2.2 (pick (x, 0, 0#64) 12).1 (1 + (pick (y, 0, 0#64) 3).1) 96 (falseS (mixD (y, 0, 0#64)) (pick (x, 0, 0#64) 12).1 (1 + (pick (y, 0, 0#64) 3).1)).1).1), (40, .cel (Kd.int .i64) (bsS (mixD (y, 0, 0#64)).2.2 (pick (x, 0, 0#64) 12).1 (1 + (pick (y, 0, 0#64) 3).1) 96 (falseS (mixD (y, 0, 0#64)) (pick (x, 0, 0#64) 12).1 (1 + (pick (y, 0, 0#64) 3).1)).1).2), (41, .cel (Kd.int .i64) (bsS (mixD (y, 0, 0#64)).2.2 (pick (x, 0, 0#64) 12).1 (1 + (pick (y, 0, 0#64) 3).1) 96 (falseS (mixD (y, 0, 0#64)) (pick (x, 0, 0#64) 12).1 (1 + (pick (y, 0, 0#64) 3).1)).1).1), (42, .cel (Kd.int .i64) (bsS (mixD (y, 0, 0#64)).2.2 (pick (x, 0, 0#64) 12).1 (1 + (pick (y, 0, 0#64) 3).1) 96 (falseS (mixD (y, 0, 0#64)) (pick (x, 0, 0#64) 12).1 (1 + (pick (y, 0, 0#64) 3).1)).1).2), (43, .cel (Kd.slice (Kd.slice Kd.str)) lt), (44, .cel (Kd.int .i64) (expS (mixD (y, 0, 0#64)) lt (1 + (pick (y, 0, 0#64) 3).1)).1), (45, .cel (Kd.int .i64) (expS (mixD (y, 0, 0#64)) lt (1 + (pick (y, 0, 0#64) 3).1)).2), (46, .cel (Kd.int .i64) (sumE (mixD (y, 0, 0#64)) (1 + (pick (y, 0, 0#64) 3).1) (lt.take u))), (47, .cel (Kd.int .i64) (u : Int))]) (fun u : Nat => lt.length - u) (0) (Nat.zero_le _) (Kc 28 _ (Kb rfl rfl) <| Kc 30 _ (Kv rfl rfl) <| Kc 39 _ (Kv rfl rfl) <| Kc 40 _ (Kv rfl rfl) <| Kc 41 _ (Kv rfl rfl) <| Kc 42 _ (Kv rfl rfl) <| Kc 43 _ (Kv rfl rfl) <| Kc 44 _ (Kv rfl rfl) <| Kc 45 _ (Kv rfl rfl) <| Kc 46 _ (Kv rfl rfl) <| Kc 47 _ (Kv rfl rfl) <| Kn) ?_
       intro u hI
       refine AW.seq ?_
       refine sr ?_
       refine st (mvT rfl) rfl ?_
       refine st (mvT rfl) rfl ?_
       refine st (OpT.len (H rfl) (T1 rfl) el51) rfl ?_
       refine st (OpT.lss (H rfl) (T1 rfl) (T1 rfl)) rfl ?_
       refine ng ?_
       refine cd rfl (fun hc8 => ?_) fun hc8 => ?_
       ·
        obtain ⟨hc8, hc8'⟩ := pT hc8
        obtain ⟨w, hw⟩ := getI (x := lt) (z := u) (by omega)
        have hwl : (w.length : Int) ≤ 4 := (allL_mem hL.2 (List.mem_of_getElem? (by rw [toN] at hw; exact hw))).1
        have hsu := sumE_in (m := (1 + (pick (y, 0, 0#64) 3).1)) (mix_ab hmo) lt u
        have hch : 0 ≤ chance (mixD (y, 0, 0#64)).2.1 (mixD (y, 0, 0#64)).2.2 (w.length : Int) (1 + (pick (y, 0, 0#64) 3).1) ∧ chance (mixD (y, 0, 0#64)).2.1 (mixD (y, 0, 0#64)).2.2 (w.length : Int) (1 + (pick (y, 0, 0#64) 3).1) ≤ 1000000000 := hit_in (miss_in (by omega) _) _
        have fu := false_is hmo (n := (w.length : Int)) (k := (1 + (pick (y, 0, 0#64) 3).1)) (by omega) (by omega)
        refine AW.skip ?_
        refine AX.go ?_
        refine AW.seq ?_
        refine AW.block ?_
        refine AW.seq ?_
        refine dh fomo ?_
        refine d1 [28] (fun ve h => OpT.loadB (H rfl) (Root.self (t := 28) (by decide)) ((h _ (List.elem_iff.1 rfl)).trans rfl) ag47 sz47) rfl ?_
        refine d1 [43] (fun ve h => OpT.move (A := .cel _ _) (.inl rfl) rfl (ok' rfl) (D1 h rfl) rfl) rfl ?_
        refine d1 [47] (fun ve h => OpT.move (A := .cel _ _) (.inl rfl) rfl (ok' rfl) (D1 h rfl) rfl) rfl ?_
        refine d1 [334, 335] (fun ve h => OpT.indexAddr (H rfl) (D1 h rfl) (D1 h rfl) el51 sz54 (by omega) hw) rfl ?_
        refine d1 [336] (fun ve h => OpT.load (H rfl) (D1 h rfl) ag54 rfl) rfl ?_
        refine d1 [337] (fun ve h => OpT.len (H rfl) (D1 h rfl) el54) rfl ?_
        refine d1 [30] (fun ve h => OpT.move (A := .cel _ _) (.inl rfl) rfl (ok' rfl) (D1 h rfl) rfl) rfl ?_
        refine d2 [333, 338, 339] (fun ve h => OpT.c2 (ms := [.flat, .flat, .flat]) (c_spec_FalseChance _ _ _) (H rfl) (Af (D1 h rfl) rfl rfl <| Af (D1 h rfl) rfl rfl <| Af (D1 h rfl) rfl rfl <| An) rfl rfl rfl) rfl ?_
        refine d1 [] (fun ve h => OpT.alias (H rfl) (by decide) (by decide)) rfl ?_
        refine d1 [332, 10340] (fun ve h => OpT.extractV (m := 10340) (H rfl) ((h _ (List.elem_iff.1 rfl)).trans rfl) rfl rfl rfl ((h _ (List.elem_iff.1 rfl)).trans rfl) rfl rfl) rfl ?_
        refine d1 [332, 20340] (fun ve h => OpT.extractV (m := 20340) (H rfl) ((h _ (List.elem_iff.1 rfl)).trans rfl) rfl rfl rfl ((h _ (List.elem_iff.1 rfl)).trans rfl) rfl rfl) rfl ?_
        refine d1 [341] (fun ve h => OpT.move (A := .cel _ _) (.inr rfl) rfl (ok' rfl) (D1 h rfl) rfl) rfl ?_
        refine d1 [342] (fun ve h => OpT.move (A := .cel _ _) (.inr rfl) rfl (ok' rfl) (D1 h rfl) rfl) rfl ?_
        refine dn ⟨by kernel_rfl, by kernel_rfl, ?_⟩
        refine AX.go ?_
        refine AW.seq ?_
        refine sr ?_
        refine st (mvT rfl) rfl ?_
        refine st (OpT.neq (H rfl) (T1 rfl) (I rfl)) rfl ?_
        refine ng ?_
        refine cd rfl (fun hc9 => ?_) fun hc9 => ?_
        ·
         obtain ⟨hc9, hc9'⟩ := pT hc9
         exact (show False from (by simp [fu] at hc9)).elim
        ·
         obtain ⟨hc9, hc9'⟩ := pF hc9
         refine AW.skip ?_
         refine AX.go ?_
         refine AW.region ?_
         refine st (mvT rfl) rfl ?_
         refine st (mvT rfl) rfl ?_
         refine st (OpT.add (H rfl) (T1 rfl) (T1 rfl) (nw (by rw [fu]; dsimp only; omega))) rfl ?_
         refine st (asT rfl) rfl ?_
         refine nn ?_
         refine AX.normal_block ?_
         refine AX.go ?_
         refine AW.region ?_
         refine st (mvT rfl) rfl ?_
         refine st (OpT.add (H rfl) (T1 rfl) (I rfl) (nw (by omega))) rfl ?_
         refine st (asT rfl) rfl ?_
         refine nn ?_
         exact AX.again (u + 1) (by omega) (by omega) (Kc 28 _ (Kb rfl rfl) <| Kc 30 _ (Kv rfl rfl) <| Kc 39 _ (Kv rfl rfl) <| Kc 40 _ (Kv rfl rfl) <| Kc 41 _ (Kv rfl rfl) <| Kc 42 _ (Kv rfl rfl) <| Kc 43 _ (Kv rfl rfl) <| Kc 44 _ (Kv rfl rfl) <| Kc 45 _ (Kv rfl rfl) <| Kc 46 _ (Kv rfl (by rw [fu]; exact sumE_next hw)) <| Kc 47 _ (Kv rfl (by omega)) <| Kn)
       ·
        obtain ⟨hc8, hc8'⟩ := pF hc8
        have hu9 : u = lt.length := by omega
        have bl := bsS_le (p := (mixD (y, 0, 0#64)).2.2) (w := (pick (x, 0, 0#64) 12).1) (a := (1 + (pick (y, 0, 0#64) 3).1)) (m := 96) (c := (falseS (mixD (y, 0, 0#64)) (pick (x, 0, 0#64) 12).1 (1 + (pick (y, 0, 0#64) 3).1)).1) (A := (mixD (y, 0, 0#64)).2.1) (by unfold bsOK; rw [f1]; dsimp only; omega) (by omega) (by omega) (by rw [f1]; exact Int.le_refl _)
        have ey := expS_yes (x := lt) (m := (1 + (pick (y, 0, 0#64) 3).1)) hmo ⟨⟨by omega, fun i hi => by obtain ⟨a, h1, h2⟩ := hL.2 i hi; exact ⟨a, h1, words_mono h2 (by decide)⟩⟩, by omega⟩
        refine AW.exit ?_
        refine xT <| xT <| AX.exit_hit ?_
        refine AX.go ?_
        refine sr ?_
        refine st (mvT rfl) rfl ?_
        refine st (mvT rfl) rfl ?_
        refine st (OpT.eql (H rfl) (T1 rfl) (T1 rfl)) rfl ?_
        refine st (mvT rfl) rfl ?_
        apply AWl.and (d := 354) (t := 351) rfl
        ·
         intro hb24 Q1 k1
         have hb24' := lT hb24
         refine rs hb24 (mvT rfl) rfl ?_
         refine rs hb24 (OpT.eql (H rfl) (T1 rfl) (I rfl)) rfl ?_
         refine st (OpT.pickT (A := .cel _ _) (H rfl) (T1 rfl) hb24 (T1 rfl) rfl) rfl ?_
         exact AWl.to (junk 2 rfl) k1
        ·
         intro hb24 Q1 k1
         refine ps hb24 rfl ?_
         refine ps hb24 rfl ?_
         refine st (OpT.pickF (A := .cel _ _) (H rfl) (T1 rfl) hb24 Opd.bool rfl) rfl ?_
         exact k1
        refine st (mvT rfl) rfl ?_
        apply AWl.and (d := 359) (t := 355) rfl
        ·
         intro hb25 Q1 k1
         have hb25' := lT hb25
         refine rs hb25 (mvT rfl) rfl ?_
         refine rs hb25 (mvT rfl) rfl ?_
         refine rs hb25 (OpT.eql (H rfl) (T1 rfl) (T1 rfl)) rfl ?_
         refine st (OpT.pickT (A := .cel _ _) (H rfl) (T1 rfl) hb25 (T1 rfl) rfl) rfl ?_
         exact AWl.to (junk 3 rfl) k1
        ·
         intro hb25 Q1 k1
         refine ps hb25 rfl ?_
         refine ps hb25 rfl ?_
         refine ps hb25 rfl ?_
         refine st (OpT.pickF (A := .cel _ _) (H rfl) (T1 rfl) hb25 Opd.bool rfl) rfl ?_
         exact k1
        refine st (mvT rfl) rfl ?_
        apply AWl.and (d := 366) (t := 360) rfl
        ·
         intro hb26 Q1 k1
         have hb26' := lT hb26
         refine rs hb26 (mvT rfl) rfl ?_
         refine rs hb26 (OpT.fieldAddrB (H rfl) (Root.self (t := 28) (by decide)) rfl (by decide) fd47_1 sz45 (by decide) sb47_1) rfl ?_
         refine rs hb26 (OpT.loadP (H rfl) (T1 rfl) (.inl ⟨_, rfl, rfl⟩) ag45 rfl) rfl ?_
         refine rs hb26 (OpT.conv (H rfl) us45 Tryz.underlying2 (T1 rfl) (nw (by omega))) rfl ?_
         refine rs hb26 (OpT.leq (H rfl) (T1 rfl) (T1 rfl)) rfl ?_
         refine st (OpT.pickT (A := .cel _ _) (H rfl) (T1 rfl) hb26 (T1 rfl) rfl) rfl ?_
         exact AWl.to (junk 5 rfl) k1
        ·
         intro hb26 Q1 k1
         refine ps hb26 rfl ?_
         refine ps hb26 rfl ?_
         refine ps hb26 rfl ?_
         refine ps hb26 rfl ?_
         refine ps hb26 rfl ?_
         refine st (OpT.pickF (A := .cel _ _) (H rfl) (T1 rfl) hb26 Opd.bool rfl) rfl ?_
         exact k1
        refine st (mvT rfl) rfl ?_
        apply AWl.and (d := 370) (t := 367) rfl
        ·
         intro hb27 Q1 k1
         have hb27' := lT hb27
         refine rs hb27 (mvT rfl) rfl ?_
         refine rs hb27 (OpT.eql (H rfl) (T1 rfl) (I rfl)) rfl ?_
         refine st (OpT.pickT (A := .cel _ _) (H rfl) (T1 rfl) hb27 (T1 rfl) rfl) rfl ?_
         exact AWl.to (junk 2 rfl) k1
        ·
         intro hb27 Q1 k1
         refine ps hb27 rfl ?_
         refine ps hb27 rfl ?_
         refine st (OpT.pickF (A := .cel _ _) (H rfl) (T1 rfl) hb27 Opd.bool rfl) rfl ?_
         exact k1
        refine st (mvT rfl) rfl ?_
        apply AWl.and (d := 375) (t := 371) rfl
        ·
         intro hb28 Q1 k1
         have hb28' := lT hb28
         refine rs hb28 (mvT rfl) rfl ?_
         refine rs hb28 (mvT rfl) rfl ?_
         refine rs hb28 (OpT.eql (H rfl) (T1 rfl) (T1 rfl)) rfl ?_
         refine st (OpT.pickT (A := .cel _ _) (H rfl) (T1 rfl) hb28 (T1 rfl) rfl) rfl ?_
         exact AWl.to (junk 3 rfl) k1
        ·
         intro hb28 Q1 k1
         refine ps hb28 rfl ?_
         refine ps hb28 rfl ?_
         refine ps hb28 rfl ?_
         refine st (OpT.pickF (A := .cel _ _) (H rfl) (T1 rfl) hb28 Opd.bool rfl) rfl ?_
         exact k1
        refine st (asT rfl) rfl ?_
        refine AWl.to (kc 4 rfl <| Kn) ?_
        refine ng ?_
        refine AW.ret ?_
        exact rt1 rfl (.inl rfl) (by first | rfl | (rw [ey, hu9, List.take_length]; simp [bl.1]; omega))
end Go.Proofs.YtohcpnobmknglaaGreatDoor.VL
