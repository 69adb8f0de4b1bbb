/- Proved here: what some functions of the program take and give: walks with the words of VA..VQ. Printed by program. -/
import Derived.Test.YtmmjcpiikdcldaaGreatDoorWT
import Derived.Test.YtmmjcpiikdcldaaGreatDoorPXQ
import Derived.Test.YtmmjcpiikdcldaaGreatDoorWQR
import Derived.Test.YtmmjcpiikdcldaaGreatDoorWX
import Derived.Test.YtmmjcpiikdcldaaGreatDoorWE1
import Derived.Test.YtmmjcpiikdcldaaGreatDoorWN
import Derived.Test.YtmmjcpiikdcldaaGreatDoorWY
import Derived.Test.YtmmjcpiikdcldaaGreatDoorWRE
set_option linter.unusedVariables false
set_option linter.unusedSimpArgs false
set_option maxRecDepth 4000
namespace Go.Proofs.YtmmjcpiikdcldaaGreatDoor.VL
open Go
set_option maxHeartbeats 4000000 in
/-- spec.l07ReadEdit -/
theorem c_spec_l07ReadEdit (x : ByteArray) (hx : x.size ≤ 1000000000) : AC Tryz.prog 74 [.cel Kd.str x] [.agg kEdit (reQ x).1, .cel Kd.bool (reQ x).2] [] := by
 refine acI (N := 93) Tryz.func74 (Nat.le_of_ble_eq_true rfl) rfl fun w0 hd s0 ar => ?_
 refine AW.to (kc 0 rfl <| Kn) ?_
 have hsl := splB_len 32 x
 have hsn := cnB_le 32 x
 have hrt := rsT_le x
 refine sr ?_
 refine st (OpT.alloc (H rfl) zr63 zk63) rfl ?_
 refine st (asB rfl) rfl ?_
 refine ng ?_
 refine sr ?_
 refine st (mvT rfl) rfl ?_
 refine st (OpT.c1 (ms := [.flat, .flat]) (c_spec_l01Split x 32 32 hx rfl) (H rfl) (Af (T1 rfl) rfl rfl <| Af (I rfl) rfl rfl <| An) rfl rfl) rfl ?_
 refine st (asT rfl) rfl ?_
 refine ng ?_
 refine sr ?_
 refine st (OpT.build (H rfl) pl63 zr63 zk63 (Built.nil _)) rfl ?_
 refine st (OpT.alloc (H rfl) zr63 zk63) rfl ?_
 refine sk (OpT.storeBA rfl rfl (Opd.whole (Root.self (t := 5) (by decide)) rfl) rfl sz63 (by decide) (T1 rfl)) rfl ?_
 refine ng ?_
 refine AW.seq ?_
 refine sr ?_
 refine st (asI rfl) rfl ?_
 refine ng ?_
 refine AW.block ?_
 refine AW.loop (fun z : Nat => z ≤ 4) (fun z : Nat => keep [(0, .cel Kd.str x), (2, .box 63 kEdit (0, .empty, 0, zM)), (4, .cel (Kd.slice Kd.str) (splB 32 x)), (5, .box 63 kEdit (kL (nmT x) z, .empty, 0, zM)), (6, .cel (Kd.int .i64) ((z : Int) + 1))]) (fun z : Nat => 4 - z) (0) (Nat.zero_le _) (Kc 0 _ (Kv rfl rfl) <| Kc 2 _ (Kb rfl rfl) <| Kc 4 _ (Kv rfl rfl) <| Kc 5 _ (Kb rfl rfl) <| Kc 6 _ (Kv rfl (by omega)) <| Kn) ?_
 intro z hI
 refine AW.seq ?_
 refine sr ?_
 refine st (mvT rfl) rfl ?_
 refine st (OpT.lss (H rfl) (T1 rfl) (I rfl)) rfl ?_
 refine ng ?_
 refine cd rfl (fun hc1 => ?_) fun hc1 => ?_
 ·
  obtain ⟨hc1, hc1'⟩ := pT hc1
  refine AW.skip ?_
  refine AX.go ?_
  refine AW.seq ?_
  refine AW.block ?_
  refine AW.seq ?_
  refine dh fomo ?_
  refine d1 [] (fun ve h => OpT.c1 (ms := []) (c_spec_l07Words ) (H rfl) (An) rfl rfl) rfl ?_
  refine d1 [6] (fun ve h => OpT.move (A := .cel _ _) (.inl rfl) rfl (ok' rfl) (D1 h rfl) rfl) rfl ?_
  refine d1 [18, 19] (fun ve h => OpT.indexAddr (H rfl) (D1 h rfl) (D1 h rfl) el81 sz9 (by omega) (edW_get (by omega))) rfl ?_
  refine d1 [20] (fun ve h => OpT.load (H rfl) (D1 h rfl) ag9 rfl) rfl ?_
  refine d1 [4] (fun ve h => OpT.move (A := .cel _ _) (.inl rfl) rfl (ok' rfl) (D1 h rfl) rfl) rfl ?_
  refine d1 [22] (fun ve h => OpT.indexAddr (H rfl) (D1 h rfl) (I rfl) el81 sz9 (by omega) (nm_get x)) rfl ?_
  refine d1 [23] (fun ve h => OpT.load (H rfl) (D1 h rfl) ag9 rfl) rfl ?_
  refine d1 [21, 24] (fun ve h => OpT.seqv (H rfl) (D1 h rfl) (D1 h rfl)) rfl ?_
  refine dn ⟨by kernel_rfl, by kernel_rfl, ?_⟩
  refine AX.go ?_
  refine cd rfl (fun hc2 => ?_) fun hc2 => ?_
  ·
   obtain ⟨hc2, hc2'⟩ := pT hc2
   have hkq : eqv (edW ((z : Int) + 1)) (nmT x) = true := hc2
   refine AW.region ?_
   refine st (mvT rfl) rfl ?_
   refine st (OpT.conv (H rfl) us3 Tryz.underlying60 (T1 rfl) (wrap_id (by first | (simp only [inR, IntKind.min, IntKind.max, IntKind.signed, IntKind.bits]; omega)))) rfl ?_
   refine st (OpT.fieldAddrB (H rfl) (Root.self (t := 5) (by decide)) rfl (by decide) fd63_0 sz60 (by decide) sb63_0) rfl ?_
   refine sk (OpT.storeB rfl rfl (T1 rfl) rfl sz60 rfl (T1 rfl)) rfl ?_
   refine nn ?_
   refine AX.normal_block ?_
   refine AX.go ?_
   refine AW.region ?_
   refine st (mvT rfl) rfl ?_
   refine st (OpT.add (H rfl) (T1 rfl) (I rfl) (nw (by omega))) rfl ?_
   refine st (asT rfl) rfl ?_
   refine nn ?_
   exact AX.again (z + 1) (by omega) (by omega) (Kc 0 _ (Kv rfl rfl) <| Kc 2 _ (Kb rfl rfl) <| Kc 4 _ (Kv rfl rfl) <| Kc 5 _ (Kb rfl (by first | exact congrArg (fun k => (k, ByteArray.empty, (0 : Int), zM)) (kL_yes hkq) | exact congrArg (fun k => (k, ByteArray.empty, (0 : Int), zM)) (kL_no hkq))) <| Kc 6 _ (Kv rfl (by omega)) <| Kn)
  ·
   obtain ⟨hc2, hc2'⟩ := pF hc2
   have hkq : eqv (edW ((z : Int) + 1)) (nmT x) = false := hc2
   refine AW.skip ?_
   refine AX.normal_block ?_
   refine AX.go ?_
   refine AW.region ?_
   refine st (mvT rfl) rfl ?_
   refine st (OpT.add (H rfl) (T1 rfl) (I rfl) (nw (by omega))) rfl ?_
   refine st (asT rfl) rfl ?_
   refine nn ?_
   exact AX.again (z + 1) (by omega) (by omega) (Kc 0 _ (Kv rfl rfl) <| Kc 2 _ (Kb rfl rfl) <| Kc 4 _ (Kv rfl rfl) <| Kc 5 _ (Kb rfl (by first | exact congrArg (fun k => (k, ByteArray.empty, (0 : Int), zM)) (kL_yes hkq) | exact congrArg (fun k => (k, ByteArray.empty, (0 : Int), zM)) (kL_no hkq))) <| Kc 6 _ (Kv rfl (by omega)) <| Kn)
 ·
  obtain ⟨hc1, hc1'⟩ := pF hc1
  obtain rfl : z = 4 := by omega
  have hk4 : kL (nmT x) 4 = kQ x := rfl
  have hkl := kL_in (nmT x) 4
  refine AW.exit ?_
  refine xT <| xT <| AX.exit_hit ?_
  refine AX.go ?_
  refine AW.seq ?_
  refine sr ?_
  refine st (OpT.fieldAddrB (H rfl) (Root.self (t := 5) (by decide)) rfl (by decide) fd63_0 sz60 (by decide) sb63_0) rfl ?_
  refine st (OpT.loadP (H rfl) (T1 rfl) (.inl ⟨_, rfl, rfl⟩) ag60 rfl) rfl ?_
  refine st (OpT.eql (H rfl) (T1 rfl) (I rfl)) rfl ?_
  refine st (mvT rfl) rfl ?_
  apply AWl.or (d := 36) (t := 32) rfl
  ·
   intro hb1 Q1 k1
   have hb1' := lF hb1
   refine rs hb1 (mvT rfl) rfl ?_
   refine rs hb1 (OpT.len (H rfl) (T1 rfl) el81) rfl ?_
   refine rs hb1 (OpT.lss (H rfl) (T1 rfl) (I rfl)) rfl ?_
   refine st (OpT.pickF (A := .cel _ _) (H rfl) (T1 rfl) hb1 (T1 rfl) rfl) rfl ?_
   exact AWl.to (junk 3 rfl) k1
  ·
   intro hb1 Q1 k1
   refine ps hb1 rfl ?_
   refine ps hb1 rfl ?_
   refine ps hb1 rfl ?_
   refine st (OpT.pickT (A := .cel _ _) (H rfl) (T1 rfl) hb1 Opd.bool rfl) rfl ?_
   exact k1
  refine ng ?_
  refine cd rfl (fun hc3 => ?_) fun hc3 => ?_
  ·
   obtain ⟨hc3, hc3'⟩ := pT hc3
   have hq0 : kQ x = 0 ∨ ((splB 32 x).length : Int) < 2 := by (have h9 := hc3; simpa [hk4] using h9)
   refine sr ?_
   refine st (OpT.loadB (H rfl) (Root.self (t := 5) (by decide)) rfl ag63 sz63) rfl ?_
   refine sk (OpT.storeBA rfl rfl (Opd.whole (Root.self (t := 2) (by decide)) rfl) rfl sz63 (by decide) (T1 rfl)) rfl ?_
   refine st (asB rfl) rfl ?_
   refine ng ?_
   refine AW.ret ?_
   refine rT ?_
   exact AX.rt (rs := [.cell 2 63, .tmp 3]) (ts := [none, some 3]) (.inl rfl) rfl (ROs.cons (RO.cellA (by decide) (Kb rfl (by first | (rw [rq_none hq0]; first | done | rfl) | (rw [rq_low hq1 hq2]; first | done | rfl) | (rw [rq_len hq1 hq3 hq4]; first | done | rfl) | (rw [rq_num hq1 hq3 hq5 hq6]; first | done | rfl) | (rw [rq_high hq1 hq3 hq5 hq7.1]; first | done | rfl))) ag63 sz63) <| ROs.cons (RO.tmp (At.self (by decide)) (Kv rfl (by first | (rw [rq_none hq0]; first | done | rfl) | (rw [rq_low hq1 hq2]; first | done | rfl) | (rw [rq_len hq1 hq3 hq4]; first | done | rfl) | (rw [rq_num hq1 hq3 hq5 hq6]; first | done | rfl) | (rw [rq_high hq1 hq3 hq5 hq7.1]; first | done | rfl))) rfl) <| ROs.nil) (by decide) OutsOK.nil
  ·
   obtain ⟨hc3, hc3'⟩ := pF hc3
   have hq1 : ¬ (kQ x = 0 ∨ ((splB 32 x).length : Int) < 2) := by (have h9 := hc3; simpa [hk4] using h9)
   have hrl := rs_le (x := x) (by omega)
   refine AW.skip ?_
   refine AX.go ?_
   refine AW.seq ?_
   refine sr ?_
   refine st (OpT.fieldAddrB (H rfl) (Root.self (t := 5) (by decide)) rfl (by decide) fd63_0 sz60 (by decide) sb63_0) rfl ?_
   refine st (OpT.loadP (H rfl) (T1 rfl) (.inl ⟨_, rfl, rfl⟩) ag60 rfl) rfl ?_
   refine st (OpT.eql (H rfl) (T1 rfl) (I rfl)) rfl ?_
   refine st (mvT rfl) rfl ?_
   apply AWl.or (d := 45) (t := 41) rfl
   ·
    intro hb2 Q1 k1
    have hb2' := lF hb2
    refine rs hb2 (OpT.fieldAddrB (H rfl) (Root.self (t := 5) (by decide)) rfl (by decide) fd63_0 sz60 (by decide) sb63_0) rfl ?_
    refine rs hb2 (OpT.loadP (H rfl) (T1 rfl) (.inl ⟨_, rfl, rfl⟩) ag60 rfl) rfl ?_
    refine rs hb2 (OpT.eql (H rfl) (T1 rfl) (I rfl)) rfl ?_
    refine st (OpT.pickF (A := .cel _ _) (H rfl) (T1 rfl) hb2 (T1 rfl) rfl) rfl ?_
    exact AWl.to (junk 3 rfl) k1
   ·
    intro hb2 Q1 k1
    refine ps hb2 rfl ?_
    refine ps hb2 rfl ?_
    refine ps hb2 rfl ?_
    refine st (OpT.pickT (A := .cel _ _) (H rfl) (T1 rfl) hb2 Opd.bool rfl) rfl ?_
    exact k1
   refine AWl.to (kc2 45 0 rfl <| kb 2 rfl <| kc 4 rfl <| kb 5 rfl <| Kn) ?_
   refine ng ?_
   refine cd rfl (fun hc4 => ?_) fun hc4 => ?_
   ·
    obtain ⟨hc4, hc4'⟩ := pT hc4
    have hq2 : kQ x = 1 ∨ kQ x = 2 := by (have h9 := hc4; simpa [hk4] using h9)
    refine sr ?_
    refine st (mvT rfl) rfl ?_
    refine st (mvT rfl) rfl ?_
    refine st (OpT.indexAddr (H rfl) (T1 rfl) (I rfl) el81 sz9 (by omega) (nm_get x)) rfl ?_
    refine st (OpT.load (H rfl) (T1 rfl) ag9 rfl) rfl ?_
    refine st (OpT.lenS (H rfl) (T1 rfl) Tryz.underlying9) rfl ?_
    refine st (OpT.add (H rfl) (T1 rfl) (I rfl) (nw (by omega))) rfl ?_
    refine st (OpT.cutSL (H rfl) (T1 rfl) (T1 rfl) Tryz.underlying9 (by omega)) rfl ?_
    refine s2 (OpT.c2 (ms := [.flat]) (c_spec_l01ReadCard (rsT x) (by omega)) (H rfl) (Af (T1 rfl) rfl rfl <| An) rfl rfl rfl) rfl ?_
    refine st (OpT.alias (H rfl) (by decide) (by decide)) rfl ?_
    refine st (OpT.extractV (m := 10054) (H rfl) rfl rfl rfl rfl rfl rfl rfl) rfl ?_
    refine st (OpT.extractV (m := 20054) (H rfl) rfl rfl rfl rfl rfl rfl rfl) rfl ?_
    refine st (OpT.alloc (H rfl) zr40 zk40) rfl ?_
    refine sk (OpT.storeBA rfl rfl (Opd.whole (Root.self (t := 7) (by decide)) rfl) rfl sz40 (by decide) (T1 rfl)) rfl ?_
    refine st (asT rfl) rfl ?_
    refine AWl.to (kc 8 rfl <| kb 7 rfl <| kb 2 rfl <| kc 4 rfl <| kb 5 rfl <| Kn) ?_
    refine ng ?_
    refine sr ?_
    refine st (OpT.fieldAddrB (H rfl) (Root.self (t := 7) (by decide)) rfl (by decide) fd40_0 sz9 (by decide) sb40_0) rfl ?_
    refine st (OpT.loadP (H rfl) (T1 rfl) (.inl ⟨_, rfl, rfl⟩) ag9 rfl) rfl ?_
    refine st (OpT.fieldAddrB (H rfl) (Root.self (t := 5) (by decide)) rfl (by decide) fd63_1 sz9 (by decide) sb63_1) rfl ?_
    refine sk (OpT.storeB rfl rfl (T1 rfl) rfl sz9 rfl (T1 rfl)) rfl ?_
    refine ng ?_
    refine sr ?_
    refine st (OpT.fieldAddrB (H rfl) (Root.self (t := 7) (by decide)) rfl (by decide) fd40_1 sz38 (by decide) sb40_1) rfl ?_
    refine st (OpT.loadPA (H rfl) (T1 rfl) (.inl ⟨_, rfl, rfl⟩) ag38 sz38) rfl ?_
    refine st (OpT.fieldAddrB (H rfl) (Root.self (t := 5) (by decide)) rfl (by decide) fd63_3 sz38 (by decide) sb63_3) rfl ?_
    refine sk (OpT.storeBA rfl rfl (T1 rfl) rfl sz38 (by decide) (T1 rfl)) rfl ?_
    refine ng ?_
    refine sr ?_
    refine st (OpT.loadB (H rfl) (Root.self (t := 5) (by decide)) rfl ag63 sz63) rfl ?_
    refine st (mvT rfl) rfl ?_
    refine sk (OpT.storeBA rfl rfl (Opd.whole (Root.self (t := 2) (by decide)) rfl) rfl sz63 (by decide) (T1 rfl)) rfl ?_
    refine st (asT rfl) rfl ?_
    refine AWl.to (kc 3 rfl <| kb 2 rfl <| kb 5 rfl <| kc 4 rfl <| Kn) ?_
    refine ng ?_
    refine AW.ret ?_
    refine rT ?_
    exact AX.rt (rs := [.cell 2 63, .tmp 3]) (ts := [none, some 3]) (.inl rfl) rfl (ROs.cons (RO.cellA (by decide) (Kb rfl (by first | (rw [rq_none hq0]; first | done | rfl) | (rw [rq_low hq1 hq2]; first | done | rfl) | (rw [rq_len hq1 hq3 hq4]; first | done | rfl) | (rw [rq_num hq1 hq3 hq5 hq6]; first | done | rfl) | (rw [rq_high hq1 hq3 hq5 hq7.1]; first | done | rfl))) ag63 sz63) <| ROs.cons (RO.tmp (At.self (by decide)) (Kv rfl (by first | (rw [rq_none hq0]; first | done | rfl) | (rw [rq_low hq1 hq2]; first | done | rfl) | (rw [rq_len hq1 hq3 hq4]; first | done | rfl) | (rw [rq_num hq1 hq3 hq5 hq6]; first | done | rfl) | (rw [rq_high hq1 hq3 hq5 hq7.1]; first | done | rfl))) rfl) <| ROs.nil) (by decide) OutsOK.nil
   ·
    obtain ⟨hc4, hc4'⟩ := pF hc4
    have hq3 : ¬ (kQ x = 1 ∨ kQ x = 2) := by (have h9 := hc4; simpa [hk4] using h9)
    refine AW.skip ?_
    refine AX.go ?_
    refine AW.seq ?_
    refine sr ?_
    refine st (mvT rfl) rfl ?_
    refine st (OpT.len (H rfl) (T1 rfl) el81) rfl ?_
    refine st (OpT.neq (H rfl) (T1 rfl) (I rfl)) rfl ?_
    refine ng ?_
    refine cd rfl (fun hc5 => ?_) fun hc5 => ?_
    ·
     obtain ⟨hc5, hc5'⟩ := pT hc5
     have hq4 : ((splB 32 x).length : Int) ≠ 3 := by omega
     refine sr ?_
     refine st (OpT.loadB (H rfl) (Root.self (t := 5) (by decide)) rfl ag63 sz63) rfl ?_
     refine sk (OpT.storeBA rfl rfl (Opd.whole (Root.self (t := 2) (by decide)) rfl) rfl sz63 (by decide) (T1 rfl)) rfl ?_
     refine st (asB rfl) rfl ?_
     refine ng ?_
     refine AW.ret ?_
     refine rT ?_
     exact AX.rt (rs := [.cell 2 63, .tmp 3]) (ts := [none, some 3]) (.inl rfl) rfl (ROs.cons (RO.cellA (by decide) (Kb rfl (by first | (rw [rq_none hq0]; first | done | rfl) | (rw [rq_low hq1 hq2]; first | done | rfl) | (rw [rq_len hq1 hq3 hq4]; first | done | rfl) | (rw [rq_num hq1 hq3 hq5 hq6]; first | done | rfl) | (rw [rq_high hq1 hq3 hq5 hq7.1]; first | done | rfl))) ag63 sz63) <| ROs.cons (RO.tmp (At.self (by decide)) (Kv rfl (by first | (rw [rq_none hq0]; first | done | rfl) | (rw [rq_low hq1 hq2]; first | done | rfl) | (rw [rq_len hq1 hq3 hq4]; first | done | rfl) | (rw [rq_num hq1 hq3 hq5 hq6]; first | done | rfl) | (rw [rq_high hq1 hq3 hq5 hq7.1]; first | done | rfl))) rfl) <| ROs.nil) (by decide) OutsOK.nil
    ·
     obtain ⟨hc5, hc5'⟩ := pF hc5
     have hq5 : ((splB 32 x).length : Int) = 3 := by omega
     refine AW.skip ?_
     refine AX.go ?_
     refine sr ?_
     refine st (mvT rfl) rfl ?_
     refine st (OpT.indexAddr (H rfl) (T1 rfl) (I rfl) el81 sz9 (by omega) (w2_get hq5).1) rfl ?_
     refine st (OpT.load (H rfl) (T1 rfl) ag9 rfl) rfl ?_
     refine s2 (OpT.c2 (ms := [.flat]) (c_spec_l01Number (w2T x) (by have h9 := (w2_get hq5).2; omega)) (H rfl) (Af (T1 rfl) rfl rfl <| An) rfl rfl rfl) rfl ?_
     refine st (OpT.alias (H rfl) (by decide) (by decide)) rfl ?_
     refine st (OpT.extractV (m := 10073) (H rfl) rfl rfl rfl rfl rfl rfl rfl) rfl ?_
     refine st (OpT.extractV (m := 20073) (H rfl) rfl rfl rfl rfl rfl rfl rfl) rfl ?_
     refine st (asT rfl) rfl ?_
     refine st (asT rfl) rfl ?_
     refine AWl.to (kc2 10 9 rfl <| kb 2 rfl <| kc 4 rfl <| kb 5 rfl <| Kn) ?_
     refine ng ?_
     refine AW.seq ?_
     refine sr ?_
     refine st (mvT rfl) rfl ?_
     refine st (OpT.not (H rfl) (T1 rfl)) rfl ?_
     refine st (mvT rfl) rfl ?_
     apply AWl.or (d := 82) (t := 78) rfl
     ·
      intro hb3 Q1 k1
      have hb3' := lF hb3
      refine rs hb3 (mvT rfl) rfl ?_
      refine rs hb3 (OpT.c1 (ms := [.flat]) (c_spec_l01Hole _) (H rfl) (Af (T1 rfl) rfl rfl <| An) rfl rfl) rfl ?_
      refine rs hb3 (OpT.not (H rfl) (T1 rfl)) rfl ?_
      refine st (OpT.pickF (A := .cel _ _) (H rfl) (T1 rfl) hb3 (T1 rfl) rfl) rfl ?_
      exact AWl.to (junk 3 rfl) k1
     ·
      intro hb3 Q1 k1
      refine ps hb3 rfl ?_
      refine ps hb3 rfl ?_
      refine ps hb3 rfl ?_
      refine st (OpT.pickT (A := .cel _ _) (H rfl) (T1 rfl) hb3 Opd.bool rfl) rfl ?_
      exact k1
     refine ng ?_
     refine cd rfl (fun hc6 => ?_) fun hc6 => ?_
     ·
      obtain ⟨hc6, hc6'⟩ := pT hc6
      have hq6 := gq_no hc6
      refine sr ?_
      refine st (OpT.loadB (H rfl) (Root.self (t := 5) (by decide)) rfl ag63 sz63) rfl ?_
      refine sk (OpT.storeBA rfl rfl (Opd.whole (Root.self (t := 2) (by decide)) rfl) rfl sz63 (by decide) (T1 rfl)) rfl ?_
      refine st (asB rfl) rfl ?_
      refine ng ?_
      refine AW.ret ?_
      refine rT ?_
      exact AX.rt (rs := [.cell 2 63, .tmp 3]) (ts := [none, some 3]) (.inl rfl) rfl (ROs.cons (RO.cellA (by decide) (Kb rfl (by first | (rw [rq_none hq0]; first | done | rfl) | (rw [rq_low hq1 hq2]; first | done | rfl) | (rw [rq_len hq1 hq3 hq4]; first | done | rfl) | (rw [rq_num hq1 hq3 hq5 hq6]; first | done | rfl) | (rw [rq_high hq1 hq3 hq5 hq7.1]; first | done | rfl))) ag63 sz63) <| ROs.cons (RO.tmp (At.self (by decide)) (Kv rfl (by first | (rw [rq_none hq0]; first | done | rfl) | (rw [rq_low hq1 hq2]; first | done | rfl) | (rw [rq_len hq1 hq3 hq4]; first | done | rfl) | (rw [rq_num hq1 hq3 hq5 hq6]; first | done | rfl) | (rw [rq_high hq1 hq3 hq5 hq7.1]; first | done | rfl))) rfl) <| ROs.nil) (by decide) OutsOK.nil
     ·
      obtain ⟨hc6, hc6'⟩ := pF hc6
      have hq7 := gq_yes hc6
      refine AW.skip ?_
      refine AX.go ?_
      refine sr ?_
      refine st (mvT rfl) rfl ?_
      refine st (OpT.indexAddr (H rfl) (T1 rfl) (I rfl) el81 sz9 (by omega) (w1_get hq5)) rfl ?_
      refine st (OpT.load (H rfl) (T1 rfl) ag9 rfl) rfl ?_
      refine st (OpT.fieldAddrB (H rfl) (Root.self (t := 5) (by decide)) rfl (by decide) fd63_1 sz9 (by decide) sb63_1) rfl ?_
      refine sk (OpT.storeB rfl rfl (T1 rfl) rfl sz9 rfl (T1 rfl)) rfl ?_
      refine AWl.to (kb 5 rfl <| kc 9 rfl <| kb 2 rfl <| Kn) ?_
      refine ng ?_
      refine sr ?_
      refine st (mvT rfl) rfl ?_
      refine st (OpT.conv (H rfl) us2 Tryz.underlying61 (T1 rfl) (nw16 (by omega))) rfl ?_
      refine st (OpT.fieldAddrB (H rfl) (Root.self (t := 5) (by decide)) rfl (by decide) fd63_2 sz61 (by decide) sb63_2) rfl ?_
      refine sk (OpT.storeB rfl rfl (T1 rfl) rfl sz61 rfl (T1 rfl)) rfl ?_
      refine AWl.to (kb 5 rfl <| kb 2 rfl <| Kn) ?_
      refine ng ?_
      refine AW.seq ?_
      refine dh fomo ?_
      refine d1 [5] (fun ve h => OpT.loadB (H rfl) (Root.self (t := 5) (by decide)) ((h _ (List.elem_iff.1 rfl)).trans rfl) ag63 sz63) rfl ?_
      refine d1 [5] (fun ve h => cb1 (ms := [.bor 5]) (c_spec_l07Edit _) (H rfl) (Abx (Root.self (t := 5) (by decide)) ((h _ (List.elem_iff.1 rfl)).trans rfl) <| An) rfl (indC fun _ _ _ _ h => h)) rfl ?_
      refine dm (t := 2) [2, 91] (fun ve h => OpT.storeBA rfl rfl (Opd.whole (Root.self (t := 2) (by decide)) ((h _ (List.elem_iff.1 rfl)).trans rfl)) ((h _ (List.elem_iff.1 rfl)).trans rfl) sz63 (by decide) (D1 h rfl)) rfl ?_
      refine d1 [92] (fun ve h => OpT.move (A := .cel _ _) (.inr rfl) rfl (ok' rfl) (D1 h rfl) rfl) rfl ?_
      refine dn ⟨by kernel_rfl, by kernel_rfl, ?_⟩
      refine AX.go ?_
      refine AW.ret ?_
      exact AX.rt (rs := [.cell 2 63, .tmp 3]) (ts := [none, some 3]) (.inl rfl) rfl (ROs.cons (RO.cellA (by decide) (Kb rfl (by first | (rw [rq_none hq0]; first | done | rfl) | (rw [rq_low hq1 hq2]; first | done | rfl) | (rw [rq_len hq1 hq3 hq4]; first | done | rfl) | (rw [rq_num hq1 hq3 hq5 hq6]; first | done | rfl) | (rw [rq_high hq1 hq3 hq5 hq7.1]; first | done | rfl))) ag63 sz63) <| ROs.cons (RO.tmp (At.self (by decide)) (Kv rfl (by first | (rw [rq_none hq0]; first | done | rfl) | (rw [rq_low hq1 hq2]; first | done | rfl) | (rw [rq_len hq1 hq3 hq4]; first | done | rfl) | (rw [rq_num hq1 hq3 hq5 hq6]; first | done | rfl) | (rw [rq_high hq1 hq3 hq5 hq7.1]; first | done | rfl))) rfl) <| ROs.nil) (by decide) OutsOK.nil

/-- spec.ReadEdits -/
theorem c_spec_ReadEdits_o (x : ByteArray) (hx : x.size ≤ 100000000) : AC Tryz.prog 34 [.cel Kd.str x] [.own 63 kEdit (rsS x).1, .cel (Kd.int .i64) (rsS x).2] [] := by
 refine acI (N := 53) Tryz.func34 (Nat.le_of_ble_eq_true rfl) rfl fun w0 hd s0 ar => ?_
 refine AW.to (kc 0 rfl <| Kn) ?_
 have hsl := splB_len 10 x
 have hsn := cnB_le 10 x
 have hln := ln_len x
 refine sr ?_
 refine st (nilO (E := 63) kEdit rfl (.inl rfl)) rfl ?_
 refine st (asI rfl) rfl ?_
 refine ng ?_
 refine sr ?_
 refine st (mvT rfl) rfl ?_
 refine st (OpT.c1 (ms := [.flat, .flat]) (c_spec_l01Split x 10 10 (by omega) rfl) (H rfl) (Af (T1 rfl) rfl rfl <| Af (I rfl) rfl rfl <| An) rfl rfl) rfl ?_
 refine st (asT rfl) rfl ?_
 refine ng ?_
 refine sr ?_
 refine st (OpT.buildSlice0 (m := 0) (z := .bool false) kEdit (H rfl) el49 sz63 (by decide)) rfl ?_
 refine sg (OpT.take (.inl rfl) rfl (ok' rfl) (Root.self (by decide)) rfl rfl (by decide)) (ko 5 rfl <| kc4 4 11 10 3 rfl <| ko 2 rfl <| kc 0 rfl <| Kn) rfl ?_
 refine ng ?_
 refine sr ?_
 refine st (mvT rfl) rfl ?_
 refine st (mvT rfl) rfl ?_
 refine st (OpT.len (H rfl) (T1 rfl) el81) rfl ?_
 refine st (OpT.sub (H rfl) (T1 rfl) (I rfl) (nw (by omega))) rfl ?_
 refine st (OpT.indexAddr (H rfl) (T1 rfl) (T1 rfl) el81 sz9 (by omega) (lt_get x)) rfl ?_
 refine st (OpT.load (H rfl) (T1 rfl) ag9 rfl) rfl ?_
 refine st (OpT.seqv (H rfl) (T1 rfl) (Opd.str (by decide))) rfl ?_
 refine st (mvT rfl) rfl ?_
 apply AWl.and (d := 25) (t := 20) rfl
 ·
  intro hb1 Q1 k1
  have hb1' := lT hb1
  refine rs hb1 (mvT rfl) rfl ?_
  refine rs hb1 (OpT.len (H rfl) (T1 rfl) el81) rfl ?_
  refine rs hb1 (OpT.sub (H rfl) (T1 rfl) (I rfl) (nw (by omega))) rfl ?_
  refine rs hb1 (OpT.leq (H rfl) (T1 rfl) (I rfl)) rfl ?_
  refine st (OpT.pickT (A := .cel _ _) (H rfl) (T1 rfl) hb1 (T1 rfl) rfl) rfl ?_
  exact AWl.to (junk 4 rfl) k1
 ·
  intro hb1 Q1 k1
  refine ps hb1 rfl ?_
  refine ps hb1 rfl ?_
  refine ps hb1 rfl ?_
  refine ps hb1 rfl ?_
  refine st (OpT.pickF (A := .cel _ _) (H rfl) (T1 rfl) hb1 Opd.bool rfl) rfl ?_
  exact k1
 refine st (asT rfl) rfl ?_
 refine AWl.to (kc 6 rfl <| ko 5 rfl <| kc2 4 3 rfl <| ko 2 rfl <| Kn) ?_
 refine ng ?_
 refine AW.seq ?_
 refine sr ?_
 refine st (asI rfl) rfl ?_
 refine ng ?_
 refine AW.block ?_
 refine AW.loop (fun z : Nat => z ≤ (lnQ x).length) (fun z : Nat => keep [(4, .cel (Kd.slice Kd.str) (splB 10 x)), (5, .own 63 kEdit (((lnQ x).take z).map cEQ)), (6, .cel Kd.bool (ok0 x && ((lnQ x).take z).all gEQ)), (7, .cel (Kd.int .i64) (z : Int))]) (fun z : Nat => (lnQ x).length - z) (0) (Nat.zero_le _) (Kc 4 _ (Kv rfl rfl) <| Kc 5 _ (Ko rfl (by simp)) <| Kc 6 _ (Kv rfl (by simp [ok0]; first | done | rfl)) <| Kc 7 _ (Kv rfl rfl) <| Kn) ?_
 intro z hI
 refine AW.seq ?_
 refine sr ?_
 refine st (mvT rfl) rfl ?_
 refine st (OpT.add (H rfl) (T1 rfl) (I rfl) (nw (by omega))) rfl ?_
 refine st (mvT rfl) rfl ?_
 refine st (OpT.len (H rfl) (T1 rfl) el81) rfl ?_
 refine st (OpT.lss (H rfl) (T1 rfl) (T1 rfl)) rfl ?_
 refine st (mvT rfl) rfl ?_
 apply AWl.and (d := 33) (t := 31) rfl
 ·
  intro hb2 Q1 k1
  have hb2' := lT hb2
  refine rs hb2 (mvT rfl) rfl ?_
  refine st (OpT.pickT (A := .cel _ _) (H rfl) (T1 rfl) hb2 (T1 rfl) rfl) rfl ?_
  exact AWl.to (junk 1 rfl) k1
 ·
  intro hb2 Q1 k1
  refine ps hb2 rfl ?_
  refine st (OpT.pickF (A := .cel _ _) (H rfl) (T1 rfl) hb2 Opd.bool rfl) rfl ?_
  exact k1
 refine ng ?_
 refine cd rfl (fun hc1 => ?_) fun hc1 => ?_
 ·
  obtain ⟨hc1, hc1'⟩ := pT hc1
  have h33 := hc1
  rw [Bool.and_eq_true, decide_eq_true_eq] at h33
  obtain ⟨l, hl⟩ := getI (x := lnQ x) (z := z) (by omega)
  have hok := h33.2
  refine AW.skip ?_
  refine AX.go ?_
  refine AW.seq ?_
  refine AW.block ?_
  refine sr ?_
  refine st (mvT rfl) rfl ?_
  refine st (mvT rfl) rfl ?_
  refine st (OpT.indexAddr (H rfl) (T1 rfl) (T1 rfl) el81 sz9 (by omega) (ln_get hl)) rfl ?_
  refine st (OpT.load (H rfl) (T1 rfl) ag9 rfl) rfl ?_
  refine s2 (OpT.c2 (ms := [.flat]) (c_spec_l07ReadEdit l (by have h9 := splB_size (List.mem_of_getElem? (ln_get hl)); omega)) (H rfl) (Af (T1 rfl) rfl rfl <| An) rfl rfl rfl) rfl ?_
  refine st (OpT.alias (H rfl) (by decide) (by decide)) rfl ?_
  refine st (OpT.extractV (m := 10041) (H rfl) rfl rfl rfl rfl rfl rfl rfl) rfl ?_
  refine st (OpT.extractV (m := 20041) (H rfl) rfl rfl rfl rfl rfl rfl rfl) rfl ?_
  refine st (OpT.alloc (H rfl) zr63 zk63) rfl ?_
  refine sk (OpT.storeBA rfl rfl (Opd.whole (Root.self (t := 8) (by decide)) rfl) rfl sz63 (by decide) (T1 rfl)) rfl ?_
  refine st (asT rfl) rfl ?_
  refine ng ?_
  refine sr ?_
  refine st (mvT rfl) rfl ?_
  refine st (asT rfl) rfl ?_
  refine ng ?_
  refine AW.region ?_
  refine st (OpT.alias (H rfl) (by decide) (by decide)) rfl ?_
  refine st (OpT.loadB (H rfl) (Root.self (t := 8) (by decide)) rfl ag63 sz63) rfl ?_
  refine st (OpT.buildSlice (H rfl) el49 zr63 sz63 rfl (by decide) zk63 (by decide) (Built.agg (T1 rfl) rfl (by decide) (sub_arr (by decide) ((0, .empty, 0, (0, 0)) : Int × ByteArray × Int × (BitVec 64 × BitVec 64))) (Built.nil _))) rfl ?_
  refine sg (OpT.append (H rfl) (Root.ali rfl (by decide) (by decide)) rfl (Src.own (Root.self (t := 47) (by decide)) rfl) (by decide) el49 zr63 rfl sz63 by63 (by decide) (by simp only [List.length_map, List.length_take, List.length_set, List.length_replicate]; omega)) (ko 48 rfl <| ko 47 rfl <| ka 46 rfl <| kc3 6 44 9 rfl <| kb 8 rfl <| kc 43 rfl <| ka 42 rfl <| Kc 36 (.ali _) rfl <| ka 10041 rfl <| kc4 20041 40 39 38 rfl <| kc4 37 33 31 30 rfl <| kc4 29 28 27 26 rfl <| kc2 4 7 rfl <| Kn) rfl ?_
  refine sg (OpT.take (.inl rfl) rfl (ok' rfl) (Root.self (by decide)) rfl rfl (by decide)) (ko 5 rfl <| ko 47 rfl <| ka 46 rfl <| kc3 6 44 9 rfl <| kb 8 rfl <| kc 43 rfl <| ka 42 rfl <| Kc 36 (.ali _) rfl <| ka 10041 rfl <| kc4 20041 40 39 38 rfl <| kc4 37 33 31 30 rfl <| kc4 29 28 27 26 rfl <| kc2 4 7 rfl <| Kn) rfl ?_
  refine nn ?_
  refine AX.normal_block ?_
  refine AX.go ?_
  refine AW.region ?_
  refine st (mvT rfl) rfl ?_
  refine st (OpT.add (H rfl) (T1 rfl) (I rfl) (nw (by omega))) rfl ?_
  refine st (asT rfl) rfl ?_
  refine nn ?_
  exact AX.again (z + 1) (by omega) (by omega) (Kc 4 _ (Kv rfl rfl) <| Kc 5 _ (Ko rfl (by rw [take_more hl, List.map_append]; rfl)) <| Kc 6 _ (Kv rfl (by rw [Bool.and_eq_true] at hok; rw [take_more hl, List.all_append, hok.1, hok.2]; simp [gEQ])) <| Kc 7 _ (Kv rfl (by omega)) <| Kn)
 ·
  obtain ⟨hc1, hc1'⟩ := pF hc1
  refine AW.exit ?_
  refine xT <| xT <| AX.exit_hit ?_
  refine AX.go ?_
  refine AW.seq ?_
  refine sr ?_
  refine st (mvT rfl) rfl ?_
  refine st (OpT.not (H rfl) (T1 rfl)) rfl ?_
  refine AWl.to (kc 50 rfl <| ko 5 rfl <| Kn) ?_
  refine ng ?_
  refine cd rfl (fun hc2 => ?_) fun hc2 => ?_
  ·
   obtain ⟨hc2, hc2'⟩ := pT hc2
   have hz0 : (ok0 x && ((lnQ x).take z).all gEQ) = false := by simpa using hc2
   refine sr ?_
   refine st (OpT.buildSlice0 (m := 0) (z := .bool false) kEdit (H rfl) el49 sz63 (by decide)) rfl ?_
   refine sg (OpT.take (.inl rfl) rfl (ok' rfl) (Root.self (by decide)) rfl rfl (by decide)) (ko 2 rfl <| kc 50 rfl <| ko 5 rfl <| Kn) rfl ?_
   refine st (asI rfl) rfl ?_
   refine ng ?_
   refine AW.ret ?_
   refine rT ?_
   exact AX.rt (rs := [.tmp 2, .tmp 3]) (ts := [some 2, some 3]) (.inl rfl) rfl (ROs.cons (RO.tmp (At.self (by decide)) (Ko rfl (by first | (rw [rs_okz hz0]; done) | (rw [rs_allz hz1 (by first | omega | (simp_all; done) | (simp_all; omega))]; first | done | rfl))) rfl) <| ROs.cons (RO.tmp (At.self (by decide)) (Kv rfl (by first | (rw [rs_okz hz0]; done) | (rw [rs_allz hz1 (by first | omega | (simp_all; done) | (simp_all; omega))]; first | done | rfl))) rfl) <| ROs.nil) (by decide) OutsOK.nil
  ·
   obtain ⟨hc2, hc2'⟩ := pF hc2
   have hz1 : (ok0 x && ((lnQ x).take z).all gEQ) = true := by simpa using hc2
   refine AW.skip ?_
   refine AX.go ?_
   refine sr ?_
   refine st (OpT.alias (H rfl) (by decide) (by decide)) rfl ?_
   refine sg (OpT.take (.inl rfl) rfl (ok' rfl) (Root.ali rfl (by decide) (by decide)) rfl rfl (by decide)) (ko 2 rfl <| kc 50 rfl <| Kn) rfl ?_
   refine st (asI rfl) rfl ?_
   refine ng ?_
   refine AW.ret ?_
   exact AX.rt (rs := [.tmp 2, .tmp 3]) (ts := [some 2, some 3]) (.inl rfl) rfl (ROs.cons (RO.tmp (At.self (by decide)) (Ko rfl (by first | (rw [rs_okz hz0]; done) | (rw [rs_allz hz1 (by first | omega | (simp_all; done) | (simp_all; omega))]; first | done | rfl))) rfl) <| ROs.cons (RO.tmp (At.self (by decide)) (Kv rfl (by first | (rw [rs_okz hz0]; done) | (rw [rs_allz hz1 (by first | omega | (simp_all; done) | (simp_all; omega))]; first | done | rfl))) rfl) <| ROs.nil) (by decide) OutsOK.nil
theorem c_spec_ReadEdits (x : ByteArray) (hx : x.size ≤ 100000000) : AC Tryz.prog 34 [.cel Kd.str x] [.cel (Kd.slice kEdit) (rsS x).1, .cel (Kd.int .i64) (rsS x).2] [] := (c_spec_ReadEdits_o x hx).frz rfl

set_option maxHeartbeats 4000000 in
/-- laws.FnExactReadEdits -/
theorem c_laws_FnExactReadEdits (x : ByteArray) : AC Tryz.prog 5 [.cel Kd.str x] [.cel Kd.bool true] [] := by
 refine acI (N := 66) Tryz.func5 (Nat.le_of_ble_eq_true rfl) rfl fun w0 hd s0 ar => ?_
 refine AW.to (kc 0 rfl <| Kn) ?_
 have htl := rs_len x
 refine sr ?_
 refine st (asB rfl) rfl ?_
 refine ng ?_
 refine AW.seq ?_
 refine sr ?_
 refine st (mvT rfl) rfl ?_
 refine st (OpT.lenS (H rfl) (T1 rfl) Tryz.underlying9) rfl ?_
 refine st (OpT.gtr (H rfl) (T1 rfl) (I rfl)) rfl ?_
 refine ng ?_
 refine cd rfl (fun hc1 => ?_) fun hc1 => ?_
 ·
  replace hc1 := oT hc1
  refine sr ?_
  refine st (asB rfl) rfl ?_
  refine ng ?_
  refine AW.ret ?_
  refine rT ?_
  exact rt1 rfl (.inl rfl) rfl
 ·
  replace hc1 := oF hc1
  refine AW.skip ?_
  refine AX.go ?_
  refine sr ?_
  refine st (mvT rfl) rfl ?_
  refine s2 (OpT.c2 (ms := [.flat]) (c_spec_ReadEdits x (by omega)) (H rfl) (Af (T1 rfl) rfl rfl <| An) rfl rfl rfl) rfl ?_
  refine st (OpT.alias (H rfl) (by decide) (by decide)) rfl ?_
  refine st (OpT.extractV (m := 10016) (H rfl) rfl rfl rfl rfl rfl rfl rfl) rfl ?_
  refine st (OpT.extractV (m := 20016) (H rfl) rfl rfl rfl rfl rfl rfl rfl) rfl ?_
  refine st (asT rfl) rfl ?_
  refine st (asT rfl) rfl ?_
  refine ng ?_
  refine sr ?_
  refine st (mvT rfl) rfl ?_
  refine s2 (OpT.c2 (ms := [.flat]) (c_impl_ReadEdits_o x (by omega) (fun l hl w hw => c_rdn_all w (by have h8 := lin_size hl; have h7 := wrd_size hw; have h6 := cutP_le 32 l; omega))) (H rfl) (Af (T1 rfl) rfl rfl <| An) rfl rfl rfl) rfl ?_
  refine st (OpT.alias (H rfl) (by decide) (by decide)) rfl ?_
  refine sg (OpT.extractVO (m := 10021) (H rfl) rfl rfl rfl rfl rfl rfl) (ko 22 rfl <| Kc 19 (.ali _) rfl <| kc4 20021 20 4 3 rfl <| kc2 18 17 rfl <| Kc 14 (.ali _) rfl <| kc4 10016 20016 15 13 rfl <| kc4 12 11 2 0 rfl <| Kn) rfl ?_
  refine st (OpT.extractV (m := 20021) (H rfl) rfl rfl rfl rfl rfl rfl rfl) rfl ?_
  refine sg (OpT.take (.inl rfl) rfl (ok' rfl) (Root.self (by decide)) rfl rfl (by decide)) (ko 5 rfl <| kc 23 rfl <| Kc 19 (.ali _) rfl <| kc4 20021 20 4 3 rfl <| kc2 18 17 rfl <| Kc 14 (.ali _) rfl <| kc4 10016 20016 15 13 rfl <| kc4 12 11 2 0 rfl <| Kn) rfl ?_
  refine st (asT rfl) rfl ?_
  refine AWl.to (kc 6 rfl <| ko 5 rfl <| kc4 4 3 2 0 rfl <| Kn) ?_
  refine ng ?_
  refine AW.seq ?_
  refine sr ?_
  refine st (OpT.alias (H rfl) (by decide) (by decide)) rfl ?_
  refine st (mvT rfl) rfl ?_
  refine st (cb1 (ms := [.bor 5, .flat]) (c_laws_eqEditS _ _) (H rfl) (Ab (Root.ali rfl (by decide) (by decide)) rfl <| Af (T1 rfl) rfl rfl <| An) rfl (indC fun _ _ _ _ h => h)) rfl ?_
  refine st (OpT.not (H rfl) (T1 rfl)) rfl ?_
  refine st (mvT rfl) rfl ?_
  apply AWl.or (d := 32) (t := 28) rfl
  ·
   intro hb1 Q1 k1
   refine rs hb1 (mvT rfl) rfl ?_
   refine rs hb1 (mvT rfl) rfl ?_
   refine rs hb1 (OpT.neq (H rfl) (T1 rfl) (T1 rfl)) rfl ?_
   refine st (OpT.pickF (A := .cel _ _) (H rfl) (T1 rfl) hb1 (T1 rfl) rfl) rfl ?_
   exact AWl.to (junk 3 rfl) k1
  ·
   intro hb1 Q1 k1
   refine ps hb1 rfl ?_
   refine ps hb1 rfl ?_
   refine ps hb1 rfl ?_
   refine st (OpT.pickT (A := .cel _ _) (H rfl) (T1 rfl) hb1 Opd.bool rfl) rfl ?_
   exact k1
  refine ng ?_
  refine cd rfl (fun hc2 => ?_) fun hc2 => ?_
  ·
   replace hc2 := oT hc2
   exact (show False from (by first | omega | (simp [eqv_self] at hc2 <;> omega))).elim
  ·
   replace hc2 := oF hc2
   refine AW.skip ?_
   refine AX.go ?_
   refine sr ?_
   refine st (asI rfl) rfl ?_
   refine ng ?_
   refine sr ?_
   refine st (OpT.alias (H rfl) (by decide) (by decide)) rfl ?_
   refine st (mvT rfl) rfl ?_
   refine sg (OpT.cr (ms := [.root 5, .flat]) (c_laws_markEditS _ _ (by omega)) (H rfl) (Ar (Root.ali rfl (by decide) (by decide)) rfl rfl rfl <| Af (T1 rfl) rfl rfl <| An) rfl (.inl rfl) rfl) (kc2 35 34 rfl <| Kc 33 (.ali _) rfl <| kc4 7 32 28 27 rfl <| kc2 26 25 rfl <| Kc 24 (.ali _) rfl <| kc 6 rfl <| ko 5 rfl <| kc4 4 3 2 0 rfl <| Kn) rfl ?_
   refine st (asT rfl) rfl ?_
   refine AWl.to (kc 7 rfl <| ko 5 rfl <| kc4 4 3 2 0 rfl <| Kn) ?_
   refine ng ?_
   refine sr ?_
   refine st (asI rfl) rfl ?_
   refine ng ?_
   refine sr ?_
   refine st (OpT.alias (H rfl) (by decide) (by decide)) rfl ?_
   refine st (mvT rfl) rfl ?_
   refine st (cb1 (ms := [.bor 5, .flat]) (c_laws_heldEditS (rsS x).1.length _ (by omega)) (H rfl) (Ab (Root.ali rfl (by decide) (by decide)) rfl <| Af (T1 rfl) rfl rfl <| An) rfl (indC fun _ _ _ _ h => h)) rfl ?_
   refine st (asT rfl) rfl ?_
   refine ng ?_
   refine AW.seq ?_
   refine sr ?_
   refine st (mvT rfl) rfl ?_
   refine st (OpT.lss (H rfl) (T1 rfl) (I rfl)) rfl ?_
   refine ng ?_
   refine cd rfl (fun hc3 => ?_) fun hc3 => ?_
   ·
    replace hc3 := oT hc3
    exact (show False from (by first | omega | (simp [eqv_self] at hc3 <;> omega))).elim
   ·
    replace hc3 := oF hc3
    refine AW.skip ?_
    refine AX.go ?_
    refine AW.seq ?_
    refine sr ?_
    refine st (mvT rfl) rfl ?_
    refine st (mvT rfl) rfl ?_
    refine st (OpT.neq (H rfl) (T1 rfl) (T1 rfl)) rfl ?_
    refine ng ?_
    refine cd rfl (fun hc4 => ?_) fun hc4 => ?_
    ·
     replace hc4 := oT hc4
     exact (show False from (by first | omega | (simp [eqv_self] at hc4 <;> omega))).elim
    ·
     replace hc4 := oF hc4
     refine AW.skip ?_
     refine AX.go ?_
     refine sr ?_
     refine st (mvT rfl) rfl ?_
     refine s2 (OpT.c2 (ms := [.flat]) (c_impl_ReadEdits_o x (by omega) (fun l hl w hw => c_rdn_all w (by have h8 := lin_size hl; have h7 := wrd_size hw; have h6 := cutP_le 32 l; omega))) (H rfl) (Af (T1 rfl) rfl rfl <| An) rfl rfl rfl) rfl ?_
     refine st (OpT.alias (H rfl) (by decide) (by decide)) rfl ?_
     refine sg (OpT.extractVO (m := 10046) (H rfl) rfl rfl rfl rfl rfl rfl) (ko 47 rfl <| Kc 44 (.ali _) rfl <| kc4 20046 45 43 42 rfl <| kc4 41 40 39 8 rfl <| kc2 38 37 rfl <| Kc 36 (.ali _) rfl <| kc 7 rfl <| ko 5 rfl <| kc4 4 3 2 0 rfl <| Kn) rfl ?_
     refine st (OpT.extractV (m := 20046) (H rfl) rfl rfl rfl rfl rfl rfl rfl) rfl ?_
     refine sg (OpT.take (.inl rfl) rfl (ok' rfl) (Root.self (by decide)) rfl rfl (by decide)) (ko 9 rfl <| kc 48 rfl <| Kc 44 (.ali _) rfl <| kc4 20046 45 43 42 rfl <| kc4 41 40 39 8 rfl <| kc2 38 37 rfl <| Kc 36 (.ali _) rfl <| kc 7 rfl <| ko 5 rfl <| kc4 4 3 2 0 rfl <| Kn) rfl ?_
     refine st (asT rfl) rfl ?_
     refine AWl.to (kc 10 rfl <| ko 9 rfl <| kc2 8 7 rfl <| ko 5 rfl <| kc3 4 3 2 rfl <| Kn) ?_
     refine ng ?_
     refine AW.seq ?_
     refine sr ?_
     refine st (OpT.alias (H rfl) (by decide) (by decide)) rfl ?_
     refine st (mvT rfl) rfl ?_
     refine st (cb1 (ms := [.bor 9, .flat]) (c_laws_eqEditS _ _) (H rfl) (Ab (Root.ali rfl (by decide) (by decide)) rfl <| Af (T1 rfl) rfl rfl <| An) rfl (indC fun _ _ _ _ h => h)) rfl ?_
     refine st (OpT.not (H rfl) (T1 rfl)) rfl ?_
     refine st (mvT rfl) rfl ?_
     apply AWl.or (d := 57) (t := 53) rfl
     ·
      intro hb2 Q1 k1
      refine rs hb2 (mvT rfl) rfl ?_
      refine rs hb2 (mvT rfl) rfl ?_
      refine rs hb2 (OpT.neq (H rfl) (T1 rfl) (T1 rfl)) rfl ?_
      refine st (OpT.pickF (A := .cel _ _) (H rfl) (T1 rfl) hb2 (T1 rfl) rfl) rfl ?_
      exact AWl.to (junk 3 rfl) k1
     ·
      intro hb2 Q1 k1
      refine ps hb2 rfl ?_
      refine ps hb2 rfl ?_
      refine ps hb2 rfl ?_
      refine st (OpT.pickT (A := .cel _ _) (H rfl) (T1 rfl) hb2 Opd.bool rfl) rfl ?_
      exact k1
     refine ng ?_
     refine cd rfl (fun hc5 => ?_) fun hc5 => ?_
     ·
      replace hc5 := oT hc5
      exact (show False from (by first | omega | (simp [eqv_self] at hc5 <;> omega))).elim
     ·
      replace hc5 := oF hc5
      refine AW.skip ?_
      refine AX.go ?_
      refine sr ?_
      refine st (asI rfl) rfl ?_
      refine AWl.to (kc2 8 7 rfl <| ko 5 rfl <| kc 2 rfl <| Kn) ?_
      refine ng ?_
      refine sr ?_
      refine st (OpT.alias (H rfl) (by decide) (by decide)) rfl ?_
      refine st (mvT rfl) rfl ?_
      refine st (cb1 (ms := [.bor 5, .flat]) (c_laws_heldEditS (rsS x).1.length _ (by omega)) (H rfl) (Ab (Root.ali rfl (by decide) (by decide)) rfl <| Af (T1 rfl) rfl rfl <| An) rfl (indC fun _ _ _ _ h => h)) rfl ?_
      refine st (asT rfl) rfl ?_
      refine ng ?_
      refine AW.seq ?_
      refine sr ?_
      refine st (mvT rfl) rfl ?_
      refine st (OpT.lss (H rfl) (T1 rfl) (I rfl)) rfl ?_
      refine ng ?_
      refine cd rfl (fun hc6 => ?_) fun hc6 => ?_
      ·
       replace hc6 := oT hc6
       exact (show False from (by first | omega | (simp [eqv_self] at hc6 <;> omega))).elim
      ·
       replace hc6 := oF hc6
       refine AW.skip ?_
       refine AX.go ?_
       refine AW.seq ?_
       refine sr ?_
       refine st (mvT rfl) rfl ?_
       refine st (mvT rfl) rfl ?_
       refine st (OpT.neq (H rfl) (T1 rfl) (T1 rfl)) rfl ?_
       refine AWl.to (kc2 65 2 rfl <| Kn) ?_
       refine ng ?_
       refine cd rfl (fun hc7 => ?_) fun hc7 => ?_
       ·
        replace hc7 := oT hc7
        exact (show False from (by first | omega | (simp [eqv_self] at hc7 <;> omega))).elim
       ·
        replace hc7 := oF hc7
        refine AW.skip ?_
        refine AX.go ?_
        refine sr ?_
        refine st (asB rfl) rfl ?_
        refine ng ?_
        refine AW.ret ?_
        exact rt1 rfl (.inl rfl) rfl
end Go.Proofs.YtmmjcpiikdcldaaGreatDoor.VL
