/- Proved here: what some functions of the program take and give: walks with the words of VA..VQ. Printed by program. -/
import Derived.Test.YtohcpnobmknglaaDoorWT
import Derived.Test.YtohcpnobmknglaaDoorPZN
import Derived.Test.YtohcpnobmknglaaDoorBpa
import Derived.Test.YtohcpnobmknglaaDoorWLH
import Derived.Test.YtohcpnobmknglaaDoorWDR
import Derived.Test.YtohcpnobmknglaaDoorWDK
import Derived.Test.YtohcpnobmknglaaDoorWB
import Derived.Test.YtohcpnobmknglaaDoorWN1
import Derived.Test.YtohcpnobmknglaaDoorWDU
set_option linter.unusedVariables false
set_option linter.unusedSimpArgs false
set_option maxRecDepth 4000
namespace Go.Proofs.YtohcpnobmknglaaDoor.VL
open Go
set_option maxHeartbeats 4000000 in
/-- laws.FnNear -/
theorem c_laws_FnNear (x y : List Int) : AC Tryd.prog 3 [.cel (Kd.slice (Kd.int .u8)) x, .cel (Kd.slice (Kd.int .u8)) y] [.cel Kd.bool true] [] := by
 refine acI (N := 256) Tryd.func3 (Nat.le_of_ble_eq_true rfl) rfl fun w0 hd s0 ar => ?_
 refine AW.to (kc2 0 1 rfl <| Kn) ?_
 refine AW.fact (fun a w hr => ok_slice (R_ok (t := 0) rfl hr)) (fun hb0 => ?_)
 refine AW.fact (fun a w hr => ok_slice (R_ok (t := 1) rfl hr)) (fun hb1 => ?_)
 have hu0 : ∀ b ∈ x, 0 ≤ b ∧ b ≤ 255 := fun b hb => ok_u8 (hb0.1 b hb)
 have hu1 : ∀ b ∈ y, 0 ≤ b ∧ b ≤ 255 := fun b hb => ok_u8 (hb1.1 b hb)
 refine sr ?_
 refine st (asB rfl) rfl ?_
 refine ng ?_
 refine AW.seq ?_
 refine sr ?_
 refine st (mvT rfl) rfl ?_
 refine st (mvT rfl) rfl ?_
 refine st (OpT.c1 (ms := [.flat, .flat]) (c_laws_a2Long _ _) (H rfl) (Af (T1 rfl) rfl rfl <| Af (T1 rfl) rfl rfl <| An) rfl rfl) rfl ?_
 refine ng ?_
 refine cd rfl (fun hc1 => ?_) fun hc1 => ?_
 ·
  obtain ⟨hc1, hc1'⟩ := pT hc1
  refine sr ?_
  refine st (asB rfl) rfl ?_
  refine ng ?_
  refine AW.ret ?_
  refine rT ?_
  exact rt1 rfl (.inl rfl) (by first | rfl | (have hnn := near_nil hD.1 hmb (by omega); simp [hnn.1, hnn.2]; done) | (have hnn := near_some hD.1 hmb (by omega); simp [hnn]))
 ·
  obtain ⟨hc1, hc1'⟩ := pF hc1
  have hma := drM_ok x
  have hmb := drM_ok y
  refine AW.skip ?_
  refine AX.go ?_
  refine sr ?_
  refine st (mvT rfl) rfl ?_
  refine st (OpT.c1 (ms := [.flat]) (c_spec_A2Scheme _ ⟨hu0, by omega⟩) (H rfl) (Af (T1 rfl) rfl rfl <| An) rfl rfl) rfl ?_
  refine AWl.vw (vex 37 9097 rfl rfl (by decide) (fun _ => rfl)) fun xh => ?_
  obtain ⟨s, hs⟩ := xh
  refine AWl.to (kc4 37 36 35 34 rfl <| kc4 33 4 0 1 rfl <| Kn) ?_
  refine st (asT rfl) rfl ?_
  refine ng ?_
  refine sr ?_
  refine st (mvT rfl) rfl ?_
  refine st (mvT rfl) rfl ?_
  refine st (OpT.c1 (ms := [.flat, .flat]) (c_spec_A2Deck _ _ ⟨hu1, by omega⟩ hs.1) (H rfl) (Af (T1 rfl) rfl rfl <| Af (T1 rfl) rfl rfl <| An) rfl rfl) rfl ?_
  refine AWl.vw (vex 40 9097 rfl rfl (by decide) (fun _ => rfl)) fun xh => ?_
  obtain ⟨d, hD⟩ := xh
  refine AWl.to (kc4 40 39 38 5 rfl <| kc4 37 36 35 34 rfl <| kc4 33 4 0 1 rfl <| Kn) ?_
  refine st (asT rfl) rfl ?_
  refine ng ?_
  refine sr ?_
  refine st (mvT rfl) rfl ?_
  refine st (OpT.c1 (ms := [.flat]) (c_spec_A2Mask _ ⟨hu1, by omega⟩) (H rfl) (Af (T1 rfl) rfl rfl <| An) rfl rfl) rfl ?_
  refine st (OpT.alloc (H rfl) zr30 zk30) rfl ?_
  refine sk (OpT.storeBA rfl rfl (Opd.whole (Root.self (t := 7) (by decide)) rfl) rfl sz30 (by decide) (T1 rfl)) rfl ?_
  refine AWl.to (kb 7 rfl <| kc3 6 4 0 rfl <| Kn) ?_
  refine ng ?_
  refine sr ?_
  refine st (mvT rfl) rfl ?_
  refine st (OpT.c1 (ms := [.flat]) (c_spec_A2Mask _ ⟨hu0, by omega⟩) (H rfl) (Af (T1 rfl) rfl rfl <| An) rfl rfl) rfl ?_
  refine st (OpT.alloc (H rfl) zr30 zk30) rfl ?_
  refine sk (OpT.storeBA rfl rfl (Opd.whole (Root.self (t := 8) (by decide)) rfl) rfl sz30 (by decide) (T1 rfl)) rfl ?_
  refine ng ?_
  refine sr ?_
  refine st (OpT.loadB (H rfl) (Root.self (t := 7) (by decide)) rfl ag30 sz30) rfl ?_
  refine st (OpT.loadB (H rfl) (Root.self (t := 8) (by decide)) rfl ag30 sz30) rfl ?_
  refine s2 (OpT.c2 (ms := [.flat, .flat]) (c_impl_DistanceOf _ _) (H rfl) (Af (T1 rfl) rfl rfl <| Af (T1 rfl) rfl rfl <| An) rfl rfl rfl) rfl ?_
  refine st (OpT.alias (H rfl) (by decide) (by decide)) rfl ?_
  refine st (OpT.extractV (m := 10048) (H rfl) rfl rfl rfl rfl rfl rfl rfl) rfl ?_
  refine st (OpT.extractV (m := 20048) (H rfl) rfl rfl rfl rfl rfl rfl rfl) rfl ?_
  refine st (asT rfl) rfl ?_
  refine st (asT rfl) rfl ?_
  refine AWl.to (kc2 10 9 rfl <| kb 8 rfl <| kb 7 rfl <| kc2 6 4 rfl <| Kn) ?_
  refine ng ?_
  refine sr ?_
  refine st (OpT.loadB (H rfl) (Root.self (t := 8) (by decide)) rfl ag30 sz30) rfl ?_
  refine st (OpT.loadB (H rfl) (Root.self (t := 7) (by decide)) rfl ag30 sz30) rfl ?_
  refine s2 (OpT.c2 (ms := [.flat, .flat]) (c_impl_DistanceOf _ _) (H rfl) (Af (T1 rfl) rfl rfl <| Af (T1 rfl) rfl rfl <| An) rfl rfl rfl) rfl ?_
  refine st (OpT.alias (H rfl) (by decide) (by decide)) rfl ?_
  refine st (OpT.extractV (m := 10054) (H rfl) rfl rfl rfl rfl rfl rfl rfl) rfl ?_
  refine st (OpT.extractV (m := 20054) (H rfl) rfl rfl rfl rfl rfl rfl rfl) rfl ?_
  refine st (asT rfl) rfl ?_
  refine st (asT rfl) rfl ?_
  refine ng ?_
  refine sr ?_
  refine st (mvT rfl) rfl ?_
  refine st (OpT.loadB (H rfl) (Root.self (t := 7) (by decide)) rfl ag30 sz30) rfl ?_
  refine s3 (cN (ms := [.flat, .flat]) (c_impl_NearestCards _ _) (H rfl) (Af (T1 rfl) rfl rfl <| Af (T1 rfl) rfl rfl <| An) rfl (.inl rfl)) rfl ?_
  refine st (OpT.alias (H rfl) (by decide) (by decide)) rfl ?_
  refine st (OpT.extractV (m := 10060) (H rfl) rfl rfl rfl rfl rfl rfl rfl) rfl ?_
  refine st (OpT.extractV (m := 20060) (H rfl) rfl rfl rfl rfl rfl rfl rfl) rfl ?_
  refine st (OpT.extractV (m := 30060) (H rfl) rfl rfl rfl rfl rfl rfl rfl) rfl ?_
  refine st (asT rfl) rfl ?_
  refine st (asT rfl) rfl ?_
  refine st (asT rfl) rfl ?_
  refine AWl.to (kc4 15 14 13 12 rfl <| kc3 11 10 9 rfl <| kb 8 rfl <| kb 7 rfl <| kc2 6 4 rfl <| Kn) ?_
  refine ng ?_
  refine sr ?_
  refine st (mvT rfl) rfl ?_
  refine st (OpT.loadB (H rfl) (Root.self (t := 7) (by decide)) rfl ag30 sz30) rfl ?_
  refine s3 (cN (ms := [.flat, .flat]) (c_spec_NearestCards _ _) (H rfl) (Af (T1 rfl) rfl rfl <| Af (T1 rfl) rfl rfl <| An) rfl (.inl rfl)) rfl ?_
  refine st (OpT.alias (H rfl) (by decide) (by decide)) rfl ?_
  refine st (OpT.extractV (m := 10067) (H rfl) rfl rfl rfl rfl rfl rfl rfl) rfl ?_
  refine st (OpT.extractV (m := 20067) (H rfl) rfl rfl rfl rfl rfl rfl rfl) rfl ?_
  refine st (OpT.extractV (m := 30067) (H rfl) rfl rfl rfl rfl rfl rfl rfl) rfl ?_
  refine st (asT rfl) rfl ?_
  refine st (asT rfl) rfl ?_
  refine st (asT rfl) rfl ?_
  refine ng ?_
  refine AW.seq ?_
  refine sr ?_
  refine st (mvT rfl) rfl ?_
  refine st (OpT.neq (H rfl) (T1 rfl) (I rfl)) rfl ?_
  refine st (mvT rfl) rfl ?_
  apply AWl.or (d := 76) (t := 73) rfl
  ·
   intro hb1 Q1 k1
   have hb1' := lF hb1
   refine rs hb1 (mvT rfl) rfl ?_
   refine rs hb1 (OpT.neq (H rfl) (T1 rfl) (I rfl)) rfl ?_
   refine st (OpT.pickF (A := .cel _ _) (H rfl) (T1 rfl) hb1 (T1 rfl) rfl) rfl ?_
   exact AWl.to (junk 2 rfl) k1
  ·
   intro hb1 Q1 k1
   refine ps hb1 rfl ?_
   refine ps hb1 rfl ?_
   refine st (OpT.pickT (A := .cel _ _) (H rfl) (T1 rfl) hb1 Opd.bool rfl) rfl ?_
   exact k1
  refine st (mvT rfl) rfl ?_
  apply AWl.or (d := 81) (t := 77) rfl
  ·
   intro hb2 Q1 k1
   have hb2' := lF hb2
   refine rs hb2 (mvT rfl) rfl ?_
   refine rs hb2 (mvT rfl) rfl ?_
   refine rs hb2 (OpT.neq (H rfl) (T1 rfl) (T1 rfl)) rfl ?_
   refine st (OpT.pickF (A := .cel _ _) (H rfl) (T1 rfl) hb2 (T1 rfl) rfl) rfl ?_
   exact AWl.to (junk 3 rfl) k1
  ·
   intro hb2 Q1 k1
   refine ps hb2 rfl ?_
   refine ps hb2 rfl ?_
   refine ps hb2 rfl ?_
   refine st (OpT.pickT (A := .cel _ _) (H rfl) (T1 rfl) hb2 Opd.bool rfl) rfl ?_
   exact k1
  refine st (mvT rfl) rfl ?_
  apply AWl.or (d := 89) (t := 82) rfl
  ·
   intro hb3 Q1 k1
   have hb3' := lF hb3
   refine rs hb3 (mvT rfl) rfl ?_
   refine rs hb3 (OpT.eql (H rfl) (T1 rfl) (I rfl)) rfl ?_
   refine rs hb3 (OpT.loadB (H rfl) (Root.self (t := 7) (by decide)) rfl ag30 sz30) rfl ?_
   refine rs hb3 (OpT.loadB (H rfl) (Root.self (t := 8) (by decide)) rfl ag30 sz30) rfl ?_
   refine rs hb3 (OpT.eqA (H rfl) (T1 rfl) (T1 rfl) eq30 ag30 rfl eg30) rfl ?_
   refine rs hb3 (OpT.bneq (H rfl) Tryd.underlying4 (T1 rfl) (T1 rfl)) rfl ?_
   refine st (OpT.pickF (A := .cel _ _) (H rfl) (T1 rfl) hb3 (T1 rfl) rfl) rfl ?_
   exact AWl.to (junk 6 rfl) k1
  ·
   intro hb3 Q1 k1
   refine ps hb3 rfl ?_
   refine ps hb3 rfl ?_
   refine ps hb3 rfl ?_
   refine ps hb3 rfl ?_
   refine ps hb3 rfl ?_
   refine ps hb3 rfl ?_
   refine st (OpT.pickT (A := .cel _ _) (H rfl) (T1 rfl) hb3 Opd.bool rfl) rfl ?_
   exact k1
  refine st (mvT rfl) rfl ?_
  apply AWl.or (d := 94) (t := 90) rfl
  ·
   intro hb4 Q1 k1
   have hb4' := lF hb4
   refine rs hb4 (mvT rfl) rfl ?_
   refine rs hb4 (mvT rfl) rfl ?_
   refine rs hb4 (OpT.neq (H rfl) (T1 rfl) (T1 rfl)) rfl ?_
   refine st (OpT.pickF (A := .cel _ _) (H rfl) (T1 rfl) hb4 (T1 rfl) rfl) rfl ?_
   exact AWl.to (junk 3 rfl) k1
  ·
   intro hb4 Q1 k1
   refine ps hb4 rfl ?_
   refine ps hb4 rfl ?_
   refine ps hb4 rfl ?_
   refine st (OpT.pickT (A := .cel _ _) (H rfl) (T1 rfl) hb4 Opd.bool rfl) rfl ?_
   exact k1
  refine st (mvT rfl) rfl ?_
  apply AWl.or (d := 100) (t := 95) rfl
  ·
   intro hb5 Q1 k1
   have hb5' := lF hb5
   refine rs hb5 (mvT rfl) rfl ?_
   refine rs hb5 (mvT rfl) rfl ?_
   refine rs hb5 (OpT.c1 (ms := [.flat, .flat]) (c_spec_A2Same _ _) (H rfl) (Af (T1 rfl) rfl rfl <| Af (T1 rfl) rfl rfl <| An) rfl rfl) rfl ?_
   refine rs hb5 (OpT.not (H rfl) (T1 rfl)) rfl ?_
   refine st (OpT.pickF (A := .cel _ _) (H rfl) (T1 rfl) hb5 (T1 rfl) rfl) rfl ?_
   exact AWl.to (junk 4 rfl) k1
  ·
   intro hb5 Q1 k1
   refine ps hb5 rfl ?_
   refine ps hb5 rfl ?_
   refine ps hb5 rfl ?_
   refine ps hb5 rfl ?_
   refine st (OpT.pickT (A := .cel _ _) (H rfl) (T1 rfl) hb5 Opd.bool rfl) rfl ?_
   exact k1
  refine st (mvT rfl) rfl ?_
  apply AWl.or (d := 105) (t := 101) rfl
  ·
   intro hb6 Q1 k1
   have hb6' := lF hb6
   refine rs hb6 (mvT rfl) rfl ?_
   refine rs hb6 (mvT rfl) rfl ?_
   refine rs hb6 (OpT.neq (H rfl) (T1 rfl) (T1 rfl)) rfl ?_
   refine st (OpT.pickF (A := .cel _ _) (H rfl) (T1 rfl) hb6 (T1 rfl) rfl) rfl ?_
   exact AWl.to (junk 3 rfl) k1
  ·
   intro hb6 Q1 k1
   refine ps hb6 rfl ?_
   refine ps hb6 rfl ?_
   refine ps hb6 rfl ?_
   refine st (OpT.pickT (A := .cel _ _) (H rfl) (T1 rfl) hb6 Opd.bool rfl) rfl ?_
   exact k1
  refine AWl.to (kc4 105 17 16 15 rfl <| kc 9 rfl <| kb 8 rfl <| kb 7 rfl <| kc2 6 4 rfl <| Kn) ?_
  refine ng ?_
  refine cd rfl (fun hc2 => ?_) fun hc2 => ?_
  ·
   obtain ⟨hc2, hc2'⟩ := pT hc2
   have hna := near_all hD.1 hmb hma
   replace hc2 : _ := hc2; dsimp only at hc2
   exact (show False from (by simp [hna.1, hna.2.1, hna.2.2.1, hna.2.2.2.1, hna.2.2.2.2.1, eqv_self] at hc2)).elim
  ·
   obtain ⟨hc2, hc2'⟩ := pF hc2
   have hna := near_all hD.1 hmb hma
   replace hc2 : _ := hc2; dsimp only at hc2
   refine AW.skip ?_
   refine AX.go ?_
   refine sr ?_
   refine st (mvT rfl) rfl ?_
   refine s2 (OpT.c2 (ms := [.flat]) (c_impl_DuplicatesOf _) (H rfl) (Af (T1 rfl) rfl rfl <| An) rfl rfl rfl) rfl ?_
   refine st (OpT.alias (H rfl) (by decide) (by decide)) rfl ?_
   refine st (OpT.extractV (m := 10108) (H rfl) rfl rfl rfl rfl rfl rfl rfl) rfl ?_
   refine st (OpT.extractV (m := 20108) (H rfl) rfl rfl rfl rfl rfl rfl rfl) rfl ?_
   refine st (asT rfl) rfl ?_
   refine st (asT rfl) rfl ?_
   refine ng ?_
   refine sr ?_
   refine st (mvT rfl) rfl ?_
   refine s2 (OpT.c2 (ms := [.flat]) (c_spec_DuplicatesOf _) (H rfl) (Af (T1 rfl) rfl rfl <| An) rfl rfl rfl) rfl ?_
   refine st (OpT.alias (H rfl) (by decide) (by decide)) rfl ?_
   refine st (OpT.extractV (m := 10113) (H rfl) rfl rfl rfl rfl rfl rfl rfl) rfl ?_
   refine st (OpT.extractV (m := 20113) (H rfl) rfl rfl rfl rfl rfl rfl rfl) rfl ?_
   refine st (asT rfl) rfl ?_
   refine st (asT rfl) rfl ?_
   refine AWl.to (kc4 22 21 20 19 rfl <| kc4 17 16 15 9 rfl <| kb 8 rfl <| kb 7 rfl <| kc2 6 4 rfl <| Kn) ?_
   refine ng ?_
   refine AW.seq ?_
   refine sr ?_
   refine st (mvT rfl) rfl ?_
   refine st (mvT rfl) rfl ?_
   refine st (OpT.neq (H rfl) (T1 rfl) (T1 rfl)) rfl ?_
   refine st (mvT rfl) rfl ?_
   apply AWl.or (d := 122) (t := 119) rfl
   ·
    intro hb7 Q1 k1
    have hb7' := lF hb7
    refine rs hb7 (mvT rfl) rfl ?_
    refine rs hb7 (OpT.neq (H rfl) (T1 rfl) (I rfl)) rfl ?_
    refine st (OpT.pickF (A := .cel _ _) (H rfl) (T1 rfl) hb7 (T1 rfl) rfl) rfl ?_
    exact AWl.to (junk 2 rfl) k1
   ·
    intro hb7 Q1 k1
    refine ps hb7 rfl ?_
    refine ps hb7 rfl ?_
    refine st (OpT.pickT (A := .cel _ _) (H rfl) (T1 rfl) hb7 Opd.bool rfl) rfl ?_
    exact k1
   refine st (mvT rfl) rfl ?_
   apply AWl.or (d := 129) (t := 123) rfl
   ·
    intro hb8 Q1 k1
    have hb8' := lF hb8
    refine rs hb8 (mvT rfl) rfl ?_
    refine rs hb8 (OpT.len (H rfl) (T1 rfl) el38) rfl ?_
    refine rs hb8 (mvT rfl) rfl ?_
    refine rs hb8 (OpT.len (H rfl) (T1 rfl) el38) rfl ?_
    refine rs hb8 (OpT.neq (H rfl) (T1 rfl) (T1 rfl)) rfl ?_
    refine st (OpT.pickF (A := .cel _ _) (H rfl) (T1 rfl) hb8 (T1 rfl) rfl) rfl ?_
    exact AWl.to (junk 5 rfl) k1
   ·
    intro hb8 Q1 k1
    refine ps hb8 rfl ?_
    refine ps hb8 rfl ?_
    refine ps hb8 rfl ?_
    refine ps hb8 rfl ?_
    refine ps hb8 rfl ?_
    refine st (OpT.pickT (A := .cel _ _) (H rfl) (T1 rfl) hb8 Opd.bool rfl) rfl ?_
    exact k1
   refine ng ?_
   refine cd rfl (fun hc3 => ?_) fun hc3 => ?_
   ·
    obtain ⟨hc3, hc3'⟩ := pT hc3
    exact (show False from (by simp [hna.2.2.2.2.2] at hc3)).elim
   ·
    obtain ⟨hc3, hc3'⟩ := pF hc3
    refine AW.skip ?_
    refine AX.go ?_
    refine AW.seq ?_
    refine sr ?_
    refine st (asI rfl) rfl ?_
    refine ng ?_
    refine AW.block ?_
    refine AW.loop (fun z : Nat => z ≤ (dupS d).1.length) (fun z : Nat => keep [(6, .cel (Kd.slice kCard) d), (7, .box 30 kMask (drM y)), (8, .box 30 kMask (drM x)), (9, .cel (Kd.int .i64) (distS (drM y) (drM x)).1), (15, .cel (Kd.int .i64) (neaS d (drM y)).2.2), (16, .cel (Kd.slice (Kd.int .i64)) (neaS d (drM y)).1), (17, .cel (Kd.int .i64) (neaS d (drM y)).2.1), (21, .cel (Kd.slice (Kd.slice (Kd.int .i64))) (dupS d).1), (19, .cel (Kd.slice (Kd.slice (Kd.int .i64))) (dupS d).1), (23, .cel (Kd.int .i64) (z : Int))]) (fun z : Nat => (dupS d).1.length - z) (0) (Nat.zero_le _) (Kc 6 _ (Kv rfl rfl) <| Kc 7 _ (Kb rfl rfl) <| Kc 8 _ (Kb rfl rfl) <| Kc 9 _ (Kv rfl rfl) <| Kc 15 _ (Kv rfl rfl) <| Kc 16 _ (Kv rfl rfl) <| Kc 17 _ (Kv rfl rfl) <| Kc 21 _ (Kv rfl rfl) <| Kc 19 _ (Kv rfl rfl) <| Kc 23 _ (Kv rfl rfl) <| Kn) ?_
    intro z hI
    have hdb := dupS_bound d
    refine AW.seq ?_
    refine sr ?_
    refine st (mvT rfl) rfl ?_
    refine st (mvT rfl) rfl ?_
    refine st (OpT.len (H rfl) (T1 rfl) el38) rfl ?_
    refine st (OpT.lss (H rfl) (T1 rfl) (T1 rfl)) rfl ?_
    refine ng ?_
    refine cd rfl (fun hc4 => ?_) fun hc4 => ?_
    ·
     obtain ⟨hc4, hc4'⟩ := pT hc4
     obtain ⟨a, ha⟩ := getI (x := (dupS d).1) (z := z) (by omega)
     refine AW.skip ?_
     refine AX.go ?_
     refine AW.seq ?_
     refine AW.block ?_
     refine AW.seq ?_
     refine dh fomo ?_
     refine d1 [19] (fun ve h => OpT.move (A := .cel _ _) (.inl rfl) rfl (ok' rfl) (D1 h rfl) rfl) rfl ?_
     refine d1 [23] (fun ve h => OpT.move (A := .cel _ _) (.inl rfl) rfl (ok' rfl) (D1 h rfl) rfl) rfl ?_
     refine d1 [136, 137] (fun ve h => OpT.indexAddr (H rfl) (D1 h rfl) (D1 h rfl) el38 sz34 (by omega) (by assumption)) rfl ?_
     refine d1 [138] (fun ve h => OpT.load (H rfl) (D1 h rfl) ag34 rfl) rfl ?_
     refine d1 [21] (fun ve h => OpT.move (A := .cel _ _) (.inl rfl) rfl (ok' rfl) (D1 h rfl) rfl) rfl ?_
     refine d1 [23] (fun ve h => OpT.move (A := .cel _ _) (.inl rfl) rfl (ok' rfl) (D1 h rfl) rfl) rfl ?_
     refine d1 [140, 141] (fun ve h => OpT.indexAddr (H rfl) (D1 h rfl) (D1 h rfl) el38 sz34 (by omega) (by assumption)) rfl ?_
     refine d1 [142] (fun ve h => OpT.load (H rfl) (D1 h rfl) ag34 rfl) rfl ?_
     refine d1 [139, 143] (fun ve h => OpT.c1 (ms := [.flat, .flat]) (c_spec_A2Same _ _) (H rfl) (Af (D1 h rfl) rfl rfl <| Af (D1 h rfl) rfl rfl <| An) rfl rfl) rfl ?_
     refine d1 [144] (fun ve h => OpT.not (H rfl) (D1 h rfl)) rfl ?_
     refine dn ⟨by kernel_rfl, by kernel_rfl, ?_⟩
     refine AX.go ?_
     refine cd rfl (fun hc5 => ?_) fun hc5 => ?_
     ·
      obtain ⟨hc5, hc5'⟩ := pT hc5
      exact (show False from (by simp [eqv_self] at hc5)).elim
     ·
      obtain ⟨hc5, hc5'⟩ := pF hc5
      refine AW.skip ?_
      refine AX.normal_block ?_
      refine AX.go ?_
      refine AW.region ?_
      refine st (mvT rfl) rfl ?_
      refine st (OpT.add (H rfl) (T1 rfl) (I rfl) (nw (by omega))) rfl ?_
      refine st (asT rfl) rfl ?_
      refine nn ?_
      exact AX.again (z + 1) (by omega) (by omega) (Kc 6 _ (Kv rfl rfl) <| Kc 7 _ (Kb rfl rfl) <| Kc 8 _ (Kb rfl rfl) <| Kc 9 _ (Kv rfl rfl) <| Kc 15 _ (Kv rfl rfl) <| Kc 16 _ (Kv rfl rfl) <| Kc 17 _ (Kv rfl rfl) <| Kc 21 _ (Kv rfl rfl) <| Kc 19 _ (Kv rfl rfl) <| Kc 23 _ (Kv rfl (by omega)) <| Kn)
    ·
     obtain ⟨hc4, hc4'⟩ := pF hc4
     refine AW.exit ?_
     refine xT <| xT <| AX.exit_hit ?_
     refine AX.go ?_
     refine AW.seq ?_
     refine sr ?_
     refine st (mvT rfl) rfl ?_
     refine st (OpT.len (H rfl) (T1 rfl) el26) rfl ?_
     refine st (OpT.eql (H rfl) (T1 rfl) (I rfl)) rfl ?_
     refine ng ?_
     refine cd rfl (fun hc6 => ?_) fun hc6 => ?_
     ·
      obtain ⟨hc6, hc6'⟩ := pT hc6
      refine sr ?_
      refine st (mvT rfl) rfl ?_
      refine st (OpT.eql (H rfl) (T1 rfl) (I rfl)) rfl ?_
      refine st (mvT rfl) rfl ?_
      apply AWl.and (d := 155) (t := 151) rfl
      ·
       intro hb9 Q1 k1
       have hb9' := lT hb9
       refine rs hb9 (mvT rfl) rfl ?_
       refine rs hb9 (OpT.len (H rfl) (T1 rfl) el38) rfl ?_
       refine rs hb9 (OpT.eql (H rfl) (T1 rfl) (I rfl)) rfl ?_
       refine st (OpT.pickT (A := .cel _ _) (H rfl) (T1 rfl) hb9 (T1 rfl) rfl) rfl ?_
       exact AWl.to (junk 3 rfl) k1
      ·
       intro hb9 Q1 k1
       refine ps hb9 rfl ?_
       refine ps hb9 rfl ?_
       refine ps hb9 rfl ?_
       refine st (OpT.pickF (A := .cel _ _) (H rfl) (T1 rfl) hb9 Opd.bool rfl) rfl ?_
       exact k1
      refine st (asT rfl) rfl ?_
      refine AWl.to (kc2 4 6 rfl <| kb 7 rfl <| kb 8 rfl <| kc4 9 15 16 17 rfl <| kc 21 rfl <| Kn) ?_
      refine ng ?_
      refine AW.ret ?_
      refine rT ?_
      exact rt1 rfl (.inl rfl) (by first | rfl | (have hnn := near_nil hD.1 hmb (by omega); simp [hnn.1, hnn.2]; done) | (have hnn := near_some hD.1 hmb (by omega); simp [hnn]))
     ·
      obtain ⟨hc6, hc6'⟩ := pF hc6
      refine AW.skip ?_
      refine AX.go ?_
      refine AW.seq ?_
      refine sr ?_
      refine st (asI rfl) rfl ?_
      refine ng ?_
      refine AW.block ?_
      refine AW.loop (fun i : Nat => i ≤ d.length) (fun i : Nat => keep [(6, .cel (Kd.slice kCard) d), (7, .box 30 kMask (drM y)), (8, .box 30 kMask (drM x)), (9, .cel (Kd.int .i64) (distS (drM y) (drM x)).1), (15, .cel (Kd.int .i64) (neaS d (drM y)).2.2), (16, .cel (Kd.slice (Kd.int .i64)) (neaS d (drM y)).1), (17, .cel (Kd.int .i64) (neaS d (drM y)).2.1), (21, .cel (Kd.slice (Kd.slice (Kd.int .i64))) (dupS d).1), (24, .cel (Kd.int .i64) (i : Int))]) (fun i : Nat => d.length - i) (0) (Nat.zero_le _) (Kc 6 _ (Kv rfl rfl) <| Kc 7 _ (Kb rfl rfl) <| Kc 8 _ (Kb rfl rfl) <| Kc 9 _ (Kv rfl rfl) <| Kc 15 _ (Kv rfl rfl) <| Kc 16 _ (Kv rfl rfl) <| Kc 17 _ (Kv rfl rfl) <| Kc 21 _ (Kv rfl rfl) <| Kc 24 _ (Kv rfl rfl) <| Kn) ?_
      intro i hI
      refine AW.seq ?_
      refine sr ?_
      refine st (mvT rfl) rfl ?_
      refine st (mvT rfl) rfl ?_
      refine st (OpT.len (H rfl) (T1 rfl) el26) rfl ?_
      refine st (OpT.lss (H rfl) (T1 rfl) (T1 rfl)) rfl ?_
      refine ng ?_
      refine cd rfl (fun hc7 => ?_) fun hc7 => ?_
      ·
       obtain ⟨hc7, hc7'⟩ := pT hc7
       obtain ⟨e, he⟩ := getI (x := d) (z := i) (by omega)
       have hno := near_one hD.1 hmb hma he
       have hdi := dist_in e.2 (drM y)
       have hdj := dist_in e.2 (drM x)
       refine AW.skip ?_
       refine AX.go ?_
       refine AW.seq ?_
       refine AW.block ?_
       refine AW.seq ?_
       refine dh fomo ?_
       refine d1 [6] (fun ve h => OpT.move (A := .cel _ _) (.inl rfl) rfl (ok' rfl) (D1 h rfl) rfl) rfl ?_
       refine d1 [24] (fun ve h => OpT.move (A := .cel _ _) (.inl rfl) rfl (ok' rfl) (D1 h rfl) rfl) rfl ?_
       refine d1 [163, 164] (fun ve h => OpT.indexAddr (H rfl) (D1 h rfl) (D1 h rfl) el26 sz42 (by omega) (by assumption)) rfl ?_
       refine d1 [165] (fun ve h => OpT.fieldAddr (H rfl) (D1 h rfl) fd42_1 sz30 (by decide) sb42_1) rfl ?_
       refine d1 [166] (fun ve h => OpT.loadA (H rfl) (D1 h rfl) ag30 sz30) rfl ?_
       refine d1 [7] (fun ve h => OpT.loadB (H rfl) (Root.self (t := 7) (by decide)) ((h _ (List.elem_iff.1 rfl)).trans rfl) ag30 sz30) rfl ?_
       refine d2 [167, 168] (fun ve h => OpT.c2 (ms := [.flat, .flat]) (c_impl_DistanceOf _ _) (H rfl) (Af (D1 h rfl) rfl rfl <| Af (D1 h rfl) rfl rfl <| An) rfl rfl rfl) rfl ?_
       refine d1 [] (fun ve h => OpT.alias (H rfl) (by decide) (by decide)) rfl ?_
       refine d1 [162, 10169] (fun ve h => OpT.extractV (m := 10169) (H rfl) ((h _ (List.elem_iff.1 rfl)).trans rfl) rfl rfl rfl ((h _ (List.elem_iff.1 rfl)).trans rfl) rfl rfl) rfl ?_
       refine d1 [162, 20169] (fun ve h => OpT.extractV (m := 20169) (H rfl) ((h _ (List.elem_iff.1 rfl)).trans rfl) rfl rfl rfl ((h _ (List.elem_iff.1 rfl)).trans rfl) rfl rfl) rfl ?_
       refine d1 [170] (fun ve h => OpT.move (A := .cel _ _) (.inr rfl) rfl (ok' rfl) (D1 h rfl) rfl) rfl ?_
       refine d1 [171] (fun ve h => OpT.move (A := .cel _ _) (.inr rfl) rfl (ok' rfl) (D1 h rfl) rfl) rfl ?_
       refine dn ⟨by kernel_rfl, by kernel_rfl, ?_⟩
       refine AX.go ?_
       refine AW.seq ?_
       refine dh fomo ?_
       refine d1 [6] (fun ve h => OpT.move (A := .cel _ _) (.inl rfl) rfl (ok' rfl) (D1 h rfl) rfl) rfl ?_
       refine d1 [24] (fun ve h => OpT.move (A := .cel _ _) (.inl rfl) rfl (ok' rfl) (D1 h rfl) rfl) rfl ?_
       refine d1 [173, 174] (fun ve h => OpT.indexAddr (H rfl) (D1 h rfl) (D1 h rfl) el26 sz42 (by omega) (by assumption)) rfl ?_
       refine d1 [175] (fun ve h => OpT.fieldAddr (H rfl) (D1 h rfl) fd42_1 sz30 (by decide) sb42_1) rfl ?_
       refine d1 [176] (fun ve h => OpT.loadA (H rfl) (D1 h rfl) ag30 sz30) rfl ?_
       refine d1 [8] (fun ve h => OpT.loadB (H rfl) (Root.self (t := 8) (by decide)) ((h _ (List.elem_iff.1 rfl)).trans rfl) ag30 sz30) rfl ?_
       refine d2 [177, 178] (fun ve h => OpT.c2 (ms := [.flat, .flat]) (c_impl_DistanceOf _ _) (H rfl) (Af (D1 h rfl) rfl rfl <| Af (D1 h rfl) rfl rfl <| An) rfl rfl rfl) rfl ?_
       refine d1 [] (fun ve h => OpT.alias (H rfl) (by decide) (by decide)) rfl ?_
       refine d1 [172, 10179] (fun ve h => OpT.extractV (m := 10179) (H rfl) ((h _ (List.elem_iff.1 rfl)).trans rfl) rfl rfl rfl ((h _ (List.elem_iff.1 rfl)).trans rfl) rfl rfl) rfl ?_
       refine d1 [172, 20179] (fun ve h => OpT.extractV (m := 20179) (H rfl) ((h _ (List.elem_iff.1 rfl)).trans rfl) rfl rfl rfl ((h _ (List.elem_iff.1 rfl)).trans rfl) rfl rfl) rfl ?_
       refine d1 [180] (fun ve h => OpT.move (A := .cel _ _) (.inr rfl) rfl (ok' rfl) (D1 h rfl) rfl) rfl ?_
       refine d1 [181] (fun ve h => OpT.move (A := .cel _ _) (.inr rfl) rfl (ok' rfl) (D1 h rfl) rfl) rfl ?_
       refine dn ⟨by kernel_rfl, by kernel_rfl, ?_⟩
       refine AX.go ?_
       refine sr ?_
       refine st (asB rfl) rfl ?_
       refine ng ?_
       refine AW.seq ?_
       refine sr ?_
       refine st (asI rfl) rfl ?_
       refine ng ?_
       refine AW.block ?_
       refine AW.loop (fun k : Nat => k ≤ d.length) (fun k : Nat => keep [(6, .cel (Kd.slice kCard) d), (7, .box 30 kMask (drM y)), (8, .box 30 kMask (drM x)), (9, .cel (Kd.int .i64) (distS (drM y) (drM x)).1), (15, .cel (Kd.int .i64) (neaS d (drM y)).2.2), (16, .cel (Kd.slice (Kd.int .i64)) (neaS d (drM y)).1), (17, .cel (Kd.int .i64) (neaS d (drM y)).2.1), (21, .cel (Kd.slice (Kd.slice (Kd.int .i64))) (dupS d).1), (24, .cel (Kd.int .i64) (i : Int)), (25, .cel (Kd.int .i64) (distS e.2 (drM y)).1), (26, .cel (Kd.int .i64) (distS e.2 (drM y)).2), (27, .cel (Kd.int .i64) (distS e.2 (drM x)).1), (28, .cel (Kd.int .i64) (distS e.2 (drM x)).2), (29, .cel Kd.bool (twn d i k)), (30, .cel (Kd.int .i64) (k : Int))]) (fun k : Nat => d.length - k) (0) (Nat.zero_le _) (Kc 6 _ (Kv rfl rfl) <| Kc 7 _ (Kb rfl rfl) <| Kc 8 _ (Kb rfl rfl) <| Kc 9 _ (Kv rfl rfl) <| Kc 15 _ (Kv rfl rfl) <| Kc 16 _ (Kv rfl rfl) <| Kc 17 _ (Kv rfl rfl) <| Kc 21 _ (Kv rfl rfl) <| Kc 24 _ (Kv rfl rfl) <| Kc 25 _ (Kv rfl rfl) <| Kc 26 _ (Kv rfl rfl) <| Kc 27 _ (Kv rfl rfl) <| Kc 28 _ (Kv rfl rfl) <| Kc 29 _ (Kv rfl rfl) <| Kc 30 _ (Kv rfl rfl) <| Kn) ?_
       intro k hI
       refine AW.seq ?_
       refine sr ?_
       refine st (mvT rfl) rfl ?_
       refine st (mvT rfl) rfl ?_
       refine st (OpT.len (H rfl) (T1 rfl) el26) rfl ?_
       refine st (OpT.lss (H rfl) (T1 rfl) (T1 rfl)) rfl ?_
       refine ng ?_
       refine cd rfl (fun hc8 => ?_) fun hc8 => ?_
       ·
        obtain ⟨hc8, hc8'⟩ := pT hc8
        obtain ⟨b, hb⟩ := getI (x := d) (z := k) (by omega)
        refine AW.skip ?_
        refine AX.go ?_
        refine AW.seq ?_
        refine AW.block ?_
        rcases Bool.eq_false_or_eq_true (twn d i k) with hd1 | hd1
        ·
         have hd1' := lT hd1
         refine dh fomo ?_
         refine d1 [29] (fun ve h => OpT.move (A := .cel _ _) (.inl rfl) rfl (ok' rfl) (D1 h rfl) rfl) rfl ?_
         refine d1 [188] (fun ve h => OpT.move (A := .cel _ _) (.inl rfl) rfl (ok' rfl) (D1 h rfl) rfl) rfl ?_
         refine dp hd1 rfl ?_
         refine dp hd1 rfl ?_
         refine dp hd1 rfl ?_
         refine dq hd1 rfl ?_
         refine dpu rfl ?_
         refine dpu rfl ?_
         refine dpu rfl ?_
         refine dpu rfl ?_
         refine dpu rfl ?_
         refine dpu rfl ?_
         refine dpu rfl ?_
         refine dpu rfl ?_
         refine dpu rfl ?_
         refine dpu rfl ?_
         refine dpu rfl ?_
         refine dp hd1 rfl ?_
         refine d1 [189] (fun ve h => OpT.pickT (A := .cel _ _) (H rfl) (D1 h rfl) hd1 Opd.bool rfl) rfl ?_
         refine d1 [206] (fun ve h => OpT.move (A := .cel _ _) (.inr rfl) rfl (ok' rfl) (D1 h rfl) rfl) rfl ?_
         refine dn ⟨by kernel_rfl, by kernel_rfl, ?_⟩
         refine AX.normal_block ?_
         refine AX.go ?_
         refine AW.region ?_
         refine st (mvT rfl) rfl ?_
         refine st (OpT.add (H rfl) (T1 rfl) (I rfl) (nw (by omega))) rfl ?_
         refine st (asT rfl) rfl ?_
         refine nn ?_
         exact AX.again (k + 1) (by omega) (by omega) (Kc 6 _ (Kv rfl rfl) <| Kc 7 _ (Kb rfl rfl) <| Kc 8 _ (Kb rfl rfl) <| Kc 9 _ (Kv rfl rfl) <| Kc 15 _ (Kv rfl rfl) <| Kc 16 _ (Kv rfl rfl) <| Kc 17 _ (Kv rfl rfl) <| Kc 21 _ (Kv rfl rfl) <| Kc 24 _ (Kv rfl rfl) <| Kc 25 _ (Kv rfl rfl) <| Kc 26 _ (Kv rfl rfl) <| Kc 27 _ (Kv rfl rfl) <| Kc 28 _ (Kv rfl rfl) <| Kc 29 _ (Kv rfl (by first | exact twn_t (by assumption) | exact twn_e (by assumption) (by omega) hb he | exact twn_f (by assumption) (by omega))) <| Kc 30 _ (Kv rfl (by omega)) <| Kn)
        ·
         have hd1' := lF hd1
         rcases Bool.eq_false_or_eq_true ((k : Int) != (i : Int)) with hd2 | hd2
         ·
          have hd2' := lT hd2
          refine dh fomo ?_
          refine d1 [29] (fun ve h => OpT.move (A := .cel _ _) (.inl rfl) rfl (ok' rfl) (D1 h rfl) rfl) rfl ?_
          refine d1 [188] (fun ve h => OpT.move (A := .cel _ _) (.inl rfl) rfl (ok' rfl) (D1 h rfl) rfl) rfl ?_
          refine dr [30, 189] hd1 (fun ve h => OpT.move (A := .cel _ _) (.inl rfl) rfl (ok' rfl) (D1 h rfl) rfl) rfl ?_
          refine dr [24, 189] hd1 (fun ve h => OpT.move (A := .cel _ _) (.inl rfl) rfl (ok' rfl) (D1 h rfl) rfl) rfl ?_
          refine dr [189, 190, 191] hd1 (fun ve h => OpT.neq (H rfl) (D1 h rfl) (D1 h rfl)) rfl ?_
          refine dr [189, 192] hd1 (fun ve h => OpT.move (A := .cel _ _) (.inl rfl) rfl (ok' rfl) (D1 h rfl) rfl) rfl ?_
          refine dr [6, 193] hd2 (fun ve h => OpT.move (A := .cel _ _) (.inl rfl) rfl (ok' rfl) (D1 h rfl) rfl) rfl ?_
          refine dr [30, 193] hd2 (fun ve h => OpT.move (A := .cel _ _) (.inl rfl) rfl (ok' rfl) (D1 h rfl) rfl) rfl ?_
          refine dr [193, 194, 195] hd2 (fun ve h => OpT.indexAddr (H rfl) (D1 h rfl) (D1 h rfl) el26 sz42 (by omega) (by assumption)) rfl ?_
          refine dr [193, 196] hd2 (fun ve h => OpT.fieldAddr (H rfl) (D1 h rfl) fd42_1 sz30 (by decide) sb42_1) rfl ?_
          refine dr [193, 197] hd2 (fun ve h => OpT.loadA (H rfl) (D1 h rfl) ag30 sz30) rfl ?_
          refine dr [6, 193] hd2 (fun ve h => OpT.move (A := .cel _ _) (.inl rfl) rfl (ok' rfl) (D1 h rfl) rfl) rfl ?_
          refine dr [24, 193] hd2 (fun ve h => OpT.move (A := .cel _ _) (.inl rfl) rfl (ok' rfl) (D1 h rfl) rfl) rfl ?_
          refine dr [193, 199, 200] hd2 (fun ve h => OpT.indexAddr (H rfl) (D1 h rfl) (D1 h rfl) el26 sz42 (by omega) (by assumption)) rfl ?_
          refine dr [193, 201] hd2 (fun ve h => OpT.fieldAddr (H rfl) (D1 h rfl) fd42_1 sz30 (by decide) sb42_1) rfl ?_
          refine dr [193, 202] hd2 (fun ve h => OpT.loadA (H rfl) (D1 h rfl) ag30 sz30) rfl ?_
          refine dr [193, 198, 203] hd2 (fun ve h => OpT.eqA (H rfl) (D1 h rfl) (D1 h rfl) eq30 ag30 rfl eg30) rfl ?_
          refine dr [189, 193, 204] hd1 (fun ve h => OpT.pickT (A := .cel _ _) (H rfl) (D1 h rfl) hd2 (D1 h rfl) rfl) rfl ?_
          refine d1 [189, 205] (fun ve h => OpT.pickF (A := .cel _ _) (H rfl) (D1 h rfl) hd1 (D1 h rfl) rfl) rfl ?_
          refine d1 [206] (fun ve h => OpT.move (A := .cel _ _) (.inr rfl) rfl (ok' rfl) (D1 h rfl) rfl) rfl ?_
          refine dn ⟨by kernel_rfl, by kernel_rfl, ?_⟩
          refine AX.normal_block ?_
          refine AX.go ?_
          refine AW.region ?_
          refine st (mvT rfl) rfl ?_
          refine st (OpT.add (H rfl) (T1 rfl) (I rfl) (nw (by omega))) rfl ?_
          refine st (asT rfl) rfl ?_
          refine nn ?_
          exact AX.again (k + 1) (by omega) (by omega) (Kc 6 _ (Kv rfl rfl) <| Kc 7 _ (Kb rfl rfl) <| Kc 8 _ (Kb rfl rfl) <| Kc 9 _ (Kv rfl rfl) <| Kc 15 _ (Kv rfl rfl) <| Kc 16 _ (Kv rfl rfl) <| Kc 17 _ (Kv rfl rfl) <| Kc 21 _ (Kv rfl rfl) <| Kc 24 _ (Kv rfl rfl) <| Kc 25 _ (Kv rfl rfl) <| Kc 26 _ (Kv rfl rfl) <| Kc 27 _ (Kv rfl rfl) <| Kc 28 _ (Kv rfl rfl) <| Kc 29 _ (Kv rfl (by first | exact twn_t (by assumption) | exact twn_e (by assumption) (by omega) hb he | exact twn_f (by assumption) (by omega))) <| Kc 30 _ (Kv rfl (by omega)) <| Kn)
         ·
          have hd2' := lF hd2
          refine dh fomo ?_
          refine d1 [29] (fun ve h => OpT.move (A := .cel _ _) (.inl rfl) rfl (ok' rfl) (D1 h rfl) rfl) rfl ?_
          refine d1 [188] (fun ve h => OpT.move (A := .cel _ _) (.inl rfl) rfl (ok' rfl) (D1 h rfl) rfl) rfl ?_
          refine dr [30, 189] hd1 (fun ve h => OpT.move (A := .cel _ _) (.inl rfl) rfl (ok' rfl) (D1 h rfl) rfl) rfl ?_
          refine dr [24, 189] hd1 (fun ve h => OpT.move (A := .cel _ _) (.inl rfl) rfl (ok' rfl) (D1 h rfl) rfl) rfl ?_
          refine dr [189, 190, 191] hd1 (fun ve h => OpT.neq (H rfl) (D1 h rfl) (D1 h rfl)) rfl ?_
          refine dr [189, 192] hd1 (fun ve h => OpT.move (A := .cel _ _) (.inl rfl) rfl (ok' rfl) (D1 h rfl) rfl) rfl ?_
          refine dp hd2 rfl ?_
          refine dp hd2 rfl ?_
          refine dp hd2 rfl ?_
          refine dp hd2 rfl ?_
          refine dp hd2 rfl ?_
          refine dp hd2 rfl ?_
          refine dp hd2 rfl ?_
          refine dp hd2 rfl ?_
          refine dp hd2 rfl ?_
          refine dp hd2 rfl ?_
          refine dp hd2 rfl ?_
          refine dr [189, 193] hd1 (fun ve h => OpT.pickF (A := .cel _ _) (H rfl) (D1 h rfl) hd2 Opd.bool rfl) rfl ?_
          refine d1 [189, 205] (fun ve h => OpT.pickF (A := .cel _ _) (H rfl) (D1 h rfl) hd1 (D1 h rfl) rfl) rfl ?_
          refine d1 [206] (fun ve h => OpT.move (A := .cel _ _) (.inr rfl) rfl (ok' rfl) (D1 h rfl) rfl) rfl ?_
          refine dn ⟨by kernel_rfl, by kernel_rfl, ?_⟩
          refine AX.normal_block ?_
          refine AX.go ?_
          refine AW.region ?_
          refine st (mvT rfl) rfl ?_
          refine st (OpT.add (H rfl) (T1 rfl) (I rfl) (nw (by omega))) rfl ?_
          refine st (asT rfl) rfl ?_
          refine nn ?_
          exact AX.again (k + 1) (by omega) (by omega) (Kc 6 _ (Kv rfl rfl) <| Kc 7 _ (Kb rfl rfl) <| Kc 8 _ (Kb rfl rfl) <| Kc 9 _ (Kv rfl rfl) <| Kc 15 _ (Kv rfl rfl) <| Kc 16 _ (Kv rfl rfl) <| Kc 17 _ (Kv rfl rfl) <| Kc 21 _ (Kv rfl rfl) <| Kc 24 _ (Kv rfl rfl) <| Kc 25 _ (Kv rfl rfl) <| Kc 26 _ (Kv rfl rfl) <| Kc 27 _ (Kv rfl rfl) <| Kc 28 _ (Kv rfl rfl) <| Kc 29 _ (Kv rfl (by first | exact twn_t (by assumption) | exact twn_e (by assumption) (by omega) hb he | exact twn_f (by assumption) (by omega))) <| Kc 30 _ (Kv rfl (by omega)) <| Kn)
       ·
        obtain ⟨hc8, hc8'⟩ := pF hc8
        refine AW.exit ?_
        refine xT <| xT <| AX.exit_hit ?_
        refine AX.go ?_
        refine sr ?_
        refine st (asB rfl) rfl ?_
        refine ng ?_
        refine AW.seq ?_
        refine sr ?_
        refine st (asI rfl) rfl ?_
        refine ng ?_
        refine AW.block ?_
        obtain rfl : k = d.length := by omega
        refine AW.loop (fun u : Nat => u ≤ (dupS d).1.length) (fun u : Nat => keep [(6, .cel (Kd.slice kCard) d), (7, .box 30 kMask (drM y)), (8, .box 30 kMask (drM x)), (9, .cel (Kd.int .i64) (distS (drM y) (drM x)).1), (15, .cel (Kd.int .i64) (neaS d (drM y)).2.2), (16, .cel (Kd.slice (Kd.int .i64)) (neaS d (drM y)).1), (17, .cel (Kd.int .i64) (neaS d (drM y)).2.1), (21, .cel (Kd.slice (Kd.slice (Kd.int .i64))) (dupS d).1), (24, .cel (Kd.int .i64) (i : Int)), (25, .cel (Kd.int .i64) (distS e.2 (drM y)).1), (26, .cel (Kd.int .i64) (distS e.2 (drM y)).2), (27, .cel (Kd.int .i64) (distS e.2 (drM x)).1), (28, .cel (Kd.int .i64) (distS e.2 (drM x)).2), (29, .cel Kd.bool (twn d i d.length)), (31, .cel Kd.bool (tld (dupS d).1 (i : Int) u)), (32, .cel (Kd.int .i64) (u : Int))]) (fun u : Nat => (dupS d).1.length - u) (0) (Nat.zero_le _) (Kc 6 _ (Kv rfl rfl) <| Kc 7 _ (Kb rfl rfl) <| Kc 8 _ (Kb rfl rfl) <| Kc 9 _ (Kv rfl rfl) <| Kc 15 _ (Kv rfl rfl) <| Kc 16 _ (Kv rfl rfl) <| Kc 17 _ (Kv rfl rfl) <| Kc 21 _ (Kv rfl rfl) <| Kc 24 _ (Kv rfl rfl) <| Kc 25 _ (Kv rfl rfl) <| Kc 26 _ (Kv rfl rfl) <| Kc 27 _ (Kv rfl rfl) <| Kc 28 _ (Kv rfl rfl) <| Kc 29 _ (Kv rfl rfl) <| Kc 31 _ (Kv rfl rfl) <| Kc 32 _ (Kv rfl rfl) <| Kn) ?_
        intro u hI
        have hdb := dupS_bound d
        refine AW.seq ?_
        refine sr ?_
        refine st (mvT rfl) rfl ?_
        refine st (mvT rfl) rfl ?_
        refine st (OpT.len (H rfl) (T1 rfl) el38) rfl ?_
        refine st (OpT.lss (H rfl) (T1 rfl) (T1 rfl)) rfl ?_
        refine ng ?_
        refine cd rfl (fun hc9 => ?_) fun hc9 => ?_
        ·
         obtain ⟨hc9, hc9'⟩ := pT hc9
         obtain ⟨a, ha⟩ := getI (x := (dupS d).1) (z := u) (by omega)
         refine AW.skip ?_
         refine AX.go ?_
         refine AW.seq ?_
         refine AW.block ?_
         refine AW.region ?_
         refine st (mvT rfl) rfl ?_
         refine st (mvT rfl) rfl ?_
         apply AWl.or (d := 221) (t := 214) rfl
         ·
          intro hb10 Q1 k1
          have hb10' := lF hb10
          refine rs hb10 (mvT rfl) rfl ?_
          refine rs hb10 (mvT rfl) rfl ?_
          refine rs hb10 (OpT.indexAddr (H rfl) (T1 rfl) (T1 rfl) el38 sz34 (by omega) (by assumption)) rfl ?_
          refine rs hb10 (OpT.load (H rfl) (T1 rfl) ag34 rfl) rfl ?_
          refine rs hb10 (mvT rfl) rfl ?_
          refine rs hb10 (OpT.c1 (ms := [.flat, .flat]) (c_spec_A2Has _ _) (H rfl) (Af (T1 rfl) rfl rfl <| Af (T1 rfl) rfl rfl <| An) rfl rfl) rfl ?_
          refine st (OpT.pickF (A := .cel _ _) (H rfl) (T1 rfl) hb10 (T1 rfl) rfl) rfl ?_
          exact AWl.to (junk 6 rfl) k1
         ·
          intro hb10 Q1 k1
          refine ps hb10 rfl ?_
          refine ps hb10 rfl ?_
          refine ps hb10 rfl ?_
          refine ps hb10 rfl ?_
          refine ps hb10 rfl ?_
          refine ps hb10 rfl ?_
          refine st (OpT.pickT (A := .cel _ _) (H rfl) (T1 rfl) hb10 Opd.bool rfl) rfl ?_
          exact k1
         refine st (asT rfl) rfl ?_
         refine nn ?_
         refine AX.normal_block ?_
         refine AX.go ?_
         refine AW.region ?_
         refine st (mvT rfl) rfl ?_
         refine st (OpT.add (H rfl) (T1 rfl) (I rfl) (nw (by omega))) rfl ?_
         refine st (asT rfl) rfl ?_
         refine nn ?_
         exact AX.again (u + 1) (by omega) (by omega) (Kc 6 _ (Kv rfl rfl) <| Kc 7 _ (Kb rfl rfl) <| Kc 8 _ (Kb rfl rfl) <| Kc 9 _ (Kv rfl rfl) <| Kc 15 _ (Kv rfl rfl) <| Kc 16 _ (Kv rfl rfl) <| Kc 17 _ (Kv rfl rfl) <| Kc 21 _ (Kv rfl rfl) <| Kc 24 _ (Kv rfl rfl) <| Kc 25 _ (Kv rfl rfl) <| Kc 26 _ (Kv rfl rfl) <| Kc 27 _ (Kv rfl rfl) <| Kc 28 _ (Kv rfl rfl) <| Kc 29 _ (Kv rfl rfl) <| Kc 31 _ (Kv rfl (tld_next ha).symm) <| Kc 32 _ (Kv rfl (by omega)) <| Kn)
        ·
         obtain ⟨hc9, hc9'⟩ := pF hc9
         refine AW.exit ?_
         refine xT <| xT <| AX.exit_hit ?_
         refine AX.go ?_
         refine sr ?_
         refine st (mvT rfl) rfl ?_
         refine st (OpT.neq (H rfl) (T1 rfl) (I rfl)) rfl ?_
         refine st (mvT rfl) rfl ?_
         apply AWl.or (d := 227) (t := 224) rfl
         ·
          intro hb11 Q1 k1
          have hb11' := lF hb11
          refine rs hb11 (mvT rfl) rfl ?_
          refine rs hb11 (OpT.neq (H rfl) (T1 rfl) (I rfl)) rfl ?_
          refine st (OpT.pickF (A := .cel _ _) (H rfl) (T1 rfl) hb11 (T1 rfl) rfl) rfl ?_
          exact AWl.to (junk 2 rfl) k1
         ·
          intro hb11 Q1 k1
          refine ps hb11 rfl ?_
          refine ps hb11 rfl ?_
          refine st (OpT.pickT (A := .cel _ _) (H rfl) (T1 rfl) hb11 Opd.bool rfl) rfl ?_
          exact k1
         refine st (mvT rfl) rfl ?_
         apply AWl.or (d := 232) (t := 228) rfl
         ·
          intro hb12 Q1 k1
          have hb12' := lF hb12
          refine rs hb12 (mvT rfl) rfl ?_
          refine rs hb12 (mvT rfl) rfl ?_
          refine rs hb12 (OpT.lss (H rfl) (T1 rfl) (T1 rfl)) rfl ?_
          refine st (OpT.pickF (A := .cel _ _) (H rfl) (T1 rfl) hb12 (T1 rfl) rfl) rfl ?_
          exact AWl.to (junk 3 rfl) k1
         ·
          intro hb12 Q1 k1
          refine ps hb12 rfl ?_
          refine ps hb12 rfl ?_
          refine ps hb12 rfl ?_
          refine st (OpT.pickT (A := .cel _ _) (H rfl) (T1 rfl) hb12 Opd.bool rfl) rfl ?_
          exact k1
         refine st (mvT rfl) rfl ?_
         apply AWl.or (d := 241) (t := 233) rfl
         ·
          intro hb13 Q1 k1
          have hb13' := lF hb13
          refine rs hb13 (mvT rfl) rfl ?_
          refine rs hb13 (mvT rfl) rfl ?_
          refine rs hb13 (OpT.eql (H rfl) (T1 rfl) (T1 rfl)) rfl ?_
          refine rs hb13 (mvT rfl) rfl ?_
          refine rs hb13 (mvT rfl) rfl ?_
          refine rs hb13 (OpT.c1 (ms := [.flat, .flat]) (c_spec_A2Has _ _) (H rfl) (Af (T1 rfl) rfl rfl <| Af (T1 rfl) rfl rfl <| An) rfl rfl) rfl ?_
          refine rs hb13 (OpT.bneq (H rfl) Tryd.underlying4 (T1 rfl) (T1 rfl)) rfl ?_
          refine st (OpT.pickF (A := .cel _ _) (H rfl) (T1 rfl) hb13 (T1 rfl) rfl) rfl ?_
          exact AWl.to (junk 7 rfl) k1
         ·
          intro hb13 Q1 k1
          refine ps hb13 rfl ?_
          refine ps hb13 rfl ?_
          refine ps hb13 rfl ?_
          refine ps hb13 rfl ?_
          refine ps hb13 rfl ?_
          refine ps hb13 rfl ?_
          refine ps hb13 rfl ?_
          refine st (OpT.pickT (A := .cel _ _) (H rfl) (T1 rfl) hb13 Opd.bool rfl) rfl ?_
          exact k1
         refine st (mvT rfl) rfl ?_
         apply AWl.or (d := 248) (t := 242) rfl
         ·
          intro hb14 Q1 k1
          have hb14' := lF hb14
          refine rs hb14 (mvT rfl) rfl ?_
          refine rs hb14 (mvT rfl) rfl ?_
          refine rs hb14 (mvT rfl) rfl ?_
          refine rs hb14 (OpT.add (H rfl) (T1 rfl) (T1 rfl) (nw (by omega))) rfl ?_
          refine rs hb14 (OpT.gtr (H rfl) (T1 rfl) (T1 rfl)) rfl ?_
          refine st (OpT.pickF (A := .cel _ _) (H rfl) (T1 rfl) hb14 (T1 rfl) rfl) rfl ?_
          exact AWl.to (junk 5 rfl) k1
         ·
          intro hb14 Q1 k1
          refine ps hb14 rfl ?_
          refine ps hb14 rfl ?_
          refine ps hb14 rfl ?_
          refine ps hb14 rfl ?_
          refine ps hb14 rfl ?_
          refine st (OpT.pickT (A := .cel _ _) (H rfl) (T1 rfl) hb14 Opd.bool rfl) rfl ?_
          exact k1
         refine st (mvT rfl) rfl ?_
         apply AWl.or (d := 253) (t := 249) rfl
         ·
          intro hb15 Q1 k1
          have hb15' := lF hb15
          refine rs hb15 (mvT rfl) rfl ?_
          refine rs hb15 (mvT rfl) rfl ?_
          refine rs hb15 (OpT.bneq (H rfl) Tryd.underlying4 (T1 rfl) (T1 rfl)) rfl ?_
          refine st (OpT.pickF (A := .cel _ _) (H rfl) (T1 rfl) hb15 (T1 rfl) rfl) rfl ?_
          exact AWl.to (junk 3 rfl) k1
         ·
          intro hb15 Q1 k1
          refine ps hb15 rfl ?_
          refine ps hb15 rfl ?_
          refine ps hb15 rfl ?_
          refine st (OpT.pickT (A := .cel _ _) (H rfl) (T1 rfl) hb15 Opd.bool rfl) rfl ?_
          exact k1
         refine ng ?_
         refine cd rfl (fun hc10 => ?_) fun hc10 => ?_
         ·
          obtain ⟨hc10, hc10'⟩ := pT hc10
          exact (show False from (by have htd := tld_end (l := (dupS d).1) (v := (i : Int)) (z := u) (by omega); have hn4 := hno.2.2.2.1; have hn6 := hno.2.2.2.2.2.1; have hn7 := hno.2.2.2.2.2.2; simp [hno.2.1, hno.2.2.1, hno.2.2.2.2.1, htd, ← hn7] at hc10; omega)).elim
         ·
          obtain ⟨hc10, hc10'⟩ := pF hc10
          refine AW.skip ?_
          refine AX.normal_block ?_
          refine AX.go ?_
          refine AW.region ?_
          refine st (mvT rfl) rfl ?_
          refine st (OpT.add (H rfl) (T1 rfl) (I rfl) (nw (by omega))) rfl ?_
          refine st (asT rfl) rfl ?_
          refine nn ?_
          exact AX.again (i + 1) (by omega) (by omega) (Kc 6 _ (Kv rfl rfl) <| Kc 7 _ (Kb rfl rfl) <| Kc 8 _ (Kb rfl rfl) <| Kc 9 _ (Kv rfl rfl) <| Kc 15 _ (Kv rfl rfl) <| Kc 16 _ (Kv rfl rfl) <| Kc 17 _ (Kv rfl rfl) <| Kc 21 _ (Kv rfl rfl) <| Kc 24 _ (Kv rfl (by omega)) <| Kn)
      ·
       obtain ⟨hc7, hc7'⟩ := pF hc7
       refine AW.exit ?_
       refine xT <| xT <| AX.exit_hit ?_
       refine AX.pr (kc 15 rfl <| Kn) ?_
       refine AX.go ?_
       refine sr ?_
       refine st (mvT rfl) rfl ?_
       refine st (OpT.eql (H rfl) (T1 rfl) (I rfl)) rfl ?_
       refine st (asT rfl) rfl ?_
       refine ng ?_
       refine AW.ret ?_
       exact rt1 rfl (.inl rfl) (by first | rfl | (have hnn := near_nil hD.1 hmb (by omega); simp [hnn.1, hnn.2]; done) | (have hnn := near_some hD.1 hmb (by omega); simp [hnn]))
end Go.Proofs.YtohcpnobmknglaaDoor.VL
