/- Proved here: what some functions of the program take and give: walks with the words of VA..VQ. Printed by program. -/
import Derived.Test.YtohcpnobmknglaaGreatDoorWT
import Derived.Test.YtohcpnobmknglaaGreatDoorPZS
import Derived.Test.YtohcpnobmknglaaGreatDoorBpa
import Derived.Test.YtohcpnobmknglaaGreatDoorWA
set_option linter.unusedVariables false
set_option linter.unusedSimpArgs false
set_option maxRecDepth 4000
namespace Go.Proofs.YtohcpnobmknglaaGreatDoor.VL
open Go
/-- spec.BestSize -/
theorem c_spec_BestSize (p w a m k : Int) : AC Tryz.prog 24 [.cel (Kd.int .i64) p, .cel (Kd.int .i64) w, .cel (Kd.int .i64) a, .cel (Kd.int .i64) m, .cel (Kd.int .i64) k] [.cel (Kd.int .i64) (bsS p w a m k).1, .cel (Kd.int .i64) (bsS p w a m k).2] [] := by
 refine acI (N := 52) Tryz.func24 (Nat.le_of_ble_eq_true rfl) rfl fun w0 hd s0 ar => ?_
 refine AW.to (kc4 0 1 2 3 rfl <| kc 4 rfl <| Kn) ?_
 refine sr ?_
 refine st (asI rfl) rfl ?_
 refine st (asI rfl) rfl ?_
 refine ng ?_
 refine AW.seq ?_
 refine sr ?_
 refine st (mvT rfl) rfl ?_
 refine st (OpT.c1 (ms := [.flat, .flat, .flat]) (c_spec_l00In _ _ _) (H rfl) (Af (T1 rfl) rfl rfl <| Af (I rfl) rfl rfl <| Af (I rfl) rfl rfl <| An) rfl rfl) rfl ?_
 refine st (OpT.not (H rfl) (T1 rfl)) rfl ?_
 refine st (mvT rfl) rfl ?_
 apply AWl.or (d := 20) (t := 16) rfl
 ·
  intro hb1 Q1 k1
  have hb1' := lF hb1
  refine rs hb1 (mvT rfl) rfl ?_
  refine rs hb1 (OpT.c1 (ms := [.flat, .flat, .flat]) (c_spec_l00In _ _ _) (H rfl) (Af (T1 rfl) rfl rfl <| Af (I rfl) rfl rfl <| Af (I rfl) rfl rfl <| An) rfl rfl) rfl ?_
  refine rs hb1 (OpT.not (H rfl) (T1 rfl)) rfl ?_
  refine st (OpT.pickF (A := .cel _ _) (H rfl) (T1 rfl) hb1 (T1 rfl) rfl) rfl ?_
  exact AWl.to (junk 3 rfl) k1
 ·
  intro hb1 Q1 k1
  refine ps hb1 rfl ?_
  refine ps hb1 rfl ?_
  refine ps hb1 rfl ?_
  refine st (OpT.pickT (A := .cel _ _) (H rfl) (T1 rfl) hb1 Opd.bool rfl) rfl ?_
  exact k1
 refine st (mvT rfl) rfl ?_
 apply AWl.or (d := 25) (t := 21) rfl
 ·
  intro hb2 Q1 k1
  have hb2' := lF hb2
  refine rs hb2 (mvT rfl) rfl ?_
  refine rs hb2 (OpT.c1 (ms := [.flat, .flat, .flat]) (c_spec_l00In _ _ _) (H rfl) (Af (T1 rfl) rfl rfl <| Af (I rfl) rfl rfl <| Af (I rfl) rfl rfl <| An) rfl rfl) rfl ?_
  refine rs hb2 (OpT.not (H rfl) (T1 rfl)) rfl ?_
  refine st (OpT.pickF (A := .cel _ _) (H rfl) (T1 rfl) hb2 (T1 rfl) rfl) rfl ?_
  exact AWl.to (junk 3 rfl) k1
 ·
  intro hb2 Q1 k1
  refine ps hb2 rfl ?_
  refine ps hb2 rfl ?_
  refine ps hb2 rfl ?_
  refine st (OpT.pickT (A := .cel _ _) (H rfl) (T1 rfl) hb2 Opd.bool rfl) rfl ?_
  exact k1
 refine st (mvT rfl) rfl ?_
 apply AWl.or (d := 30) (t := 26) rfl
 ·
  intro hb3 Q1 k1
  have hb3' := lF hb3
  refine rs hb3 (mvT rfl) rfl ?_
  refine rs hb3 (OpT.c1 (ms := [.flat, .flat, .flat]) (c_spec_l00In _ _ _) (H rfl) (Af (T1 rfl) rfl rfl <| Af (I rfl) rfl rfl <| Af (I rfl) rfl rfl <| An) rfl rfl) rfl ?_
  refine rs hb3 (OpT.not (H rfl) (T1 rfl)) rfl ?_
  refine st (OpT.pickF (A := .cel _ _) (H rfl) (T1 rfl) hb3 (T1 rfl) rfl) rfl ?_
  exact AWl.to (junk 3 rfl) k1
 ·
  intro hb3 Q1 k1
  refine ps hb3 rfl ?_
  refine ps hb3 rfl ?_
  refine ps hb3 rfl ?_
  refine st (OpT.pickT (A := .cel _ _) (H rfl) (T1 rfl) hb3 Opd.bool rfl) rfl ?_
  exact k1
 refine st (mvT rfl) rfl ?_
 apply AWl.or (d := 35) (t := 31) rfl
 ·
  intro hb4 Q1 k1
  have hb4' := lF hb4
  refine rs hb4 (mvT rfl) rfl ?_
  refine rs hb4 (OpT.c1 (ms := [.flat, .flat, .flat]) (c_spec_l00In _ _ _) (H rfl) (Af (T1 rfl) rfl rfl <| Af (I rfl) rfl rfl <| Af (I rfl) rfl rfl <| An) rfl rfl) rfl ?_
  refine rs hb4 (OpT.not (H rfl) (T1 rfl)) rfl ?_
  refine st (OpT.pickF (A := .cel _ _) (H rfl) (T1 rfl) hb4 (T1 rfl) rfl) rfl ?_
  exact AWl.to (junk 3 rfl) k1
 ·
  intro hb4 Q1 k1
  refine ps hb4 rfl ?_
  refine ps hb4 rfl ?_
  refine ps hb4 rfl ?_
  refine st (OpT.pickT (A := .cel _ _) (H rfl) (T1 rfl) hb4 Opd.bool rfl) rfl ?_
  exact k1
 refine ng ?_
 refine cd rfl (fun hc1 => ?_) fun hc1 => ?_
 ·
  obtain ⟨hc1, hc1'⟩ := pT hc1
  have hbo : ¬ bsOK p w a m k := fun h9 => by unfold bsOK at h9; (try simp [inb] at hc1'); omega
  refine sr ?_
  refine st (asI rfl) rfl ?_
  refine st (asI rfl) rfl ?_
  refine AWl.to (kc4 11 10 0 1 rfl <| kc3 2 3 4 rfl <| Kn) ?_
  refine ng ?_
  refine AW.ret ?_
  refine rT ?_
  exact rt2 rfl (.inl rfl) (by first | (rw [bsS_bad hbo]; done) | (rw [bsS_yes hbo hI.2 (by omega) (by omega) (by omega)]; done) | (rw [bsS_end hbo hI.2 (by omega)]; done)) (by first | (rw [bsS_bad hbo]; done) | (rw [bsS_yes hbo hI.2 (by omega) (by omega) (by omega)]; done) | (rw [bsS_end hbo hI.2 (by omega)]; done))
 ·
  obtain ⟨hc1, hc1'⟩ := pF hc1
  have hbo : bsOK p w a m k := by unfold bsOK; (try simp [inb] at hc1'); omega
  have hbp := hbo
  unfold bsOK at hbp
  refine AW.skip ?_
  refine AX.pr (kc4 11 10 0 1 rfl <| kc3 2 3 4 rfl <| Kn) ?_
  refine AX.go ?_
  refine AW.seq ?_
  refine sr ?_
  refine st (mvT rfl) rfl ?_
  refine st (OpT.mul (H rfl) (I rfl) (T1 rfl) (nw (by omega))) rfl ?_
  refine st (OpT.c1 (ms := [.flat, .flat]) (c_spec_l00Max _ _) (H rfl) (Af (I rfl) rfl rfl <| Af (T1 rfl) rfl rfl <| An) rfl rfl) rfl ?_
  refine st (asT rfl) rfl ?_
  refine ng ?_
  refine AW.block ?_
  refine AW.loop (fun z : Nat => z ≤ 93 ∧ bs p w a m k (97 - z) (max 4 (2 * p) + (z : Int)) = bs p w a m k 97 (max 4 (2 * p))) (fun z : Nat => keep [(0, .cel (Kd.int .i64) p), (1, .cel (Kd.int .i64) w), (2, .cel (Kd.int .i64) a), (3, .cel (Kd.int .i64) m), (4, .cel (Kd.int .i64) k), (12, .cel (Kd.int .i64) (max 4 (2 * p) + (z : Int)))]) (fun z : Nat => 97 - z) (0) ⟨Nat.zero_le _, by simp⟩ (Kc 0 _ (Kv rfl rfl) <| Kc 1 _ (Kv rfl rfl) <| Kc 2 _ (Kv rfl rfl) <| Kc 3 _ (Kv rfl rfl) <| Kc 4 _ (Kv rfl rfl) <| Kc 12 _ (Kv rfl (by omega)) <| Kn) ?_
  intro z hI
  refine AW.seq ?_
  refine sr ?_
  refine st (mvT rfl) rfl ?_
  refine st (mvT rfl) rfl ?_
  refine st (OpT.leq (H rfl) (T1 rfl) (T1 rfl)) rfl ?_
  refine ng ?_
  refine cd rfl (fun hc2 => ?_) fun hc2 => ?_
  ·
   obtain ⟨hc2, hc2'⟩ := pT hc2
   refine AW.skip ?_
   refine AX.go ?_
   refine AW.seq ?_
   refine AW.block ?_
   refine sr ?_
   refine st (mvT rfl) rfl ?_
   refine st (mvT rfl) rfl ?_
   refine st (mvT rfl) rfl ?_
   refine st (mvT rfl) rfl ?_
   refine st (OpT.c1 (ms := [.flat, .flat, .flat, .flat]) (c_spec_l06Chance _ _ _ _ (by omega)) (H rfl) (Af (T1 rfl) rfl rfl <| Af (T1 rfl) rfl rfl <| Af (T1 rfl) rfl rfl <| Af (T1 rfl) rfl rfl <| An) rfl rfl) rfl ?_
   refine st (mvT rfl) rfl ?_
   refine st (OpT.leq (H rfl) (T1 rfl) (T1 rfl)) rfl ?_
   refine ng ?_
   refine cd rfl (fun hc3 => ?_) fun hc3 => ?_
   ·
    obtain ⟨hc3, hc3'⟩ := pT hc3
    refine sr ?_
    refine st (mvT rfl) rfl ?_
    refine st (asT rfl) rfl ?_
    refine st (asI rfl) rfl ?_
    refine ng ?_
    refine AW.ret ?_
    refine rK <| rT <| rT <| rK <| rT ?_
    exact rt2 rfl (.inl rfl) (by first | (rw [bsS_bad hbo]; done) | (rw [bsS_yes hbo hI.2 (by omega) (by omega) (by omega)]; done) | (rw [bsS_end hbo hI.2 (by omega)]; done)) (by first | (rw [bsS_bad hbo]; done) | (rw [bsS_yes hbo hI.2 (by omega) (by omega) (by omega)]; done) | (rw [bsS_end hbo hI.2 (by omega)]; done))
   ·
    obtain ⟨hc3, hc3'⟩ := pF hc3
    refine AW.skip ?_
    refine AX.normal_block ?_
    refine AX.go ?_
    refine AW.region ?_
    refine st (mvT rfl) rfl ?_
    refine st (OpT.add (H rfl) (T1 rfl) (I rfl) (nw (by omega))) rfl ?_
    refine st (asT rfl) rfl ?_
    refine nn ?_
    exact AX.again (z + 1) ⟨by omega, bs_next hI.2 (by omega) (by omega) (by omega)⟩ (by omega) (Kc 0 _ (Kv rfl rfl) <| Kc 1 _ (Kv rfl rfl) <| Kc 2 _ (Kv rfl rfl) <| Kc 3 _ (Kv rfl rfl) <| Kc 4 _ (Kv rfl rfl) <| Kc 12 _ (Kv rfl (by omega)) <| Kn)
  ·
   obtain ⟨hc2, hc2'⟩ := pF hc2
   refine AW.exit ?_
   refine xT <| xT <| AX.exit_hit ?_
   refine AX.go ?_
   refine sr ?_
   refine st (asI rfl) rfl ?_
   refine st (asI rfl) rfl ?_
   refine ng ?_
   refine AW.ret ?_
   exact rt2 rfl (.inl rfl) (by first | (rw [bsS_bad hbo]; done) | (rw [bsS_yes hbo hI.2 (by omega) (by omega) (by omega)]; done) | (rw [bsS_end hbo hI.2 (by omega)]; done)) (by first | (rw [bsS_bad hbo]; done) | (rw [bsS_yes hbo hI.2 (by omega) (by omega) (by omega)]; done) | (rw [bsS_end hbo hI.2 (by omega)]; done))

set_option maxHeartbeats 4000000 in
/-- impl.BestSize -/
theorem c_impl_BestSize (p w a m k : Int) : AC Tryz.prog 23 [.cel (Kd.int .i64) p, .cel (Kd.int .i64) w, .cel (Kd.int .i64) a, .cel (Kd.int .i64) m, .cel (Kd.int .i64) k] [.cel (Kd.int .i64) (bsS p w a m k).1, .cel (Kd.int .i64) (bsS p w a m k).2] [] := by
 refine acI (N := 67) Tryz.func23 (Nat.le_of_ble_eq_true rfl) rfl fun w0 hd s0 ar => ?_
 refine AW.to (kc4 0 1 2 3 rfl <| kc 4 rfl <| Kn) ?_
 refine sr ?_
 refine st (asI rfl) rfl ?_
 refine st (asI rfl) rfl ?_
 refine ng ?_
 refine AW.seq ?_
 refine sr ?_
 refine st (mvT rfl) rfl ?_
 refine st (OpT.lss (H rfl) (T1 rfl) (I rfl)) rfl ?_
 refine st (mvT rfl) rfl ?_
 apply AWl.or (d := 18) (t := 15) rfl
 ·
  intro hb1 Q1 k1
  have hb1' := lF hb1
  refine rs hb1 (mvT rfl) rfl ?_
  refine rs hb1 (OpT.gtr (H rfl) (T1 rfl) (I rfl)) rfl ?_
  refine st (OpT.pickF (A := .cel _ _) (H rfl) (T1 rfl) hb1 (T1 rfl) rfl) rfl ?_
  exact AWl.to (junk 2 rfl) k1
 ·
  intro hb1 Q1 k1
  refine ps hb1 rfl ?_
  refine ps hb1 rfl ?_
  refine st (OpT.pickT (A := .cel _ _) (H rfl) (T1 rfl) hb1 Opd.bool rfl) rfl ?_
  exact k1
 refine st (mvT rfl) rfl ?_
 apply AWl.or (d := 22) (t := 19) rfl
 ·
  intro hb2 Q1 k1
  have hb2' := lF hb2
  refine rs hb2 (mvT rfl) rfl ?_
  refine rs hb2 (OpT.lss (H rfl) (T1 rfl) (I rfl)) rfl ?_
  refine st (OpT.pickF (A := .cel _ _) (H rfl) (T1 rfl) hb2 (T1 rfl) rfl) rfl ?_
  exact AWl.to (junk 2 rfl) k1
 ·
  intro hb2 Q1 k1
  refine ps hb2 rfl ?_
  refine ps hb2 rfl ?_
  refine st (OpT.pickT (A := .cel _ _) (H rfl) (T1 rfl) hb2 Opd.bool rfl) rfl ?_
  exact k1
 refine st (mvT rfl) rfl ?_
 apply AWl.or (d := 26) (t := 23) rfl
 ·
  intro hb3 Q1 k1
  have hb3' := lF hb3
  refine rs hb3 (mvT rfl) rfl ?_
  refine rs hb3 (OpT.gtr (H rfl) (T1 rfl) (I rfl)) rfl ?_
  refine st (OpT.pickF (A := .cel _ _) (H rfl) (T1 rfl) hb3 (T1 rfl) rfl) rfl ?_
  exact AWl.to (junk 2 rfl) k1
 ·
  intro hb3 Q1 k1
  refine ps hb3 rfl ?_
  refine ps hb3 rfl ?_
  refine st (OpT.pickT (A := .cel _ _) (H rfl) (T1 rfl) hb3 Opd.bool rfl) rfl ?_
  exact k1
 refine st (mvT rfl) rfl ?_
 apply AWl.or (d := 30) (t := 27) rfl
 ·
  intro hb4 Q1 k1
  have hb4' := lF hb4
  refine rs hb4 (mvT rfl) rfl ?_
  refine rs hb4 (OpT.lss (H rfl) (T1 rfl) (I rfl)) rfl ?_
  refine st (OpT.pickF (A := .cel _ _) (H rfl) (T1 rfl) hb4 (T1 rfl) rfl) rfl ?_
  exact AWl.to (junk 2 rfl) k1
 ·
  intro hb4 Q1 k1
  refine ps hb4 rfl ?_
  refine ps hb4 rfl ?_
  refine st (OpT.pickT (A := .cel _ _) (H rfl) (T1 rfl) hb4 Opd.bool rfl) rfl ?_
  exact k1
 refine st (mvT rfl) rfl ?_
 apply AWl.or (d := 34) (t := 31) rfl
 ·
  intro hb5 Q1 k1
  have hb5' := lF hb5
  refine rs hb5 (mvT rfl) rfl ?_
  refine rs hb5 (OpT.gtr (H rfl) (T1 rfl) (I rfl)) rfl ?_
  refine st (OpT.pickF (A := .cel _ _) (H rfl) (T1 rfl) hb5 (T1 rfl) rfl) rfl ?_
  exact AWl.to (junk 2 rfl) k1
 ·
  intro hb5 Q1 k1
  refine ps hb5 rfl ?_
  refine ps hb5 rfl ?_
  refine st (OpT.pickT (A := .cel _ _) (H rfl) (T1 rfl) hb5 Opd.bool rfl) rfl ?_
  exact k1
 refine st (mvT rfl) rfl ?_
 apply AWl.or (d := 38) (t := 35) rfl
 ·
  intro hb6 Q1 k1
  have hb6' := lF hb6
  refine rs hb6 (mvT rfl) rfl ?_
  refine rs hb6 (OpT.lss (H rfl) (T1 rfl) (I rfl)) rfl ?_
  refine st (OpT.pickF (A := .cel _ _) (H rfl) (T1 rfl) hb6 (T1 rfl) rfl) rfl ?_
  exact AWl.to (junk 2 rfl) k1
 ·
  intro hb6 Q1 k1
  refine ps hb6 rfl ?_
  refine ps hb6 rfl ?_
  refine st (OpT.pickT (A := .cel _ _) (H rfl) (T1 rfl) hb6 Opd.bool rfl) rfl ?_
  exact k1
 refine st (mvT rfl) rfl ?_
 apply AWl.or (d := 42) (t := 39) rfl
 ·
  intro hb7 Q1 k1
  have hb7' := lF hb7
  refine rs hb7 (mvT rfl) rfl ?_
  refine rs hb7 (OpT.gtr (H rfl) (T1 rfl) (I rfl)) rfl ?_
  refine st (OpT.pickF (A := .cel _ _) (H rfl) (T1 rfl) hb7 (T1 rfl) rfl) rfl ?_
  exact AWl.to (junk 2 rfl) k1
 ·
  intro hb7 Q1 k1
  refine ps hb7 rfl ?_
  refine ps hb7 rfl ?_
  refine st (OpT.pickT (A := .cel _ _) (H rfl) (T1 rfl) hb7 Opd.bool rfl) rfl ?_
  exact k1
 refine st (mvT rfl) rfl ?_
 apply AWl.or (d := 46) (t := 43) rfl
 ·
  intro hb8 Q1 k1
  have hb8' := lF hb8
  refine rs hb8 (mvT rfl) rfl ?_
  refine rs hb8 (OpT.lss (H rfl) (T1 rfl) (I rfl)) rfl ?_
  refine st (OpT.pickF (A := .cel _ _) (H rfl) (T1 rfl) hb8 (T1 rfl) rfl) rfl ?_
  exact AWl.to (junk 2 rfl) k1
 ·
  intro hb8 Q1 k1
  refine ps hb8 rfl ?_
  refine ps hb8 rfl ?_
  refine st (OpT.pickT (A := .cel _ _) (H rfl) (T1 rfl) hb8 Opd.bool rfl) rfl ?_
  exact k1
 refine st (mvT rfl) rfl ?_
 apply AWl.or (d := 50) (t := 47) rfl
 ·
  intro hb9 Q1 k1
  have hb9' := lF hb9
  refine rs hb9 (mvT rfl) rfl ?_
  refine rs hb9 (OpT.gtr (H rfl) (T1 rfl) (I rfl)) rfl ?_
  refine st (OpT.pickF (A := .cel _ _) (H rfl) (T1 rfl) hb9 (T1 rfl) rfl) rfl ?_
  exact AWl.to (junk 2 rfl) k1
 ·
  intro hb9 Q1 k1
  refine ps hb9 rfl ?_
  refine ps hb9 rfl ?_
  refine st (OpT.pickT (A := .cel _ _) (H rfl) (T1 rfl) hb9 Opd.bool rfl) rfl ?_
  exact k1
 refine AWl.to (kc4 50 11 10 0 rfl <| kc4 1 2 3 4 rfl <| Kn) ?_
 refine ng ?_
 refine cd rfl (fun hc1 => ?_) fun hc1 => ?_
 ·
  obtain ⟨hc1, hc1'⟩ := pT hc1
  have hbo : ¬ bsOK p w a m k := fun h9 => by unfold bsOK at h9; (try simp [inb] at hc1'); omega
  refine sr ?_
  refine st (asI rfl) rfl ?_
  refine st (asI rfl) rfl ?_
  refine ng ?_
  refine AW.ret ?_
  refine rT ?_
  exact rt2 rfl (.inl rfl) (by first | (rw [bsS_bad hbo]; done) | (rw [bsS_yes hbo hI.2 (by omega) (by omega) (by omega)]; done) | (rw [bsS_end hbo hI.2 (by omega)]; done)) (by first | (rw [bsS_bad hbo]; done) | (rw [bsS_yes hbo hI.2 (by omega) (by omega) (by omega)]; done) | (rw [bsS_end hbo hI.2 (by omega)]; done))
 ·
  obtain ⟨hc1, hc1'⟩ := pF hc1
  have hbo : bsOK p w a m k := by unfold bsOK; (try simp [inb] at hc1'); omega
  have hbp := hbo
  unfold bsOK at hbp
  refine AW.skip ?_
  refine AX.go ?_
  refine AW.seq ?_
  refine sr ?_
  refine st (mvT rfl) rfl ?_
  refine st (OpT.mul (H rfl) (I rfl) (T1 rfl) (nw (by omega))) rfl ?_
  refine st (OpT.imax (H rfl) (I rfl) (T1 rfl)) rfl ?_
  refine st (asT rfl) rfl ?_
  refine ng ?_
  refine AW.block ?_
  refine AW.loop (fun z : Nat => z ≤ 93 ∧ bs p w a m k (97 - z) (max 4 (2 * p) + (z : Int)) = bs p w a m k 97 (max 4 (2 * p))) (fun z : Nat => keep [(0, .cel (Kd.int .i64) p), (1, .cel (Kd.int .i64) w), (2, .cel (Kd.int .i64) a), (3, .cel (Kd.int .i64) m), (4, .cel (Kd.int .i64) k), (12, .cel (Kd.int .i64) (max 4 (2 * p) + (z : Int)))]) (fun z : Nat => 97 - z) (0) ⟨Nat.zero_le _, by simp⟩ (Kc 0 _ (Kv rfl rfl) <| Kc 1 _ (Kv rfl rfl) <| Kc 2 _ (Kv rfl rfl) <| Kc 3 _ (Kv rfl rfl) <| Kc 4 _ (Kv rfl rfl) <| Kc 12 _ (Kv rfl (by omega)) <| Kn) ?_
  intro z hI
  refine AW.seq ?_
  refine sr ?_
  refine st (mvT rfl) rfl ?_
  refine st (mvT rfl) rfl ?_
  refine st (OpT.leq (H rfl) (T1 rfl) (T1 rfl)) rfl ?_
  refine ng ?_
  refine cd rfl (fun hc2 => ?_) fun hc2 => ?_
  ·
   obtain ⟨hc2, hc2'⟩ := pT hc2
   refine AW.skip ?_
   refine AX.go ?_
   refine AW.seq ?_
   refine AW.block ?_
   refine sr ?_
   refine st (mvT rfl) rfl ?_
   refine st (mvT rfl) rfl ?_
   refine st (mvT rfl) rfl ?_
   refine st (mvT rfl) rfl ?_
   refine st (OpT.c1 (ms := [.flat, .flat, .flat, .flat]) (c_impl_falseChance _ _ _ _ (by omega)) (H rfl) (Af (T1 rfl) rfl rfl <| Af (T1 rfl) rfl rfl <| Af (T1 rfl) rfl rfl <| Af (T1 rfl) rfl rfl <| An) rfl rfl) rfl ?_
   refine st (mvT rfl) rfl ?_
   refine st (OpT.leq (H rfl) (T1 rfl) (T1 rfl)) rfl ?_
   refine ng ?_
   refine cd rfl (fun hc3 => ?_) fun hc3 => ?_
   ·
    obtain ⟨hc3, hc3'⟩ := pT hc3
    refine sr ?_
    refine st (mvT rfl) rfl ?_
    refine st (asT rfl) rfl ?_
    refine st (asI rfl) rfl ?_
    refine ng ?_
    refine AW.ret ?_
    refine rK <| rT <| rT <| rK <| rT ?_
    exact rt2 rfl (.inl rfl) (by first | (rw [bsS_bad hbo]; done) | (rw [bsS_yes hbo hI.2 (by omega) (by omega) (by omega)]; done) | (rw [bsS_end hbo hI.2 (by omega)]; done)) (by first | (rw [bsS_bad hbo]; done) | (rw [bsS_yes hbo hI.2 (by omega) (by omega) (by omega)]; done) | (rw [bsS_end hbo hI.2 (by omega)]; done))
   ·
    obtain ⟨hc3, hc3'⟩ := pF hc3
    refine AW.skip ?_
    refine AX.normal_block ?_
    refine AX.go ?_
    refine AW.region ?_
    refine st (mvT rfl) rfl ?_
    refine st (OpT.add (H rfl) (T1 rfl) (I rfl) (nw (by omega))) rfl ?_
    refine st (asT rfl) rfl ?_
    refine nn ?_
    exact AX.again (z + 1) ⟨by omega, bs_next hI.2 (by omega) (by omega) (by omega)⟩ (by omega) (Kc 0 _ (Kv rfl rfl) <| Kc 1 _ (Kv rfl rfl) <| Kc 2 _ (Kv rfl rfl) <| Kc 3 _ (Kv rfl rfl) <| Kc 4 _ (Kv rfl rfl) <| Kc 12 _ (Kv rfl (by omega)) <| Kn)
  ·
   obtain ⟨hc2, hc2'⟩ := pF hc2
   refine AW.exit ?_
   refine xT <| xT <| AX.exit_hit ?_
   refine AX.go ?_
   refine sr ?_
   refine st (asI rfl) rfl ?_
   refine st (asI rfl) rfl ?_
   refine ng ?_
   refine AW.ret ?_
   exact rt2 rfl (.inl rfl) (by first | (rw [bsS_bad hbo]; done) | (rw [bsS_yes hbo hI.2 (by omega) (by omega) (by omega)]; done) | (rw [bsS_end hbo hI.2 (by omega)]; done)) (by first | (rw [bsS_bad hbo]; done) | (rw [bsS_yes hbo hI.2 (by omega) (by omega) (by omega)]; done) | (rw [bsS_end hbo hI.2 (by omega)]; done))
end Go.Proofs.YtohcpnobmknglaaGreatDoor.VL
