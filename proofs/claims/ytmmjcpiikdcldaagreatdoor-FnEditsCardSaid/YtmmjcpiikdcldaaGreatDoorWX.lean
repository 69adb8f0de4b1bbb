/- Proved here: what some functions of the program take and give: walks with the words of VA..VQ. Printed by program. -/
import Derived.Test.YtmmjcpiikdcldaaGreatDoorWT
import Derived.Test.YtmmjcpiikdcldaaGreatDoorBpa
import Derived.Test.YtmmjcpiikdcldaaGreatDoorWN
import Derived.Test.YtmmjcpiikdcldaaGreatDoorWK
import Derived.Test.YtmmjcpiikdcldaaGreatDoorWB
import Derived.Test.YtmmjcpiikdcldaaGreatDoorWL
import Derived.Test.YtmmjcpiikdcldaaGreatDoorWP
set_option linter.unusedVariables false
set_option linter.unusedSimpArgs false
set_option maxRecDepth 4000
namespace Go.Proofs.YtmmjcpiikdcldaaGreatDoor.VL
open Go
set_option maxHeartbeats 4000000 in
/-- spec.l07Edit -/
theorem c_spec_l07Edit (e : DEdit) : AC Tryz.prog 111 [.cel (Kd.ptr kEdit) e] [.cel Kd.bool (editB e)] [] := by
 refine acI (N := 53) Tryz.func111 (Nat.le_of_ble_eq_true rfl) rfl fun w0 hd s0 ar => ?_
 refine AW.to (kc 0 rfl <| Kn) ?_
 refine AW.fact (fun a w hr => okEdit (ok_ptr (R_ok (t := 0) rfl hr))) (fun he0 => ?_)
 refine sr ?_
 refine st (asB rfl) rfl ?_
 refine ng ?_
 refine AW.seq ?_
 refine sr ?_
 refine st (mvT rfl) rfl ?_
 refine st (OpT.nilCheck (H rfl) (T1 rfl)) rfl ?_
 refine st (OpT.fieldAddr (H rfl) (T1 rfl) fd63_0 sz60 (by decide) sb63_0) rfl ?_
 refine st (OpT.load (H rfl) (T1 rfl) ag60 rfl) rfl ?_
 refine ng ?_
 refine AW.block ?_
 refine AW.seq ?_
 refine sr ?_
 refine st (OpT.eql (H rfl) (T1 rfl) (I rfl)) rfl ?_
 refine st (asT rfl) rfl ?_
 refine ng ?_
 refine cd rfl (fun hc1 => ?_) fun hc1 => ?_
 ·
  obtain ⟨hc1, hc1'⟩ := pT hc1
  refine AW.skip ?_
  refine AX.go ?_
  refine cd rfl (fun hc2 => ?_) fun hc2 => ?_
  ·
   obtain ⟨hc2, hc2'⟩ := pT hc2
   refine sr ?_
   refine st (mvT rfl) rfl ?_
   refine st (OpT.nilCheck (H rfl) (T1 rfl)) rfl ?_
   refine st (OpT.fieldAddr (H rfl) (T1 rfl) fd63_1 sz9 (by decide) sb63_1) rfl ?_
   refine st (OpT.load (H rfl) (T1 rfl) ag9 rfl) rfl ?_
   refine st (OpT.c1 (ms := [.flat]) (c_spec_l01Name _) (H rfl) (Af (T1 rfl) rfl rfl <| An) rfl rfl) rfl ?_
   refine st (mvT rfl) rfl ?_
   apply AWl.and (d := 21) (t := 15) rfl
   ·
    intro hb1 Q1 k1
    have hb1' := lT hb1
    refine rs hb1 (mvT rfl) rfl ?_
    refine rs hb1 (OpT.nilCheck (H rfl) (T1 rfl)) rfl ?_
    refine rs hb1 (OpT.fieldAddr (H rfl) (T1 rfl) fd63_2 sz61 (by decide) sb63_2) rfl ?_
    refine rs hb1 (OpT.load (H rfl) (T1 rfl) ag61 rfl) rfl ?_
    refine rs hb1 (OpT.eql (H rfl) (T1 rfl) (I rfl)) rfl ?_
    refine st (OpT.pickT (A := .cel _ _) (H rfl) (T1 rfl) hb1 (T1 rfl) rfl) rfl ?_
    exact AWl.to (junk 5 rfl) k1
   ·
    intro hb1 Q1 k1
    refine ps hb1 rfl ?_
    refine ps hb1 rfl ?_
    refine ps hb1 rfl ?_
    refine ps hb1 rfl ?_
    refine ps hb1 rfl ?_
    refine st (OpT.pickF (A := .cel _ _) (H rfl) (T1 rfl) hb1 Opd.bool rfl) rfl ?_
    exact k1
   refine st (mvT rfl) rfl ?_
   apply AWl.and (d := 28) (t := 22) rfl
   ·
    intro hb2 Q1 k1
    have hb2' := lT hb2
    refine rs hb2 (mvT rfl) rfl ?_
    refine rs hb2 (OpT.nilCheck (H rfl) (T1 rfl)) rfl ?_
    refine rs hb2 (OpT.fieldAddr (H rfl) (T1 rfl) fd63_3 sz38 (by decide) sb63_3) rfl ?_
    refine rs hb2 (OpT.loadA (H rfl) (T1 rfl) ag38 sz38) rfl ?_
    refine rs hb2 (OpT.c1 (ms := [.flat]) (c_spec_l01Mask _) (H rfl) (Af (T1 rfl) rfl rfl <| An) rfl rfl) rfl ?_
    refine st (OpT.pickT (A := .cel _ _) (H rfl) (T1 rfl) hb2 (T1 rfl) rfl) rfl ?_
    exact AWl.to (junk 5 rfl) k1
   ·
    intro hb2 Q1 k1
    refine ps hb2 rfl ?_
    refine ps hb2 rfl ?_
    refine ps hb2 rfl ?_
    refine ps hb2 rfl ?_
    refine ps hb2 rfl ?_
    refine st (OpT.pickF (A := .cel _ _) (H rfl) (T1 rfl) hb2 Opd.bool rfl) rfl ?_
    exact k1
   refine st (asT rfl) rfl ?_
   refine AWl.to (kc 2 rfl <| Kn) ?_
   refine ng ?_
   refine AW.ret ?_
   refine rK <| rT ?_
   exact rt1 rfl (.inl rfl) (by first | exact edit_12' (by omega) | exact edit_34' (by omega) (by omega) | exact edit_else (by omega) (by omega))
  ·
   obtain ⟨hc2, hc2'⟩ := pF hc2
   refine AW.seq ?_
   refine sr ?_
   refine st (OpT.eql (H rfl) (T1 rfl) (I rfl)) rfl ?_
   refine st (asT rfl) rfl ?_
   refine ng ?_
   refine cd rfl (fun hc3 => ?_) fun hc3 => ?_
   ·
    obtain ⟨hc3, hc3'⟩ := pT hc3
    refine AW.skip ?_
    refine AX.go ?_
    refine cd rfl (fun hc4 => ?_) fun hc4 => ?_
    ·
     obtain ⟨hc4, hc4'⟩ := pT hc4
     refine sr ?_
     refine st (mvT rfl) rfl ?_
     refine st (OpT.nilCheck (H rfl) (T1 rfl)) rfl ?_
     refine st (OpT.fieldAddr (H rfl) (T1 rfl) fd63_1 sz9 (by decide) sb63_1) rfl ?_
     refine st (OpT.load (H rfl) (T1 rfl) ag9 rfl) rfl ?_
     refine st (OpT.c1 (ms := [.flat]) (c_spec_l01Name _) (H rfl) (Af (T1 rfl) rfl rfl <| An) rfl rfl) rfl ?_
     refine st (mvT rfl) rfl ?_
     apply AWl.and (d := 44) (t := 37) rfl
     ·
      intro hb3 Q1 k1
      have hb3' := lT hb3
      refine rs hb3 (mvT rfl) rfl ?_
      refine rs hb3 (OpT.nilCheck (H rfl) (T1 rfl)) rfl ?_
      refine rs hb3 (OpT.fieldAddr (H rfl) (T1 rfl) fd63_2 sz61 (by decide) sb63_2) rfl ?_
      refine rs hb3 (OpT.load (H rfl) (T1 rfl) ag61 rfl) rfl ?_
      refine rs hb3 (OpT.conv (H rfl) us61 Tryz.underlying2 (T1 rfl) (nw (by omega))) rfl ?_
      refine rs hb3 (OpT.c1 (ms := [.flat]) (c_spec_l01Hole _) (H rfl) (Af (T1 rfl) rfl rfl <| An) rfl rfl) rfl ?_
      refine st (OpT.pickT (A := .cel _ _) (H rfl) (T1 rfl) hb3 (T1 rfl) rfl) rfl ?_
      exact AWl.to (junk 6 rfl) k1
     ·
      intro hb3 Q1 k1
      refine ps hb3 rfl ?_
      refine ps hb3 rfl ?_
      refine ps hb3 rfl ?_
      refine ps hb3 rfl ?_
      refine ps hb3 rfl ?_
      refine ps hb3 rfl ?_
      refine st (OpT.pickF (A := .cel _ _) (H rfl) (T1 rfl) hb3 Opd.bool rfl) rfl ?_
      exact k1
     refine st (mvT rfl) rfl ?_
     apply AWl.and (d := 52) (t := 45) rfl
     ·
      intro hb4 Q1 k1
      have hb4' := lT hb4
      refine rs hb4 (mvT rfl) rfl ?_
      refine rs hb4 (OpT.nilCheck (H rfl) (T1 rfl)) rfl ?_
      refine rs hb4 (OpT.fieldAddr (H rfl) (T1 rfl) fd63_3 sz38 (by decide) sb63_3) rfl ?_
      refine rs hb4 (OpT.loadA (H rfl) (T1 rfl) ag38 sz38) rfl ?_
      refine rs hb4 (OpT.buildA (H rfl) ar38 sz36 zr38 zk38 (Built.nil _)) rfl ?_
      refine rs hb4 (OpT.eqA (H rfl) (T1 rfl) (T1 rfl) eq38 ag38 rfl eg38) rfl ?_
      refine st (OpT.pickT (A := .cel _ _) (H rfl) (T1 rfl) hb4 (T1 rfl) rfl) rfl ?_
      exact AWl.to (junk 6 rfl) k1
     ·
      intro hb4 Q1 k1
      refine ps hb4 rfl ?_
      refine ps hb4 rfl ?_
      refine ps hb4 rfl ?_
      refine ps hb4 rfl ?_
      refine ps hb4 rfl ?_
      refine ps hb4 rfl ?_
      refine st (OpT.pickF (A := .cel _ _) (H rfl) (T1 rfl) hb4 Opd.bool rfl) rfl ?_
      exact k1
     refine st (asT rfl) rfl ?_
     refine AWl.to (kc 2 rfl <| Kn) ?_
     refine ng ?_
     refine AW.ret ?_
     refine rK <| rT ?_
     exact rt1 rfl (.inl rfl) (by first | exact edit_12' (by omega) | exact edit_34' (by omega) (by omega) | exact edit_else (by omega) (by omega))
    ·
     obtain ⟨hc4, hc4'⟩ := pF hc4
     refine AW.skip ?_
     refine AX.normal_block ?_
     refine AX.go ?_
     refine sr ?_
     refine st (asB rfl) rfl ?_
     refine ng ?_
     refine AW.ret ?_
     exact rt1 rfl (.inl rfl) (by first | exact edit_12' (by omega) | exact edit_34' (by omega) (by omega) | exact edit_else (by omega) (by omega))
   ·
    obtain ⟨hc3, hc3'⟩ := pF hc3
    refine AW.region ?_
    refine st (OpT.eql (H rfl) (T1 rfl) (I rfl)) rfl ?_
    refine st (asT rfl) rfl ?_
    refine ng ?_
    refine cd rfl (fun hc5 => ?_) fun hc5 => ?_
    ·
     obtain ⟨hc5, hc5'⟩ := pT hc5
     refine sr ?_
     refine st (mvT rfl) rfl ?_
     refine st (OpT.nilCheck (H rfl) (T1 rfl)) rfl ?_
     refine st (OpT.fieldAddr (H rfl) (T1 rfl) fd63_1 sz9 (by decide) sb63_1) rfl ?_
     refine st (OpT.load (H rfl) (T1 rfl) ag9 rfl) rfl ?_
     refine st (OpT.c1 (ms := [.flat]) (c_spec_l01Name _) (H rfl) (Af (T1 rfl) rfl rfl <| An) rfl rfl) rfl ?_
     refine st (mvT rfl) rfl ?_
     apply AWl.and (d := 44) (t := 37) rfl
     ·
      intro hb5 Q1 k1
      have hb5' := lT hb5
      refine rs hb5 (mvT rfl) rfl ?_
      refine rs hb5 (OpT.nilCheck (H rfl) (T1 rfl)) rfl ?_
      refine rs hb5 (OpT.fieldAddr (H rfl) (T1 rfl) fd63_2 sz61 (by decide) sb63_2) rfl ?_
      refine rs hb5 (OpT.load (H rfl) (T1 rfl) ag61 rfl) rfl ?_
      refine rs hb5 (OpT.conv (H rfl) us61 Tryz.underlying2 (T1 rfl) (nw (by omega))) rfl ?_
      refine rs hb5 (OpT.c1 (ms := [.flat]) (c_spec_l01Hole _) (H rfl) (Af (T1 rfl) rfl rfl <| An) rfl rfl) rfl ?_
      refine st (OpT.pickT (A := .cel _ _) (H rfl) (T1 rfl) hb5 (T1 rfl) rfl) rfl ?_
      exact AWl.to (junk 6 rfl) k1
     ·
      intro hb5 Q1 k1
      refine ps hb5 rfl ?_
      refine ps hb5 rfl ?_
      refine ps hb5 rfl ?_
      refine ps hb5 rfl ?_
      refine ps hb5 rfl ?_
      refine ps hb5 rfl ?_
      refine st (OpT.pickF (A := .cel _ _) (H rfl) (T1 rfl) hb5 Opd.bool rfl) rfl ?_
      exact k1
     refine st (mvT rfl) rfl ?_
     apply AWl.and (d := 52) (t := 45) rfl
     ·
      intro hb6 Q1 k1
      have hb6' := lT hb6
      refine rs hb6 (mvT rfl) rfl ?_
      refine rs hb6 (OpT.nilCheck (H rfl) (T1 rfl)) rfl ?_
      refine rs hb6 (OpT.fieldAddr (H rfl) (T1 rfl) fd63_3 sz38 (by decide) sb63_3) rfl ?_
      refine rs hb6 (OpT.loadA (H rfl) (T1 rfl) ag38 sz38) rfl ?_
      refine rs hb6 (OpT.buildA (H rfl) ar38 sz36 zr38 zk38 (Built.nil _)) rfl ?_
      refine rs hb6 (OpT.eqA (H rfl) (T1 rfl) (T1 rfl) eq38 ag38 rfl eg38) rfl ?_
      refine st (OpT.pickT (A := .cel _ _) (H rfl) (T1 rfl) hb6 (T1 rfl) rfl) rfl ?_
      exact AWl.to (junk 6 rfl) k1
     ·
      intro hb6 Q1 k1
      refine ps hb6 rfl ?_
      refine ps hb6 rfl ?_
      refine ps hb6 rfl ?_
      refine ps hb6 rfl ?_
      refine ps hb6 rfl ?_
      refine ps hb6 rfl ?_
      refine st (OpT.pickF (A := .cel _ _) (H rfl) (T1 rfl) hb6 Opd.bool rfl) rfl ?_
      exact k1
     refine st (asT rfl) rfl ?_
     refine AWl.to (kc 2 rfl <| Kn) ?_
     refine ng ?_
     refine AW.ret ?_
     refine rK <| rT ?_
     exact rt1 rfl (.inl rfl) (by first | exact edit_12' (by omega) | exact edit_34' (by omega) (by omega) | exact edit_else (by omega) (by omega))
    ·
     obtain ⟨hc5, hc5'⟩ := pF hc5
     refine AW.skip ?_
     refine AX.normal_block ?_
     refine AX.pr (kc 2 rfl <| Kn) ?_
     refine AX.go ?_
     refine sr ?_
     refine st (asB rfl) rfl ?_
     refine ng ?_
     refine AW.ret ?_
     exact rt1 rfl (.inl rfl) (by first | exact edit_12' (by omega) | exact edit_34' (by omega) (by omega) | exact edit_else (by omega) (by omega))
 ·
  obtain ⟨hc1, hc1'⟩ := pF hc1
  refine AW.region ?_
  refine st (OpT.eql (H rfl) (T1 rfl) (I rfl)) rfl ?_
  refine st (asT rfl) rfl ?_
  refine ng ?_
  refine cd rfl (fun hc6 => ?_) fun hc6 => ?_
  ·
   obtain ⟨hc6, hc6'⟩ := pT hc6
   refine sr ?_
   refine st (mvT rfl) rfl ?_
   refine st (OpT.nilCheck (H rfl) (T1 rfl)) rfl ?_
   refine st (OpT.fieldAddr (H rfl) (T1 rfl) fd63_1 sz9 (by decide) sb63_1) rfl ?_
   refine st (OpT.load (H rfl) (T1 rfl) ag9 rfl) rfl ?_
   refine st (OpT.c1 (ms := [.flat]) (c_spec_l01Name _) (H rfl) (Af (T1 rfl) rfl rfl <| An) rfl rfl) rfl ?_
   refine st (mvT rfl) rfl ?_
   apply AWl.and (d := 21) (t := 15) rfl
   ·
    intro hb7 Q1 k1
    have hb7' := lT hb7
    refine rs hb7 (mvT rfl) rfl ?_
    refine rs hb7 (OpT.nilCheck (H rfl) (T1 rfl)) rfl ?_
    refine rs hb7 (OpT.fieldAddr (H rfl) (T1 rfl) fd63_2 sz61 (by decide) sb63_2) rfl ?_
    refine rs hb7 (OpT.load (H rfl) (T1 rfl) ag61 rfl) rfl ?_
    refine rs hb7 (OpT.eql (H rfl) (T1 rfl) (I rfl)) rfl ?_
    refine st (OpT.pickT (A := .cel _ _) (H rfl) (T1 rfl) hb7 (T1 rfl) rfl) rfl ?_
    exact AWl.to (junk 5 rfl) k1
   ·
    intro hb7 Q1 k1
    refine ps hb7 rfl ?_
    refine ps hb7 rfl ?_
    refine ps hb7 rfl ?_
    refine ps hb7 rfl ?_
    refine ps hb7 rfl ?_
    refine st (OpT.pickF (A := .cel _ _) (H rfl) (T1 rfl) hb7 Opd.bool rfl) rfl ?_
    exact k1
   refine st (mvT rfl) rfl ?_
   apply AWl.and (d := 28) (t := 22) rfl
   ·
    intro hb8 Q1 k1
    have hb8' := lT hb8
    refine rs hb8 (mvT rfl) rfl ?_
    refine rs hb8 (OpT.nilCheck (H rfl) (T1 rfl)) rfl ?_
    refine rs hb8 (OpT.fieldAddr (H rfl) (T1 rfl) fd63_3 sz38 (by decide) sb63_3) rfl ?_
    refine rs hb8 (OpT.loadA (H rfl) (T1 rfl) ag38 sz38) rfl ?_
    refine rs hb8 (OpT.c1 (ms := [.flat]) (c_spec_l01Mask _) (H rfl) (Af (T1 rfl) rfl rfl <| An) rfl rfl) rfl ?_
    refine st (OpT.pickT (A := .cel _ _) (H rfl) (T1 rfl) hb8 (T1 rfl) rfl) rfl ?_
    exact AWl.to (junk 5 rfl) k1
   ·
    intro hb8 Q1 k1
    refine ps hb8 rfl ?_
    refine ps hb8 rfl ?_
    refine ps hb8 rfl ?_
    refine ps hb8 rfl ?_
    refine ps hb8 rfl ?_
    refine st (OpT.pickF (A := .cel _ _) (H rfl) (T1 rfl) hb8 Opd.bool rfl) rfl ?_
    exact k1
   refine st (asT rfl) rfl ?_
   refine AWl.to (kc 2 rfl <| Kn) ?_
   refine ng ?_
   refine AW.ret ?_
   refine rK <| rT ?_
   exact rt1 rfl (.inl rfl) (by first | exact edit_12' (by omega) | exact edit_34' (by omega) (by omega) | exact edit_else (by omega) (by omega))
  ·
   obtain ⟨hc6, hc6'⟩ := pF hc6
   refine AW.seq ?_
   refine sr ?_
   refine st (OpT.eql (H rfl) (T1 rfl) (I rfl)) rfl ?_
   refine st (asT rfl) rfl ?_
   refine ng ?_
   refine cd rfl (fun hc7 => ?_) fun hc7 => ?_
   ·
    obtain ⟨hc7, hc7'⟩ := pT hc7
    refine AW.skip ?_
    refine AX.go ?_
    refine cd rfl (fun hc8 => ?_) fun hc8 => ?_
    ·
     obtain ⟨hc8, hc8'⟩ := pT hc8
     refine sr ?_
     refine st (mvT rfl) rfl ?_
     refine st (OpT.nilCheck (H rfl) (T1 rfl)) rfl ?_
     refine st (OpT.fieldAddr (H rfl) (T1 rfl) fd63_1 sz9 (by decide) sb63_1) rfl ?_
     refine st (OpT.load (H rfl) (T1 rfl) ag9 rfl) rfl ?_
     refine st (OpT.c1 (ms := [.flat]) (c_spec_l01Name _) (H rfl) (Af (T1 rfl) rfl rfl <| An) rfl rfl) rfl ?_
     refine st (mvT rfl) rfl ?_
     apply AWl.and (d := 44) (t := 37) rfl
     ·
      intro hb9 Q1 k1
      have hb9' := lT hb9
      refine rs hb9 (mvT rfl) rfl ?_
      refine rs hb9 (OpT.nilCheck (H rfl) (T1 rfl)) rfl ?_
      refine rs hb9 (OpT.fieldAddr (H rfl) (T1 rfl) fd63_2 sz61 (by decide) sb63_2) rfl ?_
      refine rs hb9 (OpT.load (H rfl) (T1 rfl) ag61 rfl) rfl ?_
      refine rs hb9 (OpT.conv (H rfl) us61 Tryz.underlying2 (T1 rfl) (nw (by omega))) rfl ?_
      refine rs hb9 (OpT.c1 (ms := [.flat]) (c_spec_l01Hole _) (H rfl) (Af (T1 rfl) rfl rfl <| An) rfl rfl) rfl ?_
      refine st (OpT.pickT (A := .cel _ _) (H rfl) (T1 rfl) hb9 (T1 rfl) rfl) rfl ?_
      exact AWl.to (junk 6 rfl) k1
     ·
      intro hb9 Q1 k1
      refine ps hb9 rfl ?_
      refine ps hb9 rfl ?_
      refine ps hb9 rfl ?_
      refine ps hb9 rfl ?_
      refine ps hb9 rfl ?_
      refine ps hb9 rfl ?_
      refine st (OpT.pickF (A := .cel _ _) (H rfl) (T1 rfl) hb9 Opd.bool rfl) rfl ?_
      exact k1
     refine st (mvT rfl) rfl ?_
     apply AWl.and (d := 52) (t := 45) rfl
     ·
      intro hb10 Q1 k1
      have hb10' := lT hb10
      refine rs hb10 (mvT rfl) rfl ?_
      refine rs hb10 (OpT.nilCheck (H rfl) (T1 rfl)) rfl ?_
      refine rs hb10 (OpT.fieldAddr (H rfl) (T1 rfl) fd63_3 sz38 (by decide) sb63_3) rfl ?_
      refine rs hb10 (OpT.loadA (H rfl) (T1 rfl) ag38 sz38) rfl ?_
      refine rs hb10 (OpT.buildA (H rfl) ar38 sz36 zr38 zk38 (Built.nil _)) rfl ?_
      refine rs hb10 (OpT.eqA (H rfl) (T1 rfl) (T1 rfl) eq38 ag38 rfl eg38) rfl ?_
      refine st (OpT.pickT (A := .cel _ _) (H rfl) (T1 rfl) hb10 (T1 rfl) rfl) rfl ?_
      exact AWl.to (junk 6 rfl) k1
     ·
      intro hb10 Q1 k1
      refine ps hb10 rfl ?_
      refine ps hb10 rfl ?_
      refine ps hb10 rfl ?_
      refine ps hb10 rfl ?_
      refine ps hb10 rfl ?_
      refine ps hb10 rfl ?_
      refine st (OpT.pickF (A := .cel _ _) (H rfl) (T1 rfl) hb10 Opd.bool rfl) rfl ?_
      exact k1
     refine st (asT rfl) rfl ?_
     refine AWl.to (kc 2 rfl <| Kn) ?_
     refine ng ?_
     refine AW.ret ?_
     refine rK <| rT ?_
     exact rt1 rfl (.inl rfl) (by first | exact edit_12' (by omega) | exact edit_34' (by omega) (by omega) | exact edit_else (by omega) (by omega))
    ·
     obtain ⟨hc8, hc8'⟩ := pF hc8
     refine AW.skip ?_
     refine AX.normal_block ?_
     refine AX.pr (kc 2 rfl <| Kn) ?_
     refine AX.go ?_
     refine sr ?_
     refine st (asB rfl) rfl ?_
     refine ng ?_
     refine AW.ret ?_
     exact rt1 rfl (.inl rfl) (by first | exact edit_12' (by omega) | exact edit_34' (by omega) (by omega) | exact edit_else (by omega) (by omega))
   ·
    obtain ⟨hc7, hc7'⟩ := pF hc7
    refine AW.region ?_
    refine st (OpT.eql (H rfl) (T1 rfl) (I rfl)) rfl ?_
    refine st (asT rfl) rfl ?_
    refine AWl.to (kc3 29 2 0 rfl <| Kn) ?_
    refine ng ?_
    refine cd rfl (fun hc9 => ?_) fun hc9 => ?_
    ·
     obtain ⟨hc9, hc9'⟩ := pT hc9
     refine sr ?_
     refine st (mvT rfl) rfl ?_
     refine st (OpT.nilCheck (H rfl) (T1 rfl)) rfl ?_
     refine st (OpT.fieldAddr (H rfl) (T1 rfl) fd63_1 sz9 (by decide) sb63_1) rfl ?_
     refine st (OpT.load (H rfl) (T1 rfl) ag9 rfl) rfl ?_
     refine st (OpT.c1 (ms := [.flat]) (c_spec_l01Name _) (H rfl) (Af (T1 rfl) rfl rfl <| An) rfl rfl) rfl ?_
     refine st (mvT rfl) rfl ?_
     apply AWl.and (d := 44) (t := 37) rfl
     ·
      intro hb11 Q1 k1
      have hb11' := lT hb11
      refine rs hb11 (mvT rfl) rfl ?_
      refine rs hb11 (OpT.nilCheck (H rfl) (T1 rfl)) rfl ?_
      refine rs hb11 (OpT.fieldAddr (H rfl) (T1 rfl) fd63_2 sz61 (by decide) sb63_2) rfl ?_
      refine rs hb11 (OpT.load (H rfl) (T1 rfl) ag61 rfl) rfl ?_
      refine rs hb11 (OpT.conv (H rfl) us61 Tryz.underlying2 (T1 rfl) (nw (by omega))) rfl ?_
      refine rs hb11 (OpT.c1 (ms := [.flat]) (c_spec_l01Hole _) (H rfl) (Af (T1 rfl) rfl rfl <| An) rfl rfl) rfl ?_
      refine st (OpT.pickT (A := .cel _ _) (H rfl) (T1 rfl) hb11 (T1 rfl) rfl) rfl ?_
      exact AWl.to (junk 6 rfl) k1
     ·
      intro hb11 Q1 k1
      refine ps hb11 rfl ?_
      refine ps hb11 rfl ?_
      refine ps hb11 rfl ?_
      refine ps hb11 rfl ?_
      refine ps hb11 rfl ?_
      refine ps hb11 rfl ?_
      refine st (OpT.pickF (A := .cel _ _) (H rfl) (T1 rfl) hb11 Opd.bool rfl) rfl ?_
      exact k1
     refine st (mvT rfl) rfl ?_
     apply AWl.and (d := 52) (t := 45) rfl
     ·
      intro hb12 Q1 k1
      have hb12' := lT hb12
      refine rs hb12 (mvT rfl) rfl ?_
      refine rs hb12 (OpT.nilCheck (H rfl) (T1 rfl)) rfl ?_
      refine rs hb12 (OpT.fieldAddr (H rfl) (T1 rfl) fd63_3 sz38 (by decide) sb63_3) rfl ?_
      refine rs hb12 (OpT.loadA (H rfl) (T1 rfl) ag38 sz38) rfl ?_
      refine rs hb12 (OpT.buildA (H rfl) ar38 sz36 zr38 zk38 (Built.nil _)) rfl ?_
      refine rs hb12 (OpT.eqA (H rfl) (T1 rfl) (T1 rfl) eq38 ag38 rfl eg38) rfl ?_
      refine st (OpT.pickT (A := .cel _ _) (H rfl) (T1 rfl) hb12 (T1 rfl) rfl) rfl ?_
      exact AWl.to (junk 6 rfl) k1
     ·
      intro hb12 Q1 k1
      refine ps hb12 rfl ?_
      refine ps hb12 rfl ?_
      refine ps hb12 rfl ?_
      refine ps hb12 rfl ?_
      refine ps hb12 rfl ?_
      refine ps hb12 rfl ?_
      refine st (OpT.pickF (A := .cel _ _) (H rfl) (T1 rfl) hb12 Opd.bool rfl) rfl ?_
      exact k1
     refine st (asT rfl) rfl ?_
     refine AWl.to (kc 2 rfl <| Kn) ?_
     refine ng ?_
     refine AW.ret ?_
     refine rK <| rT ?_
     exact rt1 rfl (.inl rfl) (by first | exact edit_12' (by omega) | exact edit_34' (by omega) (by omega) | exact edit_else (by omega) (by omega))
    ·
     obtain ⟨hc9, hc9'⟩ := pF hc9
     refine AW.skip ?_
     refine AX.normal_block ?_
     refine AX.go ?_
     refine sr ?_
     refine st (asB rfl) rfl ?_
     refine ng ?_
     refine AW.ret ?_
     exact rt1 rfl (.inl rfl) (by first | exact edit_12' (by omega) | exact edit_34' (by omega) (by omega) | exact edit_else (by omega) (by omega))

set_option maxHeartbeats 4000000 in
/-- impl.isEdit -/
theorem c_impl_isEdit (e : DEdit) : AC Tryz.prog 72 [.agg kEdit e] [.cel Kd.bool (editB e)] [] := by
 refine acI (N := 33) Tryz.func72 (Nat.le_of_ble_eq_true rfl) rfl fun w0 hd s0 ar => ?_
 refine AW.to (ka 0 rfl <| Kn) ?_
 refine AW.fact (fun a w hr => okEdit (R_okA (t := 0) rfl hr)) (fun he0 => ?_)
 refine sr ?_
 refine st (OpT.frz (OpT.boxA (E := 63) (H rfl) (T1 rfl))) rfl ?_
 refine st (asB rfl) rfl ?_
 refine ng ?_
 refine AW.seq ?_
 refine sr ?_
 refine st (OpT.fieldAddr (H rfl) (T1 rfl) fd63_1 sz9 (by decide) sb63_1) rfl ?_
 refine st (OpT.load (H rfl) (T1 rfl) ag9 rfl) rfl ?_
 refine st (OpT.c1 (ms := [.flat]) (c_impl_isName _) (H rfl) (Af (T1 rfl) rfl rfl <| An) rfl rfl) rfl ?_
 refine st (OpT.not (H rfl) (T1 rfl)) rfl ?_
 refine ng ?_
 refine cd rfl (fun hc1 => ?_) fun hc1 => ?_
 ·
  obtain ⟨hc1, hc1'⟩ := pT hc1
  have hnm : tt (nameOK e.2.1) = false := by simpa using hc1
  refine sr ?_
  refine st (asB rfl) rfl ?_
  refine ng ?_
  refine AW.ret ?_
  refine rT ?_
  exact rt1 rfl (.inl rfl) (by first | exact edit_no hnm | exact edit_12 hnm (by omega) | exact edit_34 hnm (by omega) (by omega) | exact edit_else (by omega) (by omega))
 ·
  obtain ⟨hc1, hc1'⟩ := pF hc1
  have hnm : tt (nameOK e.2.1) = true := by simpa using hc1
  refine AW.skip ?_
  refine AX.go ?_
  refine AW.seq ?_
  refine sr ?_
  refine st (OpT.fieldAddr (H rfl) (T1 rfl) fd63_0 sz60 (by decide) sb63_0) rfl ?_
  refine st (OpT.load (H rfl) (T1 rfl) ag60 rfl) rfl ?_
  refine ng ?_
  refine AW.block ?_
  refine AW.seq ?_
  refine sr ?_
  refine st (OpT.eql (H rfl) (T1 rfl) (I rfl)) rfl ?_
  refine st (asT rfl) rfl ?_
  refine ng ?_
  refine cd rfl (fun hc2 => ?_) fun hc2 => ?_
  ·
   obtain ⟨hc2, hc2'⟩ := pT hc2
   refine AW.skip ?_
   refine AX.go ?_
   refine cd rfl (fun hc3 => ?_) fun hc3 => ?_
   ·
    obtain ⟨hc3, hc3'⟩ := pT hc3
    refine sr ?_
    refine st (OpT.fieldAddr (H rfl) (T1 rfl) fd63_2 sz61 (by decide) sb63_2) rfl ?_
    refine st (OpT.load (H rfl) (T1 rfl) ag61 rfl) rfl ?_
    refine st (OpT.eql (H rfl) (T1 rfl) (I rfl)) rfl ?_
    refine st (mvT rfl) rfl ?_
    apply AWl.and (d := 19) (t := 15) rfl
    ·
     intro hb1 Q1 k1
     have hb1' := lT hb1
     refine rs hb1 (OpT.fieldAddr (H rfl) (T1 rfl) fd63_3 sz38 (by decide) sb63_3) rfl ?_
     refine rs hb1 (OpT.loadA (H rfl) (T1 rfl) ag38 sz38) rfl ?_
     refine rs hb1 (OpT.c1 (ms := [.flat]) (c_impl_isMask _) (H rfl) (Af (T1 rfl) rfl rfl <| An) rfl rfl) rfl ?_
     refine st (OpT.pickT (A := .cel _ _) (H rfl) (T1 rfl) hb1 (T1 rfl) rfl) rfl ?_
     exact AWl.to (junk 3 rfl) k1
    ·
     intro hb1 Q1 k1
     refine ps hb1 rfl ?_
     refine ps hb1 rfl ?_
     refine ps hb1 rfl ?_
     refine st (OpT.pickF (A := .cel _ _) (H rfl) (T1 rfl) hb1 Opd.bool rfl) rfl ?_
     exact k1
    refine st (asT rfl) rfl ?_
    refine AWl.to (kc 2 rfl <| Kn) ?_
    refine ng ?_
    refine AW.ret ?_
    refine rK <| rT ?_
    exact rt1 rfl (.inl rfl) (by first | exact edit_no hnm | exact edit_12 hnm (by omega) | exact edit_34 hnm (by omega) (by omega) | exact edit_else (by omega) (by omega))
   ·
    obtain ⟨hc3, hc3'⟩ := pF hc3
    refine AW.seq ?_
    refine sr ?_
    refine st (OpT.eql (H rfl) (T1 rfl) (I rfl)) rfl ?_
    refine st (asT rfl) rfl ?_
    refine ng ?_
    refine cd rfl (fun hc4 => ?_) fun hc4 => ?_
    ·
     obtain ⟨hc4, hc4'⟩ := pT hc4
     refine AW.skip ?_
     refine AX.go ?_
     refine cd rfl (fun hc5 => ?_) fun hc5 => ?_
     ·
      obtain ⟨hc5, hc5'⟩ := pT hc5
      refine sr ?_
      refine st (OpT.fieldAddr (H rfl) (T1 rfl) fd63_2 sz61 (by decide) sb63_2) rfl ?_
      refine st (OpT.load (H rfl) (T1 rfl) ag61 rfl) rfl ?_
      refine st (OpT.conv (H rfl) us61 Tryz.underlying2 (T1 rfl) (nw (by omega))) rfl ?_
      refine st (OpT.c1 (ms := [.flat]) (c_impl_isHole _) (H rfl) (Af (T1 rfl) rfl rfl <| An) rfl rfl) rfl ?_
      refine st (mvT rfl) rfl ?_
      apply AWl.and (d := 32) (t := 27) rfl
      ·
       intro hb2 Q1 k1
       have hb2' := lT hb2
       refine rs hb2 (OpT.fieldAddr (H rfl) (T1 rfl) fd63_3 sz38 (by decide) sb63_3) rfl ?_
       refine rs hb2 (OpT.loadA (H rfl) (T1 rfl) ag38 sz38) rfl ?_
       refine rs hb2 (OpT.buildA (H rfl) ar38 sz36 zr38 zk38 (Built.nil _)) rfl ?_
       refine rs hb2 (OpT.eqA (H rfl) (T1 rfl) (T1 rfl) eq38 ag38 rfl eg38) rfl ?_
       refine st (OpT.pickT (A := .cel _ _) (H rfl) (T1 rfl) hb2 (T1 rfl) rfl) rfl ?_
       exact AWl.to (junk 4 rfl) k1
      ·
       intro hb2 Q1 k1
       refine ps hb2 rfl ?_
       refine ps hb2 rfl ?_
       refine ps hb2 rfl ?_
       refine ps hb2 rfl ?_
       refine st (OpT.pickF (A := .cel _ _) (H rfl) (T1 rfl) hb2 Opd.bool rfl) rfl ?_
       exact k1
      refine st (asT rfl) rfl ?_
      refine AWl.to (kc 2 rfl <| Kn) ?_
      refine ng ?_
      refine AW.ret ?_
      refine rK <| rT ?_
      exact rt1 rfl (.inl rfl) (by first | exact edit_no hnm | exact edit_12 hnm (by omega) | exact edit_34 hnm (by omega) (by omega) | exact edit_else (by omega) (by omega))
     ·
      obtain ⟨hc5, hc5'⟩ := pF hc5
      refine AW.skip ?_
      refine AX.normal_block ?_
      refine AX.pr (kc 2 rfl <| Kn) ?_
      refine AX.go ?_
      refine sr ?_
      refine st (asB rfl) rfl ?_
      refine ng ?_
      refine AW.ret ?_
      exact rt1 rfl (.inl rfl) (by first | exact edit_no hnm | exact edit_12 hnm (by omega) | exact edit_34 hnm (by omega) (by omega) | exact edit_else (by omega) (by omega))
    ·
     obtain ⟨hc4, hc4'⟩ := pF hc4
     refine AW.region ?_
     refine st (OpT.eql (H rfl) (T1 rfl) (I rfl)) rfl ?_
     refine st (asT rfl) rfl ?_
     refine AWl.to (kc3 20 2 1 rfl <| Kn) ?_
     refine ng ?_
     refine cd rfl (fun hc6 => ?_) fun hc6 => ?_
     ·
      obtain ⟨hc6, hc6'⟩ := pT hc6
      refine sr ?_
      refine st (OpT.fieldAddr (H rfl) (T1 rfl) fd63_2 sz61 (by decide) sb63_2) rfl ?_
      refine st (OpT.load (H rfl) (T1 rfl) ag61 rfl) rfl ?_
      refine st (OpT.conv (H rfl) us61 Tryz.underlying2 (T1 rfl) (nw (by omega))) rfl ?_
      refine st (OpT.c1 (ms := [.flat]) (c_impl_isHole _) (H rfl) (Af (T1 rfl) rfl rfl <| An) rfl rfl) rfl ?_
      refine st (mvT rfl) rfl ?_
      apply AWl.and (d := 32) (t := 27) rfl
      ·
       intro hb3 Q1 k1
       have hb3' := lT hb3
       refine rs hb3 (OpT.fieldAddr (H rfl) (T1 rfl) fd63_3 sz38 (by decide) sb63_3) rfl ?_
       refine rs hb3 (OpT.loadA (H rfl) (T1 rfl) ag38 sz38) rfl ?_
       refine rs hb3 (OpT.buildA (H rfl) ar38 sz36 zr38 zk38 (Built.nil _)) rfl ?_
       refine rs hb3 (OpT.eqA (H rfl) (T1 rfl) (T1 rfl) eq38 ag38 rfl eg38) rfl ?_
       refine st (OpT.pickT (A := .cel _ _) (H rfl) (T1 rfl) hb3 (T1 rfl) rfl) rfl ?_
       exact AWl.to (junk 4 rfl) k1
      ·
       intro hb3 Q1 k1
       refine ps hb3 rfl ?_
       refine ps hb3 rfl ?_
       refine ps hb3 rfl ?_
       refine ps hb3 rfl ?_
       refine st (OpT.pickF (A := .cel _ _) (H rfl) (T1 rfl) hb3 Opd.bool rfl) rfl ?_
       exact k1
      refine st (asT rfl) rfl ?_
      refine ng ?_
      refine AW.ret ?_
      refine rK <| rT ?_
      exact rt1 rfl (.inl rfl) (by first | exact edit_no hnm | exact edit_12 hnm (by omega) | exact edit_34 hnm (by omega) (by omega) | exact edit_else (by omega) (by omega))
     ·
      obtain ⟨hc6, hc6'⟩ := pF hc6
      refine AW.skip ?_
      refine AX.normal_block ?_
      refine AX.go ?_
      refine sr ?_
      refine st (asB rfl) rfl ?_
      refine ng ?_
      refine AW.ret ?_
      exact rt1 rfl (.inl rfl) (by first | exact edit_no hnm | exact edit_12 hnm (by omega) | exact edit_34 hnm (by omega) (by omega) | exact edit_else (by omega) (by omega))
  ·
   obtain ⟨hc2, hc2'⟩ := pF hc2
   refine AW.region ?_
   refine st (OpT.eql (H rfl) (T1 rfl) (I rfl)) rfl ?_
   refine st (asT rfl) rfl ?_
   refine ng ?_
   refine cd rfl (fun hc7 => ?_) fun hc7 => ?_
   ·
    obtain ⟨hc7, hc7'⟩ := pT hc7
    refine sr ?_
    refine st (OpT.fieldAddr (H rfl) (T1 rfl) fd63_2 sz61 (by decide) sb63_2) rfl ?_
    refine st (OpT.load (H rfl) (T1 rfl) ag61 rfl) rfl ?_
    refine st (OpT.eql (H rfl) (T1 rfl) (I rfl)) rfl ?_
    refine st (mvT rfl) rfl ?_
    apply AWl.and (d := 19) (t := 15) rfl
    ·
     intro hb4 Q1 k1
     have hb4' := lT hb4
     refine rs hb4 (OpT.fieldAddr (H rfl) (T1 rfl) fd63_3 sz38 (by decide) sb63_3) rfl ?_
     refine rs hb4 (OpT.loadA (H rfl) (T1 rfl) ag38 sz38) rfl ?_
     refine rs hb4 (OpT.c1 (ms := [.flat]) (c_impl_isMask _) (H rfl) (Af (T1 rfl) rfl rfl <| An) rfl rfl) rfl ?_
     refine st (OpT.pickT (A := .cel _ _) (H rfl) (T1 rfl) hb4 (T1 rfl) rfl) rfl ?_
     exact AWl.to (junk 3 rfl) k1
    ·
     intro hb4 Q1 k1
     refine ps hb4 rfl ?_
     refine ps hb4 rfl ?_
     refine ps hb4 rfl ?_
     refine st (OpT.pickF (A := .cel _ _) (H rfl) (T1 rfl) hb4 Opd.bool rfl) rfl ?_
     exact k1
    refine st (asT rfl) rfl ?_
    refine AWl.to (kc 2 rfl <| Kn) ?_
    refine ng ?_
    refine AW.ret ?_
    refine rK <| rT ?_
    exact rt1 rfl (.inl rfl) (by first | exact edit_no hnm | exact edit_12 hnm (by omega) | exact edit_34 hnm (by omega) (by omega) | exact edit_else (by omega) (by omega))
   ·
    obtain ⟨hc7, hc7'⟩ := pF hc7
    refine AW.seq ?_
    refine sr ?_
    refine st (OpT.eql (H rfl) (T1 rfl) (I rfl)) rfl ?_
    refine st (asT rfl) rfl ?_
    refine AWl.to (kc4 20 8 2 1 rfl <| Kn) ?_
    refine ng ?_
    refine cd rfl (fun hc8 => ?_) fun hc8 => ?_
    ·
     obtain ⟨hc8, hc8'⟩ := pT hc8
     refine AW.skip ?_
     refine AX.go ?_
     refine cd rfl (fun hc9 => ?_) fun hc9 => ?_
     ·
      obtain ⟨hc9, hc9'⟩ := pT hc9
      refine sr ?_
      refine st (OpT.fieldAddr (H rfl) (T1 rfl) fd63_2 sz61 (by decide) sb63_2) rfl ?_
      refine st (OpT.load (H rfl) (T1 rfl) ag61 rfl) rfl ?_
      refine st (OpT.conv (H rfl) us61 Tryz.underlying2 (T1 rfl) (nw (by omega))) rfl ?_
      refine st (OpT.c1 (ms := [.flat]) (c_impl_isHole _) (H rfl) (Af (T1 rfl) rfl rfl <| An) rfl rfl) rfl ?_
      refine st (mvT rfl) rfl ?_
      apply AWl.and (d := 32) (t := 27) rfl
      ·
       intro hb5 Q1 k1
       have hb5' := lT hb5
       refine rs hb5 (OpT.fieldAddr (H rfl) (T1 rfl) fd63_3 sz38 (by decide) sb63_3) rfl ?_
       refine rs hb5 (OpT.loadA (H rfl) (T1 rfl) ag38 sz38) rfl ?_
       refine rs hb5 (OpT.buildA (H rfl) ar38 sz36 zr38 zk38 (Built.nil _)) rfl ?_
       refine rs hb5 (OpT.eqA (H rfl) (T1 rfl) (T1 rfl) eq38 ag38 rfl eg38) rfl ?_
       refine st (OpT.pickT (A := .cel _ _) (H rfl) (T1 rfl) hb5 (T1 rfl) rfl) rfl ?_
       exact AWl.to (junk 4 rfl) k1
      ·
       intro hb5 Q1 k1
       refine ps hb5 rfl ?_
       refine ps hb5 rfl ?_
       refine ps hb5 rfl ?_
       refine ps hb5 rfl ?_
       refine st (OpT.pickF (A := .cel _ _) (H rfl) (T1 rfl) hb5 Opd.bool rfl) rfl ?_
       exact k1
      refine st (asT rfl) rfl ?_
      refine ng ?_
      refine AW.ret ?_
      refine rK <| rT ?_
      exact rt1 rfl (.inl rfl) (by first | exact edit_no hnm | exact edit_12 hnm (by omega) | exact edit_34 hnm (by omega) (by omega) | exact edit_else (by omega) (by omega))
     ·
      obtain ⟨hc9, hc9'⟩ := pF hc9
      refine AW.skip ?_
      refine AX.normal_block ?_
      refine AX.go ?_
      refine sr ?_
      refine st (asB rfl) rfl ?_
      refine ng ?_
      refine AW.ret ?_
      exact rt1 rfl (.inl rfl) (by first | exact edit_no hnm | exact edit_12 hnm (by omega) | exact edit_34 hnm (by omega) (by omega) | exact edit_else (by omega) (by omega))
    ·
     obtain ⟨hc8, hc8'⟩ := pF hc8
     refine AW.region ?_
     refine st (OpT.eql (H rfl) (T1 rfl) (I rfl)) rfl ?_
     refine st (asT rfl) rfl ?_
     refine ng ?_
     refine cd rfl (fun hc10 => ?_) fun hc10 => ?_
     ·
      obtain ⟨hc10, hc10'⟩ := pT hc10
      refine sr ?_
      refine st (OpT.fieldAddr (H rfl) (T1 rfl) fd63_2 sz61 (by decide) sb63_2) rfl ?_
      refine st (OpT.load (H rfl) (T1 rfl) ag61 rfl) rfl ?_
      refine st (OpT.conv (H rfl) us61 Tryz.underlying2 (T1 rfl) (nw (by omega))) rfl ?_
      refine st (OpT.c1 (ms := [.flat]) (c_impl_isHole _) (H rfl) (Af (T1 rfl) rfl rfl <| An) rfl rfl) rfl ?_
      refine st (mvT rfl) rfl ?_
      apply AWl.and (d := 32) (t := 27) rfl
      ·
       intro hb6 Q1 k1
       have hb6' := lT hb6
       refine rs hb6 (OpT.fieldAddr (H rfl) (T1 rfl) fd63_3 sz38 (by decide) sb63_3) rfl ?_
       refine rs hb6 (OpT.loadA (H rfl) (T1 rfl) ag38 sz38) rfl ?_
       refine rs hb6 (OpT.buildA (H rfl) ar38 sz36 zr38 zk38 (Built.nil _)) rfl ?_
       refine rs hb6 (OpT.eqA (H rfl) (T1 rfl) (T1 rfl) eq38 ag38 rfl eg38) rfl ?_
       refine st (OpT.pickT (A := .cel _ _) (H rfl) (T1 rfl) hb6 (T1 rfl) rfl) rfl ?_
       exact AWl.to (junk 4 rfl) k1
      ·
       intro hb6 Q1 k1
       refine ps hb6 rfl ?_
       refine ps hb6 rfl ?_
       refine ps hb6 rfl ?_
       refine ps hb6 rfl ?_
       refine st (OpT.pickF (A := .cel _ _) (H rfl) (T1 rfl) hb6 Opd.bool rfl) rfl ?_
       exact k1
      refine st (asT rfl) rfl ?_
      refine AWl.to (kc 2 rfl <| Kn) ?_
      refine ng ?_
      refine AW.ret ?_
      refine rK <| rT ?_
      exact rt1 rfl (.inl rfl) (by first | exact edit_no hnm | exact edit_12 hnm (by omega) | exact edit_34 hnm (by omega) (by omega) | exact edit_else (by omega) (by omega))
     ·
      obtain ⟨hc10, hc10'⟩ := pF hc10
      refine AW.skip ?_
      refine AX.normal_block ?_
      refine AX.go ?_
      refine sr ?_
      refine st (asB rfl) rfl ?_
      refine ng ?_
      refine AW.ret ?_
      exact rt1 rfl (.inl rfl) (by first | exact edit_no hnm | exact edit_12 hnm (by omega) | exact edit_34 hnm (by omega) (by omega) | exact edit_else (by omega) (by omega))

/-- impl.placeOf$1 -/
theorem c_impl_placeOf_1 (b : DCard) (s : ByteArray) : AC Tryz.prog 102 [.agg kCard b, .cel (Kd.ptr Kd.str) s] [.cel Kd.bool (eqv b.1 s)] [] := by
 refine acI (N := 8) Tryz.func102 (Nat.le_of_ble_eq_true rfl) rfl fun w0 hd s0 ar => ?_
 refine AW.to (ka 0 rfl <| kc 1 rfl <| Kn) ?_
 refine sr ?_
 refine st (OpT.frz (OpT.boxA (E := 40) (H rfl) (T1 rfl))) rfl ?_
 refine st (asB rfl) rfl ?_
 refine ng ?_
 refine sr ?_
 refine st (OpT.fieldAddr (H rfl) (T1 rfl) fd40_0 sz9 (by decide) sb40_0) rfl ?_
 refine st (OpT.load (H rfl) (T1 rfl) ag9 rfl) rfl ?_
 refine st (OpT.load (H rfl) (T1 rfl) ag9 rfl) rfl ?_
 refine st (OpT.seqv (H rfl) (T1 rfl) (T1 rfl)) rfl ?_
 refine st (asT rfl) rfl ?_
 refine ng ?_
 refine AW.ret ?_
 exact rt1 rfl (.inl rfl) rfl

/-- impl.placeOf -/
theorem c_impl_placeOf (x : List DCard) (s : ByteArray) : AC Tryz.prog 60 [.cel (Kd.slice kCard) x, .cel Kd.str s] [.cel (Kd.int .i64) (findC s x)] [] := by
 refine acI (N := 8) Tryz.func60 (Nat.le_of_ble_eq_true rfl) rfl fun w0 hd s0 ar => ?_
 refine AW.to (kc2 0 1 rfl <| Kn) ?_
 refine sr ?_
 refine st (OpT.frz (OpT.box (E := 9) (H rfl) (T1 rfl))) rfl ?_
 refine st (asI rfl) rfl ?_
 refine ng ?_
 refine sr ?_
 refine st (mvT rfl) rfl ?_
 refine st (OpT.mkF1 (H rfl) (T1 rfl)) rfl ?_
 refine st (OpT.c1 (ms := [.flat, .flat]) (c_slices_IndexFunc_impl_Card_impl_Card (fun b => eqv b.1 s) (CloArgs.ptr _ _) (fun b => c_impl_placeOf_1 b s) _) (H rfl) (Af (T1 rfl) rfl rfl <| Af (T1 rfl) rfl rfl <| An) rfl rfl) rfl ?_
 refine st (asT rfl) rfl ?_
 refine ng ?_
 refine AW.ret ?_
 exact rt1 rfl (.inl rfl) rfl

/-- impl.Card] -/
theorem c_slices_Delete_impl_Card_impl_Card (x : List DCard) (i j : Int) (h : 0 ≤ i ∧ i ≤ j ∧ j ≤ x.length ∧ x.length ≤ 1048576) : AC Tryz.prog 110 [.own 40 kCard x, .cel (Kd.int .i64) i, .cel (Kd.int .i64) j] [.own 40 kCard (x.take i.toNat ++ x.drop j.toNat)] [] := by
 refine acI (N := 33) Tryz.func110 (Nat.le_of_ble_eq_true rfl) rfl fun w0 hd s0 ar => ?_
 refine AW.to (ko 0 rfl <| kc2 1 2 rfl <| Kn) ?_
 refine sr ?_
 refine st (nilO (E := 40) kCard rfl (.inl rfl)) rfl ?_
 refine ng ?_
 refine sr ?_
 refine st (OpT.alias (H rfl) (by decide) (by decide)) rfl ?_
 refine st (mvT rfl) rfl ?_
 refine st (mvT rfl) rfl ?_
 refine st (OpT.alias (H rfl) (by decide) (by decide)) rfl ?_
 refine st (OpT.lenO (H rfl) (Root.ali rfl (by decide) (by decide)) rfl el26) rfl ?_
 refine st (OpT.vw3 (H rfl) (Root.ali rfl (by decide) (by decide)) rfl (T1 rfl) (T1 rfl) (T1 rfl) el26 sz40 (by first | exact ⟨by omega, by omega, rfl⟩ | (simp only [List.length_append, List.length_take, List.length_drop]; omega) | omega)) rfl ?_
 refine ng ?_
 refine AW.seq ?_
 refine sr ?_
 refine st (mvT rfl) rfl ?_
 refine st (mvT rfl) rfl ?_
 refine st (OpT.eql (H rfl) (T1 rfl) (T1 rfl)) rfl ?_
 refine ng ?_
 refine cd rfl (fun hc1 => ?_) fun hc1 => ?_
 ·
  obtain ⟨hc1, hc1'⟩ := pT hc1
  refine sr ?_
  refine st (OpT.alias (H rfl) (by decide) (by decide)) rfl ?_
  refine sg (OpT.take (.inl rfl) rfl (ok' rfl) (Root.ali rfl (by decide) (by decide)) rfl rfl (by decide)) (ko 6 rfl <| kc3 16 15 14 rfl <| Kc 13 (.any) rfl <| kc4 12 10 9 1 rfl <| kc 2 rfl <| Kn) rfl ?_
  refine ng ?_
  refine AW.ret ?_
  refine rT ?_
  exact AX.rt (rs := [.tmp 6]) (ts := [some 6]) (.inl rfl) rfl (ROs.cons (RO.tmp (At.self (by decide)) (Ko rfl (by first | rfl | (rw [show i = j by omega, List.take_append_drop]))) rfl) <| ROs.nil) (by decide) OutsOK.nil
 ·
  obtain ⟨hc1, hc1'⟩ := pF hc1
  refine AW.skip ?_
  refine AX.go ?_
  refine sr ?_
  refine st (OpT.alias (H rfl) (by decide) (by decide)) rfl ?_
  refine st (OpT.lenO (H rfl) (Root.ali rfl (by decide) (by decide)) rfl el26) rfl ?_
  refine st (asT rfl) rfl ?_
  refine AWl.to (kc 7 rfl <| ko 6 rfl <| ko 0 rfl <| kc2 1 2 rfl <| Kn) ?_
  refine ng ?_
  refine AW.seq ?_
  refine dh fomo ?_
  refine d1 [] (fun ve h => OpT.alias (H rfl) (by decide) (by decide)) rfl ?_
  refine d1 [1] (fun ve h => OpT.move (A := .cel _ _) (.inl rfl) rfl (ok' rfl) (D1 h rfl) rfl) rfl ?_
  refine d1 [0, 20, 21] (fun ve h => OpT.vwH (H rfl) (Root.ali ((h _ (List.elem_iff.1 rfl)).trans rfl) (by decide) (by decide)) ((h _ (List.elem_iff.1 rfl)).trans rfl) (D1 h rfl) el26 sz40 (by first | exact ⟨by omega, by omega, rfl⟩ | (simp only [List.length_append, List.length_take, List.length_drop]; omega) | omega) (by decide)) rfl ?_
  refine d1 [] (fun ve h => OpT.alias (H rfl) (by decide) (by decide)) rfl ?_
  refine d1 [2] (fun ve h => OpT.move (A := .cel _ _) (.inl rfl) rfl (ok' rfl) (D1 h rfl) rfl) rfl ?_
  refine d1 [0, 23, 24] (fun ve h => OpT.vwL (H rfl) (Root.ali ((h _ (List.elem_iff.1 rfl)).trans rfl) (by decide) (by decide)) ((h _ (List.elem_iff.1 rfl)).trans rfl) (D1 h rfl) el26 sz40 (by first | exact ⟨by omega, by omega, rfl⟩ | (simp only [List.length_append, List.length_take, List.length_drop]; omega) | omega) (by decide)) rfl ?_
  refine dt (t := 0) [0, 22, 25] (fun ve h => OpT.appS (k := kCard) (H rfl) ((h _ (List.elem_iff.1 rfl)).trans rfl) (D1 h rfl) (D1 h rfl) (by decide) el26 sz40 (by first | exact ⟨by omega, by omega, rfl⟩ | (simp only [List.length_append, List.length_take, List.length_drop]; omega) | omega)) rfl ?_
  refine dt (t := 26) [26] (fun ve h => OpT.take (.inl rfl) rfl (ok' rfl) (Root.self (by decide)) ((h _ (List.elem_iff.1 rfl)).trans rfl) rfl (by decide)) rfl ?_
  refine dn ⟨by kernel_rfl, by kernel_rfl, ?_⟩
  refine AX.go ?_
  refine sr ?_
  refine st (OpT.alias (H rfl) (by decide) (by decide)) rfl ?_
  refine st (OpT.alias (H rfl) (by decide) (by decide)) rfl ?_
  refine st (OpT.lenX (H rfl) (Root.ali rfl (by decide) (by decide)) rfl el26) rfl ?_
  refine st (mvT rfl) rfl ?_
  refine st (OpT.vwX (H rfl) (Root.ali rfl (by decide) (by decide)) rfl (T1 rfl) (T1 rfl) el26 sz40 (by first | exact ⟨by omega, by omega, rfl⟩ | (simp only [List.length_append, List.length_take, List.length_drop]; omega) | omega) (by decide)) rfl ?_
  refine sn (OpT.clearX rfl rfl rfl (T1 rfl) el26 zr40 rfl (by decide) (by first | exact ⟨by omega, by omega, rfl⟩ | (simp only [List.length_append, List.length_take, List.length_drop]; omega) | omega)) rfl ?_
  refine ng ?_
  refine sr ?_
  refine st (OpT.alias (H rfl) (by decide) (by decide)) rfl ?_
  refine sg (OpT.take (.inl rfl) rfl (ok' rfl) (Root.ali rfl (by decide) (by decide)) rfl rfl (by decide)) (Kc 6 (.deep _) rfl <| kc4 30 29 24 21 rfl <| kc3 7 1 2 rfl <| Kn) rfl ?_
  refine ng ?_
  refine AW.ret ?_
  refine AX.owx (t := 6) rfl ?_
  refine AX.pr (ko 6 rfl <| kc4 30 29 24 21 rfl <| kc3 7 1 2 rfl <| Kn) ?_
  exact AX.rt (rs := [.tmp 6]) (ts := [some 6]) (.inl rfl) rfl (ROs.cons (RO.tmp (At.self (by decide)) (Ko rfl (by first | rfl | (rw [show i = j by omega, List.take_append_drop]))) rfl) <| ROs.nil) (by decide) OutsOK.nil

set_option maxHeartbeats 4000000 in
/-- impl.applyEdit -/
theorem c_impl_applyEdit_o (x : List DCard) (e : DEdit) (hl : x.length ≤ 1048576) (he : editB e = true) : AC Tryz.prog 68 [.cel (Kd.slice kCard) x, .agg kEdit e] [.own 40 kCard (applyS x e).1, .cel (Kd.int .i64) (applyS x e).2] [] := by
 refine acI (N := 98) Tryz.func68 (Nat.le_of_ble_eq_true rfl) rfl fun w0 hd s0 ar => ?_
 refine AW.to (kc 0 rfl <| ka 1 rfl <| Kn) ?_
 refine AW.fact (fun a w hr => (ok_slice (R_ok (t := 0) rfl hr)).2) (fun hl0 => ?_)
 have hfi := findC_in e.2.1 x
 have hkd := edit_kind he
 refine AW.fact (fun a w hr => okEdit (R_okA (t := 1) rfl hr)) (fun he0 => ?_)
 refine sr ?_
 refine st (OpT.frz (OpT.boxA (E := 63) (H rfl) (T1 rfl))) rfl ?_
 refine st (nilO (E := 40) kCard rfl (.inl rfl)) rfl ?_
 refine st (asI rfl) rfl ?_
 refine ng ?_
 refine sr ?_
 refine st (mvT rfl) rfl ?_
 refine st (OpT.fieldAddr (H rfl) (T1 rfl) fd63_1 sz9 (by decide) sb63_1) rfl ?_
 refine st (OpT.load (H rfl) (T1 rfl) ag9 rfl) rfl ?_
 refine st (OpT.c1 (ms := [.flat, .flat]) (c_impl_placeOf _ _) (H rfl) (Af (T1 rfl) rfl rfl <| Af (T1 rfl) rfl rfl <| An) rfl rfl) rfl ?_
 refine st (asT rfl) rfl ?_
 refine ng ?_
 refine AW.seq ?_
 refine sr ?_
 refine st (OpT.fieldAddr (H rfl) (T1 rfl) fd63_0 sz60 (by decide) sb63_0) rfl ?_
 refine st (OpT.load (H rfl) (T1 rfl) ag60 rfl) rfl ?_
 refine st (OpT.eql (H rfl) (T1 rfl) (I rfl)) rfl ?_
 refine ng ?_
 refine cd rfl (fun hc1 => ?_) fun hc1 => ?_
 ·
  obtain ⟨hc1, hc1'⟩ := pT hc1
  refine AW.seq ?_
  refine AW.block ?_
  refine sr ?_
  refine st (mvT rfl) rfl ?_
  refine st (OpT.len (H rfl) (T1 rfl) el26) rfl ?_
  refine st (OpT.eql (H rfl) (T1 rfl) (I rfl)) rfl ?_
  refine st (asT rfl) rfl ?_
  refine AWl.to (kc3 16 6 5 rfl <| ko 4 rfl <| kc2 3 0 rfl <| Kn) ?_
  refine ng ?_
  refine cd rfl (fun hc2 => ?_) fun hc2 => ?_
  ·
   obtain ⟨hc2, hc2'⟩ := pT hc2
   refine sr ?_
   refine st (nilO (E := 40) kCard rfl (.inl rfl)) rfl ?_
   refine st (asI rfl) rfl ?_
   refine ng ?_
   refine AW.ret ?_
   refine rK <| rT <| rT ?_
   exact AX.rt (rs := [.tmp 4, .tmp 5]) (ts := [some 4, some 5]) (.inl rfl) rfl (ROs.cons (RO.tmp (At.self (by decide)) (Ko rfl (by first | (rw [ap_full (by omega) (by omega)]; done) | (rw [ap_state hk1 (by omega)]; done) | (rw [ap_there (by omega) (by omega) (by omega)]; done) | (rw [ap_none (by omega) (by omega)]; done) | (rw [ap_add (by omega) (by omega) (by omega)]; first | done | rfl) | (rw [ap_ndrop (by omega) (by omega) ha hm]; done) | (rw [ap_drop (by omega) (by omega) ha hm]; first | done | rfl | (simp only [List.nil_append]; congr 2; omega)) | (rw [ap_bad (by omega) (by omega) (by omega) ha hb]; done) | (rw [ap_notch (by omega) (by omega) ha hb]; first | done | rfl) | (rw [ap_fill (by omega) (by omega) (by omega) (by omega) ha hb]; first | done | rfl | (simp only [bit_with0]; done) | (rw [← bit_with0]; rfl)))) rfl) <| ROs.cons (RO.tmp (At.self (by decide)) (Kv rfl (by first | (rw [ap_full (by omega) (by omega)]; done) | (rw [ap_state hk1 (by omega)]; done) | (rw [ap_there (by omega) (by omega) (by omega)]; done) | (rw [ap_none (by omega) (by omega)]; done) | (rw [ap_add (by omega) (by omega) (by omega)]; first | done | rfl) | (rw [ap_ndrop (by omega) (by omega) ha hm]; done) | (rw [ap_drop (by omega) (by omega) ha hm]; first | done | rfl | (simp only [List.nil_append]; congr 2; omega)) | (rw [ap_bad (by omega) (by omega) (by omega) ha hb]; done) | (rw [ap_notch (by omega) (by omega) ha hb]; first | done | rfl) | (rw [ap_fill (by omega) (by omega) (by omega) (by omega) ha hb]; first | done | rfl | (simp only [bit_with0]; done) | (rw [← bit_with0]; rfl)))) rfl) <| ROs.nil) (by decide) OutsOK.nil
  ·
   obtain ⟨hc2, hc2'⟩ := pF hc2
   refine sr ?_
   refine st (mvT rfl) rfl ?_
   refine st (OpT.geq (H rfl) (T1 rfl) (I rfl)) rfl ?_
   refine st (asT rfl) rfl ?_
   refine ng ?_
   refine cd rfl (fun hc3 => ?_) fun hc3 => ?_
   ·
    obtain ⟨hc3, hc3'⟩ := pT hc3
    refine sr ?_
    refine st (nilO (E := 40) kCard rfl (.inl rfl)) rfl ?_
    refine st (asI rfl) rfl ?_
    refine ng ?_
    refine AW.ret ?_
    refine rK <| rT <| rT ?_
    exact AX.rt (rs := [.tmp 4, .tmp 5]) (ts := [some 4, some 5]) (.inl rfl) rfl (ROs.cons (RO.tmp (At.self (by decide)) (Ko rfl (by first | (rw [ap_full (by omega) (by omega)]; done) | (rw [ap_state hk1 (by omega)]; done) | (rw [ap_there (by omega) (by omega) (by omega)]; done) | (rw [ap_none (by omega) (by omega)]; done) | (rw [ap_add (by omega) (by omega) (by omega)]; first | done | rfl) | (rw [ap_ndrop (by omega) (by omega) ha hm]; done) | (rw [ap_drop (by omega) (by omega) ha hm]; first | done | rfl | (simp only [List.nil_append]; congr 2; omega)) | (rw [ap_bad (by omega) (by omega) (by omega) ha hb]; done) | (rw [ap_notch (by omega) (by omega) ha hb]; first | done | rfl) | (rw [ap_fill (by omega) (by omega) (by omega) (by omega) ha hb]; first | done | rfl | (simp only [bit_with0]; done) | (rw [← bit_with0]; rfl)))) rfl) <| ROs.cons (RO.tmp (At.self (by decide)) (Kv rfl (by first | (rw [ap_full (by omega) (by omega)]; done) | (rw [ap_state hk1 (by omega)]; done) | (rw [ap_there (by omega) (by omega) (by omega)]; done) | (rw [ap_none (by omega) (by omega)]; done) | (rw [ap_add (by omega) (by omega) (by omega)]; first | done | rfl) | (rw [ap_ndrop (by omega) (by omega) ha hm]; done) | (rw [ap_drop (by omega) (by omega) ha hm]; first | done | rfl | (simp only [List.nil_append]; congr 2; omega)) | (rw [ap_bad (by omega) (by omega) (by omega) ha hb]; done) | (rw [ap_notch (by omega) (by omega) ha hb]; first | done | rfl) | (rw [ap_fill (by omega) (by omega) (by omega) (by omega) ha hb]; first | done | rfl | (simp only [bit_with0]; done) | (rw [← bit_with0]; rfl)))) rfl) <| ROs.nil) (by decide) OutsOK.nil
   ·
    obtain ⟨hc3, hc3'⟩ := pF hc3
    refine AW.skip ?_
    refine AX.normal_block ?_
    refine AX.pr (kc2 6 5 rfl <| ko 4 rfl <| kc2 3 0 rfl <| Kn) ?_
    refine AX.go ?_
    refine AW.seq ?_
    refine dh fomo ?_
    refine d1 [] (fun ve h => OpT.buildSlice0 (m := 0) (z := .bool false) kCard (H rfl) el26 sz40 (by decide)) rfl ?_
    refine d1 [0] (fun ve h => OpT.move (A := .cel _ _) (.inl rfl) rfl (ok' rfl) (D1 h rfl) rfl) rfl ?_
    refine dt (t := 23) [23, 24] (fun ve h => OpT.append (H rfl) (Root.self (t := 23) (by decide)) ((h _ (List.elem_iff.1 rfl)).trans rfl) (Src.shared (D1 h rfl)) (by decide) el26 zr40 rfl sz40 by40 (by decide) (by (try simp only [List.length_cons, List.length_nil, List.length_append, List.length_set, List.length_replicate, List.length_drop, List.length_take]); omega)) rfl ?_
    refine d1 [3] (fun ve h => OpT.fieldAddr (H rfl) (D1 h rfl) fd63_1 sz9 (by decide) sb63_1) rfl ?_
    refine d1 [26] (fun ve h => OpT.load (H rfl) (D1 h rfl) ag9 rfl) rfl ?_
    refine d1 [3] (fun ve h => OpT.fieldAddr (H rfl) (D1 h rfl) fd63_3 sz38 (by decide) sb63_3) rfl ?_
    refine d1 [28] (fun ve h => OpT.loadA (H rfl) (D1 h rfl) ag38 sz38) rfl ?_
    refine d1 [27, 29] (fun ve h => OpT.build (H rfl) pl40 zr40 zk40 (Built.cel (D1 h rfl) rfl rfl sb40_0 (Built.agg (D1 h rfl) rfl (by decide) sb40_1 (Built.nil _)))) rfl ?_
    refine d1 [30] (fun ve h => OpT.buildSlice (H rfl) el26 zr40 sz40 rfl (by decide) zk40 (by decide) (Built.agg (D1 h rfl) rfl (by decide) (sub_arr (by decide) ((.empty, (0, 0)) : ByteArray × (BitVec 64 × BitVec 64))) (Built.nil _))) rfl ?_
    refine dt (t := 25) [25, 31] (fun ve h => OpT.append (H rfl) (Root.self (t := 25) (by decide)) ((h _ (List.elem_iff.1 rfl)).trans rfl) (Src.own (Root.self (t := 31) (by decide)) ((h _ (List.elem_iff.1 rfl)).trans rfl)) (by decide) el26 zr40 rfl sz40 by40 (by decide) (by (try simp only [List.length_cons, List.length_nil, List.length_append, List.length_set, List.length_replicate, List.length_drop, List.length_take]); omega)) rfl ?_
    refine dt (t := 32) [32] (fun ve h => OpT.take (.inl rfl) rfl (ok' rfl) (Root.self (by decide)) ((h _ (List.elem_iff.1 rfl)).trans rfl) rfl (by decide)) rfl ?_
    refine d1 [] (fun ve h => asI rfl) rfl ?_
    refine dn ⟨by kernel_rfl, by kernel_rfl, ?_⟩
    refine AX.go ?_
    refine AW.ret ?_
    refine rT ?_
    exact AX.rt (rs := [.tmp 4, .tmp 5]) (ts := [some 4, some 5]) (.inl rfl) rfl (ROs.cons (RO.tmp (At.self (by decide)) (Ko rfl (by first | (rw [ap_full (by omega) (by omega)]; done) | (rw [ap_state hk1 (by omega)]; done) | (rw [ap_there (by omega) (by omega) (by omega)]; done) | (rw [ap_none (by omega) (by omega)]; done) | (rw [ap_add (by omega) (by omega) (by omega)]; first | done | rfl) | (rw [ap_ndrop (by omega) (by omega) ha hm]; done) | (rw [ap_drop (by omega) (by omega) ha hm]; first | done | rfl | (simp only [List.nil_append]; congr 2; omega)) | (rw [ap_bad (by omega) (by omega) (by omega) ha hb]; done) | (rw [ap_notch (by omega) (by omega) ha hb]; first | done | rfl) | (rw [ap_fill (by omega) (by omega) (by omega) (by omega) ha hb]; first | done | rfl | (simp only [bit_with0]; done) | (rw [← bit_with0]; rfl)))) rfl) <| ROs.cons (RO.tmp (At.self (by decide)) (Kv rfl (by first | (rw [ap_full (by omega) (by omega)]; done) | (rw [ap_state hk1 (by omega)]; done) | (rw [ap_there (by omega) (by omega) (by omega)]; done) | (rw [ap_none (by omega) (by omega)]; done) | (rw [ap_add (by omega) (by omega) (by omega)]; first | done | rfl) | (rw [ap_ndrop (by omega) (by omega) ha hm]; done) | (rw [ap_drop (by omega) (by omega) ha hm]; first | done | rfl | (simp only [List.nil_append]; congr 2; omega)) | (rw [ap_bad (by omega) (by omega) (by omega) ha hb]; done) | (rw [ap_notch (by omega) (by omega) ha hb]; first | done | rfl) | (rw [ap_fill (by omega) (by omega) (by omega) (by omega) ha hb]; first | done | rfl | (simp only [bit_with0]; done) | (rw [← bit_with0]; rfl)))) rfl) <| ROs.nil) (by decide) OutsOK.nil
 ·
  obtain ⟨hc1, hc1'⟩ := pF hc1
  refine AW.skip ?_
  refine AX.go ?_
  refine AW.seq ?_
  refine sr ?_
  refine st (mvT rfl) rfl ?_
  refine st (OpT.lss (H rfl) (T1 rfl) (I rfl)) rfl ?_
  refine ng ?_
  refine cd rfl (fun hc4 => ?_) fun hc4 => ?_
  ·
   obtain ⟨hc4, hc4'⟩ := pT hc4
   refine sr ?_
   refine st (nilO (E := 40) kCard rfl (.inl rfl)) rfl ?_
   refine st (asI rfl) rfl ?_
   refine AWl.to (kc 5 rfl <| ko 4 rfl <| kc3 6 3 0 rfl <| Kn) ?_
   refine ng ?_
   refine AW.ret ?_
   refine rT ?_
   exact AX.rt (rs := [.tmp 4, .tmp 5]) (ts := [some 4, some 5]) (.inl rfl) rfl (ROs.cons (RO.tmp (At.self (by decide)) (Ko rfl (by first | (rw [ap_full (by omega) (by omega)]; done) | (rw [ap_state hk1 (by omega)]; done) | (rw [ap_there (by omega) (by omega) (by omega)]; done) | (rw [ap_none (by omega) (by omega)]; done) | (rw [ap_add (by omega) (by omega) (by omega)]; first | done | rfl) | (rw [ap_ndrop (by omega) (by omega) ha hm]; done) | (rw [ap_drop (by omega) (by omega) ha hm]; first | done | rfl | (simp only [List.nil_append]; congr 2; omega)) | (rw [ap_bad (by omega) (by omega) (by omega) ha hb]; done) | (rw [ap_notch (by omega) (by omega) ha hb]; first | done | rfl) | (rw [ap_fill (by omega) (by omega) (by omega) (by omega) ha hb]; first | done | rfl | (simp only [bit_with0]; done) | (rw [← bit_with0]; rfl)))) rfl) <| ROs.cons (RO.tmp (At.self (by decide)) (Kv rfl (by first | (rw [ap_full (by omega) (by omega)]; done) | (rw [ap_state hk1 (by omega)]; done) | (rw [ap_there (by omega) (by omega) (by omega)]; done) | (rw [ap_none (by omega) (by omega)]; done) | (rw [ap_add (by omega) (by omega) (by omega)]; first | done | rfl) | (rw [ap_ndrop (by omega) (by omega) ha hm]; done) | (rw [ap_drop (by omega) (by omega) ha hm]; first | done | rfl | (simp only [List.nil_append]; congr 2; omega)) | (rw [ap_bad (by omega) (by omega) (by omega) ha hb]; done) | (rw [ap_notch (by omega) (by omega) ha hb]; first | done | rfl) | (rw [ap_fill (by omega) (by omega) (by omega) (by omega) ha hb]; first | done | rfl | (simp only [bit_with0]; done) | (rw [← bit_with0]; rfl)))) rfl) <| ROs.nil) (by decide) OutsOK.nil
  ·
   obtain ⟨hc4, hc4'⟩ := pF hc4
   obtain ⟨a, ha, han, hal⟩ := findC_get (s := e.2.1) (y := x) (decide_eq_false (by omega))
   refine AW.skip ?_
   refine AX.go ?_
   refine sr ?_
   refine st (OpT.buildSlice0 (m := 0) (z := .bool false) kCard (H rfl) el26 sz40 (by decide)) rfl ?_
   refine st (mvT rfl) rfl ?_
   refine sg (OpT.append (H rfl) (Root.self (t := 35) (by decide)) rfl (Src.shared (T1 rfl)) (by decide) el26 zr40 rfl sz40 by40 (by decide) (by (try simp only [List.length_cons, List.length_nil, List.length_append, List.length_set, List.length_replicate, List.length_drop, List.length_take]); omega)) (ko 37 rfl <| kc4 36 34 33 15 rfl <| kc4 14 13 6 12 rfl <| kc4 11 10 9 5 rfl <| ko 4 rfl <| kc2 3 0 rfl <| ka 1 rfl <| Kn) rfl ?_
   refine sg (OpT.take (.inl rfl) rfl (ok' rfl) (Root.self (by decide)) rfl rfl (by decide)) (ko 7 rfl <| kc4 36 34 33 15 rfl <| kc4 14 13 6 12 rfl <| kc4 11 10 9 5 rfl <| ko 4 rfl <| kc2 3 0 rfl <| ka 1 rfl <| Kn) rfl ?_
   refine AWl.to (ko 7 rfl <| kc2 6 5 rfl <| ko 4 rfl <| kc 3 rfl <| Kn) ?_
   refine ng ?_
   refine AW.seq ?_
   refine sr ?_
   refine st (OpT.fieldAddr (H rfl) (T1 rfl) fd63_0 sz60 (by decide) sb63_0) rfl ?_
   refine st (OpT.load (H rfl) (T1 rfl) ag60 rfl) rfl ?_
   refine st (OpT.eql (H rfl) (T1 rfl) (I rfl)) rfl ?_
   refine AWl.to (kc 40 rfl <| ko 7 rfl <| kc2 6 5 rfl <| ko 4 rfl <| kc 3 rfl <| Kn) ?_
   refine ng ?_
   refine cd rfl (fun hc5 => ?_) fun hc5 => ?_
   ·
    obtain ⟨hc5, hc5'⟩ := pT hc5
    refine AW.seq ?_
    refine AW.seq ?_
    refine dh fomo ?_
    refine d1 [] (fun ve h => OpT.alias (H rfl) (by decide) (by decide)) rfl ?_
    refine d1 [6] (fun ve h => OpT.move (A := .cel _ _) (.inl rfl) rfl (ok' rfl) (D1 h rfl) rfl) rfl ?_
    refine d1 [7, 41, 42] (fun ve h => OpT.indexAddrO (H rfl) (Root.ali ((h _ (List.elem_iff.1 rfl)).trans rfl) (by decide) (by decide)) ((h _ (List.elem_iff.1 rfl)).trans rfl) (by decide) (D1 h rfl) el26 sz40 (by omega) (by simp only [List.nil_append]; exact ha)) rfl ?_
    refine d1 [7, 43] (fun ve h => OpT.fieldAddrE (H rfl) (D1 h rfl) (.inr ⟨_, _, ((h _ (List.elem_iff.1 rfl)).trans rfl), (by assumption)⟩) (by decide) fd40_1 sz38 (by decide) sb40_1 (by decide)) rfl ?_
    refine d1 [7, 44] (fun ve h => OpT.loadPA (H rfl) (D1 h rfl) (.inr ⟨_, _, ((h _ (List.elem_iff.1 rfl)).trans rfl), (by assumption)⟩) ag38 sz38) rfl ?_
    refine d1 [3] (fun ve h => OpT.fieldAddr (H rfl) (D1 h rfl) fd63_3 sz38 (by decide) sb63_3) rfl ?_
    refine d1 [46] (fun ve h => OpT.loadA (H rfl) (D1 h rfl) ag38 sz38) rfl ?_
    refine d1 [45, 47] (fun ve h => OpT.neA (H rfl) (D1 h rfl) (D1 h rfl) eq38 ag38 rfl eg38) rfl ?_
    refine dn ⟨by kernel_rfl, by kernel_rfl, ?_⟩
    refine AX.go ?_
    refine cd rfl (fun hc6 => ?_) fun hc6 => ?_
    ·
     obtain ⟨hc6, hc6'⟩ := pT hc6
     have hm : ¬ a.2 = e.2.2.2 := by simpa [eqv_iff, eqv_false_iff] using hc6
     refine sr ?_
     refine st (nilO (E := 40) kCard rfl (.inl rfl)) rfl ?_
     refine st (asI rfl) rfl ?_
     refine AWl.to (kc 5 rfl <| ko 4 rfl <| ko 7 rfl <| kc2 6 3 rfl <| Kn) ?_
     refine ng ?_
     refine AW.ret ?_
     refine rT <| rT ?_
     exact AX.rt (rs := [.tmp 4, .tmp 5]) (ts := [some 4, some 5]) (.inl rfl) rfl (ROs.cons (RO.tmp (At.self (by decide)) (Ko rfl (by first | (rw [ap_full (by omega) (by omega)]; done) | (rw [ap_state hk1 (by omega)]; done) | (rw [ap_there (by omega) (by omega) (by omega)]; done) | (rw [ap_none (by omega) (by omega)]; done) | (rw [ap_add (by omega) (by omega) (by omega)]; first | done | rfl) | (rw [ap_ndrop (by omega) (by omega) ha hm]; done) | (rw [ap_drop (by omega) (by omega) ha hm]; first | done | rfl | (simp only [List.nil_append]; congr 2; omega)) | (rw [ap_bad (by omega) (by omega) (by omega) ha hb]; done) | (rw [ap_notch (by omega) (by omega) ha hb]; first | done | rfl) | (rw [ap_fill (by omega) (by omega) (by omega) (by omega) ha hb]; first | done | rfl | (simp only [bit_with0]; done) | (rw [← bit_with0]; rfl)))) rfl) <| ROs.cons (RO.tmp (At.self (by decide)) (Kv rfl (by first | (rw [ap_full (by omega) (by omega)]; done) | (rw [ap_state hk1 (by omega)]; done) | (rw [ap_there (by omega) (by omega) (by omega)]; done) | (rw [ap_none (by omega) (by omega)]; done) | (rw [ap_add (by omega) (by omega) (by omega)]; first | done | rfl) | (rw [ap_ndrop (by omega) (by omega) ha hm]; done) | (rw [ap_drop (by omega) (by omega) ha hm]; first | done | rfl | (simp only [List.nil_append]; congr 2; omega)) | (rw [ap_bad (by omega) (by omega) (by omega) ha hb]; done) | (rw [ap_notch (by omega) (by omega) ha hb]; first | done | rfl) | (rw [ap_fill (by omega) (by omega) (by omega) (by omega) ha hb]; first | done | rfl | (simp only [bit_with0]; done) | (rw [← bit_with0]; rfl)))) rfl) <| ROs.nil) (by decide) OutsOK.nil
    ·
     obtain ⟨hc6, hc6'⟩ := pF hc6
     have hm : a.2 = e.2.2.2 := by simpa [eqv_iff, eqv_false_iff] using hc6
     refine AW.skip ?_
     refine AX.go ?_
     refine sr ?_
     refine st (OpT.alias (H rfl) (by decide) (by decide)) rfl ?_
     refine st (mvT rfl) rfl ?_
     refine st (mvT rfl) rfl ?_
     refine st (OpT.add (H rfl) (T1 rfl) (I rfl) (nw (by omega))) rfl ?_
     refine sg (OpT.crn (ms := [.root 7, .flat, .flat]) (c_slices_Delete_impl_Card_impl_Card _ _ _ (by (try simp only [List.nil_append]); omega)) (H rfl) (Ar (O := .any) (Root.ali rfl (by decide) (by decide)) rfl rfl rfl <| Af (T1 rfl) rfl rfl <| Af (T1 rfl) rfl rfl <| An) rfl rfl (.inl rfl) rfl) (ko 53 rfl <| kc3 52 51 50 rfl <| Kc 49 (.ali _) rfl <| kc 48 rfl <| ka 47 rfl <| kc 46 rfl <| ka 45 rfl <| Kc 44 (.pel _ _ _ _ _ _ _) rfl <| Kc 43 (.pel _ _ _ _ _ _ _) rfl <| kc 42 rfl <| Kc 41 (.ali _) rfl <| kc3 40 6 5 rfl <| ko 4 rfl <| kc 3 rfl <| Kn) rfl ?_
     refine sg (OpT.take (.inl rfl) rfl (ok' rfl) (Root.self (by decide)) rfl rfl (by decide)) (ko 4 rfl <| kc3 52 51 50 rfl <| Kc 49 (.ali _) rfl <| kc 48 rfl <| ka 47 rfl <| kc 46 rfl <| ka 45 rfl <| Kc 44 (.pel _ _ _ _ _ _ _) rfl <| Kc 43 (.pel _ _ _ _ _ _ _) rfl <| kc 42 rfl <| Kc 41 (.ali _) rfl <| kc4 40 6 5 3 rfl <| Kn) rfl ?_
     refine st (asI rfl) rfl ?_
     refine AWl.to (kc 5 rfl <| ko 4 rfl <| kc2 6 3 rfl <| Kn) ?_
     refine ng ?_
     refine AW.ret ?_
     refine rT ?_
     exact AX.rt (rs := [.tmp 4, .tmp 5]) (ts := [some 4, some 5]) (.inl rfl) rfl (ROs.cons (RO.tmp (At.self (by decide)) (Ko rfl (by first | (rw [ap_full (by omega) (by omega)]; done) | (rw [ap_state hk1 (by omega)]; done) | (rw [ap_there (by omega) (by omega) (by omega)]; done) | (rw [ap_none (by omega) (by omega)]; done) | (rw [ap_add (by omega) (by omega) (by omega)]; first | done | rfl) | (rw [ap_ndrop (by omega) (by omega) ha hm]; done) | (rw [ap_drop (by omega) (by omega) ha hm]; first | done | rfl | (simp only [List.nil_append]; congr 2; omega)) | (rw [ap_bad (by omega) (by omega) (by omega) ha hb]; done) | (rw [ap_notch (by omega) (by omega) ha hb]; first | done | rfl) | (rw [ap_fill (by omega) (by omega) (by omega) (by omega) ha hb]; first | done | rfl | (simp only [bit_with0]; done) | (rw [← bit_with0]; rfl)))) rfl) <| ROs.cons (RO.tmp (At.self (by decide)) (Kv rfl (by first | (rw [ap_full (by omega) (by omega)]; done) | (rw [ap_state hk1 (by omega)]; done) | (rw [ap_there (by omega) (by omega) (by omega)]; done) | (rw [ap_none (by omega) (by omega)]; done) | (rw [ap_add (by omega) (by omega) (by omega)]; first | done | rfl) | (rw [ap_ndrop (by omega) (by omega) ha hm]; done) | (rw [ap_drop (by omega) (by omega) ha hm]; first | done | rfl | (simp only [List.nil_append]; congr 2; omega)) | (rw [ap_bad (by omega) (by omega) (by omega) ha hb]; done) | (rw [ap_notch (by omega) (by omega) ha hb]; first | done | rfl) | (rw [ap_fill (by omega) (by omega) (by omega) (by omega) ha hb]; first | done | rfl | (simp only [bit_with0]; done) | (rw [← bit_with0]; rfl)))) rfl) <| ROs.nil) (by decide) OutsOK.nil
   ·
    obtain ⟨hc5, hc5'⟩ := pF hc5
    refine AW.skip ?_
    refine AX.go ?_
    refine sr ?_
    refine st (OpT.fieldAddr (H rfl) (T1 rfl) fd63_2 sz61 (by decide) sb63_2) rfl ?_
    refine st (OpT.load (H rfl) (T1 rfl) ag61 rfl) rfl ?_
    refine st (OpT.conv (H rfl) us61 Tryz.underlying2 (T1 rfl) (nw (by omega))) rfl ?_
    refine st (asT rfl) rfl ?_
    refine AWl.to (kc 8 rfl <| ko 7 rfl <| kc2 6 5 rfl <| ko 4 rfl <| kc 3 rfl <| Kn) ?_
    refine ng ?_
    refine AW.seq ?_
    refine AW.seq ?_
    refine dh fomo ?_
    refine d1 [] (fun ve h => OpT.alias (H rfl) (by decide) (by decide)) rfl ?_
    refine d1 [6] (fun ve h => OpT.move (A := .cel _ _) (.inl rfl) rfl (ok' rfl) (D1 h rfl) rfl) rfl ?_
    refine d1 [7, 57, 58] (fun ve h => OpT.indexAddrO (H rfl) (Root.ali ((h _ (List.elem_iff.1 rfl)).trans rfl) (by decide) (by decide)) ((h _ (List.elem_iff.1 rfl)).trans rfl) (by decide) (D1 h rfl) el26 sz40 (by omega) (by simp only [List.nil_append]; exact ha)) rfl ?_
    refine d1 [7, 59] (fun ve h => OpT.fieldAddrE (H rfl) (D1 h rfl) (.inr ⟨_, _, ((h _ (List.elem_iff.1 rfl)).trans rfl), (by assumption)⟩) (by decide) fd40_1 sz38 (by decide) sb40_1 (by decide)) rfl ?_
    refine d1 [7, 60] (fun ve h => OpT.loadPA (H rfl) (D1 h rfl) (.inr ⟨_, _, ((h _ (List.elem_iff.1 rfl)).trans rfl), (by assumption)⟩) ag38 sz38) rfl ?_
    refine d1 [8] (fun ve h => OpT.move (A := .cel _ _) (.inl rfl) rfl (ok' rfl) (D1 h rfl) rfl) rfl ?_
    refine d1 [61, 62] (fun ve h => OpT.c1 (ms := [.flat, .flat]) (c_impl_Mask_has _ _ (by have := edit_hole he (by omega) (by omega); omega)) (H rfl) (Af (D1 h rfl) rfl rfl <| Af (D1 h rfl) rfl rfl <| An) rfl rfl) rfl ?_
    refine d1 [3] (fun ve h => OpT.fieldAddr (H rfl) (D1 h rfl) fd63_0 sz60 (by decide) sb63_0) rfl ?_
    refine d1 [64] (fun ve h => OpT.load (H rfl) (D1 h rfl) ag60 rfl) rfl ?_
    refine d1 [65] (fun ve h => OpT.eql (H rfl) (D1 h rfl) (I rfl)) rfl ?_
    refine d1 [63, 66] (fun ve h => OpT.beql (H rfl) Tryz.underlying4 (D1 h rfl) (D1 h rfl)) rfl ?_
    refine dn ⟨by kernel_rfl, by kernel_rfl, ?_⟩
    refine AX.go ?_
    refine cd rfl (fun hc7 => ?_) fun hc7 => ?_
    ·
     obtain ⟨hc7, hc7'⟩ := pT hc7
     have hb := has_impl1 hc7
     refine sr ?_
     refine st (nilO (E := 40) kCard rfl (.inl rfl)) rfl ?_
     refine st (asI rfl) rfl ?_
     refine AWl.to (kc 5 rfl <| ko 4 rfl <| kc 8 rfl <| ko 7 rfl <| kc2 6 3 rfl <| Kn) ?_
     refine ng ?_
     refine AW.ret ?_
     refine rT ?_
     exact AX.rt (rs := [.tmp 4, .tmp 5]) (ts := [some 4, some 5]) (.inl rfl) rfl (ROs.cons (RO.tmp (At.self (by decide)) (Ko rfl (by first | (rw [ap_full (by omega) (by omega)]; done) | (rw [ap_state hk1 (by omega)]; done) | (rw [ap_there (by omega) (by omega) (by omega)]; done) | (rw [ap_none (by omega) (by omega)]; done) | (rw [ap_add (by omega) (by omega) (by omega)]; first | done | rfl) | (rw [ap_ndrop (by omega) (by omega) ha hm]; done) | (rw [ap_drop (by omega) (by omega) ha hm]; first | done | rfl | (simp only [List.nil_append]; congr 2; omega)) | (rw [ap_bad (by omega) (by omega) (by omega) ha hb]; done) | (rw [ap_notch (by omega) (by omega) ha hb]; first | done | rfl) | (rw [ap_fill (by omega) (by omega) (by omega) (by omega) ha hb]; first | done | rfl | (simp only [bit_with0]; done) | (rw [← bit_with0]; rfl)))) rfl) <| ROs.cons (RO.tmp (At.self (by decide)) (Kv rfl (by first | (rw [ap_full (by omega) (by omega)]; done) | (rw [ap_state hk1 (by omega)]; done) | (rw [ap_there (by omega) (by omega) (by omega)]; done) | (rw [ap_none (by omega) (by omega)]; done) | (rw [ap_add (by omega) (by omega) (by omega)]; first | done | rfl) | (rw [ap_ndrop (by omega) (by omega) ha hm]; done) | (rw [ap_drop (by omega) (by omega) ha hm]; first | done | rfl | (simp only [List.nil_append]; congr 2; omega)) | (rw [ap_bad (by omega) (by omega) (by omega) ha hb]; done) | (rw [ap_notch (by omega) (by omega) ha hb]; first | done | rfl) | (rw [ap_fill (by omega) (by omega) (by omega) (by omega) ha hb]; first | done | rfl | (simp only [bit_with0]; done) | (rw [← bit_with0]; rfl)))) rfl) <| ROs.nil) (by decide) OutsOK.nil
    ·
     obtain ⟨hc7, hc7'⟩ := pF hc7
     have hb := has_impl2 hc7
     refine AW.skip ?_
     refine AX.pr (kc 8 rfl <| ko 7 rfl <| kc2 6 5 rfl <| ko 4 rfl <| kc 3 rfl <| Kn) ?_
     refine AX.go ?_
     refine AW.seq ?_
     refine sr ?_
     refine st (OpT.fieldAddr (H rfl) (T1 rfl) fd63_0 sz60 (by decide) sb63_0) rfl ?_
     refine st (OpT.load (H rfl) (T1 rfl) ag60 rfl) rfl ?_
     refine st (OpT.eql (H rfl) (T1 rfl) (I rfl)) rfl ?_
     refine AWl.to (kc2 70 8 rfl <| ko 7 rfl <| kc2 6 5 rfl <| ko 4 rfl <| Kn) ?_
     refine ng ?_
     refine cd rfl (fun hc8 => ?_) fun hc8 => ?_
     ·
      obtain ⟨hc8, hc8'⟩ := pT hc8
      refine AW.region ?_
      refine st (OpT.alias (H rfl) (by decide) (by decide)) rfl ?_
      refine st (mvT rfl) rfl ?_
      refine st (OpT.alias (H rfl) (by decide) (by decide)) rfl ?_
      refine st (mvT rfl) rfl ?_
      refine st (OpT.indexAddrO (H rfl) (Root.ali rfl (by decide) (by decide)) rfl (by decide) (T1 rfl) el26 sz40 (by omega) (by simp only [List.nil_append]; exact ha)) rfl ?_
      refine st (OpT.fieldAddrE (H rfl) (T1 rfl) (.inr ⟨_, _, rfl, (by assumption)⟩) (by decide) fd40_1 sz38 (by decide) sb40_1 (by decide)) rfl ?_
      refine st (OpT.loadPA (H rfl) (T1 rfl) (.inr ⟨_, _, rfl, (by assumption)⟩) ag38 sz38) rfl ?_
      refine st (mvT rfl) rfl ?_
      refine st (OpT.buildSlice (H rfl) el43 zr2 sz2 rfl (by decide) zk2 (by decide) (Built.cel (T1 rfl) rfl rfl (sub_arr (by decide) (0 : Int)) (Built.nil _))) rfl ?_
      refine st (cb1 (ms := [.flat, .bor 79]) (c_impl_Mask_with _ [e.2.2.1] (fun u hu => by rw [List.mem_singleton] at hu; subst hu; have := edit_hole he (by omega) (by omega); omega)) (H rfl) (Af (T1 rfl) rfl rfl <| Ab (Root.self (t := 79) (by decide)) rfl <| An) rfl (indA fun _ _ _ _ h => h)) rfl ?_
      refine st (OpT.indexAddrO (H rfl) (Root.ali rfl (by decide) (by decide)) rfl (by decide) (T1 rfl) el26 sz40 (by omega) (by simp only [List.nil_append]; exact ha)) rfl ?_
      refine st (OpT.fieldAddrE (H rfl) (T1 rfl) (.inr ⟨_, _, rfl, (by assumption)⟩) (by decide) fd40_1 sz38 (by decide) sb40_1 (by decide)) rfl ?_
      refine sk (OpT.storeOA rfl rfl (T1 rfl) rfl (by simp only [List.nil_append]; exact ha) sz38 (by decide) (T1 rfl)) rfl ?_
      refine AWl.to (ko 7 rfl <| kc 5 rfl <| ko 4 rfl <| Kn) ?_
      refine ng ?_
      refine sr ?_
      refine st (OpT.alias (H rfl) (by decide) (by decide)) rfl ?_
      refine sg (OpT.take (.inl rfl) rfl (ok' rfl) (Root.ali rfl (by decide) (by decide)) rfl rfl (by decide)) (ko 4 rfl <| kc 5 rfl <| Kn) rfl ?_
      refine st (asI rfl) rfl ?_
      refine ng ?_
      refine AW.ret ?_
      exact AX.rt (rs := [.tmp 4, .tmp 5]) (ts := [some 4, some 5]) (.inl rfl) rfl (ROs.cons (RO.tmp (At.self (by decide)) (Ko rfl (by first | (rw [ap_full (by omega) (by omega)]; done) | (rw [ap_state hk1 (by omega)]; done) | (rw [ap_there (by omega) (by omega) (by omega)]; done) | (rw [ap_none (by omega) (by omega)]; done) | (rw [ap_add (by omega) (by omega) (by omega)]; first | done | rfl) | (rw [ap_ndrop (by omega) (by omega) ha hm]; done) | (rw [ap_drop (by omega) (by omega) ha hm]; first | done | rfl | (simp only [List.nil_append]; congr 2; omega)) | (rw [ap_bad (by omega) (by omega) (by omega) ha hb]; done) | (rw [ap_notch (by omega) (by omega) ha hb]; first | done | rfl) | (rw [ap_fill (by omega) (by omega) (by omega) (by omega) ha hb]; first | done | rfl | (simp only [bit_with0]; done) | (rw [← bit_with0]; rfl)))) rfl) <| ROs.cons (RO.tmp (At.self (by decide)) (Kv rfl (by first | (rw [ap_full (by omega) (by omega)]; done) | (rw [ap_state hk1 (by omega)]; done) | (rw [ap_there (by omega) (by omega) (by omega)]; done) | (rw [ap_none (by omega) (by omega)]; done) | (rw [ap_add (by omega) (by omega) (by omega)]; first | done | rfl) | (rw [ap_ndrop (by omega) (by omega) ha hm]; done) | (rw [ap_drop (by omega) (by omega) ha hm]; first | done | rfl | (simp only [List.nil_append]; congr 2; omega)) | (rw [ap_bad (by omega) (by omega) (by omega) ha hb]; done) | (rw [ap_notch (by omega) (by omega) ha hb]; first | done | rfl) | (rw [ap_fill (by omega) (by omega) (by omega) (by omega) ha hb]; first | done | rfl | (simp only [bit_with0]; done) | (rw [← bit_with0]; rfl)))) rfl) <| ROs.nil) (by decide) OutsOK.nil
     ·
      obtain ⟨hc8, hc8'⟩ := pF hc8
      refine dh fomo ?_
      refine d1 [] (fun ve h => OpT.alias (H rfl) (by decide) (by decide)) rfl ?_
      refine d1 [6] (fun ve h => OpT.move (A := .cel _ _) (.inl rfl) rfl (ok' rfl) (D1 h rfl) rfl) rfl ?_
      refine d1 [] (fun ve h => OpT.alias (H rfl) (by decide) (by decide)) rfl ?_
      refine d1 [6] (fun ve h => OpT.move (A := .cel _ _) (.inl rfl) rfl (ok' rfl) (D1 h rfl) rfl) rfl ?_
      refine d1 [7, 85, 86] (fun ve h => OpT.indexAddrO (H rfl) (Root.ali ((h _ (List.elem_iff.1 rfl)).trans rfl) (by decide) (by decide)) ((h _ (List.elem_iff.1 rfl)).trans rfl) (by decide) (D1 h rfl) el26 sz40 (by omega) (by simp only [List.nil_append]; exact ha)) rfl ?_
      refine d1 [7, 87] (fun ve h => OpT.fieldAddrE (H rfl) (D1 h rfl) (.inr ⟨_, _, ((h _ (List.elem_iff.1 rfl)).trans rfl), (by assumption)⟩) (by decide) fd40_1 sz38 (by decide) sb40_1 (by decide)) rfl ?_
      refine d1 [7, 88] (fun ve h => OpT.loadPA (H rfl) (D1 h rfl) (.inr ⟨_, _, ((h _ (List.elem_iff.1 rfl)).trans rfl), (by assumption)⟩) ag38 sz38) rfl ?_
      refine d1 [] (fun ve h => OpT.buildA (H rfl) ar38 sz36 zr38 zk38 (Built.nil _)) rfl ?_
      refine d1 [8] (fun ve h => OpT.move (A := .cel _ _) (.inl rfl) rfl (ok' rfl) (D1 h rfl) rfl) rfl ?_
      refine d1 [91] (fun ve h => OpT.buildSlice (H rfl) el43 zr2 sz2 rfl (by decide) zk2 (by decide) (Built.cel (D1 h rfl) rfl rfl (sub_arr (by decide) (0 : Int)) (Built.nil _))) rfl ?_
      refine d1 [90, 92] (fun ve h => cb1 (ms := [.flat, .bor 92]) (c_impl_Mask_with _ [e.2.2.1] (fun u hu => by rw [List.mem_singleton] at hu; subst hu; have := edit_hole he (by omega) (by omega); omega)) (H rfl) (Af (D1 h rfl) rfl rfl <| Ab (Root.self (t := 92) (by decide)) ((h _ (List.elem_iff.1 rfl)).trans rfl) <| An) rfl (indA fun _ _ _ _ h => h)) rfl ?_
      refine d1 [89, 93] (fun ve h => OpT.c1 (ms := [.flat, .flat]) (c_impl_LessMask _ _) (H rfl) (Af (D1 h rfl) rfl rfl <| Af (D1 h rfl) rfl rfl <| An) rfl rfl) rfl ?_
      refine d1 [7, 83, 84] (fun ve h => OpT.indexAddrO (H rfl) (Root.ali ((h _ (List.elem_iff.1 rfl)).trans rfl) (by decide) (by decide)) ((h _ (List.elem_iff.1 rfl)).trans rfl) (by decide) (D1 h rfl) el26 sz40 (by omega) (by simp only [List.nil_append]; exact ha)) rfl ?_
      refine d1 [7, 95] (fun ve h => OpT.fieldAddrE (H rfl) (D1 h rfl) (.inr ⟨_, _, ((h _ (List.elem_iff.1 rfl)).trans rfl), (by assumption)⟩) (by decide) fd40_1 sz38 (by decide) sb40_1 (by decide)) rfl ?_
      refine dm (t := 7) [7, 94, 96] (fun ve h => OpT.storeOA rfl rfl (D1 h rfl) ((h _ (List.elem_iff.1 rfl)).trans rfl) (by simp only [List.nil_append]; exact ha) sz38 (by decide) (D1 h rfl)) rfl ?_
      refine dn ⟨by kernel_rfl, by kernel_rfl, ?_⟩
      refine AX.pr (ko 7 rfl <| kc 5 rfl <| ko 4 rfl <| Kn) ?_
      refine AX.go ?_
      refine sr ?_
      refine st (OpT.alias (H rfl) (by decide) (by decide)) rfl ?_
      refine sg (OpT.take (.inl rfl) rfl (ok' rfl) (Root.ali rfl (by decide) (by decide)) rfl rfl (by decide)) (ko 4 rfl <| kc 5 rfl <| Kn) rfl ?_
      refine st (asI rfl) rfl ?_
      refine ng ?_
      refine AW.ret ?_
      exact AX.rt (rs := [.tmp 4, .tmp 5]) (ts := [some 4, some 5]) (.inl rfl) rfl (ROs.cons (RO.tmp (At.self (by decide)) (Ko rfl (by first | (rw [ap_full (by omega) (by omega)]; done) | (rw [ap_state hk1 (by omega)]; done) | (rw [ap_there (by omega) (by omega) (by omega)]; done) | (rw [ap_none (by omega) (by omega)]; done) | (rw [ap_add (by omega) (by omega) (by omega)]; first | done | rfl) | (rw [ap_ndrop (by omega) (by omega) ha hm]; done) | (rw [ap_drop (by omega) (by omega) ha hm]; first | done | rfl | (simp only [List.nil_append]; congr 2; omega)) | (rw [ap_bad (by omega) (by omega) (by omega) ha hb]; done) | (rw [ap_notch (by omega) (by omega) ha hb]; first | done | rfl) | (rw [ap_fill (by omega) (by omega) (by omega) (by omega) ha hb]; first | done | rfl | (simp only [bit_with0]; done) | (rw [← bit_with0]; rfl)))) rfl) <| ROs.cons (RO.tmp (At.self (by decide)) (Kv rfl (by first | (rw [ap_full (by omega) (by omega)]; done) | (rw [ap_state hk1 (by omega)]; done) | (rw [ap_there (by omega) (by omega) (by omega)]; done) | (rw [ap_none (by omega) (by omega)]; done) | (rw [ap_add (by omega) (by omega) (by omega)]; first | done | rfl) | (rw [ap_ndrop (by omega) (by omega) ha hm]; done) | (rw [ap_drop (by omega) (by omega) ha hm]; first | done | rfl | (simp only [List.nil_append]; congr 2; omega)) | (rw [ap_bad (by omega) (by omega) (by omega) ha hb]; done) | (rw [ap_notch (by omega) (by omega) ha hb]; first | done | rfl) | (rw [ap_fill (by omega) (by omega) (by omega) (by omega) ha hb]; first | done | rfl | (simp only [bit_with0]; done) | (rw [← bit_with0]; rfl)))) rfl) <| ROs.nil) (by decide) OutsOK.nil
theorem c_impl_applyEdit (x : List DCard) (e : DEdit) (hl : x.length ≤ 1048576) (he : editB e = true) : AC Tryz.prog 68 [.cel (Kd.slice kCard) x, .agg kEdit e] [.cel (Kd.slice kCard) (applyS x e).1, .cel (Kd.int .i64) (applyS x e).2] [] := (c_impl_applyEdit_o x e hl he).frz rfl

set_option maxHeartbeats 4000000 in
/-- impl.CheckAfter -/
theorem c_impl_CheckAfter (c : BitVec 64) (x : List DCard) (e : DEdit) : AC Tryz.prog 32 [.cel Kd.u64 c, .cel (Kd.slice kCard) x, .agg kEdit e] [.cel Kd.u64 (afterS c x e).1, .cel (Kd.int .i64) (afterS c x e).2] [] := by
 refine acI (N := 56) Tryz.func32 (Nat.le_of_ble_eq_true rfl) rfl fun w0 hd s0 ar => ?_
 refine AW.to (kc2 0 1 rfl <| ka 2 rfl <| Kn) ?_
 refine sr ?_
 refine st (OpT.frz (OpT.boxA (E := 63) (H rfl) (T1 rfl))) rfl ?_
 refine st (OpT.move (A := .cel _ _) (.inr rfl) rfl (ok' rfl) (U2 0 rfl rfl) rfl) rfl ?_
 refine st (asI rfl) rfl ?_
 refine ng ?_
 refine AW.seq ?_
 refine sr ?_
 refine st (mvT rfl) rfl ?_
 refine st (OpT.c1 (ms := [.flat]) (c_impl_isDeck _) (H rfl) (Af (T1 rfl) rfl rfl <| An) rfl rfl) rfl ?_
 refine st (OpT.not (H rfl) (T1 rfl)) rfl ?_
 refine st (mvT rfl) rfl ?_
 apply AWl.or (d := 19) (t := 15) rfl
 ·
  intro hb1 Q1 k1
  have hb1' := lF hb1
  refine rs hb1 (OpT.loadA (H rfl) (T1 rfl) ag63 sz63) rfl ?_
  refine rs hb1 (OpT.c1 (ms := [.flat]) (c_impl_isEdit _) (H rfl) (Af (T1 rfl) rfl rfl <| An) rfl rfl) rfl ?_
  refine rs hb1 (OpT.not (H rfl) (T1 rfl)) rfl ?_
  refine st (OpT.pickF (A := .cel _ _) (H rfl) (T1 rfl) hb1 (T1 rfl) rfl) rfl ?_
  exact AWl.to (junk 3 rfl) k1
 ·
  intro hb1 Q1 k1
  refine ps hb1 rfl ?_
  refine ps hb1 rfl ?_
  refine ps hb1 rfl ?_
  refine st (OpT.pickT (A := .cel _ _) (H rfl) (T1 rfl) hb1 Opd.bool rfl) rfl ?_
  exact k1
 refine ng ?_
 refine cd rfl (fun hc1 => ?_) fun hc1 => ?_
 ·
  obtain ⟨hc1, hc1'⟩ := pT hc1
  refine sr ?_
  refine st (OpT.move (A := .cel _ _) (.inr rfl) rfl (ok' rfl) (U2 0 rfl rfl) rfl) rfl ?_
  refine st (asI rfl) rfl ?_
  refine ng ?_
  refine AW.ret ?_
  refine rT ?_
  exact rt2 rfl (.inl rfl) (by first | (rw [after_bad hc1]; done) | (rw [after_code hc1 hc2']; done) | (rw [after_ok hc1 (by simpa using hc2')]; first | done | rfl | (rw [ho1, ho2]; first | done | simp))) (by first | (rw [after_bad hc1]; done) | (rw [after_code hc1 hc2']; done) | (rw [after_ok hc1 (by simpa using hc2')]; first | done | rfl | (rw [ho1, ho2]; first | done | simp)))
 ·
  obtain ⟨hc1, hc1'⟩ := pF hc1
  have hde := deck_edit hc1
  refine AW.skip ?_
  refine AX.go ?_
  refine sr ?_
  refine st (mvT rfl) rfl ?_
  refine st (OpT.loadA (H rfl) (T1 rfl) ag63 sz63) rfl ?_
  refine s2 (OpT.c2 (ms := [.flat, .flat]) (c_impl_applyEdit _ _ (by omega) hde.2) (H rfl) (Af (T1 rfl) rfl rfl <| Af (T1 rfl) rfl rfl <| An) rfl rfl rfl) rfl ?_
  refine st (OpT.alias (H rfl) (by decide) (by decide)) rfl ?_
  refine st (OpT.extractV (m := 10023) (H rfl) rfl rfl rfl rfl rfl rfl rfl) rfl ?_
  refine st (OpT.extractV (m := 20023) (H rfl) rfl rfl rfl rfl rfl rfl rfl) rfl ?_
  refine st (asT rfl) rfl ?_
  refine st (asT rfl) rfl ?_
  refine AWl.to (kc4 9 8 7 6 rfl <| kc3 5 0 1 rfl <| Kn) ?_
  refine ng ?_
  refine AW.seq ?_
  refine sr ?_
  refine st (mvT rfl) rfl ?_
  refine st (OpT.neq (H rfl) (T1 rfl) (I rfl)) rfl ?_
  refine ng ?_
  refine cd rfl (fun hc2 => ?_) fun hc2 => ?_
  ·
   obtain ⟨hc2, hc2'⟩ := pT hc2
   refine sr ?_
   refine st (mvT rfl) rfl ?_
   refine st (OpT.move (A := .cel _ _) (.inr rfl) rfl (ok' rfl) (U2 0 rfl rfl) rfl) rfl ?_
   refine st (asT rfl) rfl ?_
   refine ng ?_
   refine AW.ret ?_
   refine rT ?_
   exact rt2 rfl (.inl rfl) (by first | (rw [after_bad hc1]; done) | (rw [after_code hc1 hc2']; done) | (rw [after_ok hc1 (by simpa using hc2')]; first | done | rfl | (rw [ho1, ho2]; first | done | simp))) (by first | (rw [after_bad hc1]; done) | (rw [after_code hc1 hc2']; done) | (rw [after_ok hc1 (by simpa using hc2')]; first | done | rfl | (rw [ho1, ho2]; first | done | simp)))
  ·
   obtain ⟨hc2, hc2'⟩ := pF hc2
   refine AW.skip ?_
   refine AX.go ?_
   refine AW.seq ?_
   refine sr ?_
   refine st (mvT rfl) rfl ?_
   refine st (OpT.fieldAddr (H rfl) (T1 rfl) fd63_1 sz9 (by decide) sb63_1) rfl ?_
   refine st (OpT.load (H rfl) (T1 rfl) ag9 rfl) rfl ?_
   refine st (OpT.c1 (ms := [.flat, .flat]) (c_impl_placeOf _ _) (H rfl) (Af (T1 rfl) rfl rfl <| Af (T1 rfl) rfl rfl <| An) rfl rfl) rfl ?_
   refine st (asT rfl) rfl ?_
   refine ng ?_
   refine sr ?_
   refine st (mvT rfl) rfl ?_
   refine st (OpT.geq (H rfl) (T1 rfl) (I rfl)) rfl ?_
   refine ng ?_
   refine cd rfl (fun hc3 => ?_) fun hc3 => ?_
   ·
    obtain ⟨hc3, hc3'⟩ := pT hc3
    obtain ⟨a, ha, han, hal⟩ := findC_get (s := e.2.1) (y := x) (decide_eq_false (by omega))
    have ho1 := ownH_yes (by omega) ha
    refine AW.region ?_
    refine st (mvT rfl) rfl ?_
    refine st (mvT rfl) rfl ?_
    refine st (mvT rfl) rfl ?_
    refine st (OpT.indexAddr (H rfl) (T1 rfl) (T1 rfl) el26 sz40 (by omega) ha) rfl ?_
    refine st (OpT.loadA (H rfl) (T1 rfl) ag40 sz40) rfl ?_
    refine st (OpT.c1 (ms := [.flat]) (c_impl_hashCard _) (H rfl) (Af (T1 rfl) rfl rfl <| An) rfl rfl) rfl ?_
    refine st (OpT.usub (H rfl) (T1 rfl) (T1 rfl)) rfl ?_
    refine st (asT rfl) rfl ?_
    refine AWl.to (kc4 0 8 7 6 rfl <| kc 5 rfl <| Kn) ?_
    refine ng ?_
    refine AW.seq ?_
    refine sr ?_
    refine st (mvT rfl) rfl ?_
    refine st (OpT.fieldAddr (H rfl) (T1 rfl) fd63_1 sz9 (by decide) sb63_1) rfl ?_
    refine st (OpT.load (H rfl) (T1 rfl) ag9 rfl) rfl ?_
    refine st (OpT.c1 (ms := [.flat, .flat]) (c_impl_placeOf _ _) (H rfl) (Af (T1 rfl) rfl rfl <| Af (T1 rfl) rfl rfl <| An) rfl rfl) rfl ?_
    refine st (asT rfl) rfl ?_
    refine ng ?_
    refine sr ?_
    refine st (mvT rfl) rfl ?_
    refine st (OpT.geq (H rfl) (T1 rfl) (I rfl)) rfl ?_
    refine ng ?_
    refine cd rfl (fun hc4 => ?_) fun hc4 => ?_
    ·
     obtain ⟨hc4, hc4'⟩ := pT hc4
     obtain ⟨b, hb, hbn, hbl⟩ := findC_get (s := e.2.1) (y := (applyS x e).1) (decide_eq_false (by omega))
     have ho2 := ownH_yes (by omega) hb
     refine AW.region ?_
     refine st (mvT rfl) rfl ?_
     refine st (mvT rfl) rfl ?_
     refine st (mvT rfl) rfl ?_
     refine st (OpT.indexAddr (H rfl) (T1 rfl) (T1 rfl) el26 sz40 (by omega) hb) rfl ?_
     refine st (OpT.loadA (H rfl) (T1 rfl) ag40 sz40) rfl ?_
     refine st (OpT.c1 (ms := [.flat]) (c_impl_hashCard _) (H rfl) (Af (T1 rfl) rfl rfl <| An) rfl rfl) rfl ?_
     refine st (OpT.uadd (H rfl) (T1 rfl) (T1 rfl)) rfl ?_
     refine st (asT rfl) rfl ?_
     refine AWl.to (kc3 0 7 6 rfl <| Kn) ?_
     refine ng ?_
     refine sr ?_
     refine st (mvT rfl) rfl ?_
     refine st (asT rfl) rfl ?_
     refine st (asI rfl) rfl ?_
     refine ng ?_
     refine AW.ret ?_
     exact rt2 rfl (.inl rfl) (by first | (rw [after_bad hc1]; done) | (rw [after_code hc1 hc2']; done) | (rw [after_ok hc1 (by simpa using hc2')]; first | done | rfl | (rw [ho1, ho2]; first | done | simp))) (by first | (rw [after_bad hc1]; done) | (rw [after_code hc1 hc2']; done) | (rw [after_ok hc1 (by simpa using hc2')]; first | done | rfl | (rw [ho1, ho2]; first | done | simp)))
    ·
     obtain ⟨hc4, hc4'⟩ := pF hc4
     have ho2 := ownH_no (x := (applyS x e).1) (s := e.2.1) (by omega)
     refine AW.skip ?_
     refine AX.go ?_
     refine sr ?_
     refine st (mvT rfl) rfl ?_
     refine st (asT rfl) rfl ?_
     refine st (asI rfl) rfl ?_
     refine AWl.to (kc2 7 6 rfl <| Kn) ?_
     refine ng ?_
     refine AW.ret ?_
     exact rt2 rfl (.inl rfl) (by first | (rw [after_bad hc1]; done) | (rw [after_code hc1 hc2']; done) | (rw [after_ok hc1 (by simpa using hc2')]; first | done | rfl | (rw [ho1, ho2]; first | done | simp))) (by first | (rw [after_bad hc1]; done) | (rw [after_code hc1 hc2']; done) | (rw [after_ok hc1 (by simpa using hc2')]; first | done | rfl | (rw [ho1, ho2]; first | done | simp)))
   ·
    obtain ⟨hc3, hc3'⟩ := pF hc3
    have ho1 := ownH_no (x := x) (s := e.2.1) (by omega)
    refine AW.skip ?_
    refine AX.pr (kc4 8 7 6 5 rfl <| kc 0 rfl <| Kn) ?_
    refine AX.go ?_
    refine AW.seq ?_
    refine sr ?_
    refine st (mvT rfl) rfl ?_
    refine st (OpT.fieldAddr (H rfl) (T1 rfl) fd63_1 sz9 (by decide) sb63_1) rfl ?_
    refine st (OpT.load (H rfl) (T1 rfl) ag9 rfl) rfl ?_
    refine st (OpT.c1 (ms := [.flat, .flat]) (c_impl_placeOf _ _) (H rfl) (Af (T1 rfl) rfl rfl <| Af (T1 rfl) rfl rfl <| An) rfl rfl) rfl ?_
    refine st (asT rfl) rfl ?_
    refine ng ?_
    refine sr ?_
    refine st (mvT rfl) rfl ?_
    refine st (OpT.geq (H rfl) (T1 rfl) (I rfl)) rfl ?_
    refine ng ?_
    refine cd rfl (fun hc5 => ?_) fun hc5 => ?_
    ·
     obtain ⟨hc5, hc5'⟩ := pT hc5
     obtain ⟨b, hb, hbn, hbl⟩ := findC_get (s := e.2.1) (y := (applyS x e).1) (decide_eq_false (by omega))
     have ho2 := ownH_yes (by omega) hb
     refine AW.region ?_
     refine st (mvT rfl) rfl ?_
     refine st (mvT rfl) rfl ?_
     refine st (mvT rfl) rfl ?_
     refine st (OpT.indexAddr (H rfl) (T1 rfl) (T1 rfl) el26 sz40 (by omega) hb) rfl ?_
     refine st (OpT.loadA (H rfl) (T1 rfl) ag40 sz40) rfl ?_
     refine st (OpT.c1 (ms := [.flat]) (c_impl_hashCard _) (H rfl) (Af (T1 rfl) rfl rfl <| An) rfl rfl) rfl ?_
     refine st (OpT.uadd (H rfl) (T1 rfl) (T1 rfl)) rfl ?_
     refine st (asT rfl) rfl ?_
     refine AWl.to (kc3 0 7 6 rfl <| Kn) ?_
     refine ng ?_
     refine sr ?_
     refine st (mvT rfl) rfl ?_
     refine st (asT rfl) rfl ?_
     refine st (asI rfl) rfl ?_
     refine ng ?_
     refine AW.ret ?_
     exact rt2 rfl (.inl rfl) (by first | (rw [after_bad hc1]; done) | (rw [after_code hc1 hc2']; done) | (rw [after_ok hc1 (by simpa using hc2')]; first | done | rfl | (rw [ho1, ho2]; first | done | simp))) (by first | (rw [after_bad hc1]; done) | (rw [after_code hc1 hc2']; done) | (rw [after_ok hc1 (by simpa using hc2')]; first | done | rfl | (rw [ho1, ho2]; first | done | simp)))
    ·
     obtain ⟨hc5, hc5'⟩ := pF hc5
     have ho2 := ownH_no (x := (applyS x e).1) (s := e.2.1) (by omega)
     refine AW.skip ?_
     refine AX.go ?_
     refine sr ?_
     refine st (mvT rfl) rfl ?_
     refine st (asT rfl) rfl ?_
     refine st (asI rfl) rfl ?_
     refine AWl.to (kc2 7 6 rfl <| Kn) ?_
     refine ng ?_
     refine AW.ret ?_
     exact rt2 rfl (.inl rfl) (by first | (rw [after_bad hc1]; done) | (rw [after_code hc1 hc2']; done) | (rw [after_ok hc1 (by simpa using hc2')]; first | done | rfl | (rw [ho1, ho2]; first | done | simp))) (by first | (rw [after_bad hc1]; done) | (rw [after_code hc1 hc2']; done) | (rw [after_ok hc1 (by simpa using hc2')]; first | done | rfl | (rw [ho1, ho2]; first | done | simp)))
end Go.Proofs.YtmmjcpiikdcldaaGreatDoor.VL
