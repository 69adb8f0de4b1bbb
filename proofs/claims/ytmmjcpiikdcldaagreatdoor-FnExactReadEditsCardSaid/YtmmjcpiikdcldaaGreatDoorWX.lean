/- Proved here: what some functions of the program take and give: walks with the words of VA..VQ. Printed by program. -/
import Derived.Test.YtmmjcpiikdcldaaGreatDoorWT
import Derived.Test.YtmmjcpiikdcldaaGreatDoorBpa
import Derived.Test.YtmmjcpiikdcldaaGreatDoorWN
import Derived.Test.YtmmjcpiikdcldaaGreatDoorWK
import Derived.Test.YtmmjcpiikdcldaaGreatDoorWB
import Derived.Test.YtmmjcpiikdcldaaGreatDoorWL
import Derived.Test.YtmmjcpiikdcldaaGreatDoorWP
set_option linter.unusedVariables false
set_option linter.unusedSimpArgs false
set_option maxRecDepth 4000
namespace Go.Proofs.YtmmjcpiikdcldaaGreatDoor.VL
open Go
set_option maxHeartbeats 4000000 in
/-- spec.l07Edit -/
theorem c_spec_l07Edit (e : DEdit) : AC Tryz.prog 111 [.cel (Kd.ptr kEdit) e] [.cel Kd.bool (editB e)] [] := by
 refine acI (N := 53) Tryz.func111 (Nat.le_of_ble_eq_true rfl) rfl fun w0 hd s0 ar => ?_
 refine AW.to (kc 0 rfl <| Kn) ?_
 refine AW.fact (fun a w hr => okEdit (ok_ptr (R_ok (t := 0) rfl hr))) (fun he0 => ?_)
 refine sr ?_
 refine st (asB rfl) rfl ?_
 refine ng ?_
 refine AW.seq ?_
 refine sr ?_
 refine st (mvT rfl) rfl ?_
 refine st (OpT.nilCheck (H rfl) (T1 rfl)) rfl ?_
 refine st (OpT.fieldAddr (H rfl) (T1 rfl) fd63_0 sz60 (by decide) sb63_0) rfl ?_
 refine st (OpT.load (H rfl) (T1 rfl) ag60 rfl) rfl ?_
 refine ng ?_
 refine AW.block ?_
 refine AW.seq ?_
 refine sr ?_
 refine st (OpT.eql (H rfl) (T1 rfl) (I rfl)) rfl ?_
 refine st (asT rfl) rfl ?_
 refine ng ?_
 refine cd rfl (fun hc1 => ?_) fun hc1 => ?_
 ·
  obtain ⟨hc1, hc1'⟩ := pT hc1
  refine AW.skip ?_
  refine AX.go ?_
  refine cd rfl (fun hc2 => ?_) fun hc2 => ?_
  ·
   obtain ⟨hc2, hc2'⟩ := pT hc2
   refine sr ?_
   refine st (mvT rfl) rfl ?_
   refine st (OpT.nilCheck (H rfl) (T1 rfl)) rfl ?_
   refine st (OpT.fieldAddr (H rfl) (T1 rfl) fd63_1 sz9 (by decide) sb63_1) rfl ?_
   refine st (OpT.load (H rfl) (T1 rfl) ag9 rfl) rfl ?_
   refine st (OpT.c1 (ms := [.flat]) (c_spec_l01Name _) (H rfl) (Af (T1 rfl) rfl rfl <| An) rfl rfl) rfl ?_
   refine st (mvT rfl) rfl ?_
   apply AWl.and (d := 21) (t := 15) rfl
   ·
    intro hb1 Q1 k1
    have hb1' := lT hb1
    refine rs hb1 (mvT rfl) rfl ?_
    refine rs hb1 (OpT.nilCheck (H rfl) (T1 rfl)) rfl ?_
    refine rs hb1 (OpT.fieldAddr (H rfl) (T1 rfl) fd63_2 sz61 (by decide) sb63_2) rfl ?_
    refine rs hb1 (OpT.load (H rfl) (T1 rfl) ag61 rfl) rfl ?_
    refine rs hb1 (OpT.eql (H rfl) (T1 rfl) (I rfl)) rfl ?_
    refine st (OpT.pickT (A := .cel _ _) (H rfl) (T1 rfl) hb1 (T1 rfl) rfl) rfl ?_
    exact AWl.to (junk 5 rfl) k1
   ·
    intro hb1 Q1 k1
    refine ps hb1 rfl ?_
    refine ps hb1 rfl ?_
    refine ps hb1 rfl ?_
    refine ps hb1 rfl ?_
    refine ps hb1 rfl ?_
    refine st (OpT.pickF (A := .cel _ _) (H rfl) (T1 rfl) hb1 Opd.bool rfl) rfl ?_
    exact k1
   refine st (mvT rfl) rfl ?_
   apply AWl.and (d := 28) (t := 22) rfl
   ·
    intro hb2 Q1 k1
    have hb2' := lT hb2
    refine rs hb2 (mvT rfl) rfl ?_
    refine rs hb2 (OpT.nilCheck (H rfl) (T1 rfl)) rfl ?_
    refine rs hb2 (OpT.fieldAddr (H rfl) (T1 rfl) fd63_3 sz38 (by decide) sb63_3) rfl ?_
    refine rs hb2 (OpT.loadA (H rfl) (T1 rfl) ag38 sz38) rfl ?_
    refine rs hb2 (OpT.c1 (ms := [.flat]) (c_spec_l01Mask _) (H rfl) (Af (T1 rfl) rfl rfl <| An) rfl rfl) rfl ?_
    refine st (OpT.pickT (A := .cel _ _) (H rfl) (T1 rfl) hb2 (T1 rfl) rfl) rfl ?_
    exact AWl.to (junk 5 rfl) k1
   ·
    intro hb2 Q1 k1
    refine ps hb2 rfl ?_
    refine ps hb2 rfl ?_
    refine ps hb2 rfl ?_
    refine ps hb2 rfl ?_
    refine ps hb2 rfl ?_
    refine st (OpT.pickF (A := .cel _ _) (H rfl) (T1 rfl) hb2 Opd.bool rfl) rfl ?_
    exact k1
   refine st (asT rfl) rfl ?_
   refine AWl.to (kc 2 rfl <| Kn) ?_
   refine ng ?_
   refine AW.ret ?_
   refine rK <| rT ?_
   exact rt1 rfl (.inl rfl) (by first | exact edit_12' (by omega) | exact edit_34' (by omega) (by omega) | exact edit_else (by omega) (by omega))
  ·
   obtain ⟨hc2, hc2'⟩ := pF hc2
   refine AW.seq ?_
   refine sr ?_
   refine st (OpT.eql (H rfl) (T1 rfl) (I rfl)) rfl ?_
   refine st (asT rfl) rfl ?_
   refine ng ?_
   refine cd rfl (fun hc3 => ?_) fun hc3 => ?_
   ·
    obtain ⟨hc3, hc3'⟩ := pT hc3
    refine AW.skip ?_
    refine AX.go ?_
    refine cd rfl (fun hc4 => ?_) fun hc4 => ?_
    ·
     obtain ⟨hc4, hc4'⟩ := pT hc4
     refine sr ?_
     refine st (mvT rfl) rfl ?_
     refine st (OpT.nilCheck (H rfl) (T1 rfl)) rfl ?_
     refine st (OpT.fieldAddr (H rfl) (T1 rfl) fd63_1 sz9 (by decide) sb63_1) rfl ?_
     refine st (OpT.load (H rfl) (T1 rfl) ag9 rfl) rfl ?_
     refine st (OpT.c1 (ms := [.flat]) (c_spec_l01Name _) (H rfl) (Af (T1 rfl) rfl rfl <| An) rfl rfl) rfl ?_
     refine st (mvT rfl) rfl ?_
     apply AWl.and (d := 44) (t := 37) rfl
     ·
      intro hb3 Q1 k1
      have hb3' := lT hb3
      refine rs hb3 (mvT rfl) rfl ?_
      refine rs hb3 (OpT.nilCheck (H rfl) (T1 rfl)) rfl ?_
      refine rs hb3 (OpT.fieldAddr (H rfl) (T1 rfl) fd63_2 sz61 (by decide) sb63_2) rfl ?_
      refine rs hb3 (OpT.load (H rfl) (T1 rfl) ag61 rfl) rfl ?_
      refine rs hb3 (OpT.conv (H rfl) us61 Tryz.underlying2 (T1 rfl) (nw (by omega))) rfl ?_
      refine rs hb3 (OpT.c1 (ms := [.flat]) (c_spec_l01Hole _) (H rfl) (Af (T1 rfl) rfl rfl <| An) rfl rfl) rfl ?_
      refine st (OpT.pickT (A := .cel _ _) (H rfl) (T1 rfl) hb3 (T1 rfl) rfl) rfl ?_
      exact AWl.to (junk 6 rfl) k1
     ·
      intro hb3 Q1 k1
      refine ps hb3 rfl ?_
      refine ps hb3 rfl ?_
      refine ps hb3 rfl ?_
      refine ps hb3 rfl ?_
      refine ps hb3 rfl ?_
      refine ps hb3 rfl ?_
      refine st (OpT.pickF (A := .cel _ _) (H rfl) (T1 rfl) hb3 Opd.bool rfl) rfl ?_
      exact k1
     refine st (mvT rfl) rfl ?_
     apply AWl.and (d := 52) (t := 45) rfl
     ·
      intro hb4 Q1 k1
      have hb4' := lT hb4
      refine rs hb4 (mvT rfl) rfl ?_
      refine rs hb4 (OpT.nilCheck (H rfl) (T1 rfl)) rfl ?_
      refine rs hb4 (OpT.fieldAddr (H rfl) (T1 rfl) fd63_3 sz38 (by decide) sb63_3) rfl ?_
      refine rs hb4 (OpT.loadA (H rfl) (T1 rfl) ag38 sz38) rfl ?_
      refine rs hb4 (OpT.buildA (H rfl) ar38 sz36 zr38 zk38 (Built.nil _)) rfl ?_
      refine rs hb4 (OpT.eqA (H rfl) (T1 rfl) (T1 rfl) eq38 ag38 rfl eg38) rfl ?_
      refine st (OpT.pickT (A := .cel _ _) (H rfl) (T1 rfl) hb4 (T1 rfl) rfl) rfl ?_
      exact AWl.to (junk 6 rfl) k1
     ·
      intro hb4 Q1 k1
      refine ps hb4 rfl ?_
      refine ps hb4 rfl ?_
      refine ps hb4 rfl ?_
      refine ps hb4 rfl ?_
      refine ps hb4 rfl ?_
      refine ps hb4 rfl ?_
      refine st (OpT.pickF (A := .cel _ _) (H rfl) (T1 rfl) hb4 Opd.bool rfl) rfl ?_
      exact k1
     refine st (asT rfl) rfl ?_
     refine AWl.to (kc 2 rfl <| Kn) ?_
     refine ng ?_
     refine AW.ret ?_
     refine rK <| rT ?_
     exact rt1 rfl (.inl rfl) (by first | exact edit_12' (by omega) | exact edit_34' (by omega) (by omega) | exact edit_else (by omega) (by omega))
    ·
     obtain ⟨hc4, hc4'⟩ := pF hc4
     refine AW.skip ?_
     refine AX.normal_block ?_
     refine AX.go ?_
     refine sr ?_
     refine st (asB rfl) rfl ?_
     refine ng ?_
     refine AW.ret ?_
     exact rt1 rfl (.inl rfl) (by first | exact edit_12' (by omega) | exact edit_34' (by omega) (by omega) | exact edit_else (by omega) (by omega))
   ·
    obtain ⟨hc3, hc3'⟩ := pF hc3
    refine AW.region ?_
    refine st (OpT.eql (H rfl) (T1 rfl) (I rfl)) rfl ?_
    refine st (asT rfl) rfl ?_
    refine ng ?_
    refine cd rfl (fun hc5 => ?_) fun hc5 => ?_
    ·
     obtain ⟨hc5, hc5'⟩ := pT hc5
     refine sr ?_
     refine st (mvT rfl) rfl ?_
     refine st (OpT.nilCheck (H rfl) (T1 rfl)) rfl ?_
     refine st (OpT.fieldAddr (H rfl) (T1 rfl) fd63_1 sz9 (by decide) sb63_1) rfl ?_
     refine st (OpT.load (H rfl) (T1 rfl) ag9 rfl) rfl ?_
     refine st (OpT.c1 (ms := [.flat]) (c_spec_l01Name _) (H rfl) (Af (T1 rfl) rfl rfl <| An) rfl rfl) rfl ?_
     refine st (mvT rfl) rfl ?_
     apply AWl.and (d := 44) (t := 37) rfl
     ·
      intro hb5 Q1 k1
      have hb5' := lT hb5
      refine rs hb5 (mvT rfl) rfl ?_
      refine rs hb5 (OpT.nilCheck (H rfl) (T1 rfl)) rfl ?_
      refine rs hb5 (OpT.fieldAddr (H rfl) (T1 rfl) fd63_2 sz61 (by decide) sb63_2) rfl ?_
      refine rs hb5 (OpT.load (H rfl) (T1 rfl) ag61 rfl) rfl ?_
      refine rs hb5 (OpT.conv (H rfl) us61 Tryz.underlying2 (T1 rfl) (nw (by omega))) rfl ?_
      refine rs hb5 (OpT.c1 (ms := [.flat]) (c_spec_l01Hole _) (H rfl) (Af (T1 rfl) rfl rfl <| An) rfl rfl) rfl ?_
      refine st (OpT.pickT (A := .cel _ _) (H rfl) (T1 rfl) hb5 (T1 rfl) rfl) rfl ?_
      exact AWl.to (junk 6 rfl) k1
     ·
      intro hb5 Q1 k1
      refine ps hb5 rfl ?_
      refine ps hb5 rfl ?_
      refine ps hb5 rfl ?_
      refine ps hb5 rfl ?_
      refine ps hb5 rfl ?_
      refine ps hb5 rfl ?_
      refine st (OpT.pickF (A := .cel _ _) (H rfl) (T1 rfl) hb5 Opd.bool rfl) rfl ?_
      exact k1
     refine st (mvT rfl) rfl ?_
     apply AWl.and (d := 52) (t := 45) rfl
     ·
      intro hb6 Q1 k1
      have hb6' := lT hb6
      refine rs hb6 (mvT rfl) rfl ?_
      refine rs hb6 (OpT.nilCheck (H rfl) (T1 rfl)) rfl ?_
      refine rs hb6 (OpT.fieldAddr (H rfl) (T1 rfl) fd63_3 sz38 (by decide) sb63_3) rfl ?_
      refine rs hb6 (OpT.loadA (H rfl) (T1 rfl) ag38 sz38) rfl ?_
      refine rs hb6 (OpT.buildA (H rfl) ar38 sz36 zr38 zk38 (Built.nil _)) rfl ?_
      refine rs hb6 (OpT.eqA (H rfl) (T1 rfl) (T1 rfl) eq38 ag38 rfl eg38) rfl ?_
      refine st (OpT.pickT (A := .cel _ _) (H rfl) (T1 rfl) hb6 (T1 rfl) rfl) rfl ?_
      exact AWl.to (junk 6 rfl) k1
     ·
      intro hb6 Q1 k1
      refine ps hb6 rfl ?_
      refine ps hb6 rfl ?_
      refine ps hb6 rfl ?_
      refine ps hb6 rfl ?_
      refine ps hb6 rfl ?_
      refine ps hb6 rfl ?_
      refine st (OpT.pickF (A := .cel _ _) (H rfl) (T1 rfl) hb6 Opd.bool rfl) rfl ?_
      exact k1
     refine st (asT rfl) rfl ?_
     refine AWl.to (kc 2 rfl <| Kn) ?_
     refine ng ?_
     refine AW.ret ?_
     refine rK <| rT ?_
     exact rt1 rfl (.inl rfl) (by first | exact edit_12' (by omega) | exact edit_34' (by omega) (by omega) | exact edit_else (by omega) (by omega))
    ·
     obtain ⟨hc5, hc5'⟩ := pF hc5
     refine AW.skip ?_
     refine AX.normal_block ?_
     refine AX.pr (kc 2 rfl <| Kn) ?_
     refine AX.go ?_
     refine sr ?_
     refine st (asB rfl) rfl ?_
     refine ng ?_
     refine AW.ret ?_
     exact rt1 rfl (.inl rfl) (by first | exact edit_12' (by omega) | exact edit_34' (by omega) (by omega) | exact edit_else (by omega) (by omega))
 ·
  obtain ⟨hc1, hc1'⟩ := pF hc1
  refine AW.region ?_
  refine st (OpT.eql (H rfl) (T1 rfl) (I rfl)) rfl ?_
  refine st (asT rfl) rfl ?_
  refine ng ?_
  refine cd rfl (fun hc6 => ?_) fun hc6 => ?_
  ·
   obtain ⟨hc6, hc6'⟩ := pT hc6
   refine sr ?_
   refine st (mvT rfl) rfl ?_
   refine st (OpT.nilCheck (H rfl) (T1 rfl)) rfl ?_
   refine st (OpT.fieldAddr (H rfl) (T1 rfl) fd63_1 sz9 (by decide) sb63_1) rfl ?_
   refine st (OpT.load (H rfl) (T1 rfl) ag9 rfl) rfl ?_
   refine st (OpT.c1 (ms := [.flat]) (c_spec_l01Name _) (H rfl) (Af (T1 rfl) rfl rfl <| An) rfl rfl) rfl ?_
   refine st (mvT rfl) rfl ?_
   apply AWl.and (d := 21) (t := 15) rfl
   ·
    intro hb7 Q1 k1
    have hb7' := lT hb7
    refine rs hb7 (mvT rfl) rfl ?_
    refine rs hb7 (OpT.nilCheck (H rfl) (T1 rfl)) rfl ?_
    refine rs hb7 (OpT.fieldAddr (H rfl) (T1 rfl) fd63_2 sz61 (by decide) sb63_2) rfl ?_
    refine rs hb7 (OpT.load (H rfl) (T1 rfl) ag61 rfl) rfl ?_
    refine rs hb7 (OpT.eql (H rfl) (T1 rfl) (I rfl)) rfl ?_
    refine st (OpT.pickT (A := .cel _ _) (H rfl) (T1 rfl) hb7 (T1 rfl) rfl) rfl ?_
    exact AWl.to (junk 5 rfl) k1
   ·
    intro hb7 Q1 k1
    refine ps hb7 rfl ?_
    refine ps hb7 rfl ?_
    refine ps hb7 rfl ?_
    refine ps hb7 rfl ?_
    refine ps hb7 rfl ?_
    refine st (OpT.pickF (A := .cel _ _) (H rfl) (T1 rfl) hb7 Opd.bool rfl) rfl ?_
    exact k1
   refine st (mvT rfl) rfl ?_
   apply AWl.and (d := 28) (t := 22) rfl
   ·
    intro hb8 Q1 k1
    have hb8' := lT hb8
    refine rs hb8 (mvT rfl) rfl ?_
    refine rs hb8 (OpT.nilCheck (H rfl) (T1 rfl)) rfl ?_
    refine rs hb8 (OpT.fieldAddr (H rfl) (T1 rfl) fd63_3 sz38 (by decide) sb63_3) rfl ?_
    refine rs hb8 (OpT.loadA (H rfl) (T1 rfl) ag38 sz38) rfl ?_
    refine rs hb8 (OpT.c1 (ms := [.flat]) (c_spec_l01Mask _) (H rfl) (Af (T1 rfl) rfl rfl <| An) rfl rfl) rfl ?_
    refine st (OpT.pickT (A := .cel _ _) (H rfl) (T1 rfl) hb8 (T1 rfl) rfl) rfl ?_
    exact AWl.to (junk 5 rfl) k1
   ·
    intro hb8 Q1 k1
    refine ps hb8 rfl ?_
    refine ps hb8 rfl ?_
    refine ps hb8 rfl ?_
    refine ps hb8 rfl ?_
    refine ps hb8 rfl ?_
    refine st (OpT.pickF (A := .cel _ _) (H rfl) (T1 rfl) hb8 Opd.bool rfl) rfl ?_
    exact k1
   refine st (asT rfl) rfl ?_
   refine AWl.to (kc 2 rfl <| Kn) ?_
   refine ng ?_
   refine AW.ret ?_
   refine rK <| rT ?_
   exact rt1 rfl (.inl rfl) (by first | exact edit_12' (by omega) | exact edit_34' (by omega) (by omega) | exact edit_else (by omega) (by omega))
  ·
   obtain ⟨hc6, hc6'⟩ := pF hc6
   refine AW.seq ?_
   refine sr ?_
   refine st (OpT.eql (H rfl) (T1 rfl) (I rfl)) rfl ?_
   refine st (asT rfl) rfl ?_
   refine ng ?_
   refine cd rfl (fun hc7 => ?_) fun hc7 => ?_
   ·
    obtain ⟨hc7, hc7'⟩ := pT hc7
    refine AW.skip ?_
    refine AX.go ?_
    refine cd rfl (fun hc8 => ?_) fun hc8 => ?_
    ·
     obtain ⟨hc8, hc8'⟩ := pT hc8
     refine sr ?_
     refine st (mvT rfl) rfl ?_
     refine st (OpT.nilCheck (H rfl) (T1 rfl)) rfl ?_
     refine st (OpT.fieldAddr (H rfl) (T1 rfl) fd63_1 sz9 (by decide) sb63_1) rfl ?_
     refine st (OpT.load (H rfl) (T1 rfl) ag9 rfl) rfl ?_
     refine st (OpT.c1 (ms := [.flat]) (c_spec_l01Name _) (H rfl) (Af (T1 rfl) rfl rfl <| An) rfl rfl) rfl ?_
     refine st (mvT rfl) rfl ?_
     apply AWl.and (d := 44) (t := 37) rfl
     ·
      intro hb9 Q1 k1
      have hb9' := lT hb9
      refine rs hb9 (mvT rfl) rfl ?_
      refine rs hb9 (OpT.nilCheck (H rfl) (T1 rfl)) rfl ?_
      refine rs hb9 (OpT.fieldAddr (H rfl) (T1 rfl) fd63_2 sz61 (by decide) sb63_2) rfl ?_
      refine rs hb9 (OpT.load (H rfl) (T1 rfl) ag61 rfl) rfl ?_
      refine rs hb9 (OpT.conv (H rfl) us61 Tryz.underlying2 (T1 rfl) (nw (by omega))) rfl ?_
      refine rs hb9 (OpT.c1 (ms := [.flat]) (c_spec_l01Hole _) (H rfl) (Af (T1 rfl) rfl rfl <| An) rfl rfl) rfl ?_
      refine st (OpT.pickT (A := .cel _ _) (H rfl) (T1 rfl) hb9 (T1 rfl) rfl) rfl ?_
      exact AWl.to (junk 6 rfl) k1
     ·
      intro hb9 Q1 k1
      refine ps hb9 rfl ?_
      refine ps hb9 rfl ?_
      refine ps hb9 rfl ?_
      refine ps hb9 rfl ?_
      refine ps hb9 rfl ?_
      refine ps hb9 rfl ?_
      refine st (OpT.pickF (A := .cel _ _) (H rfl) (T1 rfl) hb9 Opd.bool rfl) rfl ?_
      exact k1
     refine st (mvT rfl) rfl ?_
     apply AWl.and (d := 52) (t := 45) rfl
     ·
      intro hb10 Q1 k1
      have hb10' := lT hb10
      refine rs hb10 (mvT rfl) rfl ?_
      refine rs hb10 (OpT.nilCheck (H rfl) (T1 rfl)) rfl ?_
      refine rs hb10 (OpT.fieldAddr (H rfl) (T1 rfl) fd63_3 sz38 (by decide) sb63_3) rfl ?_
      refine rs hb10 (OpT.loadA (H rfl) (T1 rfl) ag38 sz38) rfl ?_
      refine rs hb10 (OpT.buildA (H rfl) ar38 sz36 zr38 zk38 (Built.nil _)) rfl ?_
      refine rs hb10 (OpT.eqA (H rfl) (T1 rfl) (T1 rfl) eq38 ag38 rfl eg38) rfl ?_
      refine st (OpT.pickT (A := .cel _ _) (H rfl) (T1 rfl) hb10 (T1 rfl) rfl) rfl ?_
      exact AWl.to (junk 6 rfl) k1
     ·
      intro hb10 Q1 k1
      refine ps hb10 rfl ?_
      refine ps hb10 rfl ?_
      refine ps hb10 rfl ?_
      refine ps hb10 rfl ?_
      refine ps hb10 rfl ?_
      refine ps hb10 rfl ?_
      refine st (OpT.pickF (A := .cel _ _) (H rfl) (T1 rfl) hb10 Opd.bool rfl) rfl ?_
      exact k1
     refine st (asT rfl) rfl ?_
     refine AWl.to (kc 2 rfl <| Kn) ?_
     refine ng ?_
     refine AW.ret ?_
     refine rK <| rT ?_
     exact rt1 rfl (.inl rfl) (by first | exact edit_12' (by omega) | exact edit_34' (by omega) (by omega) | exact edit_else (by omega) (by omega))
    ·
     obtain ⟨hc8, hc8'⟩ := pF hc8
     refine AW.skip ?_
     refine AX.normal_block ?_
     refine AX.pr (kc 2 rfl <| Kn) ?_
     refine AX.go ?_
     refine sr ?_
     refine st (asB rfl) rfl ?_
     refine ng ?_
     refine AW.ret ?_
     exact rt1 rfl (.inl rfl) (by first | exact edit_12' (by omega) | exact edit_34' (by omega) (by omega) | exact edit_else (by omega) (by omega))
   ·
    obtain ⟨hc7, hc7'⟩ := pF hc7
    refine AW.region ?_
    refine st (OpT.eql (H rfl) (T1 rfl) (I rfl)) rfl ?_
    refine st (asT rfl) rfl ?_
    refine AWl.to (kc3 29 2 0 rfl <| Kn) ?_
    refine ng ?_
    refine cd rfl (fun hc9 => ?_) fun hc9 => ?_
    ·
     obtain ⟨hc9, hc9'⟩ := pT hc9
     refine sr ?_
     refine st (mvT rfl) rfl ?_
     refine st (OpT.nilCheck (H rfl) (T1 rfl)) rfl ?_
     refine st (OpT.fieldAddr (H rfl) (T1 rfl) fd63_1 sz9 (by decide) sb63_1) rfl ?_
     refine st (OpT.load (H rfl) (T1 rfl) ag9 rfl) rfl ?_
     refine st (OpT.c1 (ms := [.flat]) (c_spec_l01Name _) (H rfl) (Af (T1 rfl) rfl rfl <| An) rfl rfl) rfl ?_
     refine st (mvT rfl) rfl ?_
     apply AWl.and (d := 44) (t := 37) rfl
     ·
      intro hb11 Q1 k1
      have hb11' := lT hb11
      refine rs hb11 (mvT rfl) rfl ?_
      refine rs hb11 (OpT.nilCheck (H rfl) (T1 rfl)) rfl ?_
      refine rs hb11 (OpT.fieldAddr (H rfl) (T1 rfl) fd63_2 sz61 (by decide) sb63_2) rfl ?_
      refine rs hb11 (OpT.load (H rfl) (T1 rfl) ag61 rfl) rfl ?_
      refine rs hb11 (OpT.conv (H rfl) us61 Tryz.underlying2 (T1 rfl) (nw (by omega))) rfl ?_
      refine rs hb11 (OpT.c1 (ms := [.flat]) (c_spec_l01Hole _) (H rfl) (Af (T1 rfl) rfl rfl <| An) rfl rfl) rfl ?_
      refine st (OpT.pickT (A := .cel _ _) (H rfl) (T1 rfl) hb11 (T1 rfl) rfl) rfl ?_
      exact AWl.to (junk 6 rfl) k1
     ·
      intro hb11 Q1 k1
      refine ps hb11 rfl ?_
      refine ps hb11 rfl ?_
      refine ps hb11 rfl ?_
      refine ps hb11 rfl ?_
      refine ps hb11 rfl ?_
      refine ps hb11 rfl ?_
      refine st (OpT.pickF (A := .cel _ _) (H rfl) (T1 rfl) hb11 Opd.bool rfl) rfl ?_
      exact k1
     refine st (mvT rfl) rfl ?_
     apply AWl.and (d := 52) (t := 45) rfl
     ·
      intro hb12 Q1 k1
      have hb12' := lT hb12
      refine rs hb12 (mvT rfl) rfl ?_
      refine rs hb12 (OpT.nilCheck (H rfl) (T1 rfl)) rfl ?_
      refine rs hb12 (OpT.fieldAddr (H rfl) (T1 rfl) fd63_3 sz38 (by decide) sb63_3) rfl ?_
      refine rs hb12 (OpT.loadA (H rfl) (T1 rfl) ag38 sz38) rfl ?_
      refine rs hb12 (OpT.buildA (H rfl) ar38 sz36 zr38 zk38 (Built.nil _)) rfl ?_
      refine rs hb12 (OpT.eqA (H rfl) (T1 rfl) (T1 rfl) eq38 ag38 rfl eg38) rfl ?_
      refine st (OpT.pickT (A := .cel _ _) (H rfl) (T1 rfl) hb12 (T1 rfl) rfl) rfl ?_
      exact AWl.to (junk 6 rfl) k1
     ·
      intro hb12 Q1 k1
      refine ps hb12 rfl ?_
      refine ps hb12 rfl ?_
      refine ps hb12 rfl ?_
      refine ps hb12 rfl ?_
      refine ps hb12 rfl ?_
      refine ps hb12 rfl ?_
      refine st (OpT.pickF (A := .cel _ _) (H rfl) (T1 rfl) hb12 Opd.bool rfl) rfl ?_
      exact k1
     refine st (asT rfl) rfl ?_
     refine AWl.to (kc 2 rfl <| Kn) ?_
     refine ng ?_
     refine AW.ret ?_
     refine rK <| rT ?_
     exact rt1 rfl (.inl rfl) (by first | exact edit_12' (by omega) | exact edit_34' (by omega) (by omega) | exact edit_else (by omega) (by omega))
    ·
     obtain ⟨hc9, hc9'⟩ := pF hc9
     refine AW.skip ?_
     refine AX.normal_block ?_
     refine AX.go ?_
     refine sr ?_
     refine st (asB rfl) rfl ?_
     refine ng ?_
     refine AW.ret ?_
     exact rt1 rfl (.inl rfl) (by first | exact edit_12' (by omega) | exact edit_34' (by omega) (by omega) | exact edit_else (by omega) (by omega))

set_option maxHeartbeats 4000000 in
/-- impl.isEdit -/
theorem c_impl_isEdit (e : DEdit) : AC Tryz.prog 72 [.agg kEdit e] [.cel Kd.bool (editB e)] [] := by
 refine acI (N := 33) Tryz.func72 (Nat.le_of_ble_eq_true rfl) rfl fun w0 hd s0 ar => ?_
 refine AW.to (ka 0 rfl <| Kn) ?_
 refine AW.fact (fun a w hr => okEdit (R_okA (t := 0) rfl hr)) (fun he0 => ?_)
 refine sr ?_
 refine st (OpT.frz (OpT.boxA (E := 63) (H rfl) (T1 rfl))) rfl ?_
 refine st (asB rfl) rfl ?_
 refine ng ?_
 refine AW.seq ?_
 refine sr ?_
 refine st (OpT.fieldAddr (H rfl) (T1 rfl) fd63_1 sz9 (by decide) sb63_1) rfl ?_
 refine st (OpT.load (H rfl) (T1 rfl) ag9 rfl) rfl ?_
 refine st (OpT.c1 (ms := [.flat]) (c_impl_isName _) (H rfl) (Af (T1 rfl) rfl rfl <| An) rfl rfl) rfl ?_
 refine st (OpT.not (H rfl) (T1 rfl)) rfl ?_
 refine ng ?_
 refine cd rfl (fun hc1 => ?_) fun hc1 => ?_
 ·
  obtain ⟨hc1, hc1'⟩ := pT hc1
  have hnm : tt (nameOK e.2.1) = false := by simpa using hc1
  refine sr ?_
  refine st (asB rfl) rfl ?_
  refine ng ?_
  refine AW.ret ?_
  refine rT ?_
  exact rt1 rfl (.inl rfl) (by first | exact edit_no hnm | exact edit_12 hnm (by omega) | exact edit_34 hnm (by omega) (by omega) | exact edit_else (by omega) (by omega))
 ·
  obtain ⟨hc1, hc1'⟩ := pF hc1
  have hnm : tt (nameOK e.2.1) = true := by simpa using hc1
  refine AW.skip ?_
  refine AX.go ?_
  refine AW.seq ?_
  refine sr ?_
  refine st (OpT.fieldAddr (H rfl) (T1 rfl) fd63_0 sz60 (by decide) sb63_0) rfl ?_
  refine st (OpT.load (H rfl) (T1 rfl) ag60 rfl) rfl ?_
  refine ng ?_
  refine AW.block ?_
  refine AW.seq ?_
  refine sr ?_
  refine st (OpT.eql (H rfl) (T1 rfl) (I rfl)) rfl ?_
  refine st (asT rfl) rfl ?_
  refine ng ?_
  refine cd rfl (fun hc2 => ?_) fun hc2 => ?_
  ·
   obtain ⟨hc2, hc2'⟩ := pT hc2
   refine AW.skip ?_
   refine AX.go ?_
   refine cd rfl (fun hc3 => ?_) fun hc3 => ?_
   ·
    obtain ⟨hc3, hc3'⟩ := pT hc3
    refine sr ?_
    refine st (OpT.fieldAddr (H rfl) (T1 rfl) fd63_2 sz61 (by decide) sb63_2) rfl ?_
    refine st (OpT.load (H rfl) (T1 rfl) ag61 rfl) rfl ?_
    refine st (OpT.eql (H rfl) (T1 rfl) (I rfl)) rfl ?_
    refine st (mvT rfl) rfl ?_
    apply AWl.and (d := 19) (t := 15) rfl
    ·
     intro hb1 Q1 k1
     have hb1' := lT hb1
     refine rs hb1 (OpT.fieldAddr (H rfl) (T1 rfl) fd63_3 sz38 (by decide) sb63_3) rfl ?_
     refine rs hb1 (OpT.loadA (H rfl) (T1 rfl) ag38 sz38) rfl ?_
     refine rs hb1 (OpT.c1 (ms := [.flat]) (c_impl_isMask _) (H rfl) (Af (T1 rfl) rfl rfl <| An) rfl rfl) rfl ?_
     refine st (OpT.pickT (A := .cel _ _) (H rfl) (T1 rfl) hb1 (T1 rfl) rfl) rfl ?_
     exact AWl.to (junk 3 rfl) k1
    ·
     intro hb1 Q1 k1
     refine ps hb1 rfl ?_
     refine ps hb1 rfl ?_
     refine ps hb1 rfl ?_
     refine st (OpT.pickF (A := .cel _ _) (H rfl) (T1 rfl) hb1 Opd.bool rfl) rfl ?_
     exact k1
    refine st (asT rfl) rfl ?_
    refine AWl.to (kc 2 rfl <| Kn) ?_
    refine ng ?_
    refine AW.ret ?_
    refine rK <| rT ?_
    exact rt1 rfl (.inl rfl) (by first | exact edit_no hnm | exact edit_12 hnm (by omega) | exact edit_34 hnm (by omega) (by omega) | exact edit_else (by omega) (by omega))
   ·
    obtain ⟨hc3, hc3'⟩ := pF hc3
    refine AW.seq ?_
    refine sr ?_
    refine st (OpT.eql (H rfl) (T1 rfl) (I rfl)) rfl ?_
    refine st (asT rfl) rfl ?_
    refine ng ?_
    refine cd rfl (fun hc4 => ?_) fun hc4 => ?_
    ·
     obtain ⟨hc4, hc4'⟩ := pT hc4
     refine AW.skip ?_
     refine AX.go ?_
     refine cd rfl (fun hc5 => ?_) fun hc5 => ?_
     ·
      obtain ⟨hc5, hc5'⟩ := pT hc5
      refine sr ?_
      refine st (OpT.fieldAddr (H rfl) (T1 rfl) fd63_2 sz61 (by decide) sb63_2) rfl ?_
      refine st (OpT.load (H rfl) (T1 rfl) ag61 rfl) rfl ?_
      refine st (OpT.conv (H rfl) us61 Tryz.underlying2 (T1 rfl) (nw (by omega))) rfl ?_
      refine st (OpT.c1 (ms := [.flat]) (c_impl_isHole _) (H rfl) (Af (T1 rfl) rfl rfl <| An) rfl rfl) rfl ?_
      refine st (mvT rfl) rfl ?_
      apply AWl.and (d := 32) (t := 27) rfl
      ·
       intro hb2 Q1 k1
       have hb2' := lT hb2
       refine rs hb2 (OpT.fieldAddr (H rfl) (T1 rfl) fd63_3 sz38 (by decide) sb63_3) rfl ?_
       refine rs hb2 (OpT.loadA (H rfl) (T1 rfl) ag38 sz38) rfl ?_
       refine rs hb2 (OpT.buildA (H rfl) ar38 sz36 zr38 zk38 (Built.nil _)) rfl ?_
       refine rs hb2 (OpT.eqA (H rfl) (T1 rfl) (T1 rfl) eq38 ag38 rfl eg38) rfl ?_
       refine st (OpT.pickT (A := .cel _ _) (H rfl) (T1 rfl) hb2 (T1 rfl) rfl) rfl ?_
       exact AWl.to (junk 4 rfl) k1
      ·
       intro hb2 Q1 k1
       refine ps hb2 rfl ?_
       refine ps hb2 rfl ?_
       refine ps hb2 rfl ?_
       refine ps hb2 rfl ?_
       refine st (OpT.pickF (A := .cel _ _) (H rfl) (T1 rfl) hb2 Opd.bool rfl) rfl ?_
       exact k1
      refine st (asT rfl) rfl ?_
      refine AWl.to (kc 2 rfl <| Kn) ?_
      refine ng ?_
      refine AW.ret ?_
      refine rK <| rT ?_
      exact rt1 rfl (.inl rfl) (by first | exact edit_no hnm | exact edit_12 hnm (by omega) | exact edit_34 hnm (by omega) (by omega) | exact edit_else (by omega) (by omega))
     ·
      obtain ⟨hc5, hc5'⟩ := pF hc5
      refine AW.skip ?_
      refine AX.normal_block ?_
      refine AX.pr (kc 2 rfl <| Kn) ?_
      refine AX.go ?_
      refine sr ?_
      refine st (asB rfl) rfl ?_
      refine ng ?_
      refine AW.ret ?_
      exact rt1 rfl (.inl rfl) (by first | exact edit_no hnm | exact edit_12 hnm (by omega) | exact edit_34 hnm (by omega) (by omega) | exact edit_else (by omega) (by omega))
    ·
     obtain ⟨hc4, hc4'⟩ := pF hc4
     refine AW.region ?_
     refine st (OpT.eql (H rfl) (T1 rfl) (I rfl)) rfl ?_
     refine st (asT rfl) rfl ?_
     refine AWl.to (kc3 20 2 1 rfl <| Kn) ?_
     refine ng ?_
     refine cd rfl (fun hc6 => ?_) fun hc6 => ?_
     ·
      obtain ⟨hc6, hc6'⟩ := pT hc6
      refine sr ?_
      refine st (OpT.fieldAddr (H rfl) (T1 rfl) fd63_2 sz61 (by decide) sb63_2) rfl ?_
      refine st (OpT.load (H rfl) (T1 rfl) ag61 rfl) rfl ?_
      refine st (OpT.conv (H rfl) us61 Tryz.underlying2 (T1 rfl) (nw (by omega))) rfl ?_
      refine st (OpT.c1 (ms := [.flat]) (c_impl_isHole _) (H rfl) (Af (T1 rfl) rfl rfl <| An) rfl rfl) rfl ?_
      refine st (mvT rfl) rfl ?_
      apply AWl.and (d := 32) (t := 27) rfl
      ·
       intro hb3 Q1 k1
       have hb3' := lT hb3
       refine rs hb3 (OpT.fieldAddr (H rfl) (T1 rfl) fd63_3 sz38 (by decide) sb63_3) rfl ?_
       refine rs hb3 (OpT.loadA (H rfl) (T1 rfl) ag38 sz38) rfl ?_
       refine rs hb3 (OpT.buildA (H rfl) ar38 sz36 zr38 zk38 (Built.nil _)) rfl ?_
       refine rs hb3 (OpT.eqA (H rfl) (T1 rfl) (T1 rfl) eq38 ag38 rfl eg38) rfl ?_
       refine st (OpT.pickT (A := .cel _ _) (H rfl) (T1 rfl) hb3 (T1 rfl) rfl) rfl ?_
       exact AWl.to (junk 4 rfl) k1
      ·
       intro hb3 Q1 k1
       refine ps hb3 rfl ?_
       refine ps hb3 rfl ?_
       refine ps hb3 rfl ?_
       refine ps hb3 rfl ?_
       refine st (OpT.pickF (A := .cel _ _) (H rfl) (T1 rfl) hb3 Opd.bool rfl) rfl ?_
       exact k1
      refine st (asT rfl) rfl ?_
      refine ng ?_
      refine AW.ret ?_
      refine rK <| rT ?_
      exact rt1 rfl (.inl rfl) (by first | exact edit_no hnm | exact edit_12 hnm (by omega) | exact edit_34 hnm (by omega) (by omega) | exact edit_else (by omega) (by omega))
     ·
      obtain ⟨hc6, hc6'⟩ := pF hc6
      refine AW.skip ?_
      refine AX.normal_block ?_
      refine AX.go ?_
      refine sr ?_
      refine st (asB rfl) rfl ?_
      refine ng ?_
      refine AW.ret ?_
      exact rt1 rfl (.inl rfl) (by first | exact edit_no hnm | exact edit_12 hnm (by omega) | exact edit_34 hnm (by omega) (by omega) | exact edit_else (by omega) (by omega))
  ·
   obtain ⟨hc2, hc2'⟩ := pF hc2
   refine AW.region ?_
   refine st (OpT.eql (H rfl) (T1 rfl) (I rfl)) rfl ?_
   refine st (asT rfl) rfl ?_
   refine ng ?_
   refine cd rfl (fun hc7 => ?_) fun hc7 => ?_
   ·
    obtain ⟨hc7, hc7'⟩ := pT hc7
    refine sr ?_
    refine st (OpT.fieldAddr (H rfl) (T1 rfl) fd63_2 sz61 (by decide) sb63_2) rfl ?_
    refine st (OpT.load (H rfl) (T1 rfl) ag61 rfl) rfl ?_
    refine st (OpT.eql (H rfl) (T1 rfl) (I rfl)) rfl ?_
    refine st (mvT rfl) rfl ?_
    apply AWl.and (d := 19) (t := 15) rfl
    ·
     intro hb4 Q1 k1
     have hb4' := lT hb4
     refine rs hb4 (OpT.fieldAddr (H rfl) (T1 rfl) fd63_3 sz38 (by decide) sb63_3) rfl ?_
     refine rs hb4 (OpT.loadA (H rfl) (T1 rfl) ag38 sz38) rfl ?_
     refine rs hb4 (OpT.c1 (ms := [.flat]) (c_impl_isMask _) (H rfl) (Af (T1 rfl) rfl rfl <| An) rfl rfl) rfl ?_
     refine st (OpT.pickT (A := .cel _ _) (H rfl) (T1 rfl) hb4 (T1 rfl) rfl) rfl ?_
     exact AWl.to (junk 3 rfl) k1
    ·
     intro hb4 Q1 k1
     refine ps hb4 rfl ?_
     refine ps hb4 rfl ?_
     refine ps hb4 rfl ?_
     refine st (OpT.pickF (A := .cel _ _) (H rfl) (T1 rfl) hb4 Opd.bool rfl) rfl ?_
     exact k1
    refine st (asT rfl) rfl ?_
    refine AWl.to (kc 2 rfl <| Kn) ?_
    refine ng ?_
    refine AW.ret ?_
    refine rK <| rT ?_
    exact rt1 rfl (.inl rfl) (by first | exact edit_no hnm | exact edit_12 hnm (by omega) | exact edit_34 hnm (by omega) (by omega) | exact edit_else (by omega) (by omega))
   ·
    obtain ⟨hc7, hc7'⟩ := pF hc7
    refine AW.seq ?_
    refine sr ?_
    refine st (OpT.eql (H rfl) (T1 rfl) (I rfl)) rfl ?_
    refine st (asT rfl) rfl ?_
    refine AWl.to (kc4 20 8 2 1 rfl <| Kn) ?_
    refine ng ?_
    refine cd rfl (fun hc8 => ?_) fun hc8 => ?_
    ·
     obtain ⟨hc8, hc8'⟩ := pT hc8
     refine AW.skip ?_
     refine AX.go ?_
     refine cd rfl (fun hc9 => ?_) fun hc9 => ?_
     ·
      obtain ⟨hc9, hc9'⟩ := pT hc9
      refine sr ?_
      refine st (OpT.fieldAddr (H rfl) (T1 rfl) fd63_2 sz61 (by decide) sb63_2) rfl ?_
      refine st (OpT.load (H rfl) (T1 rfl) ag61 rfl) rfl ?_
      refine st (OpT.conv (H rfl) us61 Tryz.underlying2 (T1 rfl) (nw (by omega))) rfl ?_
      refine st (OpT.c1 (ms := [.flat]) (c_impl_isHole _) (H rfl) (Af (T1 rfl) rfl rfl <| An) rfl rfl) rfl ?_
      refine st (mvT rfl) rfl ?_
      apply AWl.and (d := 32) (t := 27) rfl
      ·
       intro hb5 Q1 k1
       have hb5' := lT hb5
       refine rs hb5 (OpT.fieldAddr (H rfl) (T1 rfl) fd63_3 sz38 (by decide) sb63_3) rfl ?_
       refine rs hb5 (OpT.loadA (H rfl) (T1 rfl) ag38 sz38) rfl ?_
       refine rs hb5 (OpT.buildA (H rfl) ar38 sz36 zr38 zk38 (Built.nil _)) rfl ?_
       refine rs hb5 (OpT.eqA (H rfl) (T1 rfl) (T1 rfl) eq38 ag38 rfl eg38) rfl ?_
       refine st (OpT.pickT (A := .cel _ _) (H rfl) (T1 rfl) hb5 (T1 rfl) rfl) rfl ?_
       exact AWl.to (junk 4 rfl) k1
      ·
       intro hb5 Q1 k1
       refine ps hb5 rfl ?_
       refine ps hb5 rfl ?_
       refine ps hb5 rfl ?_
       refine ps hb5 rfl ?_
       refine st (OpT.pickF (A := .cel _ _) (H rfl) (T1 rfl) hb5 Opd.bool rfl) rfl ?_
       exact k1
      refine st (asT rfl) rfl ?_
      refine ng ?_
      refine AW.ret ?_
      refine rK <| rT ?_
      exact rt1 rfl (.inl rfl) (by first | exact edit_no hnm | exact edit_12 hnm (by omega) | exact edit_34 hnm (by omega) (by omega) | exact edit_else (by omega) (by omega))
     ·
      obtain ⟨hc9, hc9'⟩ := pF hc9
      refine AW.skip ?_
      refine AX.normal_block ?_
      refine AX.go ?_
      refine sr ?_
      refine st (asB rfl) rfl ?_
      refine ng ?_
      refine AW.ret ?_
      exact rt1 rfl (.inl rfl) (by first | exact edit_no hnm | exact edit_12 hnm (by omega) | exact edit_34 hnm (by omega) (by omega) | exact edit_else (by omega) (by omega))
    ·
     obtain ⟨hc8, hc8'⟩ := pF hc8
     refine AW.region ?_
     refine st (OpT.eql (H rfl) (T1 rfl) (I rfl)) rfl ?_
     refine st (asT rfl) rfl ?_
     refine ng ?_
     refine cd rfl (fun hc10 => ?_) fun hc10 => ?_
     ·
      obtain ⟨hc10, hc10'⟩ := pT hc10
      refine sr ?_
      refine st (OpT.fieldAddr (H rfl) (T1 rfl) fd63_2 sz61 (by decide) sb63_2) rfl ?_
      refine st (OpT.load (H rfl) (T1 rfl) ag61 rfl) rfl ?_
      refine st (OpT.conv (H rfl) us61 Tryz.underlying2 (T1 rfl) (nw (by omega))) rfl ?_
      refine st (OpT.c1 (ms := [.flat]) (c_impl_isHole _) (H rfl) (Af (T1 rfl) rfl rfl <| An) rfl rfl) rfl ?_
      refine st (mvT rfl) rfl ?_
      apply AWl.and (d := 32) (t := 27) rfl
      ·
       intro hb6 Q1 k1
       have hb6' := lT hb6
       refine rs hb6 (OpT.fieldAddr (H rfl) (T1 rfl) fd63_3 sz38 (by decide) sb63_3) rfl ?_
       refine rs hb6 (OpT.loadA (H rfl) (T1 rfl) ag38 sz38) rfl ?_
       refine rs hb6 (OpT.buildA (H rfl) ar38 sz36 zr38 zk38 (Built.nil _)) rfl ?_
       refine rs hb6 (OpT.eqA (H rfl) (T1 rfl) (T1 rfl) eq38 ag38 rfl eg38) rfl ?_
       refine st (OpT.pickT (A := .cel _ _) (H rfl) (T1 rfl) hb6 (T1 rfl) rfl) rfl ?_
       exact AWl.to (junk 4 rfl) k1
      ·
       intro hb6 Q1 k1
       refine ps hb6 rfl ?_
       refine ps hb6 rfl ?_
       refine ps hb6 rfl ?_
       refine ps hb6 rfl ?_
       refine st (OpT.pickF (A := .cel _ _) (H rfl) (T1 rfl) hb6 Opd.bool rfl) rfl ?_
       exact k1
      refine st (asT rfl) rfl ?_
      refine AWl.to (kc 2 rfl <| Kn) ?_
      refine ng ?_
      refine AW.ret ?_
      refine rK <| rT ?_
      exact rt1 rfl (.inl rfl) (by first | exact edit_no hnm | exact edit_12 hnm (by omega) | exact edit_34 hnm (by omega) (by omega) | exact edit_else (by omega) (by omega))
     ·
      obtain ⟨hc10, hc10'⟩ := pF hc10
      refine AW.skip ?_
      refine AX.normal_block ?_
      refine AX.go ?_
      refine sr ?_
      refine st (asB rfl) rfl ?_
      refine ng ?_
      refine AW.ret ?_
      exact rt1 rfl (.inl rfl) (by first | exact edit_no hnm | exact edit_12 hnm (by omega) | exact edit_34 hnm (by omega) (by omega) | exact edit_else (by omega) (by omega))

end Go.Proofs.YtmmjcpiikdcldaaGreatDoor.VL
