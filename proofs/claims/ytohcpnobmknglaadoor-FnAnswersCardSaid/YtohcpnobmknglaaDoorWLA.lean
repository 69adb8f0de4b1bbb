/- Proved here: what some functions of the program take and give: walks with the words of VA..VQ. Printed by program. -/
import Derived.Test.YtohcpnobmknglaaDoorWT
import Derived.Test.YtohcpnobmknglaaDoorPZQ
import Derived.Test.YtohcpnobmknglaaDoorVPN
import Derived.Test.YtohcpnobmknglaaDoorWN
import Derived.Test.YtohcpnobmknglaaDoorWAQ
import Derived.Test.YtohcpnobmknglaaDoorWD
import Derived.Test.YtohcpnobmknglaaDoorWLH
import Derived.Test.YtohcpnobmknglaaDoorWDR
import Derived.Test.YtohcpnobmknglaaDoorWDK
import Derived.Test.YtohcpnobmknglaaDoorWMA
set_option linter.unusedVariables false
set_option linter.unusedSimpArgs false
set_option maxRecDepth 4000
namespace Go.Proofs.YtohcpnobmknglaaDoor.VL
open Go
set_option maxHeartbeats 4000000 in
/-- laws.FnAnswers -/
theorem c_laws_FnAnswers (x y : List Int) : AC Tryd.prog 5 [.cel (Kd.slice (Kd.int .u8)) x, .cel (Kd.slice (Kd.int .u8)) y] [.cel Kd.bool true] [] := by
 refine acI (N := 267) Tryd.func5 (Nat.le_of_ble_eq_true rfl) rfl fun w0 hd s0 ar => ?_
 refine AW.to (kc2 0 1 rfl <| Kn) ?_
 refine AW.fact (fun a w hr => ok_slice (R_ok (t := 0) rfl hr)) (fun hb0 => ?_)
 refine AW.fact (fun a w hr => ok_slice (R_ok (t := 1) rfl hr)) (fun hb1 => ?_)
 have hu0 : ∀ b ∈ x, 0 ≤ b ∧ b ≤ 255 := fun b hb => ok_u8 (hb0.1 b hb)
 have hu1 : ∀ b ∈ y, 0 ≤ b ∧ b ≤ 255 := fun b hb => ok_u8 (hb1.1 b hb)
 refine sr ?_
 refine st (asB rfl) rfl ?_
 refine ng ?_
 refine AW.seq ?_
 refine sr ?_
 refine st (mvT rfl) rfl ?_
 refine st (mvT rfl) rfl ?_
 refine st (OpT.c1 (ms := [.flat, .flat]) (c_laws_a2Long _ _) (H rfl) (Af (T1 rfl) rfl rfl <| Af (T1 rfl) rfl rfl <| An) rfl rfl) rfl ?_
 refine ng ?_
 refine cd rfl (fun hc1 => ?_) fun hc1 => ?_
 ·
  obtain ⟨hc1, hc1'⟩ := pT hc1
  refine sr ?_
  refine st (asB rfl) rfl ?_
  refine ng ?_
  refine AW.ret ?_
  refine rT ?_
  exact rt1 rfl (.inl rfl) rfl
 ·
  obtain ⟨hc1, hc1'⟩ := pF hc1
  refine AW.skip ?_
  refine AX.go ?_
  refine sr ?_
  refine st (mvT rfl) rfl ?_
  refine st (OpT.c1 (ms := [.flat]) (c_spec_A2Scheme _ ⟨hu0, by omega⟩) (H rfl) (Af (T1 rfl) rfl rfl <| An) rfl rfl) rfl ?_
  refine AWl.vw (vex 40 9097 rfl rfl (by decide) (fun _ => rfl)) fun xh => ?_
  obtain ⟨s, hs⟩ := xh
  refine AWl.to (kc4 40 39 38 37 rfl <| kc4 36 4 0 1 rfl <| Kn) ?_
  refine st (asT rfl) rfl ?_
  refine ng ?_
  refine sr ?_
  refine st (mvT rfl) rfl ?_
  refine st (mvT rfl) rfl ?_
  refine st (OpT.c1 (ms := [.flat, .flat]) (c_spec_A2Deck _ _ ⟨hu1, by omega⟩ hs.1) (H rfl) (Af (T1 rfl) rfl rfl <| Af (T1 rfl) rfl rfl <| An) rfl rfl) rfl ?_
  refine AWl.vw (vex 43 9097 rfl rfl (by decide) (fun _ => rfl)) fun xh => ?_
  obtain ⟨d, hD⟩ := xh
  refine AWl.to (kc4 43 42 41 5 rfl <| kc4 40 39 38 37 rfl <| kc4 36 4 0 1 rfl <| Kn) ?_
  refine st (asT rfl) rfl ?_
  refine ng ?_
  refine sr ?_
  refine st (mvT rfl) rfl ?_
  refine st (mvT rfl) rfl ?_
  refine st (OpT.c1 (ms := [.flat, .flat]) (c_spec_A2Query _ _ ⟨hu1, by omega⟩ ⟨hs.1, hs.2.1⟩) (H rfl) (Af (T1 rfl) rfl rfl <| Af (T1 rfl) rfl rfl <| An) rfl rfl) rfl ?_
  refine st (OpT.alloc (H rfl) zr55 zk55) rfl ?_
  refine sk (OpT.storeBA rfl rfl (Opd.whole (Root.self (t := 7) (by decide)) rfl) rfl sz55 (by decide) (T1 rfl)) rfl ?_
  refine AWl.to (kb 7 rfl <| kc3 6 4 0 rfl <| Kn) ?_
  refine ng ?_
  refine sr ?_
  refine st (mvT rfl) rfl ?_
  refine st (OpT.loadB (H rfl) (Root.self (t := 7) (by decide)) rfl ag55 sz55) rfl ?_
  refine s2 (OpT.c2 (ms := [.flat, .flat]) (c_impl_MakeAnswer _ _) (H rfl) (Af (T1 rfl) rfl rfl <| Af (T1 rfl) rfl rfl <| An) rfl rfl rfl) rfl ?_
  refine st (OpT.alias (H rfl) (by decide) (by decide)) rfl ?_
  refine st (OpT.extractV (m := 10050) (H rfl) rfl rfl rfl rfl rfl rfl rfl) rfl ?_
  refine st (OpT.extractV (m := 20050) (H rfl) rfl rfl rfl rfl rfl rfl rfl) rfl ?_
  refine st (OpT.alloc (H rfl) zr59 zk59) rfl ?_
  refine sk (OpT.storeBA rfl rfl (Opd.whole (Root.self (t := 8) (by decide)) rfl) rfl sz59 (by decide) (T1 rfl)) rfl ?_
  refine st (asT rfl) rfl ?_
  refine ng ?_
  refine sr ?_
  refine st (mvT rfl) rfl ?_
  refine st (OpT.loadB (H rfl) (Root.self (t := 7) (by decide)) rfl ag55 sz55) rfl ?_
  refine s2 (OpT.c2 (ms := [.flat, .flat]) (c_spec_MakeAnswer _ _) (H rfl) (Af (T1 rfl) rfl rfl <| Af (T1 rfl) rfl rfl <| An) rfl rfl rfl) rfl ?_
  refine st (OpT.alias (H rfl) (by decide) (by decide)) rfl ?_
  refine st (OpT.extractV (m := 10056) (H rfl) rfl rfl rfl rfl rfl rfl rfl) rfl ?_
  refine st (OpT.extractV (m := 20056) (H rfl) rfl rfl rfl rfl rfl rfl rfl) rfl ?_
  refine st (OpT.alloc (H rfl) zr59 zk59) rfl ?_
  refine sk (OpT.storeBA rfl rfl (Opd.whole (Root.self (t := 10) (by decide)) rfl) rfl sz59 (by decide) (T1 rfl)) rfl ?_
  refine st (asT rfl) rfl ?_
  refine AWl.to (kc 11 rfl <| kb 10 rfl <| kc 9 rfl <| kb 8 rfl <| kb 7 rfl <| kc3 6 4 0 rfl <| Kn) ?_
  refine ng ?_
  refine sr ?_
  refine st (mvT rfl) rfl ?_
  refine st (OpT.loadB (H rfl) (Root.self (t := 10) (by decide)) rfl ag59 sz59) rfl ?_
  refine s2 (OpT.c2 (ms := [.flat, .flat]) (c_impl_CheckAnswer _ _ (mkA_small d (drQ y s))) (H rfl) (Af (T1 rfl) rfl rfl <| Af (T1 rfl) rfl rfl <| An) rfl rfl rfl) rfl ?_
  refine st (OpT.alias (H rfl) (by decide) (by decide)) rfl ?_
  refine st (OpT.extractV (m := 10062) (H rfl) rfl rfl rfl rfl rfl rfl rfl) rfl ?_
  refine st (OpT.extractV (m := 20062) (H rfl) rfl rfl rfl rfl rfl rfl rfl) rfl ?_
  refine st (asT rfl) rfl ?_
  refine st (asT rfl) rfl ?_
  refine ng ?_
  refine sr ?_
  refine st (mvT rfl) rfl ?_
  refine st (OpT.loadB (H rfl) (Root.self (t := 10) (by decide)) rfl ag59 sz59) rfl ?_
  refine s2 (OpT.c2 (ms := [.flat, .flat]) (c_impl_FirstFault _ _ (mkA_small d (drQ y s))) (H rfl) (Af (T1 rfl) rfl rfl <| Af (T1 rfl) rfl rfl <| An) rfl rfl rfl) rfl ?_
  refine st (OpT.alias (H rfl) (by decide) (by decide)) rfl ?_
  refine st (OpT.extractV (m := 10068) (H rfl) rfl rfl rfl rfl rfl rfl rfl) rfl ?_
  refine st (OpT.extractV (m := 20068) (H rfl) rfl rfl rfl rfl rfl rfl rfl) rfl ?_
  refine st (asT rfl) rfl ?_
  refine st (asT rfl) rfl ?_
  refine AWl.to (kc4 15 13 12 11 rfl <| kb 10 rfl <| kc 9 rfl <| kb 8 rfl <| kb 7 rfl <| kc3 6 4 0 rfl <| Kn) ?_
  refine ng ?_
  refine sr ?_
  refine st (mvT rfl) rfl ?_
  refine st (OpT.loadB (H rfl) (Root.self (t := 7) (by decide)) rfl ag55 sz55) rfl ?_
  refine s2 (OpT.c2 (ms := [.flat, .flat]) (c_spec_AnswerOf _ _) (H rfl) (Af (T1 rfl) rfl rfl <| Af (T1 rfl) rfl rfl <| An) rfl rfl rfl) rfl ?_
  refine st (OpT.alias (H rfl) (by decide) (by decide)) rfl ?_
  refine st (OpT.extractV (m := 10074) (H rfl) rfl rfl rfl rfl rfl rfl rfl) rfl ?_
  refine st (OpT.extractV (m := 20074) (H rfl) rfl rfl rfl rfl rfl rfl rfl) rfl ?_
  refine st (asT rfl) rfl ?_
  refine st (asT rfl) rfl ?_
  refine ng ?_
  refine AW.seq ?_
  refine sr ?_
  refine st (mvT rfl) rfl ?_
  refine st (mvT rfl) rfl ?_
  refine st (OpT.neq (H rfl) (T1 rfl) (T1 rfl)) rfl ?_
  refine st (mvT rfl) rfl ?_
  apply AWl.or (d := 83) (t := 80) rfl
  ·
   intro hb1 Q1 k1
   have hb1' := lF hb1
   refine rs hb1 (mvT rfl) rfl ?_
   refine rs hb1 (OpT.neq (H rfl) (T1 rfl) (I rfl)) rfl ?_
   refine st (OpT.pickF (A := .cel _ _) (H rfl) (T1 rfl) hb1 (T1 rfl) rfl) rfl ?_
   exact AWl.to (junk 2 rfl) k1
  ·
   intro hb1 Q1 k1
   refine ps hb1 rfl ?_
   refine ps hb1 rfl ?_
   refine st (OpT.pickT (A := .cel _ _) (H rfl) (T1 rfl) hb1 Opd.bool rfl) rfl ?_
   exact k1
  refine st (mvT rfl) rfl ?_
  apply AWl.or (d := 89) (t := 84) rfl
  ·
   intro hb2 Q1 k1
   have hb2' := lF hb2
   refine rs hb2 (OpT.loadB (H rfl) (Root.self (t := 8) (by decide)) rfl ag59 sz59) rfl ?_
   refine rs hb2 (OpT.loadB (H rfl) (Root.self (t := 10) (by decide)) rfl ag59 sz59) rfl ?_
   refine rs hb2 (OpT.c1 (ms := [.flat, .flat]) (c_spec_SameAnswer _ _) (H rfl) (Af (T1 rfl) rfl rfl <| Af (T1 rfl) rfl rfl <| An) rfl rfl) rfl ?_
   refine rs hb2 (OpT.not (H rfl) (T1 rfl)) rfl ?_
   refine st (OpT.pickF (A := .cel _ _) (H rfl) (T1 rfl) hb2 (T1 rfl) rfl) rfl ?_
   exact AWl.to (junk 4 rfl) k1
  ·
   intro hb2 Q1 k1
   refine ps hb2 rfl ?_
   refine ps hb2 rfl ?_
   refine ps hb2 rfl ?_
   refine ps hb2 rfl ?_
   refine st (OpT.pickT (A := .cel _ _) (H rfl) (T1 rfl) hb2 Opd.bool rfl) rfl ?_
   exact k1
  refine st (mvT rfl) rfl ?_
  apply AWl.or (d := 95) (t := 90) rfl
  ·
   intro hb3 Q1 k1
   have hb3' := lF hb3
   refine rs hb3 (OpT.loadB (H rfl) (Root.self (t := 8) (by decide)) rfl ag59 sz59) rfl ?_
   refine rs hb3 (OpT.loadB (H rfl) (Root.self (t := 10) (by decide)) rfl ag59 sz59) rfl ?_
   refine rs hb3 (OpT.c1 (ms := [.flat, .flat]) (c_impl_SameAnswer _ _) (H rfl) (Af (T1 rfl) rfl rfl <| Af (T1 rfl) rfl rfl <| An) rfl rfl) rfl ?_
   refine rs hb3 (OpT.not (H rfl) (T1 rfl)) rfl ?_
   refine st (OpT.pickF (A := .cel _ _) (H rfl) (T1 rfl) hb3 (T1 rfl) rfl) rfl ?_
   exact AWl.to (junk 4 rfl) k1
  ·
   intro hb3 Q1 k1
   refine ps hb3 rfl ?_
   refine ps hb3 rfl ?_
   refine ps hb3 rfl ?_
   refine ps hb3 rfl ?_
   refine st (OpT.pickT (A := .cel _ _) (H rfl) (T1 rfl) hb3 Opd.bool rfl) rfl ?_
   exact k1
  refine st (mvT rfl) rfl ?_
  apply AWl.or (d := 99) (t := 96) rfl
  ·
   intro hb4 Q1 k1
   have hb4' := lF hb4
   refine rs hb4 (mvT rfl) rfl ?_
   refine rs hb4 (OpT.neq (H rfl) (T1 rfl) (I rfl)) rfl ?_
   refine st (OpT.pickF (A := .cel _ _) (H rfl) (T1 rfl) hb4 (T1 rfl) rfl) rfl ?_
   exact AWl.to (junk 2 rfl) k1
  ·
   intro hb4 Q1 k1
   refine ps hb4 rfl ?_
   refine ps hb4 rfl ?_
   refine st (OpT.pickT (A := .cel _ _) (H rfl) (T1 rfl) hb4 Opd.bool rfl) rfl ?_
   exact k1
  refine st (mvT rfl) rfl ?_
  apply AWl.or (d := 103) (t := 100) rfl
  ·
   intro hb5 Q1 k1
   have hb5' := lF hb5
   refine rs hb5 (mvT rfl) rfl ?_
   refine rs hb5 (OpT.not (H rfl) (T1 rfl)) rfl ?_
   refine st (OpT.pickF (A := .cel _ _) (H rfl) (T1 rfl) hb5 (T1 rfl) rfl) rfl ?_
   exact AWl.to (junk 2 rfl) k1
  ·
   intro hb5 Q1 k1
   refine ps hb5 rfl ?_
   refine ps hb5 rfl ?_
   refine st (OpT.pickT (A := .cel _ _) (H rfl) (T1 rfl) hb5 Opd.bool rfl) rfl ?_
   exact k1
  refine st (mvT rfl) rfl ?_
  apply AWl.or (d := 107) (t := 104) rfl
  ·
   intro hb6 Q1 k1
   have hb6' := lF hb6
   refine rs hb6 (mvT rfl) rfl ?_
   refine rs hb6 (OpT.neq (H rfl) (T1 rfl) (I rfl)) rfl ?_
   refine st (OpT.pickF (A := .cel _ _) (H rfl) (T1 rfl) hb6 (T1 rfl) rfl) rfl ?_
   exact AWl.to (junk 2 rfl) k1
  ·
   intro hb6 Q1 k1
   refine ps hb6 rfl ?_
   refine ps hb6 rfl ?_
   refine st (OpT.pickT (A := .cel _ _) (H rfl) (T1 rfl) hb6 Opd.bool rfl) rfl ?_
   exact k1
  refine st (mvT rfl) rfl ?_
  apply AWl.or (d := 111) (t := 108) rfl
  ·
   intro hb7 Q1 k1
   have hb7' := lF hb7
   refine rs hb7 (mvT rfl) rfl ?_
   refine rs hb7 (OpT.neq (H rfl) (T1 rfl) (I rfl)) rfl ?_
   refine st (OpT.pickF (A := .cel _ _) (H rfl) (T1 rfl) hb7 (T1 rfl) rfl) rfl ?_
   exact AWl.to (junk 2 rfl) k1
  ·
   intro hb7 Q1 k1
   refine ps hb7 rfl ?_
   refine ps hb7 rfl ?_
   refine st (OpT.pickT (A := .cel _ _) (H rfl) (T1 rfl) hb7 Opd.bool rfl) rfl ?_
   exact k1
  refine st (mvT rfl) rfl ?_
  apply AWl.or (d := 118) (t := 112) rfl
  ·
   intro hb8 Q1 k1
   have hb8' := lF hb8
   refine rs hb8 (OpT.fieldAddrB (H rfl) (Root.self (t := 10) (by decide)) rfl (by decide) fd59_1 sz34 (by decide) sb59_1) rfl ?_
   refine rs hb8 (OpT.loadP (H rfl) (T1 rfl) (.inl ⟨_, rfl, rfl⟩) ag34 rfl) rfl ?_
   refine rs hb8 (mvT rfl) rfl ?_
   refine rs hb8 (OpT.c1 (ms := [.flat, .flat]) (c_spec_A2Same _ _) (H rfl) (Af (T1 rfl) rfl rfl <| Af (T1 rfl) rfl rfl <| An) rfl rfl) rfl ?_
   refine rs hb8 (OpT.not (H rfl) (T1 rfl)) rfl ?_
   refine st (OpT.pickF (A := .cel _ _) (H rfl) (T1 rfl) hb8 (T1 rfl) rfl) rfl ?_
   exact AWl.to (junk 5 rfl) k1
  ·
   intro hb8 Q1 k1
   refine ps hb8 rfl ?_
   refine ps hb8 rfl ?_
   refine ps hb8 rfl ?_
   refine ps hb8 rfl ?_
   refine ps hb8 rfl ?_
   refine st (OpT.pickT (A := .cel _ _) (H rfl) (T1 rfl) hb8 Opd.bool rfl) rfl ?_
   exact k1
  refine st (mvT rfl) rfl ?_
  apply AWl.or (d := 130) (t := 119) rfl
  ·
   intro hb9 Q1 k1
   have hb9' := lF hb9
   refine rs hb9 (OpT.fieldAddrB (H rfl) (Root.self (t := 10) (by decide)) rfl (by decide) fd59_1 sz34 (by decide) sb59_1) rfl ?_
   refine rs hb9 (OpT.loadP (H rfl) (T1 rfl) (.inl ⟨_, rfl, rfl⟩) ag34 rfl) rfl ?_
   refine rs hb9 (OpT.len (H rfl) (T1 rfl) el34) rfl ?_
   refine rs hb9 (OpT.fieldAddrB (H rfl) (Root.self (t := 10) (by decide)) rfl (by decide) fd59_2 sz57 (by decide) sb59_2) rfl ?_
   refine rs hb9 (OpT.loadP (H rfl) (T1 rfl) (.inl ⟨_, rfl, rfl⟩) ag57 rfl) rfl ?_
   refine rs hb9 (OpT.len (H rfl) (T1 rfl) el57) rfl ?_
   refine rs hb9 (OpT.add (H rfl) (T1 rfl) (T1 rfl) (nw (by have h9 := mkA_len d (drQ y s); dsimp only; omega))) rfl ?_
   refine rs hb9 (mvT rfl) rfl ?_
   refine rs hb9 (OpT.len (H rfl) (T1 rfl) el26) rfl ?_
   refine rs hb9 (OpT.neq (H rfl) (T1 rfl) (T1 rfl)) rfl ?_
   refine st (OpT.pickF (A := .cel _ _) (H rfl) (T1 rfl) hb9 (T1 rfl) rfl) rfl ?_
   exact AWl.to (junk 10 rfl) k1
  ·
   intro hb9 Q1 k1
   refine ps hb9 rfl ?_
   refine ps hb9 rfl ?_
   refine ps hb9 rfl ?_
   refine ps hb9 rfl ?_
   refine ps hb9 rfl ?_
   refine ps hb9 rfl ?_
   refine ps hb9 rfl ?_
   refine ps hb9 rfl ?_
   refine ps hb9 rfl ?_
   refine ps hb9 rfl ?_
   refine st (OpT.pickT (A := .cel _ _) (H rfl) (T1 rfl) hb9 Opd.bool rfl) rfl ?_
   exact k1
  refine AWl.to (kc 130 rfl <| kb 10 rfl <| kb 7 rfl <| kc3 6 4 0 rfl <| Kn) ?_
  refine ng ?_
  refine cd rfl (fun hc2 => ?_) fun hc2 => ?_
  ·
   obtain ⟨hc2, hc2'⟩ := pT hc2
   have hqk := drQ_ok (l := y) ⟨hu1, (by show y.length ≤ 1000000; omega), Int.le_refl 0, Int.le_refl 0⟩ hs.1 hs.2.1
   obtain ⟨a1, a2, a3, a4⟩ := ans_law hD.1 hqk
   exact (show False from (by dsimp only at hc2; rw [a1] at hc2; simp only [a2, a3] at hc2; simp [eqv_self, ansR, a4] at hc2)).elim
  ·
   obtain ⟨hc2, hc2'⟩ := pF hc2
   have hqk := drQ_ok (l := y) ⟨hu1, (by show y.length ≤ 1000000; omega), Int.le_refl 0, Int.le_refl 0⟩ hs.1 hs.2.1
   obtain ⟨a1, a2, a3, a4⟩ := ans_law hD.1 hqk
   refine AW.skip ?_
   refine AX.go ?_
   refine AW.seq ?_
   refine sr ?_
   refine st (OpT.fieldAddrB (H rfl) (Root.self (t := 10) (by decide)) rfl (by decide) fd59_1 sz34 (by decide) sb59_1) rfl ?_
   refine st (OpT.loadP (H rfl) (T1 rfl) (.inl ⟨_, rfl, rfl⟩) ag34 rfl) rfl ?_
   refine st (OpT.len (H rfl) (T1 rfl) el34) rfl ?_
   refine st (OpT.gtr (H rfl) (T1 rfl) (I rfl)) rfl ?_
   refine AWl.to (kc 134 rfl <| kb 10 rfl <| kb 7 rfl <| kc3 6 4 0 rfl <| Kn) ?_
   refine ng ?_
   refine cd rfl (fun hc3 => ?_) fun hc3 => ?_
   ·
    obtain ⟨hc3, hc3'⟩ := pT hc3
    obtain ⟨c0, r0, hcr⟩ : ∃ c r, hitsP (drQ y s) d d.length = c :: r := cons_of (by have h9 := hc3; dsimp only at h9; rw [a1] at h9; exact h9)
    have hi0 : (mkA d (drQ y s)).1.2.1[Int.toNat 0]? = some c0 := by rw [a1]; show (hitsP (drQ y s) d d.length)[0]? = _; rw [hcr]; rfl
    have lw := less_law hD.1 hqk hcr
    refine AW.seq ?_
    refine dh fomo ?_
    refine d1 [7] (fun ve h => OpT.loadB (H rfl) (Root.self (t := 7) (by decide)) ((h _ (List.elem_iff.1 rfl)).trans rfl) ag55 sz55) rfl ?_
    refine d1 [10] (fun ve h => OpT.fieldAddrB (H rfl) (Root.self (t := 10) (by decide)) ((h _ (List.elem_iff.1 rfl)).trans rfl) (by decide) fd59_1 sz34 (by decide) sb59_1) rfl ?_
    refine d1 [10, 136] (fun ve h => OpT.loadP (H rfl) (D1 h rfl) (.inl ⟨_, ((h _ (List.elem_iff.1 rfl)).trans rfl), rfl⟩) ag34 rfl) rfl ?_
    refine d1 [137] (fun ve h => OpT.cutL (H rfl) (D1 h rfl) (I rfl) el34 sz2 (by omega)) rfl ?_
    refine d1 [10] (fun ve h => OpT.fieldAddrB (H rfl) (Root.self (t := 10) (by decide)) ((h _ (List.elem_iff.1 rfl)).trans rfl) (by decide) fd59_2 sz57 (by decide) sb59_2) rfl ?_
    refine d1 [10, 139] (fun ve h => OpT.loadP (H rfl) (D1 h rfl) (.inl ⟨_, ((h _ (List.elem_iff.1 rfl)).trans rfl), rfl⟩) ag57 rfl) rfl ?_
    refine d1 [135, 138, 140] (fun ve h => OpT.build (H rfl) pl59 zr59 zk59 (Built.agg (D1 h rfl) rfl (by decide) sb59_0 (Built.cel (D1 h rfl) rfl rfl sb59_1 (Built.cel (D1 h rfl) rfl rfl sb59_2 (Built.nil _))))) rfl ?_
    refine d1 [] (fun ve h => OpT.alloc (H rfl) zr59 zk59) rfl ?_
    refine dm (t := 18) [18, 141] (fun ve h => OpT.storeBA rfl rfl (Opd.whole (Root.self (t := 18) (by decide)) ((h _ (List.elem_iff.1 rfl)).trans rfl)) ((h _ (List.elem_iff.1 rfl)).trans rfl) sz59 (by decide) (D1 h rfl)) rfl ?_
    refine dn ⟨by kernel_rfl, by kernel_rfl, ?_⟩
    refine AX.go ?_
    refine sr ?_
    refine st (mvT rfl) rfl ?_
    refine st (OpT.loadB (H rfl) (Root.self (t := 18) (by decide)) rfl ag59 sz59) rfl ?_
    refine s2 (OpT.c2 (ms := [.flat, .flat]) (c_impl_CheckAnswer _ _ (by have h9 := mkA_len d (drQ y s); refine ⟨?_, ?_⟩ <;> simp only [List.length_drop, List.length_set, List.length_append, List.length_nil] <;> omega)) (H rfl) (Af (T1 rfl) rfl rfl <| Af (T1 rfl) rfl rfl <| An) rfl rfl rfl) rfl ?_
    refine st (OpT.alias (H rfl) (by decide) (by decide)) rfl ?_
    refine st (OpT.extractV (m := 10145) (H rfl) rfl rfl rfl rfl rfl rfl rfl) rfl ?_
    refine st (OpT.extractV (m := 20145) (H rfl) rfl rfl rfl rfl rfl rfl rfl) rfl ?_
    refine st (asT rfl) rfl ?_
    refine st (asT rfl) rfl ?_
    refine AWl.to (kc2 20 19 rfl <| kb 18 rfl <| kb 10 rfl <| kb 7 rfl <| kc3 6 4 0 rfl <| Kn) ?_
    refine ng ?_
    refine sr ?_
    refine st (mvT rfl) rfl ?_
    refine st (OpT.loadB (H rfl) (Root.self (t := 18) (by decide)) rfl ag59 sz59) rfl ?_
    refine s2 (OpT.c2 (ms := [.flat, .flat]) (c_impl_FirstFault _ _ (by have h9 := mkA_len d (drQ y s); refine ⟨?_, ?_⟩ <;> simp only [List.length_drop, List.length_set, List.length_append, List.length_nil] <;> omega)) (H rfl) (Af (T1 rfl) rfl rfl <| Af (T1 rfl) rfl rfl <| An) rfl rfl rfl) rfl ?_
    refine st (OpT.alias (H rfl) (by decide) (by decide)) rfl ?_
    refine st (OpT.extractV (m := 10151) (H rfl) rfl rfl rfl rfl rfl rfl rfl) rfl ?_
    refine st (OpT.extractV (m := 20151) (H rfl) rfl rfl rfl rfl rfl rfl rfl) rfl ?_
    refine st (asT rfl) rfl ?_
    refine st (asT rfl) rfl ?_
    refine ng ?_
    refine sr ?_
    refine st (mvT rfl) rfl ?_
    refine st (OpT.neq (H rfl) (T1 rfl) (I rfl)) rfl ?_
    refine st (mvT rfl) rfl ?_
    apply AWl.or (d := 158) (t := 156) rfl
    ·
     intro hb10 Q1 k1
     have hb10' := lF hb10
     refine rs hb10 (mvT rfl) rfl ?_
     refine st (OpT.pickF (A := .cel _ _) (H rfl) (T1 rfl) hb10 (T1 rfl) rfl) rfl ?_
     exact AWl.to (junk 1 rfl) k1
    ·
     intro hb10 Q1 k1
     refine ps hb10 rfl ?_
     refine st (OpT.pickT (A := .cel _ _) (H rfl) (T1 rfl) hb10 Opd.bool rfl) rfl ?_
     exact k1
    refine st (mvT rfl) rfl ?_
    apply AWl.or (d := 162) (t := 159) rfl
    ·
     intro hb11 Q1 k1
     have hb11' := lF hb11
     refine rs hb11 (mvT rfl) rfl ?_
     refine rs hb11 (OpT.neq (H rfl) (T1 rfl) (I rfl)) rfl ?_
     refine st (OpT.pickF (A := .cel _ _) (H rfl) (T1 rfl) hb11 (T1 rfl) rfl) rfl ?_
     exact AWl.to (junk 2 rfl) k1
    ·
     intro hb11 Q1 k1
     refine ps hb11 rfl ?_
     refine ps hb11 rfl ?_
     refine st (OpT.pickT (A := .cel _ _) (H rfl) (T1 rfl) hb11 Opd.bool rfl) rfl ?_
     exact k1
    refine st (mvT rfl) rfl ?_
    apply AWl.or (d := 170) (t := 163) rfl
    ·
     intro hb12 Q1 k1
     have hb12' := lF hb12
     refine rs hb12 (mvT rfl) rfl ?_
     refine rs hb12 (OpT.fieldAddrB (H rfl) (Root.self (t := 10) (by decide)) rfl (by decide) fd59_1 sz34 (by decide) sb59_1) rfl ?_
     refine rs hb12 (OpT.loadP (H rfl) (T1 rfl) (.inl ⟨_, rfl, rfl⟩) ag34 rfl) rfl ?_
     refine rs hb12 (OpT.indexAddr (H rfl) (T1 rfl) (I rfl) el34 sz2 (by omega) hi0) rfl ?_
     refine rs hb12 (OpT.load (H rfl) (T1 rfl) ag2 rfl) rfl ?_
     refine rs hb12 (OpT.neq (H rfl) (T1 rfl) (T1 rfl)) rfl ?_
     refine st (OpT.pickF (A := .cel _ _) (H rfl) (T1 rfl) hb12 (T1 rfl) rfl) rfl ?_
     exact AWl.to (junk 6 rfl) k1
    ·
     intro hb12 Q1 k1
     refine ps hb12 rfl ?_
     refine ps hb12 rfl ?_
     refine ps hb12 rfl ?_
     refine ps hb12 rfl ?_
     refine ps hb12 rfl ?_
     refine ps hb12 rfl ?_
     refine st (OpT.pickT (A := .cel _ _) (H rfl) (T1 rfl) hb12 Opd.bool rfl) rfl ?_
     exact k1
    refine AWl.to (kc 170 rfl <| kb 10 rfl <| kb 7 rfl <| kc3 6 4 0 rfl <| Kn) ?_
    refine ng ?_
    refine cd rfl (fun hc4 => ?_) fun hc4 => ?_
    ·
     obtain ⟨hc4, hc4'⟩ := pT hc4
     exact (show False from (by dsimp only at hc4; rw [a1] at hc4; simp [ansR, hcr, lw.1, lw.2] at hc4)).elim
    ·
     obtain ⟨hc4, hc4'⟩ := pF hc4
     refine AW.skip ?_
     refine AX.go ?_
     refine AW.seq ?_
     refine sr ?_
     refine st (OpT.fieldAddrB (H rfl) (Root.self (t := 10) (by decide)) rfl (by decide) fd59_2 sz57 (by decide) sb59_2) rfl ?_
     refine st (OpT.loadP (H rfl) (T1 rfl) (.inl ⟨_, rfl, rfl⟩) ag57 rfl) rfl ?_
     refine st (OpT.len (H rfl) (T1 rfl) el57) rfl ?_
     refine st (OpT.gtr (H rfl) (T1 rfl) (I rfl)) rfl ?_
     refine AWl.to (kc 174 rfl <| kb 10 rfl <| kb 7 rfl <| kc3 6 4 0 rfl <| Kn) ?_
     refine ng ?_
     refine cd rfl (fun hc5 => ?_) fun hc5 => ?_
     ·
      obtain ⟨hc5, hc5'⟩ := pT hc5
      obtain ⟨w1, r1, hwr⟩ : ∃ c r, witsP (drQ y s) d d.length = c :: r := cons_of (by have h9 := hc5; dsimp only at h9; rw [a1] at h9; exact h9)
      have hj0 : (mkA d (drQ y s)).1.2.2[Int.toNat 0]? = some w1 := by rw [a1]; show (witsP (drQ y s) d d.length)[0]? = _; rw [hwr]; rfl
      have hat := atS_in hu0
      obtain ⟨l1, l2, l3, l4, l5, l6, l7⟩ := hole_law hD.1 hqk hwr hat
      obtain ⟨ew, hew⟩ : ∃ e, d[Int.toNat w1.1]? = some e := ⟨_, List.getElem?_eq_getElem (by omega)⟩
      rw [mAt_eq hew] at l2 l5
      refine AW.seq ?_
      refine dh fomo ?_
      refine d1 [7] (fun ve h => OpT.loadB (H rfl) (Root.self (t := 7) (by decide)) ((h _ (List.elem_iff.1 rfl)).trans rfl) ag55 sz55) rfl ?_
      refine d1 [10] (fun ve h => OpT.fieldAddrB (H rfl) (Root.self (t := 10) (by decide)) ((h _ (List.elem_iff.1 rfl)).trans rfl) (by decide) fd59_1 sz34 (by decide) sb59_1) rfl ?_
      refine d1 [10, 176] (fun ve h => OpT.loadP (H rfl) (D1 h rfl) (.inl ⟨_, ((h _ (List.elem_iff.1 rfl)).trans rfl), rfl⟩) ag34 rfl) rfl ?_
      refine d1 [] (fun ve h => OpT.buildSlice0 (m := 0) (z := .bool false) kWit (H rfl) el57 sz70 (by decide)) rfl ?_
      refine d1 [10] (fun ve h => OpT.fieldAddrB (H rfl) (Root.self (t := 10) (by decide)) ((h _ (List.elem_iff.1 rfl)).trans rfl) (by decide) fd59_2 sz57 (by decide) sb59_2) rfl ?_
      refine d1 [10, 179] (fun ve h => OpT.loadP (H rfl) (D1 h rfl) (.inl ⟨_, ((h _ (List.elem_iff.1 rfl)).trans rfl), rfl⟩) ag57 rfl) rfl ?_
      refine dt (t := 178) [178, 180] (fun ve h => OpT.append (H rfl) (Root.self (t := 178) (by decide)) ((h _ (List.elem_iff.1 rfl)).trans rfl) (Src.shared (D1 h rfl)) (by decide) el57 zr70 rfl sz70 by70 (by decide) (by have h9 := mkA_len d (drQ y s); simp only [List.length_nil]; omega)) rfl ?_
      refine dt (t := 181) [175, 177, 181] (fun ve h => OpT.buildD 181 (H rfl) pl59 zr59 zkp59 ((h _ (List.elem_iff.1 rfl)).trans rfl) (by decide) (fun v => (Built.agg (N1 h rfl (by decide)) rfl (by decide) sbp59_0 (Built.cel (N1 h rfl (by decide)) rfl rfl sbp59_1 (Built.cel (Opd.tmp (updK_self _ _ _) (by decide) rfl) rfl rfl sbp59_2 (Built.nil _)))))) rfl ?_
      refine d1 [] (fun ve h => OpT.alloc (H rfl) zr59 zkp59) rfl ?_
      refine dmm (t := 23) (u := 182) [23, 182] (fun ve h => OpT.storeD 182 rfl rfl (Root.self (by decide)) ((h _ (List.elem_iff.1 rfl)).trans rfl) (Root.self (by decide)) ((h _ (List.elem_iff.1 rfl)).trans rfl) (by decide) sz59 rfl) rfl ?_
      refine dn ⟨by kernel_rfl, by kernel_rfl, ?_⟩
      refine AX.go ?_
      refine sr ?_
      refine st (mvT rfl) rfl ?_
      refine AWl.vw (vundbox 23 9000 rfl rfl (by decide)) fun va => ?_
      refine AWl.to (Kc 9000 (.deep _) rfl <| kb 23 rfl <| kc 183 rfl <| Kc 182 (.any) rfl <| kc 180 rfl <| Kc 179 (.pel _ _ _ _ _ _ _) rfl <| kc 177 rfl <| Kc 176 (.pel _ _ _ _ _ _ _) rfl <| ka 175 rfl <| kc 174 rfl <| kb 10 rfl <| kb 7 rfl <| kc3 6 4 0 rfl <| Kn) ?_
      refine st (OpT.c1 (ms := [.flat, .flat, .flat]) (c_laws_a2At _ _ _ ⟨by decide, hu0⟩) (H rfl) (Af (T1 rfl) rfl rfl <| Af (I rfl) rfl rfl <| Af (I rfl) rfl rfl <| An) rfl rfl) rfl ?_
      refine st (asT rfl) rfl ?_
      refine ng ?_
      refine sr ?_
      refine st (OpT.fieldAddrB (H rfl) (Root.self (t := 23) (by decide)) rfl (by decide) fd59_2 sz57 (by decide) sbp59_2) rfl ?_
      refine st (OpT.loadP (H rfl) (T1 rfl) (.inl ⟨_, rfl, rfl⟩) ag57 rfl) rfl ?_
      refine AWl.pinin 186 rfl rfl ?_
      refine AWl.vw (vunmelt 186 9000 rfl rfl (by decide)) fun _ => ?_
      refine AWl.to (ko 186 rfl <| Kc 185 (.pel _ _ _ _ _ _ _) rfl <| kc2 24 184 rfl <| kb 23 rfl <| kc 183 rfl <| Kc 182 (.any) rfl <| kc 180 rfl <| Kc 179 (.pel _ _ _ _ _ _ _) rfl <| kc 177 rfl <| Kc 176 (.pel _ _ _ _ _ _ _) rfl <| ka 175 rfl <| kc 174 rfl <| kb 10 rfl <| kb 7 rfl <| kc3 6 4 0 rfl <| Kn) ?_
      refine st (mvT rfl) rfl ?_
      refine st (OpT.conv (H rfl) us2 Tryd.underlying68 (T1 rfl) (nw16 (by omega))) rfl ?_
      refine st (OpT.indexAddrO (H rfl) (Root.self (t := 186) (by decide)) rfl (by decide) (I rfl) el57 sz70 (by omega) hj0) rfl ?_
      refine st (OpT.fieldAddrE (H rfl) (T1 rfl) (.inr ⟨_, _, rfl, (by assumption)⟩) (by decide) fd70_1 sz68 (by decide) sb70_1 (by decide)) rfl ?_
      refine sk (OpT.storeO rfl rfl (T1 rfl) rfl (by assumption) sz68 rfl (T1 rfl)) rfl ?_
      refine AWl.vw (vmelt 186 9000 rfl rfl (by decide)) fun vb => ?_
      refine AWl.to (Kc 9000 (.deep _) rfl <| kc3 186 188 187 rfl <| Kc 185 (.pel _ _ _ _ _ _ _) rfl <| kc2 24 184 rfl <| kb 23 rfl <| kc 183 rfl <| Kc 182 (.any) rfl <| kc 180 rfl <| Kc 179 (.pel _ _ _ _ _ _ _) rfl <| kc 177 rfl <| Kc 176 (.pel _ _ _ _ _ _ _) rfl <| ka 175 rfl <| kc 174 rfl <| kb 10 rfl <| kb 7 rfl <| kc3 6 4 0 rfl <| Kn) ?_
      refine AWl.fact (fun a w hr => pin_eq 186 rfl rfl hr) (fun hpe => ?_)
      subst hpe
      refine AWl.freezeG 9000 rfl ?_
      refine AWl.to (Kc 9000 (.deep _) rfl <| kc3 186 188 187 rfl <| Kc 185 (.pel _ _ _ _ _ _ _) rfl <| kc2 24 184 rfl <| kb 23 rfl <| kc 183 rfl <| Kc 182 (.any) rfl <| kc 180 rfl <| Kc 179 (.pel _ _ _ _ _ _ _) rfl <| kc 177 rfl <| Kc 176 (.pel _ _ _ _ _ _ _) rfl <| ka 175 rfl <| kc 174 rfl <| kb 10 rfl <| kb 7 rfl <| kc3 6 4 0 rfl <| Kn) ?_
      refine AWl.unpin rfl ?_
      refine AWl.to (Kc 9000 (.deep _) rfl <| kc 24 rfl <| kb 23 rfl <| kb 10 rfl <| kb 7 rfl <| kc2 6 4 rfl <| Kn) ?_
      refine ng ?_
      refine sr ?_
      refine st (mvT rfl) rfl ?_
      refine st (OpT.loadB (H rfl) (Root.self (t := 23) (by decide)) rfl ag59 sz59) rfl ?_
      refine AWl.vw (vsol 193 9000 rfl rfl (by decide)) fun _ => ?_
      refine AWl.to (Kc 9000 (.deep _) rfl <| ka 193 rfl <| kc2 192 24 rfl <| kb 23 rfl <| kb 10 rfl <| kb 7 rfl <| kc2 6 4 rfl <| Kn) ?_
      refine s2 (OpT.c2 (ms := [.flat, .flat]) (c_impl_CheckAnswer _ _ (by have h9 := mkA_len d (drQ y s); refine ⟨?_, ?_⟩ <;> simp only [List.length_drop, List.length_set, List.length_append, List.length_nil] <;> omega)) (H rfl) (Af (T1 rfl) rfl rfl <| Af (T1 rfl) rfl rfl <| An) rfl rfl rfl) rfl ?_
      refine st (OpT.alias (H rfl) (by decide) (by decide)) rfl ?_
      refine st (OpT.extractV (m := 10194) (H rfl) rfl rfl rfl rfl rfl rfl rfl) rfl ?_
      refine st (OpT.extractV (m := 20194) (H rfl) rfl rfl rfl rfl rfl rfl rfl) rfl ?_
      refine st (asT rfl) rfl ?_
      refine st (asT rfl) rfl ?_
      refine ng ?_
      refine sr ?_
      refine st (mvT rfl) rfl ?_
      refine st (OpT.loadB (H rfl) (Root.self (t := 23) (by decide)) rfl ag59 sz59) rfl ?_
      refine AWl.vw (vsol 199 9000 rfl rfl (by decide)) fun _ => ?_
      refine AWl.to (Kc 9000 (.deep _) rfl <| ka 199 rfl <| kc4 198 26 25 196 rfl <| kc 195 rfl <| Kc 191 (.ali _) rfl <| kc2 10194 20194 rfl <| ka 193 rfl <| kc2 192 24 rfl <| kb 23 rfl <| kb 10 rfl <| kb 7 rfl <| kc2 6 4 rfl <| Kn) ?_
      refine s2 (OpT.c2 (ms := [.flat, .flat]) (c_spec_CheckAnswer _ _ (by have h9 := mkA_len d (drQ y s); refine ⟨?_, ?_⟩ <;> simp only [List.length_drop, List.length_set, List.length_append, List.length_nil] <;> omega)) (H rfl) (Af (T1 rfl) rfl rfl <| Af (T1 rfl) rfl rfl <| An) rfl rfl rfl) rfl ?_
      refine st (OpT.alias (H rfl) (by decide) (by decide)) rfl ?_
      refine st (OpT.extractV (m := 10200) (H rfl) rfl rfl rfl rfl rfl rfl rfl) rfl ?_
      refine st (OpT.extractV (m := 20200) (H rfl) rfl rfl rfl rfl rfl rfl rfl) rfl ?_
      refine st (asT rfl) rfl ?_
      refine st (asT rfl) rfl ?_
      refine AWl.to (kc2 28 27 rfl <| Kc 9000 (.deep _) rfl <| kc3 26 25 24 rfl <| kb 10 rfl <| kb 7 rfl <| kc2 6 4 rfl <| Kn) ?_
      refine ng ?_
      refine sr ?_
      refine st (mvT rfl) rfl ?_
      refine st (OpT.fieldAddrB (H rfl) (Root.self (t := 10) (by decide)) rfl (by decide) fd59_2 sz57 (by decide) sb59_2) rfl ?_
      refine st (OpT.loadP (H rfl) (T1 rfl) (.inl ⟨_, rfl, rfl⟩) ag57 rfl) rfl ?_
      refine st (OpT.indexAddr (H rfl) (T1 rfl) (I rfl) el57 sz70 (by omega) hj0) rfl ?_
      refine st (OpT.fieldAddr (H rfl) (T1 rfl) fd70_0 sz2 (by decide) sb70_0) rfl ?_
      refine st (OpT.load (H rfl) (T1 rfl) ag2 rfl) rfl ?_
      refine st (OpT.indexAddr (H rfl) (T1 rfl) (T1 rfl) el26 sz42 (by omega) hew) rfl ?_
      refine st (OpT.fieldAddr (H rfl) (T1 rfl) fd42_1 sz30 (by decide) sb42_1) rfl ?_
      refine st (OpT.loadA (H rfl) (T1 rfl) ag30 sz30) rfl ?_
      refine st (OpT.alloc (H rfl) zr30 zk30) rfl ?_
      refine sk (OpT.storeBA rfl rfl (Opd.whole (Root.self (t := 29) (by decide)) rfl) rfl sz30 (by decide) (T1 rfl)) rfl ?_
      refine AWl.to (kb 29 rfl <| kc2 28 27 rfl <| Kc 9000 (.deep _) rfl <| kc3 26 25 24 rfl <| kb 7 rfl <| kc 4 rfl <| Kn) ?_
      refine ng ?_
      refine sr ?_
      refine st (OpT.fieldAddrB (H rfl) (Root.self (t := 7) (by decide)) rfl (by decide) fd55_0 sz30 (by decide) sb55_0) rfl ?_
      refine st (OpT.loadPA (H rfl) (T1 rfl) (.inl ⟨_, rfl, rfl⟩) ag30 sz30) rfl ?_
      refine st (mvT rfl) rfl ?_
      refine s2 (OpT.c2 (ms := [.flat, .flat]) (c_impl_HasHole _ _) (H rfl) (Af (T1 rfl) rfl rfl <| Af (T1 rfl) rfl rfl <| An) rfl rfl rfl) rfl ?_
      refine st (OpT.alias (H rfl) (by decide) (by decide)) rfl ?_
      refine st (OpT.extractV (m := 10216) (H rfl) rfl rfl rfl rfl rfl rfl rfl) rfl ?_
      refine st (OpT.extractV (m := 20216) (H rfl) rfl rfl rfl rfl rfl rfl rfl) rfl ?_
      refine st (asT rfl) rfl ?_
      refine st (asT rfl) rfl ?_
      refine ng ?_
      refine sr ?_
      refine st (OpT.fieldAddrB (H rfl) (Root.self (t := 7) (by decide)) rfl (by decide) fd55_1 sz30 (by decide) sb55_1) rfl ?_
      refine st (OpT.loadPA (H rfl) (T1 rfl) (.inl ⟨_, rfl, rfl⟩) ag30 sz30) rfl ?_
      refine st (mvT rfl) rfl ?_
      refine s2 (OpT.c2 (ms := [.flat, .flat]) (c_impl_HasHole _ _) (H rfl) (Af (T1 rfl) rfl rfl <| Af (T1 rfl) rfl rfl <| An) rfl rfl rfl) rfl ?_
      refine st (OpT.alias (H rfl) (by decide) (by decide)) rfl ?_
      refine st (OpT.extractV (m := 10223) (H rfl) rfl rfl rfl rfl rfl rfl rfl) rfl ?_
      refine st (OpT.extractV (m := 20223) (H rfl) rfl rfl rfl rfl rfl rfl rfl) rfl ?_
      refine st (asT rfl) rfl ?_
      refine st (asT rfl) rfl ?_
      refine AWl.to (kc4 33 32 31 30 rfl <| kb 29 rfl <| kc2 28 27 rfl <| Kc 9000 (.deep _) rfl <| kc4 26 25 24 4 rfl <| Kn) ?_
      refine ng ?_
      refine sr ?_
      refine st (OpT.loadB (H rfl) (Root.self (t := 29) (by decide)) rfl ag30 sz30) rfl ?_
      refine st (mvT rfl) rfl ?_
      refine s2 (OpT.c2 (ms := [.flat, .flat]) (c_impl_HasHole _ _) (H rfl) (Af (T1 rfl) rfl rfl <| Af (T1 rfl) rfl rfl <| An) rfl rfl rfl) rfl ?_
      refine st (OpT.alias (H rfl) (by decide) (by decide)) rfl ?_
      refine st (OpT.extractV (m := 10229) (H rfl) rfl rfl rfl rfl rfl rfl rfl) rfl ?_
      refine st (OpT.extractV (m := 20229) (H rfl) rfl rfl rfl rfl rfl rfl rfl) rfl ?_
      refine st (asT rfl) rfl ?_
      refine st (asT rfl) rfl ?_
      refine ng ?_
      refine sr ?_
      refine st (mvT rfl) rfl ?_
      refine st (mvT rfl) rfl ?_
      refine st (OpT.neq (H rfl) (T1 rfl) (T1 rfl)) rfl ?_
      refine st (mvT rfl) rfl ?_
      apply AWl.or (d := 239) (t := 235) rfl
      ·
       intro hb13 Q1 k1
       have hb13' := lF hb13
       refine rs hb13 (mvT rfl) rfl ?_
       refine rs hb13 (mvT rfl) rfl ?_
       refine rs hb13 (OpT.bneq (H rfl) Tryd.underlying4 (T1 rfl) (T1 rfl)) rfl ?_
       refine st (OpT.pickF (A := .cel _ _) (H rfl) (T1 rfl) hb13 (T1 rfl) rfl) rfl ?_
       exact AWl.to (junk 3 rfl) k1
      ·
       intro hb13 Q1 k1
       refine ps hb13 rfl ?_
       refine ps hb13 rfl ?_
       refine ps hb13 rfl ?_
       refine st (OpT.pickT (A := .cel _ _) (H rfl) (T1 rfl) hb13 Opd.bool rfl) rfl ?_
       exact k1
      refine st (mvT rfl) rfl ?_
      apply AWl.or (d := 243) (t := 240) rfl
      ·
       intro hb14 Q1 k1
       have hb14' := lF hb14
       refine rs hb14 (mvT rfl) rfl ?_
       refine rs hb14 (OpT.neq (H rfl) (T1 rfl) (I rfl)) rfl ?_
       refine st (OpT.pickF (A := .cel _ _) (H rfl) (T1 rfl) hb14 (T1 rfl) rfl) rfl ?_
       exact AWl.to (junk 2 rfl) k1
      ·
       intro hb14 Q1 k1
       refine ps hb14 rfl ?_
       refine ps hb14 rfl ?_
       refine st (OpT.pickT (A := .cel _ _) (H rfl) (T1 rfl) hb14 Opd.bool rfl) rfl ?_
       exact k1
      refine st (mvT rfl) rfl ?_
      apply AWl.or (d := 247) (t := 244) rfl
      ·
       intro hb15 Q1 k1
       have hb15' := lF hb15
       refine rs hb15 (mvT rfl) rfl ?_
       refine rs hb15 (OpT.neq (H rfl) (T1 rfl) (I rfl)) rfl ?_
       refine st (OpT.pickF (A := .cel _ _) (H rfl) (T1 rfl) hb15 (T1 rfl) rfl) rfl ?_
       exact AWl.to (junk 2 rfl) k1
      ·
       intro hb15 Q1 k1
       refine ps hb15 rfl ?_
       refine ps hb15 rfl ?_
       refine st (OpT.pickT (A := .cel _ _) (H rfl) (T1 rfl) hb15 Opd.bool rfl) rfl ?_
       exact k1
      refine st (mvT rfl) rfl ?_
      apply AWl.or (d := 251) (t := 248) rfl
      ·
       intro hb16 Q1 k1
       have hb16' := lF hb16
       refine rs hb16 (mvT rfl) rfl ?_
       refine rs hb16 (OpT.neq (H rfl) (T1 rfl) (I rfl)) rfl ?_
       refine st (OpT.pickF (A := .cel _ _) (H rfl) (T1 rfl) hb16 (T1 rfl) rfl) rfl ?_
       exact AWl.to (junk 2 rfl) k1
      ·
       intro hb16 Q1 k1
       refine ps hb16 rfl ?_
       refine ps hb16 rfl ?_
       refine st (OpT.pickT (A := .cel _ _) (H rfl) (T1 rfl) hb16 Opd.bool rfl) rfl ?_
       exact k1
      refine st (mvT rfl) rfl ?_
      apply AWl.or (d := 266) (t := 252) rfl
      ·
       intro hb17 Q1 k1
       have hb17' := lF hb17
       refine rs hb17 (mvT rfl) rfl ?_
       refine rs hb17 (mvT rfl) rfl ?_
       refine rs hb17 (mvT rfl) rfl ?_
       apply AWl.and (d := 258) (t := 255) rfl
       ·
        intro hb18 Q1 k1
        have hb18' := lT hb18
        refine rs hb18 (mvT rfl) rfl ?_
        refine rs hb18 (OpT.not (H rfl) (T1 rfl)) rfl ?_
        refine rs hb17 (OpT.pickT (A := .cel _ _) (H rfl) (T1 rfl) hb18 (T1 rfl) rfl) rfl ?_
        exact AWl.to (junk 2 rfl) k1
       ·
        intro hb18 Q1 k1
        refine ps hb18 rfl ?_
        refine ps hb18 rfl ?_
        refine rs hb17 (OpT.pickF (A := .cel _ _) (H rfl) (T1 rfl) hb18 Opd.bool rfl) rfl ?_
        exact k1
       refine rs hb17 (mvT rfl) rfl ?_
       apply AWl.or (d := 264) (t := 259) rfl
       ·
        intro hb19 Q1 k1
        have hb19' := lF hb19
        refine rs hb19 (mvT rfl) rfl ?_
        refine rs hb19 (mvT rfl) rfl ?_
        apply AWl.and (d := 263) (t := 261) rfl
        ·
         intro hb20 Q1 k1
         have hb20' := lT hb20
         refine rs hb20 (mvT rfl) rfl ?_
         refine rs hb19 (OpT.pickT (A := .cel _ _) (H rfl) (T1 rfl) hb20 (T1 rfl) rfl) rfl ?_
         exact AWl.to (junk 1 rfl) k1
        ·
         intro hb20 Q1 k1
         refine ps hb20 rfl ?_
         refine rs hb19 (OpT.pickF (A := .cel _ _) (H rfl) (T1 rfl) hb20 Opd.bool rfl) rfl ?_
         exact k1
        refine rs hb17 (OpT.pickF (A := .cel _ _) (H rfl) (T1 rfl) hb19 (T1 rfl) rfl) rfl ?_
        exact AWl.to (junk 3 rfl) k1
       ·
        intro hb19 Q1 k1
        refine ps hb19 rfl ?_
        refine AWl.pasv rfl rfl rfl rfl hb19 rfl (ok' rfl) rfl ?_
        refine AWl.pasu rfl rfl rfl rfl rfl (ok' rfl) rfl ?_
        refine ps hb19 rfl ?_
        refine rs hb17 (OpT.pickT (A := .cel _ _) (H rfl) (T1 rfl) hb19 Opd.bool rfl) rfl ?_
        exact AWl.to (junk 2 rfl) k1
       refine rs hb17 (OpT.bneq (H rfl) Tryd.underlying4 (T1 rfl) (T1 rfl)) rfl ?_
       refine st (OpT.pickF (A := .cel _ _) (H rfl) (T1 rfl) hb17 (T1 rfl) rfl) rfl ?_
       exact AWl.to (junk 7 rfl) k1
      ·
       intro hb17 Q1 k1
       refine ps hb17 rfl ?_
       refine ps hb17 rfl ?_
       refine AWl.pasv rfl rfl rfl rfl hb17 rfl (ok' rfl) rfl ?_
       refine AWl.pasu rfl rfl rfl rfl rfl (ok' rfl) rfl ?_
       refine AWl.pasu rfl rfl rfl rfl rfl (ok' rfl) rfl ?_
       refine ps hb17 rfl ?_
       refine AWl.pasv rfl rfl rfl rfl hb17 rfl (ok' rfl) rfl ?_
       refine AWl.pasu rfl rfl rfl rfl rfl (ok' rfl) rfl ?_
       refine AWl.pasu rfl rfl rfl rfl rfl (ok' rfl) rfl ?_
       refine AWl.pasu rfl rfl rfl rfl rfl (ok' rfl) rfl ?_
       refine AWl.pasu rfl rfl rfl rfl rfl (ok' rfl) rfl ?_
       refine ps hb17 rfl ?_
       refine ps hb17 rfl ?_
       refine st (OpT.pickT (A := .cel _ _) (H rfl) (T1 rfl) hb17 Opd.bool rfl) rfl ?_
       exact AWl.to (junk 8 rfl) k1
      refine AWl.to (kc 266 rfl <| Kc 9000 (.deep _) rfl <| kc 4 rfl <| Kn) ?_
      refine ng ?_
      refine cd rfl (fun hc6 => ?_) fun hc6 => ?_
      ·
       obtain ⟨hc6, hc6'⟩ := pT hc6
       exact (show False from (by dsimp only at hc6; rw [a1] at hc6; simp [ansR, hwr, l1, l2, l3, l4, l5] at hc6)).elim
      ·
       obtain ⟨hc6, hc6'⟩ := pF hc6
       refine AW.skip ?_
       refine AX.go ?_
       refine sr ?_
       refine st (asB rfl) rfl ?_
       refine ng ?_
       refine AW.ret ?_
       exact rt1 rfl (.inl rfl) rfl
     ·
      obtain ⟨hc5, hc5'⟩ := pF hc5
      refine AW.skip ?_
      refine AX.go ?_
      refine sr ?_
      refine st (asB rfl) rfl ?_
      refine ng ?_
      refine AW.ret ?_
      exact rt1 rfl (.inl rfl) rfl
   ·
    obtain ⟨hc3, hc3'⟩ := pF hc3
    refine AW.skip ?_
    refine AX.go ?_
    refine AW.seq ?_
    refine sr ?_
    refine st (OpT.fieldAddrB (H rfl) (Root.self (t := 10) (by decide)) rfl (by decide) fd59_2 sz57 (by decide) sb59_2) rfl ?_
    refine st (OpT.loadP (H rfl) (T1 rfl) (.inl ⟨_, rfl, rfl⟩) ag57 rfl) rfl ?_
    refine st (OpT.len (H rfl) (T1 rfl) el57) rfl ?_
    refine st (OpT.gtr (H rfl) (T1 rfl) (I rfl)) rfl ?_
    refine AWl.to (kc 174 rfl <| kb 10 rfl <| kb 7 rfl <| kc3 6 4 0 rfl <| Kn) ?_
    refine ng ?_
    refine cd rfl (fun hc7 => ?_) fun hc7 => ?_
    ·
     obtain ⟨hc7, hc7'⟩ := pT hc7
     obtain ⟨w1, r1, hwr⟩ : ∃ c r, witsP (drQ y s) d d.length = c :: r := cons_of (by have h9 := hc7; dsimp only at h9; rw [a1] at h9; exact h9)
     have hj0 : (mkA d (drQ y s)).1.2.2[Int.toNat 0]? = some w1 := by rw [a1]; show (witsP (drQ y s) d d.length)[0]? = _; rw [hwr]; rfl
     have hat := atS_in hu0
     obtain ⟨l1, l2, l3, l4, l5, l6, l7⟩ := hole_law hD.1 hqk hwr hat
     obtain ⟨ew, hew⟩ : ∃ e, d[Int.toNat w1.1]? = some e := ⟨_, List.getElem?_eq_getElem (by omega)⟩
     rw [mAt_eq hew] at l2 l5
     refine AW.seq ?_
     refine dh fomo ?_
     refine d1 [7] (fun ve h => OpT.loadB (H rfl) (Root.self (t := 7) (by decide)) ((h _ (List.elem_iff.1 rfl)).trans rfl) ag55 sz55) rfl ?_
     refine d1 [10] (fun ve h => OpT.fieldAddrB (H rfl) (Root.self (t := 10) (by decide)) ((h _ (List.elem_iff.1 rfl)).trans rfl) (by decide) fd59_1 sz34 (by decide) sb59_1) rfl ?_
     refine d1 [10, 176] (fun ve h => OpT.loadP (H rfl) (D1 h rfl) (.inl ⟨_, ((h _ (List.elem_iff.1 rfl)).trans rfl), rfl⟩) ag34 rfl) rfl ?_
     refine d1 [] (fun ve h => OpT.buildSlice0 (m := 0) (z := .bool false) kWit (H rfl) el57 sz70 (by decide)) rfl ?_
     refine d1 [10] (fun ve h => OpT.fieldAddrB (H rfl) (Root.self (t := 10) (by decide)) ((h _ (List.elem_iff.1 rfl)).trans rfl) (by decide) fd59_2 sz57 (by decide) sb59_2) rfl ?_
     refine d1 [10, 179] (fun ve h => OpT.loadP (H rfl) (D1 h rfl) (.inl ⟨_, ((h _ (List.elem_iff.1 rfl)).trans rfl), rfl⟩) ag57 rfl) rfl ?_
     refine dt (t := 178) [178, 180] (fun ve h => OpT.append (H rfl) (Root.self (t := 178) (by decide)) ((h _ (List.elem_iff.1 rfl)).trans rfl) (Src.shared (D1 h rfl)) (by decide) el57 zr70 rfl sz70 by70 (by decide) (by have h9 := mkA_len d (drQ y s); simp only [List.length_nil]; omega)) rfl ?_
     refine dt (t := 181) [175, 177, 181] (fun ve h => OpT.buildD 181 (H rfl) pl59 zr59 zkp59 ((h _ (List.elem_iff.1 rfl)).trans rfl) (by decide) (fun v => (Built.agg (N1 h rfl (by decide)) rfl (by decide) sbp59_0 (Built.cel (N1 h rfl (by decide)) rfl rfl sbp59_1 (Built.cel (Opd.tmp (updK_self _ _ _) (by decide) rfl) rfl rfl sbp59_2 (Built.nil _)))))) rfl ?_
     refine d1 [] (fun ve h => OpT.alloc (H rfl) zr59 zkp59) rfl ?_
     refine dmm (t := 23) (u := 182) [23, 182] (fun ve h => OpT.storeD 182 rfl rfl (Root.self (by decide)) ((h _ (List.elem_iff.1 rfl)).trans rfl) (Root.self (by decide)) ((h _ (List.elem_iff.1 rfl)).trans rfl) (by decide) sz59 rfl) rfl ?_
     refine dn ⟨by kernel_rfl, by kernel_rfl, ?_⟩
     refine AX.go ?_
     refine sr ?_
     refine st (mvT rfl) rfl ?_
     refine AWl.vw (vundbox 23 9000 rfl rfl (by decide)) fun va => ?_
     refine AWl.to (Kc 9000 (.deep _) rfl <| kb 23 rfl <| kc 183 rfl <| Kc 182 (.any) rfl <| kc 180 rfl <| Kc 179 (.pel _ _ _ _ _ _ _) rfl <| kc 177 rfl <| Kc 176 (.pel _ _ _ _ _ _ _) rfl <| ka 175 rfl <| kc 174 rfl <| kb 10 rfl <| kb 7 rfl <| kc3 6 4 0 rfl <| Kn) ?_
     refine st (OpT.c1 (ms := [.flat, .flat, .flat]) (c_laws_a2At _ _ _ ⟨by decide, hu0⟩) (H rfl) (Af (T1 rfl) rfl rfl <| Af (I rfl) rfl rfl <| Af (I rfl) rfl rfl <| An) rfl rfl) rfl ?_
     refine st (asT rfl) rfl ?_
     refine ng ?_
     refine sr ?_
     refine st (OpT.fieldAddrB (H rfl) (Root.self (t := 23) (by decide)) rfl (by decide) fd59_2 sz57 (by decide) sbp59_2) rfl ?_
     refine st (OpT.loadP (H rfl) (T1 rfl) (.inl ⟨_, rfl, rfl⟩) ag57 rfl) rfl ?_
     refine AWl.pinin 186 rfl rfl ?_
     refine AWl.vw (vunmelt 186 9000 rfl rfl (by decide)) fun _ => ?_
     refine AWl.to (ko 186 rfl <| Kc 185 (.pel _ _ _ _ _ _ _) rfl <| kc2 24 184 rfl <| kb 23 rfl <| kc 183 rfl <| Kc 182 (.any) rfl <| kc 180 rfl <| Kc 179 (.pel _ _ _ _ _ _ _) rfl <| kc 177 rfl <| Kc 176 (.pel _ _ _ _ _ _ _) rfl <| ka 175 rfl <| kc 174 rfl <| kb 10 rfl <| kb 7 rfl <| kc3 6 4 0 rfl <| Kn) ?_
     refine st (mvT rfl) rfl ?_
     refine st (OpT.conv (H rfl) us2 Tryd.underlying68 (T1 rfl) (nw16 (by omega))) rfl ?_
     refine st (OpT.indexAddrO (H rfl) (Root.self (t := 186) (by decide)) rfl (by decide) (I rfl) el57 sz70 (by omega) hj0) rfl ?_
     refine st (OpT.fieldAddrE (H rfl) (T1 rfl) (.inr ⟨_, _, rfl, (by assumption)⟩) (by decide) fd70_1 sz68 (by decide) sb70_1 (by decide)) rfl ?_
     refine sk (OpT.storeO rfl rfl (T1 rfl) rfl (by assumption) sz68 rfl (T1 rfl)) rfl ?_
     refine AWl.vw (vmelt 186 9000 rfl rfl (by decide)) fun vb => ?_
     refine AWl.to (Kc 9000 (.deep _) rfl <| kc3 186 188 187 rfl <| Kc 185 (.pel _ _ _ _ _ _ _) rfl <| kc2 24 184 rfl <| kb 23 rfl <| kc 183 rfl <| Kc 182 (.any) rfl <| kc 180 rfl <| Kc 179 (.pel _ _ _ _ _ _ _) rfl <| kc 177 rfl <| Kc 176 (.pel _ _ _ _ _ _ _) rfl <| ka 175 rfl <| kc 174 rfl <| kb 10 rfl <| kb 7 rfl <| kc3 6 4 0 rfl <| Kn) ?_
     refine AWl.fact (fun a w hr => pin_eq 186 rfl rfl hr) (fun hpe => ?_)
     subst hpe
     refine AWl.freezeG 9000 rfl ?_
     refine AWl.to (Kc 9000 (.deep _) rfl <| kc3 186 188 187 rfl <| Kc 185 (.pel _ _ _ _ _ _ _) rfl <| kc2 24 184 rfl <| kb 23 rfl <| kc 183 rfl <| Kc 182 (.any) rfl <| kc 180 rfl <| Kc 179 (.pel _ _ _ _ _ _ _) rfl <| kc 177 rfl <| Kc 176 (.pel _ _ _ _ _ _ _) rfl <| ka 175 rfl <| kc 174 rfl <| kb 10 rfl <| kb 7 rfl <| kc3 6 4 0 rfl <| Kn) ?_
     refine AWl.unpin rfl ?_
     refine AWl.to (Kc 9000 (.deep _) rfl <| kc 24 rfl <| kb 23 rfl <| kb 10 rfl <| kb 7 rfl <| kc2 6 4 rfl <| Kn) ?_
     refine ng ?_
     refine sr ?_
     refine st (mvT rfl) rfl ?_
     refine st (OpT.loadB (H rfl) (Root.self (t := 23) (by decide)) rfl ag59 sz59) rfl ?_
     refine AWl.vw (vsol 193 9000 rfl rfl (by decide)) fun _ => ?_
     refine AWl.to (Kc 9000 (.deep _) rfl <| ka 193 rfl <| kc2 192 24 rfl <| kb 23 rfl <| kb 10 rfl <| kb 7 rfl <| kc2 6 4 rfl <| Kn) ?_
     refine s2 (OpT.c2 (ms := [.flat, .flat]) (c_impl_CheckAnswer _ _ (by have h9 := mkA_len d (drQ y s); refine ⟨?_, ?_⟩ <;> simp only [List.length_drop, List.length_set, List.length_append, List.length_nil] <;> omega)) (H rfl) (Af (T1 rfl) rfl rfl <| Af (T1 rfl) rfl rfl <| An) rfl rfl rfl) rfl ?_
     refine st (OpT.alias (H rfl) (by decide) (by decide)) rfl ?_
     refine st (OpT.extractV (m := 10194) (H rfl) rfl rfl rfl rfl rfl rfl rfl) rfl ?_
     refine st (OpT.extractV (m := 20194) (H rfl) rfl rfl rfl rfl rfl rfl rfl) rfl ?_
     refine st (asT rfl) rfl ?_
     refine st (asT rfl) rfl ?_
     refine ng ?_
     refine sr ?_
     refine st (mvT rfl) rfl ?_
     refine st (OpT.loadB (H rfl) (Root.self (t := 23) (by decide)) rfl ag59 sz59) rfl ?_
     refine AWl.vw (vsol 199 9000 rfl rfl (by decide)) fun _ => ?_
     refine AWl.to (Kc 9000 (.deep _) rfl <| ka 199 rfl <| kc4 198 26 25 196 rfl <| kc 195 rfl <| Kc 191 (.ali _) rfl <| kc2 10194 20194 rfl <| ka 193 rfl <| kc2 192 24 rfl <| kb 23 rfl <| kb 10 rfl <| kb 7 rfl <| kc2 6 4 rfl <| Kn) ?_
     refine s2 (OpT.c2 (ms := [.flat, .flat]) (c_spec_CheckAnswer _ _ (by have h9 := mkA_len d (drQ y s); refine ⟨?_, ?_⟩ <;> simp only [List.length_drop, List.length_set, List.length_append, List.length_nil] <;> omega)) (H rfl) (Af (T1 rfl) rfl rfl <| Af (T1 rfl) rfl rfl <| An) rfl rfl rfl) rfl ?_
     refine st (OpT.alias (H rfl) (by decide) (by decide)) rfl ?_
     refine st (OpT.extractV (m := 10200) (H rfl) rfl rfl rfl rfl rfl rfl rfl) rfl ?_
     refine st (OpT.extractV (m := 20200) (H rfl) rfl rfl rfl rfl rfl rfl rfl) rfl ?_
     refine st (asT rfl) rfl ?_
     refine st (asT rfl) rfl ?_
     refine AWl.to (kc2 28 27 rfl <| Kc 9000 (.deep _) rfl <| kc3 26 25 24 rfl <| kb 10 rfl <| kb 7 rfl <| kc2 6 4 rfl <| Kn) ?_
     refine ng ?_
     refine sr ?_
     refine st (mvT rfl) rfl ?_
     refine st (OpT.fieldAddrB (H rfl) (Root.self (t := 10) (by decide)) rfl (by decide) fd59_2 sz57 (by decide) sb59_2) rfl ?_
     refine st (OpT.loadP (H rfl) (T1 rfl) (.inl ⟨_, rfl, rfl⟩) ag57 rfl) rfl ?_
     refine st (OpT.indexAddr (H rfl) (T1 rfl) (I rfl) el57 sz70 (by omega) hj0) rfl ?_
     refine st (OpT.fieldAddr (H rfl) (T1 rfl) fd70_0 sz2 (by decide) sb70_0) rfl ?_
     refine st (OpT.load (H rfl) (T1 rfl) ag2 rfl) rfl ?_
     refine st (OpT.indexAddr (H rfl) (T1 rfl) (T1 rfl) el26 sz42 (by omega) hew) rfl ?_
     refine st (OpT.fieldAddr (H rfl) (T1 rfl) fd42_1 sz30 (by decide) sb42_1) rfl ?_
     refine st (OpT.loadA (H rfl) (T1 rfl) ag30 sz30) rfl ?_
     refine st (OpT.alloc (H rfl) zr30 zk30) rfl ?_
     refine sk (OpT.storeBA rfl rfl (Opd.whole (Root.self (t := 29) (by decide)) rfl) rfl sz30 (by decide) (T1 rfl)) rfl ?_
     refine AWl.to (kb 29 rfl <| kc2 28 27 rfl <| Kc 9000 (.deep _) rfl <| kc3 26 25 24 rfl <| kb 7 rfl <| kc 4 rfl <| Kn) ?_
     refine ng ?_
     refine sr ?_
     refine st (OpT.fieldAddrB (H rfl) (Root.self (t := 7) (by decide)) rfl (by decide) fd55_0 sz30 (by decide) sb55_0) rfl ?_
     refine st (OpT.loadPA (H rfl) (T1 rfl) (.inl ⟨_, rfl, rfl⟩) ag30 sz30) rfl ?_
     refine st (mvT rfl) rfl ?_
     refine s2 (OpT.c2 (ms := [.flat, .flat]) (c_impl_HasHole _ _) (H rfl) (Af (T1 rfl) rfl rfl <| Af (T1 rfl) rfl rfl <| An) rfl rfl rfl) rfl ?_
     refine st (OpT.alias (H rfl) (by decide) (by decide)) rfl ?_
     refine st (OpT.extractV (m := 10216) (H rfl) rfl rfl rfl rfl rfl rfl rfl) rfl ?_
     refine st (OpT.extractV (m := 20216) (H rfl) rfl rfl rfl rfl rfl rfl rfl) rfl ?_
     refine st (asT rfl) rfl ?_
     refine st (asT rfl) rfl ?_
     refine ng ?_
     refine sr ?_
     refine st (OpT.fieldAddrB (H rfl) (Root.self (t := 7) (by decide)) rfl (by decide) fd55_1 sz30 (by decide) sb55_1) rfl ?_
     refine st (OpT.loadPA (H rfl) (T1 rfl) (.inl ⟨_, rfl, rfl⟩) ag30 sz30) rfl ?_
     refine st (mvT rfl) rfl ?_
     refine s2 (OpT.c2 (ms := [.flat, .flat]) (c_impl_HasHole _ _) (H rfl) (Af (T1 rfl) rfl rfl <| Af (T1 rfl) rfl rfl <| An) rfl rfl rfl) rfl ?_
     refine st (OpT.alias (H rfl) (by decide) (by decide)) rfl ?_
     refine st (OpT.extractV (m := 10223) (H rfl) rfl rfl rfl rfl rfl rfl rfl) rfl ?_
     refine st (OpT.extractV (m := 20223) (H rfl) rfl rfl rfl rfl rfl rfl rfl) rfl ?_
     refine st (asT rfl) rfl ?_
     refine st (asT rfl) rfl ?_
     refine AWl.to (kc4 33 32 31 30 rfl <| kb 29 rfl <| kc2 28 27 rfl <| Kc 9000 (.deep _) rfl <| kc4 26 25 24 4 rfl <| Kn) ?_
     refine ng ?_
     refine sr ?_
     refine st (OpT.loadB (H rfl) (Root.self (t := 29) (by decide)) rfl ag30 sz30) rfl ?_
     refine st (mvT rfl) rfl ?_
     refine s2 (OpT.c2 (ms := [.flat, .flat]) (c_impl_HasHole _ _) (H rfl) (Af (T1 rfl) rfl rfl <| Af (T1 rfl) rfl rfl <| An) rfl rfl rfl) rfl ?_
     refine st (OpT.alias (H rfl) (by decide) (by decide)) rfl ?_
     refine st (OpT.extractV (m := 10229) (H rfl) rfl rfl rfl rfl rfl rfl rfl) rfl ?_
     refine st (OpT.extractV (m := 20229) (H rfl) rfl rfl rfl rfl rfl rfl rfl) rfl ?_
     refine st (asT rfl) rfl ?_
     refine st (asT rfl) rfl ?_
     refine ng ?_
     refine sr ?_
     refine st (mvT rfl) rfl ?_
     refine st (mvT rfl) rfl ?_
     refine st (OpT.neq (H rfl) (T1 rfl) (T1 rfl)) rfl ?_
     refine st (mvT rfl) rfl ?_
     apply AWl.or (d := 239) (t := 235) rfl
     ·
      intro hb21 Q1 k1
      have hb21' := lF hb21
      refine rs hb21 (mvT rfl) rfl ?_
      refine rs hb21 (mvT rfl) rfl ?_
      refine rs hb21 (OpT.bneq (H rfl) Tryd.underlying4 (T1 rfl) (T1 rfl)) rfl ?_
      refine st (OpT.pickF (A := .cel _ _) (H rfl) (T1 rfl) hb21 (T1 rfl) rfl) rfl ?_
      exact AWl.to (junk 3 rfl) k1
     ·
      intro hb21 Q1 k1
      refine ps hb21 rfl ?_
      refine ps hb21 rfl ?_
      refine ps hb21 rfl ?_
      refine st (OpT.pickT (A := .cel _ _) (H rfl) (T1 rfl) hb21 Opd.bool rfl) rfl ?_
      exact k1
     refine st (mvT rfl) rfl ?_
     apply AWl.or (d := 243) (t := 240) rfl
     ·
      intro hb22 Q1 k1
      have hb22' := lF hb22
      refine rs hb22 (mvT rfl) rfl ?_
      refine rs hb22 (OpT.neq (H rfl) (T1 rfl) (I rfl)) rfl ?_
      refine st (OpT.pickF (A := .cel _ _) (H rfl) (T1 rfl) hb22 (T1 rfl) rfl) rfl ?_
      exact AWl.to (junk 2 rfl) k1
     ·
      intro hb22 Q1 k1
      refine ps hb22 rfl ?_
      refine ps hb22 rfl ?_
      refine st (OpT.pickT (A := .cel _ _) (H rfl) (T1 rfl) hb22 Opd.bool rfl) rfl ?_
      exact k1
     refine st (mvT rfl) rfl ?_
     apply AWl.or (d := 247) (t := 244) rfl
     ·
      intro hb23 Q1 k1
      have hb23' := lF hb23
      refine rs hb23 (mvT rfl) rfl ?_
      refine rs hb23 (OpT.neq (H rfl) (T1 rfl) (I rfl)) rfl ?_
      refine st (OpT.pickF (A := .cel _ _) (H rfl) (T1 rfl) hb23 (T1 rfl) rfl) rfl ?_
      exact AWl.to (junk 2 rfl) k1
     ·
      intro hb23 Q1 k1
      refine ps hb23 rfl ?_
      refine ps hb23 rfl ?_
      refine st (OpT.pickT (A := .cel _ _) (H rfl) (T1 rfl) hb23 Opd.bool rfl) rfl ?_
      exact k1
     refine st (mvT rfl) rfl ?_
     apply AWl.or (d := 251) (t := 248) rfl
     ·
      intro hb24 Q1 k1
      have hb24' := lF hb24
      refine rs hb24 (mvT rfl) rfl ?_
      refine rs hb24 (OpT.neq (H rfl) (T1 rfl) (I rfl)) rfl ?_
      refine st (OpT.pickF (A := .cel _ _) (H rfl) (T1 rfl) hb24 (T1 rfl) rfl) rfl ?_
      exact AWl.to (junk 2 rfl) k1
     ·
      intro hb24 Q1 k1
      refine ps hb24 rfl ?_
      refine ps hb24 rfl ?_
      refine st (OpT.pickT (A := .cel _ _) (H rfl) (T1 rfl) hb24 Opd.bool rfl) rfl ?_
      exact k1
     refine st (mvT rfl) rfl ?_
     apply AWl.or (d := 266) (t := 252) rfl
     ·
      intro hb25 Q1 k1
      have hb25' := lF hb25
      refine rs hb25 (mvT rfl) rfl ?_
      refine rs hb25 (mvT rfl) rfl ?_
      refine rs hb25 (mvT rfl) rfl ?_
      apply AWl.and (d := 258) (t := 255) rfl
      ·
       intro hb26 Q1 k1
       have hb26' := lT hb26
       refine rs hb26 (mvT rfl) rfl ?_
       refine rs hb26 (OpT.not (H rfl) (T1 rfl)) rfl ?_
       refine rs hb25 (OpT.pickT (A := .cel _ _) (H rfl) (T1 rfl) hb26 (T1 rfl) rfl) rfl ?_
       exact AWl.to (junk 2 rfl) k1
      ·
       intro hb26 Q1 k1
       refine ps hb26 rfl ?_
       refine ps hb26 rfl ?_
       refine rs hb25 (OpT.pickF (A := .cel _ _) (H rfl) (T1 rfl) hb26 Opd.bool rfl) rfl ?_
       exact k1
      refine rs hb25 (mvT rfl) rfl ?_
      apply AWl.or (d := 264) (t := 259) rfl
      ·
       intro hb27 Q1 k1
       have hb27' := lF hb27
       refine rs hb27 (mvT rfl) rfl ?_
       refine rs hb27 (mvT rfl) rfl ?_
       apply AWl.and (d := 263) (t := 261) rfl
       ·
        intro hb28 Q1 k1
        have hb28' := lT hb28
        refine rs hb28 (mvT rfl) rfl ?_
        refine rs hb27 (OpT.pickT (A := .cel _ _) (H rfl) (T1 rfl) hb28 (T1 rfl) rfl) rfl ?_
        exact AWl.to (junk 1 rfl) k1
       ·
        intro hb28 Q1 k1
        refine ps hb28 rfl ?_
        refine rs hb27 (OpT.pickF (A := .cel _ _) (H rfl) (T1 rfl) hb28 Opd.bool rfl) rfl ?_
        exact k1
       refine rs hb25 (OpT.pickF (A := .cel _ _) (H rfl) (T1 rfl) hb27 (T1 rfl) rfl) rfl ?_
       exact AWl.to (junk 3 rfl) k1
      ·
       intro hb27 Q1 k1
       refine ps hb27 rfl ?_
       refine AWl.pasv rfl rfl rfl rfl hb27 rfl (ok' rfl) rfl ?_
       refine AWl.pasu rfl rfl rfl rfl rfl (ok' rfl) rfl ?_
       refine ps hb27 rfl ?_
       refine rs hb25 (OpT.pickT (A := .cel _ _) (H rfl) (T1 rfl) hb27 Opd.bool rfl) rfl ?_
       exact AWl.to (junk 2 rfl) k1
      refine rs hb25 (OpT.bneq (H rfl) Tryd.underlying4 (T1 rfl) (T1 rfl)) rfl ?_
      refine st (OpT.pickF (A := .cel _ _) (H rfl) (T1 rfl) hb25 (T1 rfl) rfl) rfl ?_
      exact AWl.to (junk 7 rfl) k1
     ·
      intro hb25 Q1 k1
      refine ps hb25 rfl ?_
      refine ps hb25 rfl ?_
      refine AWl.pasv rfl rfl rfl rfl hb25 rfl (ok' rfl) rfl ?_
      refine AWl.pasu rfl rfl rfl rfl rfl (ok' rfl) rfl ?_
      refine AWl.pasu rfl rfl rfl rfl rfl (ok' rfl) rfl ?_
      refine ps hb25 rfl ?_
      refine AWl.pasv rfl rfl rfl rfl hb25 rfl (ok' rfl) rfl ?_
      refine AWl.pasu rfl rfl rfl rfl rfl (ok' rfl) rfl ?_
      refine AWl.pasu rfl rfl rfl rfl rfl (ok' rfl) rfl ?_
      refine AWl.pasu rfl rfl rfl rfl rfl (ok' rfl) rfl ?_
      refine AWl.pasu rfl rfl rfl rfl rfl (ok' rfl) rfl ?_
      refine ps hb25 rfl ?_
      refine ps hb25 rfl ?_
      refine st (OpT.pickT (A := .cel _ _) (H rfl) (T1 rfl) hb25 Opd.bool rfl) rfl ?_
      exact AWl.to (junk 8 rfl) k1
     refine AWl.to (kc 266 rfl <| Kc 9000 (.deep _) rfl <| kc 4 rfl <| Kn) ?_
     refine ng ?_
     refine cd rfl (fun hc8 => ?_) fun hc8 => ?_
     ·
      obtain ⟨hc8, hc8'⟩ := pT hc8
      exact (show False from (by dsimp only at hc8; rw [a1] at hc8; simp [ansR, hwr, l1, l2, l3, l4, l5] at hc8)).elim
     ·
      obtain ⟨hc8, hc8'⟩ := pF hc8
      refine AW.skip ?_
      refine AX.go ?_
      refine sr ?_
      refine st (asB rfl) rfl ?_
      refine ng ?_
      refine AW.ret ?_
      exact rt1 rfl (.inl rfl) rfl
    ·
     obtain ⟨hc7, hc7'⟩ := pF hc7
     refine AW.skip ?_
     refine AX.go ?_
     refine sr ?_
     refine st (asB rfl) rfl ?_
     refine ng ?_
     refine AW.ret ?_
     exact rt1 rfl (.inl rfl) rfl
end Go.Proofs.YtohcpnobmknglaaDoor.VL
