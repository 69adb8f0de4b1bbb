/- Proved here: what some functions of the program take and give: walks with the words of VA..VQ. Printed by program. -/
import Derived.Test.YtbckpmjiimiceaaDoorWT
import Derived.Test.YtbckpmjiimiceaaDoorPXF
import Derived.Test.YtbckpmjiimiceaaDoorBpa
import Derived.Test.YtbckpmjiimiceaaDoorWNM
import Derived.Test.YtbckpmjiimiceaaDoorWO
import Derived.Test.YtbckpmjiimiceaaDoorWD
import Derived.Test.YtbckpmjiimiceaaDoorWC1
import Derived.Test.YtbckpmjiimiceaaDoorWM
set_option linter.unusedVariables false
set_option linter.unusedSimpArgs false
set_option maxRecDepth 4000
namespace Go.Proofs.YtbckpmjiimiceaaDoor.VL
open Go
set_option maxHeartbeats 4000000 in
/-- laws.FnExactFileOrder -/
theorem c_laws_FnExactFileOrder (names : List ByteArray) : AC Tryd.prog 4 [.cel (Kd.slice Kd.str) names] [.cel Kd.bool true] [] := by
 refine acI (N := 96) Tryd.func4 (Nat.le_of_ble_eq_true rfl) rfl fun w0 hd s0 ar => ?_
 refine AW.to (kc 0 rfl <| Kn) ?_
 have htl := filR_len names
 refine sr ?_
 refine st (asB rfl) rfl ?_
 refine ng ?_
 refine sr ?_
 refine st (asI rfl) rfl ?_
 refine ng ?_
 refine sr ?_
 refine st (mvT rfl) rfl ?_
 refine st (mvT rfl) rfl ?_
 refine st (OpT.c1 (ms := [.flat, .flat]) (c_laws_szStringS _ _ (by omega)) (H rfl) (Af (T1 rfl) rfl rfl <| Af (T1 rfl) rfl rfl <| An) rfl rfl) rfl ?_
 refine st (asT rfl) rfl ?_
 refine ng ?_
 refine AW.seq ?_
 refine sr ?_
 refine st (mvT rfl) rfl ?_
 refine st (OpT.lss (H rfl) (T1 rfl) (I rfl)) rfl ?_
 refine ng ?_
 refine cd rfl (fun hc1 => ?_) fun hc1 => ?_
 ·
  replace hc1 := oT hc1
  refine sr ?_
  refine st (asB rfl) rfl ?_
  refine ng ?_
  refine AW.ret ?_
  refine rT ?_
  exact rt1 rfl (.inl rfl) rfl
 ·
  replace hc1 := oF hc1
  have k0 := okSz_list szB_in names 1048576 (by omega)
  have k1 := k0.2.2 (by omega)
  refine AW.skip ?_
  refine AX.go ?_
  refine sr ?_
  refine st (mvT rfl) rfl ?_
  refine st (OpT.c1 (ms := [.flat]) (c_laws_toStringS names (by omega)) (H rfl) (Af (T1 rfl) rfl rfl <| An) rfl rfl) rfl ?_
  refine s2 (OpT.c2 (ms := [.flat]) (c_spec_FileOrder _) (H rfl) (Af (T1 rfl) rfl rfl <| An) rfl rfl rfl) rfl ?_
  refine st (OpT.alias (H rfl) (by decide) (by decide)) rfl ?_
  refine st (OpT.extractV (m := 10022) (H rfl) rfl rfl rfl rfl rfl rfl rfl) rfl ?_
  refine st (OpT.extractV (m := 20022) (H rfl) rfl rfl rfl rfl rfl rfl rfl) rfl ?_
  refine st (asT rfl) rfl ?_
  refine st (asT rfl) rfl ?_
  refine AWl.to (kc4 5 4 2 0 rfl <| Kn) ?_
  refine ng ?_
  refine sr ?_
  refine st (mvT rfl) rfl ?_
  refine st (OpT.c1 (ms := [.flat]) (c_laws_toStringS_o names (by omega)) (H rfl) (Af (T1 rfl) rfl rfl <| An) rfl rfl) rfl ?_
  refine sg (OpT.take (.inl rfl) rfl (ok' rfl) (Root.self (by decide)) rfl rfl (by decide)) (ko 6 rfl <| kc4 25 5 4 2 rfl <| kc 0 rfl <| Kn) rfl ?_
  refine ng ?_
  refine sr ?_
  refine st (OpT.alias (H rfl) (by decide) (by decide)) rfl ?_
  refine s2 (cb2 (ms := [.bor 6]) (c_impl_FileOrder_o _) (H rfl) (Ab (Root.ali rfl (by decide) (by decide)) rfl <| An) rfl (indO fun _ _ _ _ h => h) (indC fun _ _ _ _ h => h)) rfl ?_
  refine st (OpT.alias (H rfl) (by decide) (by decide)) rfl ?_
  refine sg (OpT.extractVO (m := 10029) (H rfl) rfl rfl rfl rfl rfl rfl) (ko 30 rfl <| Kc 27 (.ali _) rfl <| kc 20029 rfl <| Kc 28 (.ali _) rfl <| ko 6 rfl <| kc4 25 5 4 2 rfl <| kc 0 rfl <| Kn) rfl ?_
  refine st (OpT.extractV (m := 20029) (H rfl) rfl rfl rfl rfl rfl rfl rfl) rfl ?_
  refine sg (OpT.take (.inl rfl) rfl (ok' rfl) (Root.self (by decide)) rfl rfl (by decide)) (ko 7 rfl <| kc 31 rfl <| Kc 27 (.ali _) rfl <| kc 20029 rfl <| Kc 28 (.ali _) rfl <| ko 6 rfl <| kc4 25 5 4 2 rfl <| kc 0 rfl <| Kn) rfl ?_
  refine st (asT rfl) rfl ?_
  refine ng ?_
  refine AW.seq ?_
  refine sr ?_
  refine st (OpT.alias (H rfl) (by decide) (by decide)) rfl ?_
  refine st (mvT rfl) rfl ?_
  refine st (cb1 (ms := [.bor 7, .flat]) (c_laws_eqInt64S _ _) (H rfl) (Ab (Root.ali rfl (by decide) (by decide)) rfl <| Af (T1 rfl) rfl rfl <| An) rfl (indC fun _ _ _ _ h => h)) rfl ?_
  refine st (OpT.not (H rfl) (T1 rfl)) rfl ?_
  refine st (mvT rfl) rfl ?_
  apply AWl.or (d := 40) (t := 36) rfl
  ·
   intro hb1 Q1 k1
   refine rs hb1 (mvT rfl) rfl ?_
   refine rs hb1 (mvT rfl) rfl ?_
   refine rs hb1 (OpT.neq (H rfl) (T1 rfl) (T1 rfl)) rfl ?_
   refine st (OpT.pickF (A := .cel _ _) (H rfl) (T1 rfl) hb1 (T1 rfl) rfl) rfl ?_
   exact AWl.to (junk 3 rfl) k1
  ·
   intro hb1 Q1 k1
   refine ps hb1 rfl ?_
   refine ps hb1 rfl ?_
   refine ps hb1 rfl ?_
   refine st (OpT.pickT (A := .cel _ _) (H rfl) (T1 rfl) hb1 Opd.bool rfl) rfl ?_
   exact k1
  refine ng ?_
  refine cd rfl (fun hc2 => ?_) fun hc2 => ?_
  ·
   replace hc2 := oT hc2
   exact (show False from (by first | omega | (simp [eqv_self] at hc2 <;> omega))).elim
  ·
   replace hc2 := oF hc2
   refine AW.skip ?_
   refine AX.pr (kc 8 rfl <| ko 7 rfl <| ko 6 rfl <| kc4 5 4 2 0 rfl <| Kn) ?_
   refine AX.go ?_
   refine AW.seq ?_
   refine sr ?_
   refine st (OpT.alias (H rfl) (by decide) (by decide)) rfl ?_
   refine st (mvT rfl) rfl ?_
   refine st (OpT.c1 (ms := [.flat]) (c_laws_toStringS names (by omega)) (H rfl) (Af (T1 rfl) rfl rfl <| An) rfl rfl) rfl ?_
   refine st (cb1 (ms := [.bor 6, .flat]) (c_laws_eqStringS _ _) (H rfl) (Ab (Root.ali rfl (by decide) (by decide)) rfl <| Af (T1 rfl) rfl rfl <| An) rfl (indC fun _ _ _ _ h => h)) rfl ?_
   refine st (OpT.not (H rfl) (T1 rfl)) rfl ?_
   refine ng ?_
   refine cd rfl (fun hc3 => ?_) fun hc3 => ?_
   ·
    replace hc3 := oT hc3
    exact (show False from (by first | omega | (simp [eqv_self] at hc3 <;> omega))).elim
   ·
    replace hc3 := oF hc3
    refine AW.skip ?_
    refine AX.go ?_
    refine sr ?_
    refine st (asI rfl) rfl ?_
    refine ng ?_
    refine sr ?_
    refine st (OpT.alias (H rfl) (by decide) (by decide)) rfl ?_
    refine st (mvT rfl) rfl ?_
    refine sg (OpT.cr (ms := [.root 6, .flat]) (c_laws_markStringS _ _ (by omega)) (H rfl) (Ar (Root.ali rfl (by decide) (by decide)) rfl rfl rfl <| Af (T1 rfl) rfl rfl <| An) rfl (.inl rfl) rfl) (kc2 48 47 rfl <| Kc 46 (.ali _) rfl <| kc4 9 45 44 43 rfl <| kc 42 rfl <| Kc 41 (.ali _) rfl <| kc 8 rfl <| ko 7 rfl <| ko 6 rfl <| kc4 5 4 2 0 rfl <| Kn) rfl ?_
    refine st (asT rfl) rfl ?_
    refine ng ?_
    refine AW.seq ?_
    refine sr ?_
    refine st (mvT rfl) rfl ?_
    refine st (OpT.lss (H rfl) (T1 rfl) (I rfl)) rfl ?_
    refine st (mvT rfl) rfl ?_
    apply AWl.or (d := 56) (t := 51) rfl
    ·
     intro hb2 Q1 k1
     refine rs hb2 (OpT.alias (H rfl) (by decide) (by decide)) rfl ?_
     refine rs hb2 (mvT rfl) rfl ?_
     refine rs hb2 (cb1 (ms := [.bor 7, .flat]) (c_laws_eqInt64S _ _) (H rfl) (Ab (Root.ali rfl (by decide) (by decide)) rfl <| Af (T1 rfl) rfl rfl <| An) rfl (indC fun _ _ _ _ h => h)) rfl ?_
     refine rs hb2 (OpT.not (H rfl) (T1 rfl)) rfl ?_
     refine st (OpT.pickF (A := .cel _ _) (H rfl) (T1 rfl) hb2 (T1 rfl) rfl) rfl ?_
     exact AWl.to (junk 4 rfl) k1
    ·
     intro hb2 Q1 k1
     refine ps hb2 rfl ?_
     refine ps hb2 rfl ?_
     refine ps hb2 rfl ?_
     refine ps hb2 rfl ?_
     refine st (OpT.pickT (A := .cel _ _) (H rfl) (T1 rfl) hb2 Opd.bool rfl) rfl ?_
     exact k1
    refine st (mvT rfl) rfl ?_
    apply AWl.or (d := 61) (t := 57) rfl
    ·
     intro hb3 Q1 k1
     refine rs hb3 (mvT rfl) rfl ?_
     refine rs hb3 (mvT rfl) rfl ?_
     refine rs hb3 (OpT.neq (H rfl) (T1 rfl) (T1 rfl)) rfl ?_
     refine st (OpT.pickF (A := .cel _ _) (H rfl) (T1 rfl) hb3 (T1 rfl) rfl) rfl ?_
     exact AWl.to (junk 3 rfl) k1
    ·
     intro hb3 Q1 k1
     refine ps hb3 rfl ?_
     refine ps hb3 rfl ?_
     refine ps hb3 rfl ?_
     refine st (OpT.pickT (A := .cel _ _) (H rfl) (T1 rfl) hb3 Opd.bool rfl) rfl ?_
     exact k1
    refine AWl.to (kc 61 rfl <| ko 7 rfl <| kc4 5 4 2 0 rfl <| Kn) ?_
    refine ng ?_
    refine cd rfl (fun hc4 => ?_) fun hc4 => ?_
    ·
     replace hc4 := oT hc4
     exact (show False from (by first | omega | (simp [eqv_self] at hc4 <;> omega))).elim
    ·
     replace hc4 := oF hc4
     refine AW.skip ?_
     refine AX.go ?_
     refine sr ?_
     refine st (asI rfl) rfl ?_
     refine ng ?_
     refine sr ?_
     refine st (OpT.alias (H rfl) (by decide) (by decide)) rfl ?_
     refine st (mvT rfl) rfl ?_
     refine sg (OpT.cr (ms := [.root 7, .flat]) (c_laws_markInt64S _ _ (by omega)) (H rfl) (Ar (Root.ali rfl (by decide) (by decide)) rfl rfl rfl <| Af (T1 rfl) rfl rfl <| An) rfl (.inl rfl) rfl) (kc2 64 63 rfl <| Kc 62 (.ali _) rfl <| kc2 10 61 rfl <| ko 7 rfl <| kc4 5 4 2 0 rfl <| Kn) rfl ?_
     refine st (asT rfl) rfl ?_
     refine ng ?_
     refine sr ?_
     refine st (asI rfl) rfl ?_
     refine ng ?_
     refine sr ?_
     refine st (OpT.alias (H rfl) (by decide) (by decide)) rfl ?_
     refine st (mvT rfl) rfl ?_
     refine st (cb1 (ms := [.bor 7, .flat]) (c_laws_heldInt64S (filR names).1.length _ (by omega)) (H rfl) (Ab (Root.ali rfl (by decide) (by decide)) rfl <| Af (T1 rfl) rfl rfl <| An) rfl (indC fun _ _ _ _ h => h)) rfl ?_
     refine st (asT rfl) rfl ?_
     refine ng ?_
     refine AW.seq ?_
     refine sr ?_
     refine st (mvT rfl) rfl ?_
     refine st (OpT.lss (H rfl) (T1 rfl) (I rfl)) rfl ?_
     refine ng ?_
     refine cd rfl (fun hc5 => ?_) fun hc5 => ?_
     ·
      replace hc5 := oT hc5
      exact (show False from (by first | omega | (simp [eqv_self] at hc5 <;> omega))).elim
     ·
      replace hc5 := oF hc5
      refine AW.skip ?_
      refine AX.pr (kc2 11 10 rfl <| ko 7 rfl <| kc4 5 4 2 0 rfl <| Kn) ?_
      refine AX.go ?_
      refine AW.seq ?_
      refine sr ?_
      refine st (mvT rfl) rfl ?_
      refine st (mvT rfl) rfl ?_
      refine st (OpT.neq (H rfl) (T1 rfl) (T1 rfl)) rfl ?_
      refine ng ?_
      refine cd rfl (fun hc6 => ?_) fun hc6 => ?_
      ·
       replace hc6 := oT hc6
       exact (show False from (by first | omega | (simp [eqv_self] at hc6 <;> omega))).elim
      ·
       replace hc6 := oF hc6
       refine AW.skip ?_
       refine AX.go ?_
       refine sr ?_
       refine st (mvT rfl) rfl ?_
       refine st (OpT.c1 (ms := [.flat]) (c_laws_toStringS names (by omega)) (H rfl) (Af (T1 rfl) rfl rfl <| An) rfl rfl) rfl ?_
       refine s2 (OpT.c2 (ms := [.flat]) (c_impl_FileOrder_o _) (H rfl) (Af (T1 rfl) rfl rfl <| An) rfl rfl rfl) rfl ?_
       refine st (OpT.alias (H rfl) (by decide) (by decide)) rfl ?_
       refine sg (OpT.extractVO (m := 10076) (H rfl) rfl rfl rfl rfl rfl rfl) (ko 77 rfl <| Kc 73 (.ali _) rfl <| kc4 20076 75 74 72 rfl <| kc4 71 70 11 10 rfl <| ko 7 rfl <| kc4 5 4 2 0 rfl <| Kn) rfl ?_
       refine st (OpT.extractV (m := 20076) (H rfl) rfl rfl rfl rfl rfl rfl rfl) rfl ?_
       refine sg (OpT.take (.inl rfl) rfl (ok' rfl) (Root.self (by decide)) rfl rfl (by decide)) (ko 12 rfl <| kc 78 rfl <| Kc 73 (.ali _) rfl <| kc4 20076 75 74 72 rfl <| kc4 71 70 11 10 rfl <| ko 7 rfl <| kc4 5 4 2 0 rfl <| Kn) rfl ?_
       refine st (asT rfl) rfl ?_
       refine ng ?_
       refine AW.seq ?_
       refine sr ?_
       refine st (OpT.alias (H rfl) (by decide) (by decide)) rfl ?_
       refine st (mvT rfl) rfl ?_
       refine st (cb1 (ms := [.bor 12, .flat]) (c_laws_eqInt64S _ _) (H rfl) (Ab (Root.ali rfl (by decide) (by decide)) rfl <| Af (T1 rfl) rfl rfl <| An) rfl (indC fun _ _ _ _ h => h)) rfl ?_
       refine st (OpT.not (H rfl) (T1 rfl)) rfl ?_
       refine st (mvT rfl) rfl ?_
       apply AWl.or (d := 87) (t := 83) rfl
       ·
        intro hb4 Q1 k1
        refine rs hb4 (mvT rfl) rfl ?_
        refine rs hb4 (mvT rfl) rfl ?_
        refine rs hb4 (OpT.neq (H rfl) (T1 rfl) (T1 rfl)) rfl ?_
        refine st (OpT.pickF (A := .cel _ _) (H rfl) (T1 rfl) hb4 (T1 rfl) rfl) rfl ?_
        exact AWl.to (junk 3 rfl) k1
       ·
        intro hb4 Q1 k1
        refine ps hb4 rfl ?_
        refine ps hb4 rfl ?_
        refine ps hb4 rfl ?_
        refine st (OpT.pickT (A := .cel _ _) (H rfl) (T1 rfl) hb4 Opd.bool rfl) rfl ?_
        exact k1
       refine AWl.to (kc3 87 11 10 rfl <| ko 7 rfl <| kc 2 rfl <| Kn) ?_
       refine ng ?_
       refine cd rfl (fun hc7 => ?_) fun hc7 => ?_
       ·
        replace hc7 := oT hc7
        exact (show False from (by first | omega | (simp [eqv_self] at hc7 <;> omega))).elim
       ·
        replace hc7 := oF hc7
        refine AW.skip ?_
        refine AX.go ?_
        refine sr ?_
        refine st (asI rfl) rfl ?_
        refine ng ?_
        refine sr ?_
        refine st (OpT.alias (H rfl) (by decide) (by decide)) rfl ?_
        refine st (mvT rfl) rfl ?_
        refine st (cb1 (ms := [.bor 7, .flat]) (c_laws_heldInt64S (filR names).1.length _ (by omega)) (H rfl) (Ab (Root.ali rfl (by decide) (by decide)) rfl <| Af (T1 rfl) rfl rfl <| An) rfl (indC fun _ _ _ _ h => h)) rfl ?_
        refine st (asT rfl) rfl ?_
        refine ng ?_
        refine AW.seq ?_
        refine sr ?_
        refine st (mvT rfl) rfl ?_
        refine st (OpT.lss (H rfl) (T1 rfl) (I rfl)) rfl ?_
        refine ng ?_
        refine cd rfl (fun hc8 => ?_) fun hc8 => ?_
        ·
         replace hc8 := oT hc8
         exact (show False from (by first | omega | (simp [eqv_self] at hc8 <;> omega))).elim
        ·
         replace hc8 := oF hc8
         refine AW.skip ?_
         refine AX.go ?_
         refine AW.seq ?_
         refine sr ?_
         refine st (mvT rfl) rfl ?_
         refine st (mvT rfl) rfl ?_
         refine st (OpT.neq (H rfl) (T1 rfl) (T1 rfl)) rfl ?_
         refine AWl.to (kc2 95 2 rfl <| Kn) ?_
         refine ng ?_
         refine cd rfl (fun hc9 => ?_) fun hc9 => ?_
         ·
          replace hc9 := oT hc9
          exact (show False from (by first | omega | (simp [eqv_self] at hc9 <;> omega))).elim
         ·
          replace hc9 := oF hc9
          refine AW.skip ?_
          refine AX.go ?_
          refine sr ?_
          refine st (asB rfl) rfl ?_
          refine ng ?_
          refine AW.ret ?_
          exact rt1 rfl (.inl rfl) rfl

end Go.Proofs.YtbckpmjiimiceaaDoor.VL
