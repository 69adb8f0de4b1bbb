/- Proved here: what some functions of the program take and give: walks with the words of VA..VQ. Printed by program. -/
import Derived.Test.YtfnkphllkbkfaaaDoorWT
import Derived.Test.YtfnkphllkbkfaaaDoorPQ
import Derived.Test.YtfnkphllkbkfaaaDoorPR
import Derived.Test.YtfnkphllkbkfaaaDoorWX
import Derived.Test.YtfnkphllkbkfaaaDoorWD
import Derived.Test.YtfnkphllkbkfaaaDoorWM
import Derived.Test.YtfnkphllkbkfaaaDoorWL
set_option linter.unusedVariables false
set_option linter.unusedSimpArgs false
set_option maxRecDepth 4000
namespace Go.Proofs.YtfnkphllkbkfaaaDoor.VL
open Go
/-- spec.ApplyEdit -/
theorem c_spec_ApplyEdit_o (x : List DCard) (e : DEdit) : AC Tryd.prog 35 [.cel (Kd.slice kCard) x, .agg kEdit e] [.own 101 kCard (oneS x e).1, .cel (Kd.int .i64) (oneS x e).2] [] := by
 refine acI (N := 18) Tryd.func35 (Nat.le_of_ble_eq_true rfl) rfl fun w0 hd s0 ar => ?_
 refine AW.to (kc 0 rfl <| ka 1 rfl <| Kn) ?_
 refine sr ?_
 refine st (OpT.frz (OpT.boxA (E := 57) (H rfl) (T1 rfl))) rfl ?_
 refine st (nilO (E := 101) kCard rfl (.inl rfl)) rfl ?_
 refine st (asI rfl) rfl ?_
 refine ng ?_
 refine AW.seq ?_
 refine sr ?_
 refine st (mvT rfl) rfl ?_
 refine st (OpT.c1 (ms := [.flat]) (c_spec_l02Ok _) (H rfl) (Af (T1 rfl) rfl rfl <| An) rfl rfl) rfl ?_
 refine st (OpT.not (H rfl) (T1 rfl)) rfl ?_
 refine st (mvT rfl) rfl ?_
 apply AWl.or (d := 12) (t := 9) rfl
 ·
  intro hb1 Q1 k1
  have hb1' := lF hb1
  refine rs hb1 (OpT.c1 (ms := [.flat]) (c_spec_l07Edit _) (H rfl) (Af (T1 rfl) rfl rfl <| An) rfl rfl) rfl ?_
  refine rs hb1 (OpT.not (H rfl) (T1 rfl)) rfl ?_
  refine st (OpT.pickF (A := .cel _ _) (H rfl) (T1 rfl) hb1 (T1 rfl) rfl) rfl ?_
  exact AWl.to (junk 2 rfl) k1
 ·
  intro hb1 Q1 k1
  refine ps hb1 rfl ?_
  refine ps hb1 rfl ?_
  refine st (OpT.pickT (A := .cel _ _) (H rfl) (T1 rfl) hb1 Opd.bool rfl) rfl ?_
  exact k1
 refine ng ?_
 refine cd rfl (fun hc1 => ?_) fun hc1 => ?_
 ·
  obtain ⟨hc1, hc1'⟩ := pT hc1
  refine sr ?_
  refine st (OpT.buildSlice0 (m := 0) (z := .bool false) kCard (H rfl) el36 sz101 (by decide)) rfl ?_
  refine sg (OpT.take (.inl rfl) rfl (ok' rfl) (Root.self (by decide)) rfl rfl (by decide)) (ko 4 rfl <| kc4 12 9 8 7 rfl <| kc4 6 5 3 0 rfl <| ka 1 rfl <| Kn) rfl ?_
  refine st (asI rfl) rfl ?_
  refine ng ?_
  refine AW.ret ?_
  refine rT ?_
  exact AX.rt (rs := [.tmp 4, .tmp 5]) (ts := [some 4, some 5]) (.inl rfl) rfl (ROs.cons (RO.tmp (At.self (by decide)) (Ko rfl (by first | (rw [one_bad hc1]; done) | (rw [one_ok hc1]; done))) rfl) <| ROs.cons (RO.tmp (At.self (by decide)) (Kv rfl (by first | (rw [one_bad hc1]; done) | (rw [one_ok hc1]; done))) rfl) <| ROs.nil) (by decide) OutsOK.nil
 ·
  obtain ⟨hc1, hc1'⟩ := pF hc1
  have hde := deck_edit hc1
  refine AW.skip ?_
  refine AX.go ?_
  refine sr ?_
  refine st (mvT rfl) rfl ?_
  refine s2 (OpT.c2 (ms := [.flat, .flat]) (c_spec_l07Apply_o _ _ (by omega) hde.2) (H rfl) (Af (T1 rfl) rfl rfl <| Af (T1 rfl) rfl rfl <| An) rfl rfl rfl) rfl ?_
  refine sg (OpT.extractO (m := 10015) (H rfl) (by decide) rfl rfl rfl) (ko 16 rfl <| kc4 20015 14 12 9 rfl <| kc4 8 7 6 5 rfl <| ko 4 rfl <| kc2 3 0 rfl <| ka 1 rfl <| Kn) rfl ?_
  refine st (OpT.extract (m := 20015) (H rfl) (by decide) rfl rfl rfl rfl) rfl ?_
  refine sg (OpT.take (.inl rfl) rfl (ok' rfl) (Root.self (by decide)) rfl rfl (by decide)) (ko 4 rfl <| kc4 17 20015 14 12 rfl <| kc4 9 8 7 6 rfl <| kc3 5 3 0 rfl <| ka 1 rfl <| Kn) rfl ?_
  refine st (asT rfl) rfl ?_
  refine AWl.to (kc 5 rfl <| ko 4 rfl <| Kn) ?_
  refine ng ?_
  refine AW.ret ?_
  exact AX.rt (rs := [.tmp 4, .tmp 5]) (ts := [some 4, some 5]) (.inl rfl) rfl (ROs.cons (RO.tmp (At.self (by decide)) (Ko rfl (by first | (rw [one_bad hc1]; done) | (rw [one_ok hc1]; done))) rfl) <| ROs.cons (RO.tmp (At.self (by decide)) (Kv rfl (by first | (rw [one_bad hc1]; done) | (rw [one_ok hc1]; done))) rfl) <| ROs.nil) (by decide) OutsOK.nil
theorem c_spec_ApplyEdit (x : List DCard) (e : DEdit) : AC Tryd.prog 35 [.cel (Kd.slice kCard) x, .agg kEdit e] [.cel (Kd.slice kCard) (oneS x e).1, .cel (Kd.int .i64) (oneS x e).2] [] := (c_spec_ApplyEdit_o x e).frz rfl

/-- impl.ApplyEdit -/
theorem c_impl_ApplyEdit_o (x : List DCard) (e : DEdit) : AC Tryd.prog 37 [.cel (Kd.slice kCard) x, .agg kEdit e] [.own 101 kCard (oneS x e).1, .cel (Kd.int .i64) (oneS x e).2] [] := by
 refine acI (N := 19) Tryd.func37 (Nat.le_of_ble_eq_true rfl) rfl fun w0 hd s0 ar => ?_
 refine AW.to (kc 0 rfl <| ka 1 rfl <| Kn) ?_
 refine sr ?_
 refine st (OpT.frz (OpT.boxA (E := 57) (H rfl) (T1 rfl))) rfl ?_
 refine st (nilO (E := 101) kCard rfl (.inl rfl)) rfl ?_
 refine st (asI rfl) rfl ?_
 refine ng ?_
 refine AW.seq ?_
 refine sr ?_
 refine st (mvT rfl) rfl ?_
 refine st (OpT.c1 (ms := [.flat]) (c_impl_isDeck _) (H rfl) (Af (T1 rfl) rfl rfl <| An) rfl rfl) rfl ?_
 refine st (OpT.not (H rfl) (T1 rfl)) rfl ?_
 refine st (mvT rfl) rfl ?_
 apply AWl.or (d := 13) (t := 9) rfl
 ·
  intro hb1 Q1 k1
  have hb1' := lF hb1
  refine rs hb1 (OpT.loadA (H rfl) (T1 rfl) ag57 sz57) rfl ?_
  refine rs hb1 (OpT.c1 (ms := [.flat]) (c_impl_isEdit _) (H rfl) (Af (T1 rfl) rfl rfl <| An) rfl rfl) rfl ?_
  refine rs hb1 (OpT.not (H rfl) (T1 rfl)) rfl ?_
  refine st (OpT.pickF (A := .cel _ _) (H rfl) (T1 rfl) hb1 (T1 rfl) rfl) rfl ?_
  exact AWl.to (junk 3 rfl) k1
 ·
  intro hb1 Q1 k1
  refine ps hb1 rfl ?_
  refine ps hb1 rfl ?_
  refine ps hb1 rfl ?_
  refine st (OpT.pickT (A := .cel _ _) (H rfl) (T1 rfl) hb1 Opd.bool rfl) rfl ?_
  exact k1
 refine ng ?_
 refine cd rfl (fun hc1 => ?_) fun hc1 => ?_
 ·
  obtain ⟨hc1, hc1'⟩ := pT hc1
  refine sr ?_
  refine st (nilO (E := 101) kCard rfl (.inl rfl)) rfl ?_
  refine st (asI rfl) rfl ?_
  refine ng ?_
  refine AW.ret ?_
  refine rT ?_
  exact AX.rt (rs := [.tmp 4, .tmp 5]) (ts := [some 4, some 5]) (.inl rfl) rfl (ROs.cons (RO.tmp (At.self (by decide)) (Ko rfl (by first | (rw [one_bad hc1]; done) | (rw [one_ok hc1]; done))) rfl) <| ROs.cons (RO.tmp (At.self (by decide)) (Kv rfl (by first | (rw [one_bad hc1]; done) | (rw [one_ok hc1]; done))) rfl) <| ROs.nil) (by decide) OutsOK.nil
 ·
  obtain ⟨hc1, hc1'⟩ := pF hc1
  have hde := deck_edit hc1
  refine AW.skip ?_
  refine AX.go ?_
  refine sr ?_
  refine st (mvT rfl) rfl ?_
  refine st (OpT.loadA (H rfl) (T1 rfl) ag57 sz57) rfl ?_
  refine s2 (OpT.c2 (ms := [.flat, .flat]) (c_impl_applyEdit_o _ _ (by omega) hde.2) (H rfl) (Af (T1 rfl) rfl rfl <| Af (T1 rfl) rfl rfl <| An) rfl rfl rfl) rfl ?_
  refine sg (OpT.extractO (m := 10016) (H rfl) (by decide) rfl rfl rfl) (ko 17 rfl <| kc 20016 rfl <| ka 15 rfl <| kc4 14 13 9 8 rfl <| kc3 7 6 5 rfl <| ko 4 rfl <| kc2 3 0 rfl <| ka 1 rfl <| Kn) rfl ?_
  refine st (OpT.extract (m := 20016) (H rfl) (by decide) rfl rfl rfl rfl) rfl ?_
  refine sg (OpT.take (.inl rfl) rfl (ok' rfl) (Root.self (by decide)) rfl rfl (by decide)) (ko 4 rfl <| kc2 18 20016 rfl <| ka 15 rfl <| kc4 14 13 9 8 rfl <| kc4 7 6 5 3 rfl <| kc 0 rfl <| ka 1 rfl <| Kn) rfl ?_
  refine st (asT rfl) rfl ?_
  refine AWl.to (kc 5 rfl <| ko 4 rfl <| Kn) ?_
  refine ng ?_
  refine AW.ret ?_
  exact AX.rt (rs := [.tmp 4, .tmp 5]) (ts := [some 4, some 5]) (.inl rfl) rfl (ROs.cons (RO.tmp (At.self (by decide)) (Ko rfl (by first | (rw [one_bad hc1]; done) | (rw [one_ok hc1]; done))) rfl) <| ROs.cons (RO.tmp (At.self (by decide)) (Kv rfl (by first | (rw [one_bad hc1]; done) | (rw [one_ok hc1]; done))) rfl) <| ROs.nil) (by decide) OutsOK.nil
theorem c_impl_ApplyEdit (x : List DCard) (e : DEdit) : AC Tryd.prog 37 [.cel (Kd.slice kCard) x, .agg kEdit e] [.cel (Kd.slice kCard) (oneS x e).1, .cel (Kd.int .i64) (oneS x e).2] [] := (c_impl_ApplyEdit_o x e).frz rfl

set_option maxHeartbeats 4000000 in
/-- laws.FnExactApplyEdit -/
theorem c_laws_FnExactApplyEdit (x : List DCard) (e : DEdit) : AC Tryd.prog 7 [.cel (Kd.slice kCard) x, .agg kEdit e] [.cel Kd.bool true] [] := by
 refine acI (N := 109) Tryd.func7 (Nat.le_of_ble_eq_true rfl) rfl fun w0 hd s0 ar => ?_
 refine AW.to (kc 0 rfl <| ka 1 rfl <| Kn) ?_
 have htl := one_len x e
 refine sr ?_
 refine st (OpT.frz (OpT.boxA (E := 52) (H rfl) (T1 rfl))) rfl ?_
 refine st (asB rfl) rfl ?_
 refine ng ?_
 refine sr ?_
 refine st (asI rfl) rfl ?_
 refine ng ?_
 refine sr ?_
 refine st (mvT rfl) rfl ?_
 refine st (mvT rfl) rfl ?_
 refine st (OpT.c1 (ms := [.flat, .flat]) (c_laws_szCardS _ _ (by omega)) (H rfl) (Af (T1 rfl) rfl rfl <| Af (T1 rfl) rfl rfl <| An) rfl rfl) rfl ?_
 refine st (asT rfl) rfl ?_
 refine ng ?_
 refine AW.seq ?_
 refine sr ?_
 refine st (mvT rfl) rfl ?_
 refine st (OpT.lss (H rfl) (T1 rfl) (I rfl)) rfl ?_
 refine ng ?_
 refine cd rfl (fun hc1 => ?_) fun hc1 => ?_
 ·
  replace hc1 := oT hc1
  refine sr ?_
  refine st (asB rfl) rfl ?_
  refine ng ?_
  refine AW.ret ?_
  refine rT ?_
  exact rt1 rfl (.inl rfl) rfl
 ·
  replace hc1 := oF hc1
  have k0 := okSz_list okSzC x 1048576 (by omega)
  have k1 := k0.2.2 (by omega)
  refine AW.skip ?_
  refine AX.go ?_
  refine sr ?_
  refine st (OpT.loadA (H rfl) (T1 rfl) ag52 sz52) rfl ?_
  refine st (mvT rfl) rfl ?_
  refine st (OpT.c1 (ms := [.flat, .flat]) (c_laws_szEdit _ _ (by omega)) (H rfl) (Af (T1 rfl) rfl rfl <| Af (T1 rfl) rfl rfl <| An) rfl rfl) rfl ?_
  refine st (asT rfl) rfl ?_
  refine AWl.to (kc4 5 4 3 0 rfl <| Kn) ?_
  refine ng ?_
  refine AW.seq ?_
  refine sr ?_
  refine st (mvT rfl) rfl ?_
  refine st (OpT.lss (H rfl) (T1 rfl) (I rfl)) rfl ?_
  refine ng ?_
  refine cd rfl (fun hc2 => ?_) fun hc2 => ?_
  ·
   replace hc2 := oT hc2
   refine sr ?_
   refine st (asB rfl) rfl ?_
   refine ng ?_
   refine AW.ret ?_
   refine rT ?_
   exact rt1 rfl (.inl rfl) rfl
  ·
   replace hc2 := oF hc2
   refine AW.skip ?_
   refine AX.pr (kc3 4 3 0 rfl <| Kn) ?_
   refine AX.go ?_
   refine AW.seq ?_
   refine dh fomo ?_
   refine d1 [0] (fun ve h => OpT.move (A := .cel _ _) (.inl rfl) rfl (ok' rfl) (D1 h rfl) rfl) rfl ?_
   refine d1 [27] (fun ve h => OpT.c1 (ms := [.flat]) (c_laws_toCardS x (by omega)) (H rfl) (Af (D1 h rfl) rfl rfl <| An) rfl rfl) rfl ?_
   refine d1 [3] (fun ve h => OpT.loadA (H rfl) (D1 h rfl) ag52 sz52) rfl ?_
   refine d1 [29] (fun ve h => OpT.c1 (ms := [.flat]) (c_laws_toEdit _) (H rfl) (Af (D1 h rfl) rfl rfl <| An) rfl rfl) rfl ?_
   refine d2 [28, 30] (fun ve h => OpT.c2 (ms := [.flat, .flat]) (c_spec_ApplyEdit _ _) (H rfl) (Af (D1 h rfl) rfl rfl <| Af (D1 h rfl) rfl rfl <| An) rfl rfl rfl) rfl ?_
   refine d1 [] (fun ve h => OpT.alias (H rfl) (by decide) (by decide)) rfl ?_
   refine d1 [26, 10031] (fun ve h => OpT.extractV (m := 10031) (H rfl) ((h _ (List.elem_iff.1 rfl)).trans rfl) rfl rfl rfl ((h _ (List.elem_iff.1 rfl)).trans rfl) rfl rfl) rfl ?_
   refine d1 [26, 20031] (fun ve h => OpT.extractV (m := 20031) (H rfl) ((h _ (List.elem_iff.1 rfl)).trans rfl) rfl rfl rfl ((h _ (List.elem_iff.1 rfl)).trans rfl) rfl rfl) rfl ?_
   refine d1 [32] (fun ve h => OpT.move (A := .cel _ _) (.inr rfl) rfl (ok' rfl) (D1 h rfl) rfl) rfl ?_
   refine d1 [33] (fun ve h => OpT.move (A := .cel _ _) (.inr rfl) rfl (ok' rfl) (D1 h rfl) rfl) rfl ?_
   refine dn ⟨by kernel_rfl, by kernel_rfl, ?_⟩
   refine AX.go ?_
   refine sr ?_
   refine st (mvT rfl) rfl ?_
   refine st (OpT.c1 (ms := [.flat]) (c_laws_toCardS_o x (by omega)) (H rfl) (Af (T1 rfl) rfl rfl <| An) rfl rfl) rfl ?_
   refine sg (OpT.take (.inl rfl) rfl (ok' rfl) (Root.self (by decide)) rfl rfl (by decide)) (ko 8 rfl <| kc4 34 7 6 33 rfl <| kc 32 rfl <| Kc 26 (.ali _) rfl <| kc2 10031 20031 rfl <| ka 30 rfl <| ka 29 rfl <| kc4 28 27 4 3 rfl <| kc 0 rfl <| Kn) rfl ?_
   refine ng ?_
   refine sr ?_
   refine st (OpT.alias (H rfl) (by decide) (by decide)) rfl ?_
   refine st (OpT.loadA (H rfl) (T1 rfl) ag52 sz52) rfl ?_
   refine st (OpT.c1 (ms := [.flat]) (c_laws_toEdit _) (H rfl) (Af (T1 rfl) rfl rfl <| An) rfl rfl) rfl ?_
   refine s2 (cb2 (ms := [.bor 8, .flat]) (c_impl_ApplyEdit_o _ _) (H rfl) (Ab (Root.ali rfl (by decide) (by decide)) rfl <| Af (T1 rfl) rfl rfl <| An) rfl (indO fun _ _ _ _ h => h) (indC fun _ _ _ _ h => h)) rfl ?_
   refine st (OpT.alias (H rfl) (by decide) (by decide)) rfl ?_
   refine sg (OpT.extractVO (m := 10040) (H rfl) rfl rfl rfl rfl rfl rfl) (ko 41 rfl <| Kc 36 (.ali _) rfl <| kc 20040 rfl <| ka 39 rfl <| ka 38 rfl <| Kc 37 (.ali _) rfl <| ko 8 rfl <| kc4 34 7 6 33 rfl <| kc 32 rfl <| Kc 26 (.ali _) rfl <| kc2 10031 20031 rfl <| ka 30 rfl <| ka 29 rfl <| kc4 28 27 4 3 rfl <| kc 0 rfl <| Kn) rfl ?_
   refine st (OpT.extractV (m := 20040) (H rfl) rfl rfl rfl rfl rfl rfl rfl) rfl ?_
   refine sg (OpT.take (.inl rfl) rfl (ok' rfl) (Root.self (by decide)) rfl rfl (by decide)) (ko 9 rfl <| kc 42 rfl <| Kc 36 (.ali _) rfl <| kc 20040 rfl <| ka 39 rfl <| ka 38 rfl <| Kc 37 (.ali _) rfl <| ko 8 rfl <| kc4 34 7 6 33 rfl <| kc 32 rfl <| Kc 26 (.ali _) rfl <| kc2 10031 20031 rfl <| ka 30 rfl <| ka 29 rfl <| kc4 28 27 4 3 rfl <| kc 0 rfl <| Kn) rfl ?_
   refine st (asT rfl) rfl ?_
   refine AWl.to (kc 10 rfl <| ko 9 rfl <| ko 8 rfl <| kc4 7 6 4 3 rfl <| kc 0 rfl <| Kn) ?_
   refine ng ?_
   refine AW.seq ?_
   refine sr ?_
   refine st (OpT.alias (H rfl) (by decide) (by decide)) rfl ?_
   refine st (mvT rfl) rfl ?_
   refine st (cb1 (ms := [.bor 9, .flat]) (c_laws_eqCardS _ _) (H rfl) (Ab (Root.ali rfl (by decide) (by decide)) rfl <| Af (T1 rfl) rfl rfl <| An) rfl (indC fun _ _ _ _ h => h)) rfl ?_
   refine st (OpT.not (H rfl) (T1 rfl)) rfl ?_
   refine st (mvT rfl) rfl ?_
   apply AWl.or (d := 51) (t := 47) rfl
   ·
    intro hb1 Q1 k1
    refine rs hb1 (mvT rfl) rfl ?_
    refine rs hb1 (mvT rfl) rfl ?_
    refine rs hb1 (OpT.neq (H rfl) (T1 rfl) (T1 rfl)) rfl ?_
    refine st (OpT.pickF (A := .cel _ _) (H rfl) (T1 rfl) hb1 (T1 rfl) rfl) rfl ?_
    exact AWl.to (junk 3 rfl) k1
   ·
    intro hb1 Q1 k1
    refine ps hb1 rfl ?_
    refine ps hb1 rfl ?_
    refine ps hb1 rfl ?_
    refine st (OpT.pickT (A := .cel _ _) (H rfl) (T1 rfl) hb1 Opd.bool rfl) rfl ?_
    exact k1
   refine ng ?_
   refine cd rfl (fun hc3 => ?_) fun hc3 => ?_
   ·
    replace hc3 := oT hc3
    exact (show False from (by first | omega | (simp [eqv_self] at hc3 <;> omega))).elim
   ·
    replace hc3 := oF hc3
    refine AW.skip ?_
    refine AX.go ?_
    refine AW.seq ?_
    refine sr ?_
    refine st (OpT.alias (H rfl) (by decide) (by decide)) rfl ?_
    refine st (mvT rfl) rfl ?_
    refine st (OpT.c1 (ms := [.flat]) (c_laws_toCardS x (by omega)) (H rfl) (Af (T1 rfl) rfl rfl <| An) rfl rfl) rfl ?_
    refine st (cb1 (ms := [.bor 8, .flat]) (c_laws_eqCardS _ _) (H rfl) (Ab (Root.ali rfl (by decide) (by decide)) rfl <| Af (T1 rfl) rfl rfl <| An) rfl (indC fun _ _ _ _ h => h)) rfl ?_
    refine st (OpT.not (H rfl) (T1 rfl)) rfl ?_
    refine ng ?_
    refine cd rfl (fun hc4 => ?_) fun hc4 => ?_
    ·
     replace hc4 := oT hc4
     exact (show False from (by first | omega | (simp [eqv_self] at hc4 <;> omega))).elim
    ·
     replace hc4 := oF hc4
     refine AW.skip ?_
     refine AX.pr (kc 10 rfl <| ko 9 rfl <| ko 8 rfl <| kc4 7 6 4 3 rfl <| kc 0 rfl <| Kn) ?_
     refine AX.go ?_
     refine sr ?_
     refine st (asI rfl) rfl ?_
     refine ng ?_
     refine sr ?_
     refine st (OpT.alias (H rfl) (by decide) (by decide)) rfl ?_
     refine st (mvT rfl) rfl ?_
     refine sg (OpT.cr (ms := [.root 8, .flat]) (c_laws_markCardS _ _ (by omega)) (H rfl) (Ar (Root.ali rfl (by decide) (by decide)) rfl rfl rfl <| Af (T1 rfl) rfl rfl <| An) rfl (.inl rfl) rfl) (kc2 59 58 rfl <| Kc 57 (.ali _) rfl <| kc2 11 10 rfl <| ko 9 rfl <| ko 8 rfl <| kc4 7 6 4 3 rfl <| kc 0 rfl <| Kn) rfl ?_
     refine st (asT rfl) rfl ?_
     refine ng ?_
     refine AW.seq ?_
     refine sr ?_
     refine st (mvT rfl) rfl ?_
     refine st (OpT.lss (H rfl) (T1 rfl) (I rfl)) rfl ?_
     refine st (mvT rfl) rfl ?_
     apply AWl.or (d := 67) (t := 62) rfl
     ·
      intro hb2 Q1 k1
      refine rs hb2 (OpT.alias (H rfl) (by decide) (by decide)) rfl ?_
      refine rs hb2 (mvT rfl) rfl ?_
      refine rs hb2 (cb1 (ms := [.bor 9, .flat]) (c_laws_eqCardS _ _) (H rfl) (Ab (Root.ali rfl (by decide) (by decide)) rfl <| Af (T1 rfl) rfl rfl <| An) rfl (indC fun _ _ _ _ h => h)) rfl ?_
      refine rs hb2 (OpT.not (H rfl) (T1 rfl)) rfl ?_
      refine st (OpT.pickF (A := .cel _ _) (H rfl) (T1 rfl) hb2 (T1 rfl) rfl) rfl ?_
      exact AWl.to (junk 4 rfl) k1
     ·
      intro hb2 Q1 k1
      refine ps hb2 rfl ?_
      refine ps hb2 rfl ?_
      refine ps hb2 rfl ?_
      refine ps hb2 rfl ?_
      refine st (OpT.pickT (A := .cel _ _) (H rfl) (T1 rfl) hb2 Opd.bool rfl) rfl ?_
      exact k1
     refine st (mvT rfl) rfl ?_
     apply AWl.or (d := 72) (t := 68) rfl
     ·
      intro hb3 Q1 k1
      refine rs hb3 (mvT rfl) rfl ?_
      refine rs hb3 (mvT rfl) rfl ?_
      refine rs hb3 (OpT.neq (H rfl) (T1 rfl) (T1 rfl)) rfl ?_
      refine st (OpT.pickF (A := .cel _ _) (H rfl) (T1 rfl) hb3 (T1 rfl) rfl) rfl ?_
      exact AWl.to (junk 3 rfl) k1
     ·
      intro hb3 Q1 k1
      refine ps hb3 rfl ?_
      refine ps hb3 rfl ?_
      refine ps hb3 rfl ?_
      refine st (OpT.pickT (A := .cel _ _) (H rfl) (T1 rfl) hb3 Opd.bool rfl) rfl ?_
      exact k1
     refine AWl.to (kc 72 rfl <| ko 9 rfl <| kc4 7 6 4 3 rfl <| kc 0 rfl <| Kn) ?_
     refine ng ?_
     refine cd rfl (fun hc5 => ?_) fun hc5 => ?_
     ·
      replace hc5 := oT hc5
      exact (show False from (by first | omega | (simp [eqv_self] at hc5 <;> omega))).elim
     ·
      replace hc5 := oF hc5
      refine AW.skip ?_
      refine AX.go ?_
      refine sr ?_
      refine st (asI rfl) rfl ?_
      refine ng ?_
      refine sr ?_
      refine st (OpT.alias (H rfl) (by decide) (by decide)) rfl ?_
      refine st (mvT rfl) rfl ?_
      refine sg (OpT.cr (ms := [.root 9, .flat]) (c_laws_markCardS _ _ (by omega)) (H rfl) (Ar (Root.ali rfl (by decide) (by decide)) rfl rfl rfl <| Af (T1 rfl) rfl rfl <| An) rfl (.inl rfl) rfl) (kc2 75 74 rfl <| Kc 73 (.ali _) rfl <| kc2 12 72 rfl <| ko 9 rfl <| kc4 7 6 4 3 rfl <| kc 0 rfl <| Kn) rfl ?_
      refine st (asT rfl) rfl ?_
      refine ng ?_
      refine sr ?_
      refine st (asI rfl) rfl ?_
      refine ng ?_
      refine sr ?_
      refine st (OpT.alias (H rfl) (by decide) (by decide)) rfl ?_
      refine st (mvT rfl) rfl ?_
      refine st (cb1 (ms := [.bor 9, .flat]) (c_laws_heldCardS (oneS x e).1.length _ (by omega)) (H rfl) (Ab (Root.ali rfl (by decide) (by decide)) rfl <| Af (T1 rfl) rfl rfl <| An) rfl (indC fun _ _ _ _ h => h)) rfl ?_
      refine st (asT rfl) rfl ?_
      refine ng ?_
      refine AW.seq ?_
      refine sr ?_
      refine st (mvT rfl) rfl ?_
      refine st (OpT.lss (H rfl) (T1 rfl) (I rfl)) rfl ?_
      refine ng ?_
      refine cd rfl (fun hc6 => ?_) fun hc6 => ?_
      ·
       replace hc6 := oT hc6
       exact (show False from (by first | omega | (simp [eqv_self] at hc6 <;> omega))).elim
      ·
       replace hc6 := oF hc6
       refine AW.skip ?_
       refine AX.pr (kc2 13 12 rfl <| ko 9 rfl <| kc4 7 6 4 3 rfl <| kc 0 rfl <| Kn) ?_
       refine AX.go ?_
       refine AW.seq ?_
       refine sr ?_
       refine st (mvT rfl) rfl ?_
       refine st (mvT rfl) rfl ?_
       refine st (OpT.neq (H rfl) (T1 rfl) (T1 rfl)) rfl ?_
       refine ng ?_
       refine cd rfl (fun hc7 => ?_) fun hc7 => ?_
       ·
        replace hc7 := oT hc7
        exact (show False from (by first | omega | (simp [eqv_self] at hc7 <;> omega))).elim
       ·
        replace hc7 := oF hc7
        refine AW.skip ?_
        refine AX.pr (kc2 13 12 rfl <| ko 9 rfl <| kc4 7 6 4 3 rfl <| kc 0 rfl <| Kn) ?_
        refine AX.go ?_
        refine AW.seq ?_
        refine dh fomo ?_
        refine d1 [0] (fun ve h => OpT.move (A := .cel _ _) (.inl rfl) rfl (ok' rfl) (D1 h rfl) rfl) rfl ?_
        refine d1 [85] (fun ve h => OpT.c1 (ms := [.flat]) (c_laws_toCardS x (by omega)) (H rfl) (Af (D1 h rfl) rfl rfl <| An) rfl rfl) rfl ?_
        refine d1 [3] (fun ve h => OpT.loadA (H rfl) (D1 h rfl) ag52 sz52) rfl ?_
        refine d1 [87] (fun ve h => OpT.c1 (ms := [.flat]) (c_laws_toEdit _) (H rfl) (Af (D1 h rfl) rfl rfl <| An) rfl rfl) rfl ?_
        refine d2 [86, 88] (fun ve h => OpT.c2 (ms := [.flat, .flat]) (c_impl_ApplyEdit _ _) (H rfl) (Af (D1 h rfl) rfl rfl <| Af (D1 h rfl) rfl rfl <| An) rfl rfl rfl) rfl ?_
        refine d1 [] (fun ve h => OpT.alias (H rfl) (by decide) (by decide)) rfl ?_
        refine d1 [84, 10089] (fun ve h => OpT.extractV (m := 10089) (H rfl) ((h _ (List.elem_iff.1 rfl)).trans rfl) rfl rfl rfl ((h _ (List.elem_iff.1 rfl)).trans rfl) rfl rfl) rfl ?_
        refine d1 [84, 20089] (fun ve h => OpT.extractV (m := 20089) (H rfl) ((h _ (List.elem_iff.1 rfl)).trans rfl) rfl rfl rfl ((h _ (List.elem_iff.1 rfl)).trans rfl) rfl rfl) rfl ?_
        refine d1 [90] (fun ve h => OpT.move (A := .cel _ _) (.inr rfl) rfl (ok' rfl) (D1 h rfl) rfl) rfl ?_
        refine d1 [91] (fun ve h => OpT.move (A := .cel _ _) (.inr rfl) rfl (ok' rfl) (D1 h rfl) rfl) rfl ?_
        refine dn ⟨by kernel_rfl, by kernel_rfl, ?_⟩
        refine AX.pr (kc4 15 14 13 12 rfl <| ko 9 rfl <| kc3 7 6 4 rfl <| Kn) ?_
        refine AX.go ?_
        refine AW.seq ?_
        refine sr ?_
        refine st (mvT rfl) rfl ?_
        refine st (mvT rfl) rfl ?_
        refine st (OpT.c1 (ms := [.flat, .flat]) (c_laws_eqCardS _ _) (H rfl) (Af (T1 rfl) rfl rfl <| Af (T1 rfl) rfl rfl <| An) rfl rfl) rfl ?_
        refine st (OpT.not (H rfl) (T1 rfl)) rfl ?_
        refine st (mvT rfl) rfl ?_
        apply AWl.or (d := 100) (t := 96) rfl
        ·
         intro hb4 Q1 k1
         refine rs hb4 (mvT rfl) rfl ?_
         refine rs hb4 (mvT rfl) rfl ?_
         refine rs hb4 (OpT.neq (H rfl) (T1 rfl) (T1 rfl)) rfl ?_
         refine st (OpT.pickF (A := .cel _ _) (H rfl) (T1 rfl) hb4 (T1 rfl) rfl) rfl ?_
         exact AWl.to (junk 3 rfl) k1
        ·
         intro hb4 Q1 k1
         refine ps hb4 rfl ?_
         refine ps hb4 rfl ?_
         refine ps hb4 rfl ?_
         refine st (OpT.pickT (A := .cel _ _) (H rfl) (T1 rfl) hb4 Opd.bool rfl) rfl ?_
         exact k1
        refine ng ?_
        refine cd rfl (fun hc8 => ?_) fun hc8 => ?_
        ·
         replace hc8 := oT hc8
         exact (show False from (by first | omega | (simp [eqv_self] at hc8 <;> omega))).elim
        ·
         replace hc8 := oF hc8
         refine AW.skip ?_
         refine AX.go ?_
         refine sr ?_
         refine st (asI rfl) rfl ?_
         refine AWl.to (kc2 13 12 rfl <| ko 9 rfl <| kc 4 rfl <| Kn) ?_
         refine ng ?_
         refine sr ?_
         refine st (OpT.alias (H rfl) (by decide) (by decide)) rfl ?_
         refine st (mvT rfl) rfl ?_
         refine st (cb1 (ms := [.bor 9, .flat]) (c_laws_heldCardS (oneS x e).1.length _ (by omega)) (H rfl) (Ab (Root.ali rfl (by decide) (by decide)) rfl <| Af (T1 rfl) rfl rfl <| An) rfl (indC fun _ _ _ _ h => h)) rfl ?_
         refine st (asT rfl) rfl ?_
         refine ng ?_
         refine AW.seq ?_
         refine sr ?_
         refine st (mvT rfl) rfl ?_
         refine st (OpT.lss (H rfl) (T1 rfl) (I rfl)) rfl ?_
         refine ng ?_
         refine cd rfl (fun hc9 => ?_) fun hc9 => ?_
         ·
          replace hc9 := oT hc9
          exact (show False from (by first | omega | (simp [eqv_self] at hc9 <;> omega))).elim
         ·
          replace hc9 := oF hc9
          refine AW.skip ?_
          refine AX.go ?_
          refine AW.seq ?_
          refine sr ?_
          refine st (mvT rfl) rfl ?_
          refine st (mvT rfl) rfl ?_
          refine st (OpT.neq (H rfl) (T1 rfl) (T1 rfl)) rfl ?_
          refine AWl.to (kc2 108 4 rfl <| Kn) ?_
          refine ng ?_
          refine cd rfl (fun hc10 => ?_) fun hc10 => ?_
          ·
           replace hc10 := oT hc10
           exact (show False from (by first | omega | (simp [eqv_self] at hc10 <;> omega))).elim
          ·
           replace hc10 := oF hc10
           refine AW.skip ?_
           refine AX.go ?_
           refine sr ?_
           refine st (asB rfl) rfl ?_
           refine ng ?_
           refine AW.ret ?_
           exact rt1 rfl (.inl rfl) rfl

end Go.Proofs.YtfnkphllkbkfaaaDoor.VL
