/- Proved here: what some functions of the program take and give: walks with the words of VA..VQ. Printed by program. -/
import Derived.Test.YtcaeabgfgofefaaDoorWT
import Derived.Test.YtcaeabgfgofefaaDoorPN
import Derived.Test.YtcaeabgfgofefaaDoorPI
import Derived.Test.YtcaeabgfgofefaaDoorWL
import Derived.Test.YtcaeabgfgofefaaDoorWB
import Derived.Test.YtcaeabgfgofefaaDoorWD
import Derived.Test.YtcaeabgfgofefaaDoorWM
set_option linter.unusedVariables false
set_option linter.unusedSimpArgs false
set_option maxRecDepth 4000
namespace Go.Proofs.YtcaeabgfgofefaaDoor.VL
open Go
/-- spec.l00Min -/
theorem c_spec_l00Min (x y : Int) : AC Tryd.prog 110 [.cel (Kd.int .i64) x, .cel (Kd.int .i64) y] [.cel (Kd.int .i64) (min x y)] [] := by
 refine acI (N := 10) Tryd.func110 (Nat.le_of_ble_eq_true rfl) rfl fun w0 hd s0 ar => ?_
 refine AW.to (kc2 0 1 rfl <| Kn) ?_
 refine sr ?_
 refine st (asI rfl) rfl ?_
 refine ng ?_
 refine AW.seq ?_
 refine sr ?_
 refine st (mvT rfl) rfl ?_
 refine st (mvT rfl) rfl ?_
 refine st (OpT.lss (H rfl) (T1 rfl) (T1 rfl)) rfl ?_
 refine ng ?_
 refine cd rfl (fun hc1 => ?_) fun hc1 => ?_
 ·
  obtain ⟨hc1, hc1'⟩ := pT hc1
  refine sr ?_
  refine st (mvT rfl) rfl ?_
  refine st (asT rfl) rfl ?_
  refine ng ?_
  refine AW.ret ?_
  refine rT ?_
  exact rt1 rfl (.inl rfl) (by omega)
 ·
  obtain ⟨hc1, hc1'⟩ := pF hc1
  refine AW.skip ?_
  refine AX.go ?_
  refine sr ?_
  refine st (mvT rfl) rfl ?_
  refine st (asT rfl) rfl ?_
  refine ng ?_
  refine AW.ret ?_
  exact rt1 rfl (.inl rfl) (by omega)

set_option maxHeartbeats 4000000 in
/-- spec.NearestCards -/
theorem c_spec_NearestCards (x : List DCard) (m : DMask) : AC Tryd.prog 48 [.cel (Kd.slice kCard) x, .agg kMask m] [.cel (Kd.slice (Kd.int .i64)) (neaS x m).1, .cel (Kd.int .i64) (neaS x m).2.1, .cel (Kd.int .i64) (neaS x m).2.2] [] := by
 refine acI (N := 67) Tryd.func48 (Nat.le_of_ble_eq_true rfl) rfl fun w0 hd s0 ar => ?_
 refine AW.to (kc 0 rfl <| ka 1 rfl <| Kn) ?_
 refine AW.fact (fun a w hr => (ok_slice (R_ok (t := 0) rfl hr)).2) (fun hl0 => ?_)
 refine sr ?_
 refine st (OpT.frz (OpT.boxA (E := 29) (H rfl) (T1 rfl))) rfl ?_
 refine st (nilO (E := 2) (Kd.int .i64) rfl (.inl rfl)) rfl ?_
 refine st (asI rfl) rfl ?_
 refine st (asI rfl) rfl ?_
 refine ng ?_
 refine AW.seq ?_
 refine sr ?_
 refine st (mvT rfl) rfl ?_
 refine st (OpT.c1 (ms := [.flat]) (c_spec_l02Ok _) (H rfl) (Af (T1 rfl) rfl rfl <| An) rfl rfl) rfl ?_
 refine st (OpT.not (H rfl) (T1 rfl)) rfl ?_
 refine st (mvT rfl) rfl ?_
 apply AWl.or (d := 18) (t := 14) rfl
 ·
  intro hb1 Q1 k1
  have hb1' := lF hb1
  refine rs hb1 (OpT.loadA (H rfl) (T1 rfl) ag29 sz29) rfl ?_
  refine rs hb1 (OpT.c1 (ms := [.flat]) (c_spec_l01Mask _) (H rfl) (Af (T1 rfl) rfl rfl <| An) rfl rfl) rfl ?_
  refine rs hb1 (OpT.not (H rfl) (T1 rfl)) rfl ?_
  refine st (OpT.pickF (A := .cel _ _) (H rfl) (T1 rfl) hb1 (T1 rfl) rfl) rfl ?_
  exact AWl.to (junk 3 rfl) k1
 ·
  intro hb1 Q1 k1
  refine ps hb1 rfl ?_
  refine ps hb1 rfl ?_
  refine ps hb1 rfl ?_
  refine st (OpT.pickT (A := .cel _ _) (H rfl) (T1 rfl) hb1 Opd.bool rfl) rfl ?_
  exact k1
 refine ng ?_
 refine cd rfl (fun hc1 => ?_) fun hc1 => ?_
 ·
  obtain ⟨hc1, hc1'⟩ := pT hc1
  refine sr ?_
  refine st (OpT.buildSlice0 (m := 0) (z := .bool false) (Kd.int .i64) (H rfl) el61 sz2 (by decide)) rfl ?_
  refine sg (OpT.take (.inl rfl) rfl (ok' rfl) (Root.self (by decide)) rfl rfl (by decide)) (ko 4 rfl <| kc4 18 14 13 12 rfl <| kc4 11 6 5 3 rfl <| kc 0 rfl <| ka 1 rfl <| Kn) rfl ?_
  refine st (asI rfl) rfl ?_
  refine st (asI rfl) rfl ?_
  refine ng ?_
  refine AW.ret ?_
  refine rT ?_
  refine AX.freeze (t := 4) rfl ?_
  refine AX.pr (kc4 6 5 4 18 rfl <| kc4 14 13 12 11 rfl <| kc4 6 5 3 0 rfl <| ka 1 rfl <| Kn) ?_
  exact AX.rt (rs := [.tmp 4, .tmp 5, .tmp 6]) (ts := [some 4, some 5, some 6]) (.inl rfl) rfl (ROs.cons (RO.tmp (At.self (by decide)) (Kv rfl (by first | (rw [neaS_bad hc1]; done) | (rw [neaS_none hc1 (by omega)]; done) | (rw [neaS_yes hc1 (by omega)]; first | done | rw [show y = x.length by omega]))) rfl) <| ROs.cons (RO.tmp (At.self (by decide)) (Kv rfl (by first | (rw [neaS_bad hc1]; done) | (rw [neaS_none hc1 (by omega)]; done) | (rw [neaS_yes hc1 (by omega)]; first | done | rw [show y = x.length by omega]))) rfl) <| ROs.cons (RO.tmp (At.self (by decide)) (Kv rfl (by first | (rw [neaS_bad hc1]; done) | (rw [neaS_none hc1 (by omega)]; done) | (rw [neaS_yes hc1 (by omega)]; first | done | rw [show y = x.length by omega]))) rfl) <| ROs.nil) (by decide) OutsOK.nil
 ·
  obtain ⟨hc1, hc1'⟩ := pF hc1
  have hxl := deck_bad hc1
  refine AW.skip ?_
  refine AX.go ?_
  refine AW.seq ?_
  refine sr ?_
  refine st (mvT rfl) rfl ?_
  refine st (OpT.len (H rfl) (T1 rfl) el38) rfl ?_
  refine st (OpT.eql (H rfl) (T1 rfl) (I rfl)) rfl ?_
  refine ng ?_
  refine cd rfl (fun hc2 => ?_) fun hc2 => ?_
  ·
   obtain ⟨hc2, hc2'⟩ := pT hc2
   refine sr ?_
   refine st (OpT.buildSlice0 (m := 0) (z := .bool false) (Kd.int .i64) (H rfl) el61 sz2 (by decide)) rfl ?_
   refine sg (OpT.take (.inl rfl) rfl (ok' rfl) (Root.self (by decide)) rfl rfl (by decide)) (ko 4 rfl <| kc4 22 21 20 18 rfl <| kc4 14 13 12 11 rfl <| kc4 6 5 3 0 rfl <| ka 1 rfl <| Kn) rfl ?_
   refine st (asI rfl) rfl ?_
   refine st (asI rfl) rfl ?_
   refine AWl.to (kc2 6 5 rfl <| ko 4 rfl <| kc2 3 0 rfl <| Kn) ?_
   refine ng ?_
   refine AW.ret ?_
   refine rT ?_
   refine AX.freeze (t := 4) rfl ?_
   refine AX.pr (kc4 6 5 4 3 rfl <| kc 0 rfl <| Kn) ?_
   exact AX.rt (rs := [.tmp 4, .tmp 5, .tmp 6]) (ts := [some 4, some 5, some 6]) (.inl rfl) rfl (ROs.cons (RO.tmp (At.self (by decide)) (Kv rfl (by first | (rw [neaS_bad hc1]; done) | (rw [neaS_none hc1 (by omega)]; done) | (rw [neaS_yes hc1 (by omega)]; first | done | rw [show y = x.length by omega]))) rfl) <| ROs.cons (RO.tmp (At.self (by decide)) (Kv rfl (by first | (rw [neaS_bad hc1]; done) | (rw [neaS_none hc1 (by omega)]; done) | (rw [neaS_yes hc1 (by omega)]; first | done | rw [show y = x.length by omega]))) rfl) <| ROs.cons (RO.tmp (At.self (by decide)) (Kv rfl (by first | (rw [neaS_bad hc1]; done) | (rw [neaS_none hc1 (by omega)]; done) | (rw [neaS_yes hc1 (by omega)]; first | done | rw [show y = x.length by omega]))) rfl) <| ROs.nil) (by decide) OutsOK.nil
  ·
   obtain ⟨hc2, hc2'⟩ := pF hc2
   obtain ⟨e0, he0⟩ : ∃ e, x[Int.toNat 0]? = some e := getI (x := x) (z := 0) (by omega)
   refine AW.skip ?_
   refine AX.pr (kc2 6 5 rfl <| ko 4 rfl <| kc2 3 0 rfl <| Kn) ?_
   refine AX.go ?_
   refine AW.seq ?_
   refine dh fomo ?_
   refine d1 [0] (fun ve h => OpT.move (A := .cel _ _) (.inl rfl) rfl (ok' rfl) (D1 h rfl) rfl) rfl ?_
   refine d1 [24] (fun ve h => OpT.indexAddr (H rfl) (D1 h rfl) (I rfl) el38 sz31 (by omega) (by assumption)) rfl ?_
   refine d1 [25] (fun ve h => OpT.fieldAddr (H rfl) (D1 h rfl) fd31_1 sz29 (by decide) sb31_1) rfl ?_
   refine d1 [26] (fun ve h => OpT.loadA (H rfl) (D1 h rfl) ag29 sz29) rfl ?_
   refine d1 [3] (fun ve h => OpT.loadA (H rfl) (D1 h rfl) ag29 sz29) rfl ?_
   refine d1 [27, 28] (fun ve h => OpT.c1 (ms := [.flat, .flat]) (c_spec_l07Far _ _) (H rfl) (Af (D1 h rfl) rfl rfl <| Af (D1 h rfl) rfl rfl <| An) rfl rfl) rfl ?_
   refine d1 [29] (fun ve h => OpT.move (A := .cel _ _) (.inr rfl) rfl (ok' rfl) (D1 h rfl) rfl) rfl ?_
   refine dn ⟨by kernel_rfl, by kernel_rfl, ?_⟩
   refine AX.go ?_
   refine AW.seq ?_
   refine sr ?_
   refine st (asI rfl) rfl ?_
   refine ng ?_
   refine AW.block ?_
   refine AW.loop (fun z : Nat => 1 ≤ z ∧ z ≤ x.length) (fun z : Nat => keep [(0, .cel (Kd.slice kCard) x), (3, .cel (Kd.ptr kMask) m), (7, .cel (Kd.int .i64) (mnD m x z)), (8, .cel (Kd.int .i64) (z : Int))]) (fun z : Nat => x.length - z) (1) ⟨Nat.le_refl _, by omega⟩ (Kc 0 _ (Kv rfl rfl) <| Kc 3 _ (Kv rfl rfl) <| Kc 7 _ (Kv rfl (mnD_one he0)) <| Kc 8 _ (Kv rfl rfl) <| Kn) ?_
   intro z hI
   refine AW.seq ?_
   refine sr ?_
   refine st (mvT rfl) rfl ?_
   refine st (mvT rfl) rfl ?_
   refine st (OpT.len (H rfl) (T1 rfl) el38) rfl ?_
   refine st (OpT.lss (H rfl) (T1 rfl) (T1 rfl)) rfl ?_
   refine ng ?_
   refine cd rfl (fun hc3 => ?_) fun hc3 => ?_
   ·
    obtain ⟨hc3, hc3'⟩ := pT hc3
    obtain ⟨e, he⟩ := getI (x := x) (z := z) (by omega)
    refine AW.skip ?_
    refine AX.go ?_
    refine AW.seq ?_
    refine AW.block ?_
    refine dh fomo ?_
    refine d1 [7] (fun ve h => OpT.move (A := .cel _ _) (.inl rfl) rfl (ok' rfl) (D1 h rfl) rfl) rfl ?_
    refine d1 [0] (fun ve h => OpT.move (A := .cel _ _) (.inl rfl) rfl (ok' rfl) (D1 h rfl) rfl) rfl ?_
    refine d1 [8] (fun ve h => OpT.move (A := .cel _ _) (.inl rfl) rfl (ok' rfl) (D1 h rfl) rfl) rfl ?_
    refine d1 [37, 38] (fun ve h => OpT.indexAddr (H rfl) (D1 h rfl) (D1 h rfl) el38 sz31 (by omega) (by assumption)) rfl ?_
    refine d1 [39] (fun ve h => OpT.fieldAddr (H rfl) (D1 h rfl) fd31_1 sz29 (by decide) sb31_1) rfl ?_
    refine d1 [40] (fun ve h => OpT.loadA (H rfl) (D1 h rfl) ag29 sz29) rfl ?_
    refine d1 [3] (fun ve h => OpT.loadA (H rfl) (D1 h rfl) ag29 sz29) rfl ?_
    refine d1 [41, 42] (fun ve h => OpT.c1 (ms := [.flat, .flat]) (c_spec_l07Far _ _) (H rfl) (Af (D1 h rfl) rfl rfl <| Af (D1 h rfl) rfl rfl <| An) rfl rfl) rfl ?_
    refine d1 [36, 43] (fun ve h => OpT.c1 (ms := [.flat, .flat]) (c_spec_l00Min _ _) (H rfl) (Af (D1 h rfl) rfl rfl <| Af (D1 h rfl) rfl rfl <| An) rfl rfl) rfl ?_
    refine d1 [44] (fun ve h => OpT.move (A := .cel _ _) (.inr rfl) rfl (ok' rfl) (D1 h rfl) rfl) rfl ?_
    refine dn ⟨by kernel_rfl, by kernel_rfl, ?_⟩
    refine AX.normal_block ?_
    refine AX.go ?_
    refine AW.region ?_
    refine st (mvT rfl) rfl ?_
    refine st (OpT.add (H rfl) (T1 rfl) (I rfl) (nw (by omega))) rfl ?_
    refine st (asT rfl) rfl ?_
    refine nn ?_
    exact AX.again (z + 1) (by omega) (by omega) (Kc 0 _ (Kv rfl rfl) <| Kc 3 _ (Kv rfl rfl) <| Kc 7 _ (Kv rfl (mnD_min (by omega) (by omega) he)) <| Kc 8 _ (Kv rfl (by omega)) <| Kn)
   ·
    obtain ⟨hc3, hc3'⟩ := pF hc3
    refine AW.exit ?_
    refine xT <| xT <| AX.exit_hit ?_
    refine AX.go ?_
    refine sr ?_
    refine st (OpT.buildSlice0 (m := 0) (z := .bool false) (Kd.int .i64) (H rfl) el61 sz2 (by decide)) rfl ?_
    refine sg (OpT.take (.inl rfl) rfl (ok' rfl) (Root.self (by decide)) rfl rfl (by decide)) (ko 9 rfl <| kc4 33 32 31 30 rfl <| kc4 0 3 7 8 rfl <| Kn) rfl ?_
    refine ng ?_
    refine AW.seq ?_
    refine sr ?_
    refine st (asI rfl) rfl ?_
    refine ng ?_
    refine AW.block ?_
    obtain rfl : z = x.length := by omega
    refine AW.loop (fun y : Nat => y ≤ x.length) (fun y : Nat => keep [(0, .cel (Kd.slice kCard) x), (3, .cel (Kd.ptr kMask) m), (7, .cel (Kd.int .i64) (mnD m x x.length)), (9, .own 2 (Kd.int .i64) (nea m x (mnD m x x.length) y)), (10, .cel (Kd.int .i64) (y : Int))]) (fun y : Nat => x.length - y) (0) (Nat.zero_le _) (Kc 0 _ (Kv rfl rfl) <| Kc 3 _ (Kv rfl rfl) <| Kc 7 _ (Kv rfl rfl) <| Kc 9 _ (Ko rfl rfl) <| Kc 10 _ (Kv rfl rfl) <| Kn) ?_
    intro y hI
    refine AW.seq ?_
    refine sr ?_
    refine st (mvT rfl) rfl ?_
    refine st (mvT rfl) rfl ?_
    refine st (OpT.len (H rfl) (T1 rfl) el38) rfl ?_
    refine st (OpT.lss (H rfl) (T1 rfl) (T1 rfl)) rfl ?_
    refine ng ?_
    refine cd rfl (fun hc4 => ?_) fun hc4 => ?_
    ·
     obtain ⟨hc4, hc4'⟩ := pT hc4
     obtain ⟨e, he⟩ := getI (x := x) (z := y) (by omega)
     have hnl := nea_len (m := m) (x := x) (z := y) (mnD m x x.length)
     refine AW.skip ?_
     refine AX.go ?_
     refine AW.seq ?_
     refine AW.block ?_
     refine AW.seq ?_
     refine dh fomo ?_
     refine d1 [0] (fun ve h => OpT.move (A := .cel _ _) (.inl rfl) rfl (ok' rfl) (D1 h rfl) rfl) rfl ?_
     refine d1 [10] (fun ve h => OpT.move (A := .cel _ _) (.inl rfl) rfl (ok' rfl) (D1 h rfl) rfl) rfl ?_
     refine d1 [52, 53] (fun ve h => OpT.indexAddr (H rfl) (D1 h rfl) (D1 h rfl) el38 sz31 (by omega) (by assumption)) rfl ?_
     refine d1 [54] (fun ve h => OpT.fieldAddr (H rfl) (D1 h rfl) fd31_1 sz29 (by decide) sb31_1) rfl ?_
     refine d1 [55] (fun ve h => OpT.loadA (H rfl) (D1 h rfl) ag29 sz29) rfl ?_
     refine d1 [3] (fun ve h => OpT.loadA (H rfl) (D1 h rfl) ag29 sz29) rfl ?_
     refine d1 [56, 57] (fun ve h => OpT.c1 (ms := [.flat, .flat]) (c_spec_l07Far _ _) (H rfl) (Af (D1 h rfl) rfl rfl <| Af (D1 h rfl) rfl rfl <| An) rfl rfl) rfl ?_
     refine d1 [7] (fun ve h => OpT.move (A := .cel _ _) (.inl rfl) rfl (ok' rfl) (D1 h rfl) rfl) rfl ?_
     refine d1 [58, 59] (fun ve h => OpT.eql (H rfl) (D1 h rfl) (D1 h rfl)) rfl ?_
     refine dn ⟨by kernel_rfl, by kernel_rfl, ?_⟩
     refine AX.go ?_
     refine cd rfl (fun hc5 => ?_) fun hc5 => ?_
     ·
      obtain ⟨hc5, hc5'⟩ := pT hc5
      refine AW.region ?_
      refine st (OpT.alias (H rfl) (by decide) (by decide)) rfl ?_
      refine st (mvT rfl) rfl ?_
      refine st (OpT.buildSlice (H rfl) el61 zr2 sz2 rfl (by decide) zk2 (by decide) (Built.cel (T1 rfl) rfl rfl (sub_arr (by decide) (0 : Int)) (Built.nil _))) rfl ?_
      refine sg (OpT.append (H rfl) (Root.ali rfl (by decide) (by decide)) rfl (Src.own (Root.self (t := 63) (by decide)) rfl) (by decide) el61 zr2 rfl sz2 by2 (by decide) (by (try simp only [List.length_cons, List.length_nil, List.length_append, List.length_set, List.length_replicate]); omega)) (ko 64 rfl <| ko 63 rfl <| kc4 62 60 59 58 rfl <| ka 57 rfl <| ka 56 rfl <| kc4 55 54 53 52 rfl <| kc4 49 48 47 46 rfl <| kc4 0 3 7 10 rfl <| Kn) rfl ?_
      refine sg (OpT.take (.inl rfl) rfl (ok' rfl) (Root.self (by decide)) rfl rfl (by decide)) (ko 9 rfl <| ko 63 rfl <| kc4 62 60 59 58 rfl <| ka 57 rfl <| ka 56 rfl <| kc4 55 54 53 52 rfl <| kc4 49 48 47 46 rfl <| kc4 0 3 7 10 rfl <| Kn) rfl ?_
      refine nn ?_
      refine AX.normal_block ?_
      refine AX.go ?_
      refine AW.region ?_
      refine st (mvT rfl) rfl ?_
      refine st (OpT.add (H rfl) (T1 rfl) (I rfl) (nw (by omega))) rfl ?_
      refine st (asT rfl) rfl ?_
      refine nn ?_
      exact AX.again (y + 1) (by omega) (by omega) (Kc 0 _ (Kv rfl rfl) <| Kc 3 _ (Kv rfl rfl) <| Kc 7 _ (Kv rfl rfl) <| Kc 9 _ (Ko rfl (by first | exact nea_yes he hc5' | exact nea_no he hc5')) <| Kc 10 _ (Kv rfl (by omega)) <| Kn)
     ·
      obtain ⟨hc5, hc5'⟩ := pF hc5
      refine AW.skip ?_
      refine AX.normal_block ?_
      refine AX.go ?_
      refine AW.region ?_
      refine st (mvT rfl) rfl ?_
      refine st (OpT.add (H rfl) (T1 rfl) (I rfl) (nw (by omega))) rfl ?_
      refine st (asT rfl) rfl ?_
      refine nn ?_
      exact AX.again (y + 1) (by omega) (by omega) (Kc 0 _ (Kv rfl rfl) <| Kc 3 _ (Kv rfl rfl) <| Kc 7 _ (Kv rfl rfl) <| Kc 9 _ (Ko rfl (by first | exact nea_yes he hc5' | exact nea_no he hc5')) <| Kc 10 _ (Kv rfl (by omega)) <| Kn)
    ·
     obtain ⟨hc4, hc4'⟩ := pF hc4
     refine AW.exit ?_
     refine xT <| xT <| AX.exit_hit ?_
     refine AX.go ?_
     refine sr ?_
     refine st (OpT.alias (H rfl) (by decide) (by decide)) rfl ?_
     refine st (mvT rfl) rfl ?_
     refine sg (OpT.take (.inl rfl) rfl (ok' rfl) (Root.ali rfl (by decide) (by decide)) rfl rfl (by decide)) (ko 4 rfl <| kc4 66 49 48 47 rfl <| kc4 46 0 3 7 rfl <| kc 10 rfl <| Kn) rfl ?_
     refine st (asT rfl) rfl ?_
     refine st (asI rfl) rfl ?_
     refine ng ?_
     refine AW.ret ?_
     refine AX.freeze (t := 4) rfl ?_
     refine AX.pr (kc4 6 5 4 66 rfl <| kc4 49 48 47 46 rfl <| kc4 0 3 7 10 rfl <| Kn) ?_
     exact AX.rt (rs := [.tmp 4, .tmp 5, .tmp 6]) (ts := [some 4, some 5, some 6]) (.inl rfl) rfl (ROs.cons (RO.tmp (At.self (by decide)) (Kv rfl (by first | (rw [neaS_bad hc1]; done) | (rw [neaS_none hc1 (by omega)]; done) | (rw [neaS_yes hc1 (by omega)]; first | done | rw [show y = x.length by omega]))) rfl) <| ROs.cons (RO.tmp (At.self (by decide)) (Kv rfl (by first | (rw [neaS_bad hc1]; done) | (rw [neaS_none hc1 (by omega)]; done) | (rw [neaS_yes hc1 (by omega)]; first | done | rw [show y = x.length by omega]))) rfl) <| ROs.cons (RO.tmp (At.self (by decide)) (Kv rfl (by first | (rw [neaS_bad hc1]; done) | (rw [neaS_none hc1 (by omega)]; done) | (rw [neaS_yes hc1 (by omega)]; first | done | rw [show y = x.length by omega]))) rfl) <| ROs.nil) (by decide) OutsOK.nil

set_option maxHeartbeats 4000000 in
/-- impl.NearestCards -/
theorem c_impl_NearestCards_o (x : List DCard) (m : DMask) : AC Tryd.prog 50 [.cel (Kd.slice kCard) x, .agg kMask m] [.own 2 (Kd.int .i64) (neaS x m).1, .cel (Kd.int .i64) (neaS x m).2.1, .cel (Kd.int .i64) (neaS x m).2.2] [] := by
 refine acI (N := 54) Tryd.func50 (Nat.le_of_ble_eq_true rfl) rfl fun w0 hd s0 ar => ?_
 refine AW.to (kc 0 rfl <| ka 1 rfl <| Kn) ?_
 refine AW.fact (fun a w hr => (ok_slice (R_ok (t := 0) rfl hr)).2) (fun hl0 => ?_)
 refine sr ?_
 refine st (OpT.frz (OpT.boxA (E := 29) (H rfl) (T1 rfl))) rfl ?_
 refine st (nilO (E := 2) (Kd.int .i64) rfl (.inl rfl)) rfl ?_
 refine st (asI rfl) rfl ?_
 refine st (asI rfl) rfl ?_
 refine ng ?_
 refine AW.seq ?_
 refine sr ?_
 refine st (mvT rfl) rfl ?_
 refine st (OpT.c1 (ms := [.flat]) (c_impl_isDeck _) (H rfl) (Af (T1 rfl) rfl rfl <| An) rfl rfl) rfl ?_
 refine st (OpT.not (H rfl) (T1 rfl)) rfl ?_
 refine st (mvT rfl) rfl ?_
 apply AWl.or (d := 19) (t := 15) rfl
 ·
  intro hb1 Q1 k1
  have hb1' := lF hb1
  refine rs hb1 (OpT.loadA (H rfl) (T1 rfl) ag29 sz29) rfl ?_
  refine rs hb1 (OpT.c1 (ms := [.flat]) (c_impl_isMask _) (H rfl) (Af (T1 rfl) rfl rfl <| An) rfl rfl) rfl ?_
  refine rs hb1 (OpT.not (H rfl) (T1 rfl)) rfl ?_
  refine st (OpT.pickF (A := .cel _ _) (H rfl) (T1 rfl) hb1 (T1 rfl) rfl) rfl ?_
  exact AWl.to (junk 3 rfl) k1
 ·
  intro hb1 Q1 k1
  refine ps hb1 rfl ?_
  refine ps hb1 rfl ?_
  refine ps hb1 rfl ?_
  refine st (OpT.pickT (A := .cel _ _) (H rfl) (T1 rfl) hb1 Opd.bool rfl) rfl ?_
  exact k1
 refine ng ?_
 refine cd rfl (fun hc1 => ?_) fun hc1 => ?_
 ·
  obtain ⟨hc1, hc1'⟩ := pT hc1
  refine sr ?_
  refine st (nilO (E := 2) (Kd.int .i64) rfl (.inl rfl)) rfl ?_
  refine st (asI rfl) rfl ?_
  refine st (asI rfl) rfl ?_
  refine ng ?_
  refine AW.ret ?_
  refine rT ?_
  exact AX.rt (rs := [.tmp 4, .tmp 5, .tmp 6]) (ts := [some 4, some 5, some 6]) (.inl rfl) rfl (ROs.cons (RO.tmp (At.self (by decide)) (Ko rfl (by first | (rw [neaS_bad hc1]; done) | (rw [neaS_none hc1 (by omega)]; done) | (rw [neaS_yes hc1 (by omega)]; first | done | rw [show z = x.length by omega]))) rfl) <| ROs.cons (RO.tmp (At.self (by decide)) (Kv rfl (by first | (rw [neaS_bad hc1]; done) | (rw [neaS_none hc1 (by omega)]; done) | (rw [neaS_yes hc1 (by omega)]; first | done | rw [show z = x.length by omega]))) rfl) <| ROs.cons (RO.tmp (At.self (by decide)) (Kv rfl (by first | (rw [neaS_bad hc1]; done) | (rw [neaS_none hc1 (by omega)]; done) | (rw [neaS_yes hc1 (by omega)]; first | done | rw [show z = x.length by omega]))) rfl) <| ROs.nil) (by decide) OutsOK.nil
 ·
  obtain ⟨hc1, hc1'⟩ := pF hc1
  have hxl := deck_bad hc1
  refine AW.skip ?_
  refine AX.go ?_
  refine AW.seq ?_
  refine sr ?_
  refine st (mvT rfl) rfl ?_
  refine st (OpT.len (H rfl) (T1 rfl) el38) rfl ?_
  refine st (OpT.eql (H rfl) (T1 rfl) (I rfl)) rfl ?_
  refine ng ?_
  refine cd rfl (fun hc2 => ?_) fun hc2 => ?_
  ·
   obtain ⟨hc2, hc2'⟩ := pT hc2
   refine sr ?_
   refine st (nilO (E := 2) (Kd.int .i64) rfl (.inl rfl)) rfl ?_
   refine st (asI rfl) rfl ?_
   refine st (asI rfl) rfl ?_
   refine AWl.to (kc2 6 5 rfl <| ko 4 rfl <| kc2 3 0 rfl <| Kn) ?_
   refine ng ?_
   refine AW.ret ?_
   refine rT ?_
   exact AX.rt (rs := [.tmp 4, .tmp 5, .tmp 6]) (ts := [some 4, some 5, some 6]) (.inl rfl) rfl (ROs.cons (RO.tmp (At.self (by decide)) (Ko rfl (by first | (rw [neaS_bad hc1]; done) | (rw [neaS_none hc1 (by omega)]; done) | (rw [neaS_yes hc1 (by omega)]; first | done | rw [show z = x.length by omega]))) rfl) <| ROs.cons (RO.tmp (At.self (by decide)) (Kv rfl (by first | (rw [neaS_bad hc1]; done) | (rw [neaS_none hc1 (by omega)]; done) | (rw [neaS_yes hc1 (by omega)]; first | done | rw [show z = x.length by omega]))) rfl) <| ROs.cons (RO.tmp (At.self (by decide)) (Kv rfl (by first | (rw [neaS_bad hc1]; done) | (rw [neaS_none hc1 (by omega)]; done) | (rw [neaS_yes hc1 (by omega)]; first | done | rw [show z = x.length by omega]))) rfl) <| ROs.nil) (by decide) OutsOK.nil
  ·
   obtain ⟨hc2, hc2'⟩ := pF hc2
   refine AW.skip ?_
   refine AX.go ?_
   refine sr ?_
   refine st (OpT.buildSlice0 (m := 0) (z := .bool false) (Kd.int .i64) (H rfl) el61 sz2 (by decide)) rfl ?_
   refine sg (OpT.take (.inl rfl) rfl (ok' rfl) (Root.self (by decide)) rfl rfl (by decide)) (ko 7 rfl <| kc4 22 21 20 19 rfl <| kc4 15 14 13 12 rfl <| kc2 6 5 rfl <| ko 4 rfl <| kc2 3 0 rfl <| ka 1 rfl <| Kn) rfl ?_
   refine ng ?_
   refine sr ?_
   refine st (asI rfl) rfl ?_
   refine ng ?_
   refine AW.seq ?_
   refine sr ?_
   refine st (mvT rfl) rfl ?_
   refine st (OpT.len (H rfl) (T1 rfl) el38) rfl ?_
   refine st (mvI rfl) rfl ?_
   refine ng ?_
   refine AW.block ?_
   refine AW.loop (fun z : Nat => z ≤ x.length) (fun z : Nat => keep [(3, .cel (Kd.ptr kMask) m), (7, .own 2 (Kd.int .i64) (nea m x (mnD m x z) z)), (8, .cel (Kd.int .i64) (mnD m x z)), (24, .cel (Kd.slice kCard) x), (25, .cel (Kd.int .i64) (x.length : Int)), (26, .cel (Kd.int .i64) (z : Int))]) (fun z : Nat => x.length - z) (0) (Nat.zero_le _) (Kc 3 _ (Kv rfl rfl) <| Kc 7 _ (Ko rfl rfl) <| Kc 8 _ (Kv rfl rfl) <| Kc 24 _ (Kv rfl rfl) <| Kc 25 _ (Kv rfl rfl) <| Kc 26 _ (Kv rfl rfl) <| Kn) ?_
   intro z hI
   refine sr ?_
   refine st (OpT.lss (H rfl) (T1 rfl) (T1 rfl)) rfl ?_
   refine ng ?_
   refine AW.seq ?_
   refine cd rfl (fun hc3 => ?_) fun hc3 => ?_
   ·
    obtain ⟨hc3, hc3'⟩ := pT hc3
    obtain ⟨e, he⟩ := getI (x := x) (z := z) (by omega)
    have hnl := nea_len (m := m) (x := x) (z := z) (mnD m x z)
    have hmi := mnD_in (m := m) (x := x) (z := z) (by omega)
    refine AW.skip ?_
    refine AX.go ?_
    refine AW.seq ?_
    refine AW.block ?_
    refine sr ?_
    refine st (mvT rfl) rfl ?_
    refine st (OpT.indexAddr (H rfl) (T1 rfl) (T1 rfl) el38 sz31 (by omega) (by assumption)) rfl ?_
    refine st (OpT.loadA (H rfl) (T1 rfl) ag31 sz31) rfl ?_
    refine st (OpT.alloc (H rfl) zr31 zk31) rfl ?_
    refine st (asT rfl) rfl ?_
    refine sk (OpT.storeBA rfl rfl (Opd.whole (Root.self (t := 10) (by decide)) rfl) rfl sz31 (by decide) (T1 rfl)) rfl ?_
    refine ng ?_
    refine sr ?_
    refine st (OpT.fieldAddrB (H rfl) (Root.self (t := 10) (by decide)) rfl (by decide) fd31_1 sz29 (by decide) sb31_1) rfl ?_
    refine st (OpT.loadPA (H rfl) (T1 rfl) (.inl ⟨_, rfl, rfl⟩) ag29 sz29) rfl ?_
    refine st (OpT.loadA (H rfl) (T1 rfl) ag29 sz29) rfl ?_
    refine st (OpT.c1 (ms := [.flat, .flat]) (c_impl_distance _ _) (H rfl) (Af (T1 rfl) rfl rfl <| Af (T1 rfl) rfl rfl <| An) rfl rfl) rfl ?_
    refine st (asT rfl) rfl ?_
    refine ng ?_
    refine AW.seq ?_
    refine sr ?_
    refine st (mvT rfl) rfl ?_
    refine st (OpT.lss (H rfl) (T1 rfl) (I rfl)) rfl ?_
    refine st (mvT rfl) rfl ?_
    apply AWl.or (d := 41) (t := 37) rfl
    ·
     intro hb2 Q1 k1
     have hb2' := lF hb2
     refine rs hb2 (mvT rfl) rfl ?_
     refine rs hb2 (mvT rfl) rfl ?_
     refine rs hb2 (OpT.lss (H rfl) (T1 rfl) (T1 rfl)) rfl ?_
     refine st (OpT.pickF (A := .cel _ _) (H rfl) (T1 rfl) hb2 (T1 rfl) rfl) rfl ?_
     exact AWl.to (junk 3 rfl) k1
    ·
     intro hb2 Q1 k1
     refine ps hb2 rfl ?_
     refine ps hb2 rfl ?_
     refine ps hb2 rfl ?_
     refine st (OpT.pickT (A := .cel _ _) (H rfl) (T1 rfl) hb2 Opd.bool rfl) rfl ?_
     exact k1
    refine ng ?_
    refine cd rfl (fun hc4 => ?_) fun hc4 => ?_
    ·
     obtain ⟨hc4, hc4'⟩ := pT hc4
     have hnw := nea_new (m := m) (by omega) he (by simpa [dst] using hc4)
     refine sr ?_
     refine st (OpT.buildSlice0 (m := 0) (z := .bool false) (Kd.int .i64) (H rfl) el61 sz2 (by decide)) rfl ?_
     refine sg (OpT.take (.inl rfl) rfl (ok' rfl) (Root.self (by decide)) rfl rfl (by decide)) (ko 7 rfl <| kc4 41 37 36 35 rfl <| kc2 11 34 rfl <| ka 33 rfl <| ka 32 rfl <| Kc 31 (.pel _ _ _ _ _ _ _) rfl <| kb 10 rfl <| kc 9 rfl <| ka 30 rfl <| kc4 29 28 27 3 rfl <| kc4 8 24 25 26 rfl <| Kn) rfl ?_
     refine ng ?_
     refine AW.region ?_
     refine st (mvT rfl) rfl ?_
     refine st (asT rfl) rfl ?_
     refine ng ?_
     refine sr ?_
     refine st (mvT rfl) rfl ?_
     refine st (mvT rfl) rfl ?_
     refine st (OpT.eql (H rfl) (T1 rfl) (T1 rfl)) rfl ?_
     refine ng ?_
     refine cd rfl (fun hc5 => ?_) fun hc5 => ?_
     ·
      obtain ⟨hc5, hc5'⟩ := pT hc5
      refine AW.region ?_
      refine st (OpT.alias (H rfl) (by decide) (by decide)) rfl ?_
      refine st (mvT rfl) rfl ?_
      refine st (OpT.buildSlice (H rfl) el61 zr2 sz2 rfl (by decide) zk2 (by decide) (Built.cel (T1 rfl) rfl rfl (sub_arr (by decide) (0 : Int)) (Built.nil _))) rfl ?_
      refine sg (OpT.append (H rfl) (Root.ali rfl (by decide) (by decide)) rfl (Src.own (Root.self (t := 49) (by decide)) rfl) (by decide) el61 zr2 rfl sz2 by2 (by decide) (by (try simp only [List.length_cons, List.length_nil, List.length_append, List.length_set, List.length_replicate]); omega)) (ko 50 rfl <| ko 49 rfl <| kc4 48 46 45 44 rfl <| kc4 8 43 41 37 rfl <| kc4 36 35 11 34 rfl <| ka 33 rfl <| ka 32 rfl <| Kc 31 (.pel _ _ _ _ _ _ _) rfl <| kb 10 rfl <| kc 9 rfl <| ka 30 rfl <| kc4 29 28 27 3 rfl <| kc3 24 25 26 rfl <| Kn) rfl ?_
      refine sg (OpT.take (.inl rfl) rfl (ok' rfl) (Root.self (by decide)) rfl rfl (by decide)) (ko 7 rfl <| ko 49 rfl <| kc4 48 46 45 44 rfl <| kc4 8 43 41 37 rfl <| kc4 36 35 11 34 rfl <| ka 33 rfl <| ka 32 rfl <| Kc 31 (.pel _ _ _ _ _ _ _) rfl <| kb 10 rfl <| kc 9 rfl <| ka 30 rfl <| kc4 29 28 27 3 rfl <| kc3 24 25 26 rfl <| Kn) rfl ?_
      refine nn ?_
      refine AX.normal_block ?_
      refine AX.go ?_
      refine AW.region ?_
      refine st (OpT.add (H rfl) (T1 rfl) (I rfl) (nw (by omega))) rfl ?_
      refine st (mvT rfl) rfl ?_
      refine nn ?_
      exact AX.again (z + 1) (by omega) (by omega) (Kc 3 _ (Kv rfl rfl) <| Kc 7 _ (Ko rfl (by first | exact hnw.2 | exact absurd rfl hc5' | (rw [← hsm]; exact nea_yes he hc6') | (rw [← hsm]; exact nea_no he hc6'))) <| Kc 8 _ (Kv rfl (by first | exact hnw.1 | exact hsm)) <| Kc 24 _ (Kv rfl rfl) <| Kc 25 _ (Kv rfl rfl) <| Kc 26 _ (Kv rfl (by omega)) <| Kn)
     ·
      obtain ⟨hc5, hc5'⟩ := pF hc5
      refine AW.skip ?_
      refine AX.normal_block ?_
      refine AX.go ?_
      refine AW.region ?_
      refine st (OpT.add (H rfl) (T1 rfl) (I rfl) (nw (by omega))) rfl ?_
      refine st (mvT rfl) rfl ?_
      refine nn ?_
      exact AX.again (z + 1) (by omega) (by omega) (Kc 3 _ (Kv rfl rfl) <| Kc 7 _ (Ko rfl (by first | exact hnw.2 | exact absurd rfl hc5' | (rw [← hsm]; exact nea_yes he hc6') | (rw [← hsm]; exact nea_no he hc6'))) <| Kc 8 _ (Kv rfl (by first | exact hnw.1 | exact hsm)) <| Kc 24 _ (Kv rfl rfl) <| Kc 25 _ (Kv rfl rfl) <| Kc 26 _ (Kv rfl (by omega)) <| Kn)
    ·
     obtain ⟨hc4, hc4'⟩ := pF hc4
     have hsm := nea_same (m := m) he (by simpa [dst] using hc4)
     refine AW.skip ?_
     refine AX.go ?_
     refine sr ?_
     refine st (mvT rfl) rfl ?_
     refine st (mvT rfl) rfl ?_
     refine st (OpT.eql (H rfl) (T1 rfl) (T1 rfl)) rfl ?_
     refine ng ?_
     refine cd rfl (fun hc6 => ?_) fun hc6 => ?_
     ·
      obtain ⟨hc6, hc6'⟩ := pT hc6
      refine AW.region ?_
      refine st (OpT.alias (H rfl) (by decide) (by decide)) rfl ?_
      refine st (mvT rfl) rfl ?_
      refine st (OpT.buildSlice (H rfl) el61 zr2 sz2 rfl (by decide) zk2 (by decide) (Built.cel (T1 rfl) rfl rfl (sub_arr (by decide) (0 : Int)) (Built.nil _))) rfl ?_
      refine sg (OpT.append (H rfl) (Root.ali rfl (by decide) (by decide)) rfl (Src.own (Root.self (t := 49) (by decide)) rfl) (by decide) el61 zr2 rfl sz2 by2 (by decide) (by (try simp only [List.length_cons, List.length_nil, List.length_append, List.length_set, List.length_replicate]); omega)) (ko 50 rfl <| ko 49 rfl <| kc4 48 46 45 44 rfl <| kc4 41 37 36 35 rfl <| kc2 11 34 rfl <| ka 33 rfl <| ka 32 rfl <| Kc 31 (.pel _ _ _ _ _ _ _) rfl <| kb 10 rfl <| kc 9 rfl <| ka 30 rfl <| kc4 29 28 27 3 rfl <| kc4 8 24 25 26 rfl <| Kn) rfl ?_
      refine sg (OpT.take (.inl rfl) rfl (ok' rfl) (Root.self (by decide)) rfl rfl (by decide)) (ko 7 rfl <| ko 49 rfl <| kc4 48 46 45 44 rfl <| kc4 41 37 36 35 rfl <| kc2 11 34 rfl <| ka 33 rfl <| ka 32 rfl <| Kc 31 (.pel _ _ _ _ _ _ _) rfl <| kb 10 rfl <| kc 9 rfl <| ka 30 rfl <| kc4 29 28 27 3 rfl <| kc4 8 24 25 26 rfl <| Kn) rfl ?_
      refine nn ?_
      refine AX.normal_block ?_
      refine AX.go ?_
      refine AW.region ?_
      refine st (OpT.add (H rfl) (T1 rfl) (I rfl) (nw (by omega))) rfl ?_
      refine st (mvT rfl) rfl ?_
      refine nn ?_
      exact AX.again (z + 1) (by omega) (by omega) (Kc 3 _ (Kv rfl rfl) <| Kc 7 _ (Ko rfl (by first | exact hnw.2 | exact absurd rfl hc5' | (rw [← hsm]; exact nea_yes he hc6') | (rw [← hsm]; exact nea_no he hc6'))) <| Kc 8 _ (Kv rfl (by first | exact hnw.1 | exact hsm)) <| Kc 24 _ (Kv rfl rfl) <| Kc 25 _ (Kv rfl rfl) <| Kc 26 _ (Kv rfl (by omega)) <| Kn)
     ·
      obtain ⟨hc6, hc6'⟩ := pF hc6
      refine AW.skip ?_
      refine AX.normal_block ?_
      refine AX.go ?_
      refine AW.region ?_
      refine st (OpT.add (H rfl) (T1 rfl) (I rfl) (nw (by omega))) rfl ?_
      refine st (mvT rfl) rfl ?_
      refine nn ?_
      exact AX.again (z + 1) (by omega) (by omega) (Kc 3 _ (Kv rfl rfl) <| Kc 7 _ (Ko rfl (by first | exact hnw.2 | exact absurd rfl hc5' | (rw [← hsm]; exact nea_yes he hc6') | (rw [← hsm]; exact nea_no he hc6'))) <| Kc 8 _ (Kv rfl (by first | exact hnw.1 | exact hsm)) <| Kc 24 _ (Kv rfl rfl) <| Kc 25 _ (Kv rfl rfl) <| Kc 26 _ (Kv rfl (by omega)) <| Kn)
   ·
    obtain ⟨hc3, hc3'⟩ := pF hc3
    refine AW.exit ?_
    refine xT <| xT <| AX.exit_hit ?_
    refine AX.go ?_
    refine sr ?_
    refine st (OpT.alias (H rfl) (by decide) (by decide)) rfl ?_
    refine st (mvT rfl) rfl ?_
    refine sg (OpT.take (.inl rfl) rfl (ok' rfl) (Root.ali rfl (by decide) (by decide)) rfl rfl (by decide)) (ko 4 rfl <| kc4 53 27 3 8 rfl <| kc3 24 25 26 rfl <| Kn) rfl ?_
    refine st (asT rfl) rfl ?_
    refine st (asI rfl) rfl ?_
    refine ng ?_
    refine AW.ret ?_
    exact AX.rt (rs := [.tmp 4, .tmp 5, .tmp 6]) (ts := [some 4, some 5, some 6]) (.inl rfl) rfl (ROs.cons (RO.tmp (At.self (by decide)) (Ko rfl (by first | (rw [neaS_bad hc1]; done) | (rw [neaS_none hc1 (by omega)]; done) | (rw [neaS_yes hc1 (by omega)]; first | done | rw [show z = x.length by omega]))) rfl) <| ROs.cons (RO.tmp (At.self (by decide)) (Kv rfl (by first | (rw [neaS_bad hc1]; done) | (rw [neaS_none hc1 (by omega)]; done) | (rw [neaS_yes hc1 (by omega)]; first | done | rw [show z = x.length by omega]))) rfl) <| ROs.cons (RO.tmp (At.self (by decide)) (Kv rfl (by first | (rw [neaS_bad hc1]; done) | (rw [neaS_none hc1 (by omega)]; done) | (rw [neaS_yes hc1 (by omega)]; first | done | rw [show z = x.length by omega]))) rfl) <| ROs.nil) (by decide) OutsOK.nil
theorem c_impl_NearestCards (x : List DCard) (m : DMask) : AC Tryd.prog 50 [.cel (Kd.slice kCard) x, .agg kMask m] [.cel (Kd.slice (Kd.int .i64)) (neaS x m).1, .cel (Kd.int .i64) (neaS x m).2.1, .cel (Kd.int .i64) (neaS x m).2.2] [] := (c_impl_NearestCards_o x m).frz rfl

set_option maxHeartbeats 4000000 in
/-- laws.FnExactNearestCards -/
theorem c_laws_FnExactNearestCards (x : List DCard) (m : DMask) : AC Tryd.prog 12 [.cel (Kd.slice kCard) x, .agg kMask m] [.cel Kd.bool true] [] := by
 refine acI (N := 125) Tryd.func12 (Nat.le_of_ble_eq_true rfl) rfl fun w0 hd s0 ar => ?_
 refine AW.to (kc 0 rfl <| ka 1 rfl <| Kn) ?_
 have htl := neaS_len x m
 refine sr ?_
 refine st (OpT.frz (OpT.boxA (E := 23) (H rfl) (T1 rfl))) rfl ?_
 refine st (asB rfl) rfl ?_
 refine ng ?_
 refine sr ?_
 refine st (asI rfl) rfl ?_
 refine ng ?_
 refine sr ?_
 refine st (mvT rfl) rfl ?_
 refine st (mvT rfl) rfl ?_
 refine st (OpT.c1 (ms := [.flat, .flat]) (c_laws_szCardS _ _ (by omega)) (H rfl) (Af (T1 rfl) rfl rfl <| Af (T1 rfl) rfl rfl <| An) rfl rfl) rfl ?_
 refine st (asT rfl) rfl ?_
 refine ng ?_
 refine AW.seq ?_
 refine sr ?_
 refine st (mvT rfl) rfl ?_
 refine st (OpT.lss (H rfl) (T1 rfl) (I rfl)) rfl ?_
 refine ng ?_
 refine cd rfl (fun hc1 => ?_) fun hc1 => ?_
 ·
  replace hc1 := oT hc1
  refine sr ?_
  refine st (asB rfl) rfl ?_
  refine ng ?_
  refine AW.ret ?_
  refine rT ?_
  exact rt1 rfl (.inl rfl) rfl
 ·
  replace hc1 := oF hc1
  have k0 := okSz_list okSzC x 1048576 (by omega)
  have k1 := k0.2.2 (by omega)
  refine AW.skip ?_
  refine AX.pr (kc3 4 3 0 rfl <| Kn) ?_
  refine AX.go ?_
  refine AW.seq ?_
  refine dh fomo ?_
  refine d1 [0] (fun ve h => OpT.move (A := .cel _ _) (.inl rfl) rfl (ok' rfl) (D1 h rfl) rfl) rfl ?_
  refine d1 [25] (fun ve h => OpT.c1 (ms := [.flat]) (c_laws_toCardS x (by omega)) (H rfl) (Af (D1 h rfl) rfl rfl <| An) rfl rfl) rfl ?_
  refine d1 [3] (fun ve h => OpT.loadA (H rfl) (D1 h rfl) ag23 sz23) rfl ?_
  refine d1 [27] (fun ve h => OpT.c1 (ms := [.flat]) (c_laws_toMask _) (H rfl) (Af (D1 h rfl) rfl rfl <| An) rfl rfl) rfl ?_
  refine d3 [26, 28] (fun ve h => cN (ms := [.flat, .flat]) (c_spec_NearestCards _ _) (H rfl) (Af (D1 h rfl) rfl rfl <| Af (D1 h rfl) rfl rfl <| An) rfl (.inl rfl)) rfl ?_
  refine d1 [] (fun ve h => OpT.alias (H rfl) (by decide) (by decide)) rfl ?_
  refine d1 [24, 10029] (fun ve h => OpT.extractV (m := 10029) (H rfl) ((h _ (List.elem_iff.1 rfl)).trans rfl) rfl rfl rfl ((h _ (List.elem_iff.1 rfl)).trans rfl) rfl rfl) rfl ?_
  refine d1 [24, 20029] (fun ve h => OpT.extractV (m := 20029) (H rfl) ((h _ (List.elem_iff.1 rfl)).trans rfl) rfl rfl rfl ((h _ (List.elem_iff.1 rfl)).trans rfl) rfl rfl) rfl ?_
  refine d1 [24, 30029] (fun ve h => OpT.extractV (m := 30029) (H rfl) ((h _ (List.elem_iff.1 rfl)).trans rfl) rfl rfl rfl ((h _ (List.elem_iff.1 rfl)).trans rfl) rfl rfl) rfl ?_
  refine d1 [30] (fun ve h => OpT.move (A := .cel _ _) (.inr rfl) rfl (ok' rfl) (D1 h rfl) rfl) rfl ?_
  refine d1 [31] (fun ve h => OpT.move (A := .cel _ _) (.inr rfl) rfl (ok' rfl) (D1 h rfl) rfl) rfl ?_
  refine d1 [32] (fun ve h => OpT.move (A := .cel _ _) (.inr rfl) rfl (ok' rfl) (D1 h rfl) rfl) rfl ?_
  refine dn ⟨by kernel_rfl, by kernel_rfl, ?_⟩
  refine AX.pr (kc4 8 7 6 4 rfl <| kc2 3 0 rfl <| Kn) ?_
  refine AX.go ?_
  refine sr ?_
  refine st (mvT rfl) rfl ?_
  refine st (OpT.c1 (ms := [.flat]) (c_laws_toCardS_o x (by omega)) (H rfl) (Af (T1 rfl) rfl rfl <| An) rfl rfl) rfl ?_
  refine sg (OpT.take (.inl rfl) rfl (ok' rfl) (Root.self (by decide)) rfl rfl (by decide)) (ko 9 rfl <| kc4 33 8 7 6 rfl <| kc3 4 3 0 rfl <| Kn) rfl ?_
  refine ng ?_
  refine sr ?_
  refine st (OpT.alias (H rfl) (by decide) (by decide)) rfl ?_
  refine st (OpT.loadA (H rfl) (T1 rfl) ag23 sz23) rfl ?_
  refine st (OpT.c1 (ms := [.flat]) (c_laws_toMask _) (H rfl) (Af (T1 rfl) rfl rfl <| An) rfl rfl) rfl ?_
  refine s3 (cN (ms := [.bor 9, .flat]) (c_impl_NearestCards_o _ _) (H rfl) (Ab (Root.ali rfl (by decide) (by decide)) rfl <| Af (T1 rfl) rfl rfl <| An) rfl (.inr (ind3 (indO fun _ _ _ _ h => h) (indC fun _ _ _ _ h => h) (indC fun _ _ _ _ h => h)))) rfl ?_
  refine st (OpT.alias (H rfl) (by decide) (by decide)) rfl ?_
  refine sg (OpT.extractVO (m := 10039) (H rfl) rfl rfl rfl rfl rfl rfl) (ko 40 rfl <| Kc 35 (.ali _) rfl <| kc2 20039 30039 rfl <| ka 38 rfl <| ka 37 rfl <| Kc 36 (.ali _) rfl <| ko 9 rfl <| kc4 33 8 7 6 rfl <| kc3 4 3 0 rfl <| Kn) rfl ?_
  refine st (OpT.extractV (m := 20039) (H rfl) rfl rfl rfl rfl rfl rfl rfl) rfl ?_
  refine st (OpT.extractV (m := 30039) (H rfl) rfl rfl rfl rfl rfl rfl rfl) rfl ?_
  refine sg (OpT.take (.inl rfl) rfl (ok' rfl) (Root.self (by decide)) rfl rfl (by decide)) (ko 10 rfl <| kc2 42 41 rfl <| Kc 35 (.ali _) rfl <| kc2 20039 30039 rfl <| ka 38 rfl <| ka 37 rfl <| Kc 36 (.ali _) rfl <| ko 9 rfl <| kc4 33 8 7 6 rfl <| kc3 4 3 0 rfl <| Kn) rfl ?_
  refine st (asT rfl) rfl ?_
  refine st (asT rfl) rfl ?_
  refine ng ?_
  refine AW.seq ?_
  refine sr ?_
  refine st (OpT.alias (H rfl) (by decide) (by decide)) rfl ?_
  refine st (mvT rfl) rfl ?_
  refine st (cb1 (ms := [.bor 10, .flat]) (c_laws_eqInt64S _ _) (H rfl) (Ab (Root.ali rfl (by decide) (by decide)) rfl <| Af (T1 rfl) rfl rfl <| An) rfl (indC fun _ _ _ _ h => h)) rfl ?_
  refine st (OpT.not (H rfl) (T1 rfl)) rfl ?_
  refine st (mvT rfl) rfl ?_
  apply AWl.or (d := 51) (t := 47) rfl
  ·
   intro hb1 Q1 k1
   refine rs hb1 (mvT rfl) rfl ?_
   refine rs hb1 (mvT rfl) rfl ?_
   refine rs hb1 (OpT.neq (H rfl) (T1 rfl) (T1 rfl)) rfl ?_
   refine st (OpT.pickF (A := .cel _ _) (H rfl) (T1 rfl) hb1 (T1 rfl) rfl) rfl ?_
   exact AWl.to (junk 3 rfl) k1
  ·
   intro hb1 Q1 k1
   refine ps hb1 rfl ?_
   refine ps hb1 rfl ?_
   refine ps hb1 rfl ?_
   refine st (OpT.pickT (A := .cel _ _) (H rfl) (T1 rfl) hb1 Opd.bool rfl) rfl ?_
   exact k1
  refine st (mvT rfl) rfl ?_
  apply AWl.or (d := 56) (t := 52) rfl
  ·
   intro hb2 Q1 k1
   refine rs hb2 (mvT rfl) rfl ?_
   refine rs hb2 (mvT rfl) rfl ?_
   refine rs hb2 (OpT.neq (H rfl) (T1 rfl) (T1 rfl)) rfl ?_
   refine st (OpT.pickF (A := .cel _ _) (H rfl) (T1 rfl) hb2 (T1 rfl) rfl) rfl ?_
   exact AWl.to (junk 3 rfl) k1
  ·
   intro hb2 Q1 k1
   refine ps hb2 rfl ?_
   refine ps hb2 rfl ?_
   refine ps hb2 rfl ?_
   refine st (OpT.pickT (A := .cel _ _) (H rfl) (T1 rfl) hb2 Opd.bool rfl) rfl ?_
   exact k1
  refine AWl.to (kc3 56 12 11 rfl <| ko 10 rfl <| ko 9 rfl <| kc4 8 7 6 4 rfl <| kc2 3 0 rfl <| Kn) ?_
  refine ng ?_
  refine cd rfl (fun hc2 => ?_) fun hc2 => ?_
  ·
   replace hc2 := oT hc2
   exact (show False from (by first | omega | (simp [eqv_self] at hc2 <;> omega))).elim
  ·
   replace hc2 := oF hc2
   refine AW.skip ?_
   refine AX.go ?_
   refine AW.seq ?_
   refine sr ?_
   refine st (OpT.alias (H rfl) (by decide) (by decide)) rfl ?_
   refine st (mvT rfl) rfl ?_
   refine st (OpT.c1 (ms := [.flat]) (c_laws_toCardS x (by omega)) (H rfl) (Af (T1 rfl) rfl rfl <| An) rfl rfl) rfl ?_
   refine st (cb1 (ms := [.bor 9, .flat]) (c_laws_eqCardS _ _) (H rfl) (Ab (Root.ali rfl (by decide) (by decide)) rfl <| Af (T1 rfl) rfl rfl <| An) rfl (indC fun _ _ _ _ h => h)) rfl ?_
   refine st (OpT.not (H rfl) (T1 rfl)) rfl ?_
   refine ng ?_
   refine cd rfl (fun hc3 => ?_) fun hc3 => ?_
   ·
    replace hc3 := oT hc3
    exact (show False from (by first | omega | (simp [eqv_self] at hc3 <;> omega))).elim
   ·
    replace hc3 := oF hc3
    refine AW.skip ?_
    refine AX.go ?_
    refine sr ?_
    refine st (asI rfl) rfl ?_
    refine ng ?_
    refine sr ?_
    refine st (OpT.alias (H rfl) (by decide) (by decide)) rfl ?_
    refine st (mvT rfl) rfl ?_
    refine sg (OpT.crn (ms := [.root 9, .flat]) (c_laws_markCardS _ _ (by omega)) (H rfl) (Ar (O := .any) (Root.ali rfl (by decide) (by decide)) rfl rfl rfl <| Af (T1 rfl) rfl rfl <| An) rfl rfl (.inl rfl) rfl) (kc2 64 63 rfl <| Kc 62 (.ali _) rfl <| kc4 13 61 60 59 rfl <| kc 58 rfl <| Kc 57 (.ali _) rfl <| kc3 56 12 11 rfl <| ko 10 rfl <| kc4 8 7 6 4 rfl <| kc2 3 0 rfl <| Kn) rfl ?_
    refine st (asT rfl) rfl ?_
    refine ng ?_
    refine AW.seq ?_
    refine sr ?_
    refine st (mvT rfl) rfl ?_
    refine st (OpT.lss (H rfl) (T1 rfl) (I rfl)) rfl ?_
    refine st (mvT rfl) rfl ?_
    apply AWl.or (d := 72) (t := 67) rfl
    ·
     intro hb3 Q1 k1
     refine rs hb3 (OpT.alias (H rfl) (by decide) (by decide)) rfl ?_
     refine rs hb3 (mvT rfl) rfl ?_
     refine rs hb3 (cb1 (ms := [.bor 10, .flat]) (c_laws_eqInt64S _ _) (H rfl) (Ab (Root.ali rfl (by decide) (by decide)) rfl <| Af (T1 rfl) rfl rfl <| An) rfl (indC fun _ _ _ _ h => h)) rfl ?_
     refine rs hb3 (OpT.not (H rfl) (T1 rfl)) rfl ?_
     refine st (OpT.pickF (A := .cel _ _) (H rfl) (T1 rfl) hb3 (T1 rfl) rfl) rfl ?_
     exact AWl.to (junk 4 rfl) k1
    ·
     intro hb3 Q1 k1
     refine ps hb3 rfl ?_
     refine ps hb3 rfl ?_
     refine ps hb3 rfl ?_
     refine ps hb3 rfl ?_
     refine st (OpT.pickT (A := .cel _ _) (H rfl) (T1 rfl) hb3 Opd.bool rfl) rfl ?_
     exact k1
    refine st (mvT rfl) rfl ?_
    apply AWl.or (d := 77) (t := 73) rfl
    ·
     intro hb4 Q1 k1
     refine rs hb4 (mvT rfl) rfl ?_
     refine rs hb4 (mvT rfl) rfl ?_
     refine rs hb4 (OpT.neq (H rfl) (T1 rfl) (T1 rfl)) rfl ?_
     refine st (OpT.pickF (A := .cel _ _) (H rfl) (T1 rfl) hb4 (T1 rfl) rfl) rfl ?_
     exact AWl.to (junk 3 rfl) k1
    ·
     intro hb4 Q1 k1
     refine ps hb4 rfl ?_
     refine ps hb4 rfl ?_
     refine ps hb4 rfl ?_
     refine st (OpT.pickT (A := .cel _ _) (H rfl) (T1 rfl) hb4 Opd.bool rfl) rfl ?_
     exact k1
    refine st (mvT rfl) rfl ?_
    apply AWl.or (d := 82) (t := 78) rfl
    ·
     intro hb5 Q1 k1
     refine rs hb5 (mvT rfl) rfl ?_
     refine rs hb5 (mvT rfl) rfl ?_
     refine rs hb5 (OpT.neq (H rfl) (T1 rfl) (T1 rfl)) rfl ?_
     refine st (OpT.pickF (A := .cel _ _) (H rfl) (T1 rfl) hb5 (T1 rfl) rfl) rfl ?_
     exact AWl.to (junk 3 rfl) k1
    ·
     intro hb5 Q1 k1
     refine ps hb5 rfl ?_
     refine ps hb5 rfl ?_
     refine ps hb5 rfl ?_
     refine st (OpT.pickT (A := .cel _ _) (H rfl) (T1 rfl) hb5 Opd.bool rfl) rfl ?_
     exact k1
    refine AWl.to (kc 82 rfl <| ko 10 rfl <| kc4 8 7 6 4 rfl <| kc2 3 0 rfl <| Kn) ?_
    refine ng ?_
    refine cd rfl (fun hc4 => ?_) fun hc4 => ?_
    ·
     replace hc4 := oT hc4
     exact (show False from (by first | omega | (simp [eqv_self] at hc4 <;> omega))).elim
    ·
     replace hc4 := oF hc4
     refine AW.skip ?_
     refine AX.go ?_
     refine sr ?_
     refine st (asI rfl) rfl ?_
     refine ng ?_
     refine sr ?_
     refine st (OpT.alias (H rfl) (by decide) (by decide)) rfl ?_
     refine st (mvT rfl) rfl ?_
     refine sg (OpT.cr (ms := [.root 10, .flat]) (c_laws_markInt64S _ _ (by omega)) (H rfl) (Ar (Root.ali rfl (by decide) (by decide)) rfl rfl rfl <| Af (T1 rfl) rfl rfl <| An) rfl (.inl rfl) rfl) (kc2 85 84 rfl <| Kc 83 (.ali _) rfl <| kc2 14 82 rfl <| ko 10 rfl <| kc4 8 7 6 4 rfl <| kc2 3 0 rfl <| Kn) rfl ?_
     refine st (asT rfl) rfl ?_
     refine ng ?_
     refine sr ?_
     refine st (asI rfl) rfl ?_
     refine ng ?_
     refine sr ?_
     refine st (OpT.alias (H rfl) (by decide) (by decide)) rfl ?_
     refine st (mvT rfl) rfl ?_
     refine st (cb1 (ms := [.bor 10, .flat]) (c_laws_heldInt64S (neaS x m).1.length _ (by omega)) (H rfl) (Ab (Root.ali rfl (by decide) (by decide)) rfl <| Af (T1 rfl) rfl rfl <| An) rfl (indC fun _ _ _ _ h => h)) rfl ?_
     refine st (asT rfl) rfl ?_
     refine ng ?_
     refine AW.seq ?_
     refine sr ?_
     refine st (mvT rfl) rfl ?_
     refine st (OpT.lss (H rfl) (T1 rfl) (I rfl)) rfl ?_
     refine ng ?_
     refine cd rfl (fun hc5 => ?_) fun hc5 => ?_
     ·
      replace hc5 := oT hc5
      exact (show False from (by first | omega | (simp [eqv_self] at hc5 <;> omega))).elim
     ·
      replace hc5 := oF hc5
      refine AW.skip ?_
      refine AX.pr (kc2 15 14 rfl <| ko 10 rfl <| kc4 8 7 6 4 rfl <| kc2 3 0 rfl <| Kn) ?_
      refine AX.go ?_
      refine AW.seq ?_
      refine sr ?_
      refine st (mvT rfl) rfl ?_
      refine st (mvT rfl) rfl ?_
      refine st (OpT.neq (H rfl) (T1 rfl) (T1 rfl)) rfl ?_
      refine ng ?_
      refine cd rfl (fun hc6 => ?_) fun hc6 => ?_
      ·
       replace hc6 := oT hc6
       exact (show False from (by first | omega | (simp [eqv_self] at hc6 <;> omega))).elim
      ·
       replace hc6 := oF hc6
       refine AW.skip ?_
       refine AX.pr (kc2 15 14 rfl <| ko 10 rfl <| kc4 8 7 6 4 rfl <| kc2 3 0 rfl <| Kn) ?_
       refine AX.go ?_
       refine AW.seq ?_
       refine dh fomo ?_
       refine d1 [0] (fun ve h => OpT.move (A := .cel _ _) (.inl rfl) rfl (ok' rfl) (D1 h rfl) rfl) rfl ?_
       refine d1 [95] (fun ve h => OpT.c1 (ms := [.flat]) (c_laws_toCardS x (by omega)) (H rfl) (Af (D1 h rfl) rfl rfl <| An) rfl rfl) rfl ?_
       refine d1 [3] (fun ve h => OpT.loadA (H rfl) (D1 h rfl) ag23 sz23) rfl ?_
       refine d1 [97] (fun ve h => OpT.c1 (ms := [.flat]) (c_laws_toMask _) (H rfl) (Af (D1 h rfl) rfl rfl <| An) rfl rfl) rfl ?_
       refine d3 [96, 98] (fun ve h => cN (ms := [.flat, .flat]) (c_impl_NearestCards _ _) (H rfl) (Af (D1 h rfl) rfl rfl <| Af (D1 h rfl) rfl rfl <| An) rfl (.inl rfl)) rfl ?_
       refine d1 [] (fun ve h => OpT.alias (H rfl) (by decide) (by decide)) rfl ?_
       refine d1 [94, 10099] (fun ve h => OpT.extractV (m := 10099) (H rfl) ((h _ (List.elem_iff.1 rfl)).trans rfl) rfl rfl rfl ((h _ (List.elem_iff.1 rfl)).trans rfl) rfl rfl) rfl ?_
       refine d1 [94, 20099] (fun ve h => OpT.extractV (m := 20099) (H rfl) ((h _ (List.elem_iff.1 rfl)).trans rfl) rfl rfl rfl ((h _ (List.elem_iff.1 rfl)).trans rfl) rfl rfl) rfl ?_
       refine d1 [94, 30099] (fun ve h => OpT.extractV (m := 30099) (H rfl) ((h _ (List.elem_iff.1 rfl)).trans rfl) rfl rfl rfl ((h _ (List.elem_iff.1 rfl)).trans rfl) rfl rfl) rfl ?_
       refine d1 [100] (fun ve h => OpT.move (A := .cel _ _) (.inr rfl) rfl (ok' rfl) (D1 h rfl) rfl) rfl ?_
       refine d1 [101] (fun ve h => OpT.move (A := .cel _ _) (.inr rfl) rfl (ok' rfl) (D1 h rfl) rfl) rfl ?_
       refine d1 [102] (fun ve h => OpT.move (A := .cel _ _) (.inr rfl) rfl (ok' rfl) (D1 h rfl) rfl) rfl ?_
       refine dn ⟨by kernel_rfl, by kernel_rfl, ?_⟩
       refine AX.pr (kc4 18 17 16 15 rfl <| kc 14 rfl <| ko 10 rfl <| kc4 8 7 6 4 rfl <| Kn) ?_
       refine AX.go ?_
       refine AW.seq ?_
       refine sr ?_
       refine st (mvT rfl) rfl ?_
       refine st (mvT rfl) rfl ?_
       refine st (OpT.c1 (ms := [.flat, .flat]) (c_laws_eqInt64S _ _) (H rfl) (Af (T1 rfl) rfl rfl <| Af (T1 rfl) rfl rfl <| An) rfl rfl) rfl ?_
       refine st (OpT.not (H rfl) (T1 rfl)) rfl ?_
       refine st (mvT rfl) rfl ?_
       apply AWl.or (d := 111) (t := 107) rfl
       ·
        intro hb6 Q1 k1
        refine rs hb6 (mvT rfl) rfl ?_
        refine rs hb6 (mvT rfl) rfl ?_
        refine rs hb6 (OpT.neq (H rfl) (T1 rfl) (T1 rfl)) rfl ?_
        refine st (OpT.pickF (A := .cel _ _) (H rfl) (T1 rfl) hb6 (T1 rfl) rfl) rfl ?_
        exact AWl.to (junk 3 rfl) k1
       ·
        intro hb6 Q1 k1
        refine ps hb6 rfl ?_
        refine ps hb6 rfl ?_
        refine ps hb6 rfl ?_
        refine st (OpT.pickT (A := .cel _ _) (H rfl) (T1 rfl) hb6 Opd.bool rfl) rfl ?_
        exact k1
       refine st (mvT rfl) rfl ?_
       apply AWl.or (d := 116) (t := 112) rfl
       ·
        intro hb7 Q1 k1
        refine rs hb7 (mvT rfl) rfl ?_
        refine rs hb7 (mvT rfl) rfl ?_
        refine rs hb7 (OpT.neq (H rfl) (T1 rfl) (T1 rfl)) rfl ?_
        refine st (OpT.pickF (A := .cel _ _) (H rfl) (T1 rfl) hb7 (T1 rfl) rfl) rfl ?_
        exact AWl.to (junk 3 rfl) k1
       ·
        intro hb7 Q1 k1
        refine ps hb7 rfl ?_
        refine ps hb7 rfl ?_
        refine ps hb7 rfl ?_
        refine st (OpT.pickT (A := .cel _ _) (H rfl) (T1 rfl) hb7 Opd.bool rfl) rfl ?_
        exact k1
       refine AWl.to (kc3 116 15 14 rfl <| ko 10 rfl <| kc 4 rfl <| Kn) ?_
       refine ng ?_
       refine cd rfl (fun hc7 => ?_) fun hc7 => ?_
       ·
        replace hc7 := oT hc7
        exact (show False from (by first | omega | (simp [eqv_self] at hc7 <;> omega))).elim
       ·
        replace hc7 := oF hc7
        refine AW.skip ?_
        refine AX.go ?_
        refine sr ?_
        refine st (asI rfl) rfl ?_
        refine ng ?_
        refine sr ?_
        refine st (OpT.alias (H rfl) (by decide) (by decide)) rfl ?_
        refine st (mvT rfl) rfl ?_
        refine st (cb1 (ms := [.bor 10, .flat]) (c_laws_heldInt64S (neaS x m).1.length _ (by omega)) (H rfl) (Ab (Root.ali rfl (by decide) (by decide)) rfl <| Af (T1 rfl) rfl rfl <| An) rfl (indC fun _ _ _ _ h => h)) rfl ?_
        refine st (asT rfl) rfl ?_
        refine ng ?_
        refine AW.seq ?_
        refine sr ?_
        refine st (mvT rfl) rfl ?_
        refine st (OpT.lss (H rfl) (T1 rfl) (I rfl)) rfl ?_
        refine ng ?_
        refine cd rfl (fun hc8 => ?_) fun hc8 => ?_
        ·
         replace hc8 := oT hc8
         exact (show False from (by first | omega | (simp [eqv_self] at hc8 <;> omega))).elim
        ·
         replace hc8 := oF hc8
         refine AW.skip ?_
         refine AX.go ?_
         refine AW.seq ?_
         refine sr ?_
         refine st (mvT rfl) rfl ?_
         refine st (mvT rfl) rfl ?_
         refine st (OpT.neq (H rfl) (T1 rfl) (T1 rfl)) rfl ?_
         refine AWl.to (kc2 124 4 rfl <| Kn) ?_
         refine ng ?_
         refine cd rfl (fun hc9 => ?_) fun hc9 => ?_
         ·
          replace hc9 := oT hc9
          exact (show False from (by first | omega | (simp [eqv_self] at hc9 <;> omega))).elim
         ·
          replace hc9 := oF hc9
          refine AW.skip ?_
          refine AX.go ?_
          refine sr ?_
          refine st (asB rfl) rfl ?_
          refine ng ?_
          refine AW.ret ?_
          exact rt1 rfl (.inl rfl) rfl
end Go.Proofs.YtcaeabgfgofefaaDoor.VL
