/- Proved here: what some functions of the program take and give: walks with the words of VA..VQ. Printed by program. -/
import Derived.Test.YtohcpnobmknglaaDoorWT
import Derived.Test.YtohcpnobmknglaaDoorBpa
import Derived.Test.YtohcpnobmknglaaDoorWL
import Derived.Test.YtohcpnobmknglaaDoorWB
set_option linter.unusedVariables false
set_option linter.unusedSimpArgs false
set_option maxRecDepth 4000
namespace Go.Proofs.YtohcpnobmknglaaDoor.VL
open Go
/-- spec.l00Min -/
theorem c_spec_l00Min (x y : Int) : AC Tryd.prog 68 [.cel (Kd.int .i64) x, .cel (Kd.int .i64) y] [.cel (Kd.int .i64) (min x y)] [] := by
 refine acI (N := 10) Tryd.func68 (Nat.le_of_ble_eq_true rfl) rfl fun w0 hd s0 ar => ?_
 refine AW.to (kc2 0 1 rfl <| Kn) ?_
 refine sr ?_
 refine st (asI rfl) rfl ?_
 refine ng ?_
 refine AW.seq ?_
 refine sr ?_
 refine st (mvT rfl) rfl ?_
 refine st (mvT rfl) rfl ?_
 refine st (OpT.lss (H rfl) (T1 rfl) (T1 rfl)) rfl ?_
 refine ng ?_
 refine cd rfl (fun hc1 => ?_) fun hc1 => ?_
 ·
  obtain ⟨hc1, hc1'⟩ := pT hc1
  refine sr ?_
  refine st (mvT rfl) rfl ?_
  refine st (asT rfl) rfl ?_
  refine ng ?_
  refine AW.ret ?_
  refine rT ?_
  exact rt1 rfl (.inl rfl) (by omega)
 ·
  obtain ⟨hc1, hc1'⟩ := pF hc1
  refine AW.skip ?_
  refine AX.go ?_
  refine sr ?_
  refine st (mvT rfl) rfl ?_
  refine st (asT rfl) rfl ?_
  refine ng ?_
  refine AW.ret ?_
  exact rt1 rfl (.inl rfl) (by omega)

set_option maxHeartbeats 4000000 in
/-- spec.NearestCards -/
theorem c_spec_NearestCards (x : List DCard) (m : DMask) : AC Tryd.prog 15 [.cel (Kd.slice kCard) x, .agg kMask m] [.cel (Kd.slice (Kd.int .i64)) (neaS x m).1, .cel (Kd.int .i64) (neaS x m).2.1, .cel (Kd.int .i64) (neaS x m).2.2] [] := by
 refine acI (N := 67) Tryd.func15 (Nat.le_of_ble_eq_true rfl) rfl fun w0 hd s0 ar => ?_
 refine AW.to (kc 0 rfl <| ka 1 rfl <| Kn) ?_
 refine AW.fact (fun a w hr => (ok_slice (R_ok (t := 0) rfl hr)).2) (fun hl0 => ?_)
 refine sr ?_
 refine st (OpT.frz (OpT.boxA (E := 30) (H rfl) (T1 rfl))) rfl ?_
 refine st (nilO (E := 2) (Kd.int .i64) rfl (.inl rfl)) rfl ?_
 refine st (asI rfl) rfl ?_
 refine st (asI rfl) rfl ?_
 refine ng ?_
 refine AW.seq ?_
 refine sr ?_
 refine st (mvT rfl) rfl ?_
 refine st (OpT.c1 (ms := [.flat]) (c_spec_l02Ok _) (H rfl) (Af (T1 rfl) rfl rfl <| An) rfl rfl) rfl ?_
 refine st (OpT.not (H rfl) (T1 rfl)) rfl ?_
 refine st (mvT rfl) rfl ?_
 apply AWl.or (d := 18) (t := 14) rfl
 ·
  intro hb1 Q1 k1
  have hb1' := lF hb1
  refine rs hb1 (OpT.loadA (H rfl) (T1 rfl) ag30 sz30) rfl ?_
  refine rs hb1 (OpT.c1 (ms := [.flat]) (c_spec_l01Mask _) (H rfl) (Af (T1 rfl) rfl rfl <| An) rfl rfl) rfl ?_
  refine rs hb1 (OpT.not (H rfl) (T1 rfl)) rfl ?_
  refine st (OpT.pickF (A := .cel _ _) (H rfl) (T1 rfl) hb1 (T1 rfl) rfl) rfl ?_
  exact AWl.to (junk 3 rfl) k1
 ·
  intro hb1 Q1 k1
  refine ps hb1 rfl ?_
  refine ps hb1 rfl ?_
  refine ps hb1 rfl ?_
  refine st (OpT.pickT (A := .cel _ _) (H rfl) (T1 rfl) hb1 Opd.bool rfl) rfl ?_
  exact k1
 refine ng ?_
 refine cd rfl (fun hc1 => ?_) fun hc1 => ?_
 ·
  obtain ⟨hc1, hc1'⟩ := pT hc1
  refine sr ?_
  refine st (OpT.buildSlice0 (m := 0) (z := .bool false) (Kd.int .i64) (H rfl) el34 sz2 (by decide)) rfl ?_
  refine sg (OpT.take (.inl rfl) rfl (ok' rfl) (Root.self (by decide)) rfl rfl (by decide)) (ko 4 rfl <| kc4 18 14 13 12 rfl <| kc4 11 6 5 3 rfl <| kc 0 rfl <| ka 1 rfl <| Kn) rfl ?_
  refine st (asI rfl) rfl ?_
  refine st (asI rfl) rfl ?_
  refine ng ?_
  refine AW.ret ?_
  refine rT ?_
  refine AX.freeze (t := 4) rfl ?_
  refine AX.pr (kc4 6 5 4 18 rfl <| kc4 14 13 12 11 rfl <| kc4 6 5 3 0 rfl <| ka 1 rfl <| Kn) ?_
  exact AX.rt (rs := [.tmp 4, .tmp 5, .tmp 6]) (ts := [some 4, some 5, some 6]) (.inl rfl) rfl (ROs.cons (RO.tmp (At.self (by decide)) (Kv rfl (by first | (rw [neaS_bad hc1]; done) | (rw [neaS_none hc1 (by omega)]; done) | (rw [neaS_yes hc1 (by omega)]; first | done | rw [show y = x.length by omega]))) rfl) <| ROs.cons (RO.tmp (At.self (by decide)) (Kv rfl (by first | (rw [neaS_bad hc1]; done) | (rw [neaS_none hc1 (by omega)]; done) | (rw [neaS_yes hc1 (by omega)]; first | done | rw [show y = x.length by omega]))) rfl) <| ROs.cons (RO.tmp (At.self (by decide)) (Kv rfl (by first | (rw [neaS_bad hc1]; done) | (rw [neaS_none hc1 (by omega)]; done) | (rw [neaS_yes hc1 (by omega)]; first | done | rw [show y = x.length by omega]))) rfl) <| ROs.nil) (by decide) OutsOK.nil
 ·
  obtain ⟨hc1, hc1'⟩ := pF hc1
  have hxl := deck_bad hc1
  refine AW.skip ?_
  refine AX.go ?_
  refine AW.seq ?_
  refine sr ?_
  refine st (mvT rfl) rfl ?_
  refine st (OpT.len (H rfl) (T1 rfl) el26) rfl ?_
  refine st (OpT.eql (H rfl) (T1 rfl) (I rfl)) rfl ?_
  refine ng ?_
  refine cd rfl (fun hc2 => ?_) fun hc2 => ?_
  ·
   obtain ⟨hc2, hc2'⟩ := pT hc2
   refine sr ?_
   refine st (OpT.buildSlice0 (m := 0) (z := .bool false) (Kd.int .i64) (H rfl) el34 sz2 (by decide)) rfl ?_
   refine sg (OpT.take (.inl rfl) rfl (ok' rfl) (Root.self (by decide)) rfl rfl (by decide)) (ko 4 rfl <| kc4 22 21 20 18 rfl <| kc4 14 13 12 11 rfl <| kc4 6 5 3 0 rfl <| ka 1 rfl <| Kn) rfl ?_
   refine st (asI rfl) rfl ?_
   refine st (asI rfl) rfl ?_
   refine AWl.to (kc2 6 5 rfl <| ko 4 rfl <| kc2 3 0 rfl <| Kn) ?_
   refine ng ?_
   refine AW.ret ?_
   refine rT ?_
   refine AX.freeze (t := 4) rfl ?_
   refine AX.pr (kc4 6 5 4 3 rfl <| kc 0 rfl <| Kn) ?_
   exact AX.rt (rs := [.tmp 4, .tmp 5, .tmp 6]) (ts := [some 4, some 5, some 6]) (.inl rfl) rfl (ROs.cons (RO.tmp (At.self (by decide)) (Kv rfl (by first | (rw [neaS_bad hc1]; done) | (rw [neaS_none hc1 (by omega)]; done) | (rw [neaS_yes hc1 (by omega)]; first | done | rw [show y = x.length by omega]))) rfl) <| ROs.cons (RO.tmp (At.self (by decide)) (Kv rfl (by first | (rw [neaS_bad hc1]; done) | (rw [neaS_none hc1 (by omega)]; done) | (rw [neaS_yes hc1 (by omega)]; first | done | rw [show y = x.length by omega]))) rfl) <| ROs.cons (RO.tmp (At.self (by decide)) (Kv rfl (by first | (rw [neaS_bad hc1]; done) | (rw [neaS_none hc1 (by omega)]; done) | (rw [neaS_yes hc1 (by omega)]; first | done | rw [show y = x.length by omega]))) rfl) <| ROs.nil) (by decide) OutsOK.nil
  ·
   obtain ⟨hc2, hc2'⟩ := pF hc2
   obtain ⟨e0, he0⟩ : ∃ e, x[Int.toNat 0]? = some e := getI (x := x) (z := 0) (by omega)
   refine AW.skip ?_
   refine AX.pr (kc2 6 5 rfl <| ko 4 rfl <| kc2 3 0 rfl <| Kn) ?_
   refine AX.go ?_
   refine AW.seq ?_
   refine dh fomo ?_
   refine d1 [0] (fun ve h => OpT.move (A := .cel _ _) (.inl rfl) rfl (ok' rfl) (D1 h rfl) rfl) rfl ?_
   refine d1 [24] (fun ve h => OpT.indexAddr (H rfl) (D1 h rfl) (I rfl) el26 sz42 (by omega) (by assumption)) rfl ?_
   refine d1 [25] (fun ve h => OpT.fieldAddr (H rfl) (D1 h rfl) fd42_1 sz30 (by decide) sb42_1) rfl ?_
   refine d1 [26] (fun ve h => OpT.loadA (H rfl) (D1 h rfl) ag30 sz30) rfl ?_
   refine d1 [3] (fun ve h => OpT.loadA (H rfl) (D1 h rfl) ag30 sz30) rfl ?_
   refine d1 [27, 28] (fun ve h => OpT.c1 (ms := [.flat, .flat]) (c_spec_l07Far _ _) (H rfl) (Af (D1 h rfl) rfl rfl <| Af (D1 h rfl) rfl rfl <| An) rfl rfl) rfl ?_
   refine d1 [29] (fun ve h => OpT.move (A := .cel _ _) (.inr rfl) rfl (ok' rfl) (D1 h rfl) rfl) rfl ?_
   refine dn ⟨by kernel_rfl, by kernel_rfl, ?_⟩
   refine AX.go ?_
   refine AW.seq ?_
   refine sr ?_
   refine st (asI rfl) rfl ?_
   refine ng ?_
   refine AW.block ?_
   refine AW.loop (fun z : Nat => 1 ≤ z ∧ z ≤ x.length) (fun z : Nat => keep [(0, .cel (Kd.slice kCard) x), (3, .cel (Kd.ptr kMask) m), (7, .cel (Kd.int .i64) (mnD m x z)), (8, .cel (Kd.int .i64) (z : Int))]) (fun z : Nat => x.length - z) (1) ⟨Nat.le_refl _, by omega⟩ (Kc 0 _ (Kv rfl rfl) <| Kc 3 _ (Kv rfl rfl) <| Kc 7 _ (Kv rfl (mnD_one he0)) <| Kc 8 _ (Kv rfl rfl) <| Kn) ?_
   intro z hI
   refine AW.seq ?_
   refine sr ?_
   refine st (mvT rfl) rfl ?_
   refine st (mvT rfl) rfl ?_
   refine st (OpT.len (H rfl) (T1 rfl) el26) rfl ?_
   refine st (OpT.lss (H rfl) (T1 rfl) (T1 rfl)) rfl ?_
   refine ng ?_
   refine cd rfl (fun hc3 => ?_) fun hc3 => ?_
   ·
    obtain ⟨hc3, hc3'⟩ := pT hc3
    obtain ⟨e, he⟩ := getI (x := x) (z := z) (by omega)
    refine AW.skip ?_
    refine AX.go ?_
    refine AW.seq ?_
    refine AW.block ?_
    refine dh fomo ?_
    refine d1 [7] (fun ve h => OpT.move (A := .cel _ _) (.inl rfl) rfl (ok' rfl) (D1 h rfl) rfl) rfl ?_
    refine d1 [0] (fun ve h => OpT.move (A := .cel _ _) (.inl rfl) rfl (ok' rfl) (D1 h rfl) rfl) rfl ?_
    refine d1 [8] (fun ve h => OpT.move (A := .cel _ _) (.inl rfl) rfl (ok' rfl) (D1 h rfl) rfl) rfl ?_
    refine d1 [37, 38] (fun ve h => OpT.indexAddr (H rfl) (D1 h rfl) (D1 h rfl) el26 sz42 (by omega) (by assumption)) rfl ?_
    refine d1 [39] (fun ve h => OpT.fieldAddr (H rfl) (D1 h rfl) fd42_1 sz30 (by decide) sb42_1) rfl ?_
    refine d1 [40] (fun ve h => OpT.loadA (H rfl) (D1 h rfl) ag30 sz30) rfl ?_
    refine d1 [3] (fun ve h => OpT.loadA (H rfl) (D1 h rfl) ag30 sz30) rfl ?_
    refine d1 [41, 42] (fun ve h => OpT.c1 (ms := [.flat, .flat]) (c_spec_l07Far _ _) (H rfl) (Af (D1 h rfl) rfl rfl <| Af (D1 h rfl) rfl rfl <| An) rfl rfl) rfl ?_
    refine d1 [36, 43] (fun ve h => OpT.c1 (ms := [.flat, .flat]) (c_spec_l00Min _ _) (H rfl) (Af (D1 h rfl) rfl rfl <| Af (D1 h rfl) rfl rfl <| An) rfl rfl) rfl ?_
    refine d1 [44] (fun ve h => OpT.move (A := .cel _ _) (.inr rfl) rfl (ok' rfl) (D1 h rfl) rfl) rfl ?_
    refine dn ⟨by kernel_rfl, by kernel_rfl, ?_⟩
    refine AX.normal_block ?_
    refine AX.go ?_
    refine AW.region ?_
    refine st (mvT rfl) rfl ?_
    refine st (OpT.add (H rfl) (T1 rfl) (I rfl) (nw (by omega))) rfl ?_
    refine st (asT rfl) rfl ?_
    refine nn ?_
    exact AX.again (z + 1) (by omega) (by omega) (Kc 0 _ (Kv rfl rfl) <| Kc 3 _ (Kv rfl rfl) <| Kc 7 _ (Kv rfl (mnD_min (by omega) (by omega) he)) <| Kc 8 _ (Kv rfl (by omega)) <| Kn)
   ·
    obtain ⟨hc3, hc3'⟩ := pF hc3
    refine AW.exit ?_
    refine xT <| xT <| AX.exit_hit ?_
    refine AX.go ?_
    refine sr ?_
    refine st (OpT.buildSlice0 (m := 0) (z := .bool false) (Kd.int .i64) (H rfl) el34 sz2 (by decide)) rfl ?_
    refine sg (OpT.take (.inl rfl) rfl (ok' rfl) (Root.self (by decide)) rfl rfl (by decide)) (ko 9 rfl <| kc4 33 32 31 30 rfl <| kc4 0 3 7 8 rfl <| Kn) rfl ?_
    refine ng ?_
    refine AW.seq ?_
    refine sr ?_
    refine st (asI rfl) rfl ?_
    refine ng ?_
    refine AW.block ?_
    obtain rfl : z = x.length := by omega
    refine AW.loop (fun y : Nat => y ≤ x.length) (fun y : Nat => keep [(0, .cel (Kd.slice kCard) x), (3, .cel (Kd.ptr kMask) m), (7, .cel (Kd.int .i64) (mnD m x x.length)), (9, .own 2 (Kd.int .i64) (nea m x (mnD m x x.length) y)), (10, .cel (Kd.int .i64) (y : Int))]) (fun y : Nat => x.length - y) (0) (Nat.zero_le _) (Kc 0 _ (Kv rfl rfl) <| Kc 3 _ (Kv rfl rfl) <| Kc 7 _ (Kv rfl rfl) <| Kc 9 _ (Ko rfl rfl) <| Kc 10 _ (Kv rfl rfl) <| Kn) ?_
    intro y hI
    refine AW.seq ?_
    refine sr ?_
    refine st (mvT rfl) rfl ?_
    refine st (mvT rfl) rfl ?_
    refine st (OpT.len (H rfl) (T1 rfl) el26) rfl ?_
    refine st (OpT.lss (H rfl) (T1 rfl) (T1 rfl)) rfl ?_
    refine ng ?_
    refine cd rfl (fun hc4 => ?_) fun hc4 => ?_
    ·
     obtain ⟨hc4, hc4'⟩ := pT hc4
     obtain ⟨e, he⟩ := getI (x := x) (z := y) (by omega)
     have hnl := nea_len (m := m) (x := x) (z := y) (mnD m x x.length)
     refine AW.skip ?_
     refine AX.go ?_
     refine AW.seq ?_
     refine AW.block ?_
     refine AW.seq ?_
     refine dh fomo ?_
     refine d1 [0] (fun ve h => OpT.move (A := .cel _ _) (.inl rfl) rfl (ok' rfl) (D1 h rfl) rfl) rfl ?_
     refine d1 [10] (fun ve h => OpT.move (A := .cel _ _) (.inl rfl) rfl (ok' rfl) (D1 h rfl) rfl) rfl ?_
     refine d1 [52, 53] (fun ve h => OpT.indexAddr (H rfl) (D1 h rfl) (D1 h rfl) el26 sz42 (by omega) (by assumption)) rfl ?_
     refine d1 [54] (fun ve h => OpT.fieldAddr (H rfl) (D1 h rfl) fd42_1 sz30 (by decide) sb42_1) rfl ?_
     refine d1 [55] (fun ve h => OpT.loadA (H rfl) (D1 h rfl) ag30 sz30) rfl ?_
     refine d1 [3] (fun ve h => OpT.loadA (H rfl) (D1 h rfl) ag30 sz30) rfl ?_
     refine d1 [56, 57] (fun ve h => OpT.c1 (ms := [.flat, .flat]) (c_spec_l07Far _ _) (H rfl) (Af (D1 h rfl) rfl rfl <| Af (D1 h rfl) rfl rfl <| An) rfl rfl) rfl ?_
     refine d1 [7] (fun ve h => OpT.move (A := .cel _ _) (.inl rfl) rfl (ok' rfl) (D1 h rfl) rfl) rfl ?_
     refine d1 [58, 59] (fun ve h => OpT.eql (H rfl) (D1 h rfl) (D1 h rfl)) rfl ?_
     refine dn ⟨by kernel_rfl, by kernel_rfl, ?_⟩
     refine AX.go ?_
     refine cd rfl (fun hc5 => ?_) fun hc5 => ?_
     ·
      obtain ⟨hc5, hc5'⟩ := pT hc5
      refine AW.region ?_
      refine st (OpT.alias (H rfl) (by decide) (by decide)) rfl ?_
      refine st (mvT rfl) rfl ?_
      refine st (OpT.buildSlice (H rfl) el34 zr2 sz2 rfl (by decide) zk2 (by decide) (Built.cel (T1 rfl) rfl rfl (sub_arr (by decide) (0 : Int)) (Built.nil _))) rfl ?_
      refine sg (OpT.append (H rfl) (Root.ali rfl (by decide) (by decide)) rfl (Src.own (Root.self (t := 63) (by decide)) rfl) (by decide) el34 zr2 rfl sz2 by2 (by decide) (by (try simp only [List.length_cons, List.length_nil, List.length_append, List.length_set, List.length_replicate, List.length_drop, List.length_take]); omega)) (ko 64 rfl <| ko 63 rfl <| kc4 62 60 59 58 rfl <| ka 57 rfl <| ka 56 rfl <| kc4 55 54 53 52 rfl <| kc4 49 48 47 46 rfl <| kc4 0 3 7 10 rfl <| Kn) rfl ?_
      refine sg (OpT.take (.inl rfl) rfl (ok' rfl) (Root.self (by decide)) rfl rfl (by decide)) (ko 9 rfl <| ko 63 rfl <| kc4 62 60 59 58 rfl <| ka 57 rfl <| ka 56 rfl <| kc4 55 54 53 52 rfl <| kc4 49 48 47 46 rfl <| kc4 0 3 7 10 rfl <| Kn) rfl ?_
      refine nn ?_
      refine AX.normal_block ?_
      refine AX.go ?_
      refine AW.region ?_
      refine st (mvT rfl) rfl ?_
      refine st (OpT.add (H rfl) (T1 rfl) (I rfl) (nw (by omega))) rfl ?_
      refine st (asT rfl) rfl ?_
      refine nn ?_
      exact AX.again (y + 1) (by omega) (by omega) (Kc 0 _ (Kv rfl rfl) <| Kc 3 _ (Kv rfl rfl) <| Kc 7 _ (Kv rfl rfl) <| Kc 9 _ (Ko rfl (by first | exact nea_yes he hc5' | exact nea_no he hc5')) <| Kc 10 _ (Kv rfl (by omega)) <| Kn)
     ·
      obtain ⟨hc5, hc5'⟩ := pF hc5
      refine AW.skip ?_
      refine AX.normal_block ?_
      refine AX.go ?_
      refine AW.region ?_
      refine st (mvT rfl) rfl ?_
      refine st (OpT.add (H rfl) (T1 rfl) (I rfl) (nw (by omega))) rfl ?_
      refine st (asT rfl) rfl ?_
      refine nn ?_
      exact AX.again (y + 1) (by omega) (by omega) (Kc 0 _ (Kv rfl rfl) <| Kc 3 _ (Kv rfl rfl) <| Kc 7 _ (Kv rfl rfl) <| Kc 9 _ (Ko rfl (by first | exact nea_yes he hc5' | exact nea_no he hc5')) <| Kc 10 _ (Kv rfl (by omega)) <| Kn)
    ·
     obtain ⟨hc4, hc4'⟩ := pF hc4
     refine AW.exit ?_
     refine xT <| xT <| AX.exit_hit ?_
     refine AX.go ?_
     refine sr ?_
     refine st (OpT.alias (H rfl) (by decide) (by decide)) rfl ?_
     refine st (mvT rfl) rfl ?_
     refine sg (OpT.take (.inl rfl) rfl (ok' rfl) (Root.ali rfl (by decide) (by decide)) rfl rfl (by decide)) (ko 4 rfl <| kc4 66 49 48 47 rfl <| kc4 46 0 3 7 rfl <| kc 10 rfl <| Kn) rfl ?_
     refine st (asT rfl) rfl ?_
     refine st (asI rfl) rfl ?_
     refine ng ?_
     refine AW.ret ?_
     refine AX.freeze (t := 4) rfl ?_
     refine AX.pr (kc4 6 5 4 66 rfl <| kc4 49 48 47 46 rfl <| kc4 0 3 7 10 rfl <| Kn) ?_
     exact AX.rt (rs := [.tmp 4, .tmp 5, .tmp 6]) (ts := [some 4, some 5, some 6]) (.inl rfl) rfl (ROs.cons (RO.tmp (At.self (by decide)) (Kv rfl (by first | (rw [neaS_bad hc1]; done) | (rw [neaS_none hc1 (by omega)]; done) | (rw [neaS_yes hc1 (by omega)]; first | done | rw [show y = x.length by omega]))) rfl) <| ROs.cons (RO.tmp (At.self (by decide)) (Kv rfl (by first | (rw [neaS_bad hc1]; done) | (rw [neaS_none hc1 (by omega)]; done) | (rw [neaS_yes hc1 (by omega)]; first | done | rw [show y = x.length by omega]))) rfl) <| ROs.cons (RO.tmp (At.self (by decide)) (Kv rfl (by first | (rw [neaS_bad hc1]; done) | (rw [neaS_none hc1 (by omega)]; done) | (rw [neaS_yes hc1 (by omega)]; first | done | rw [show y = x.length by omega]))) rfl) <| ROs.nil) (by decide) OutsOK.nil

set_option maxHeartbeats 4000000 in
/-- impl.NearestCards -/
theorem c_impl_NearestCards_o (x : List DCard) (m : DMask) : AC Tryd.prog 14 [.cel (Kd.slice kCard) x, .agg kMask m] [.own 2 (Kd.int .i64) (neaS x m).1, .cel (Kd.int .i64) (neaS x m).2.1, .cel (Kd.int .i64) (neaS x m).2.2] [] := by
 refine acI (N := 54) Tryd.func14 (Nat.le_of_ble_eq_true rfl) rfl fun w0 hd s0 ar => ?_
 refine AW.to (kc 0 rfl <| ka 1 rfl <| Kn) ?_
 refine AW.fact (fun a w hr => (ok_slice (R_ok (t := 0) rfl hr)).2) (fun hl0 => ?_)
 refine sr ?_
 refine st (OpT.frz (OpT.boxA (E := 30) (H rfl) (T1 rfl))) rfl ?_
 refine st (nilO (E := 2) (Kd.int .i64) rfl (.inl rfl)) rfl ?_
 refine st (asI rfl) rfl ?_
 refine st (asI rfl) rfl ?_
 refine ng ?_
 refine AW.seq ?_
 refine sr ?_
 refine st (mvT rfl) rfl ?_
 refine st (OpT.c1 (ms := [.flat]) (c_impl_isDeck _) (H rfl) (Af (T1 rfl) rfl rfl <| An) rfl rfl) rfl ?_
 refine st (OpT.not (H rfl) (T1 rfl)) rfl ?_
 refine st (mvT rfl) rfl ?_
 apply AWl.or (d := 19) (t := 15) rfl
 ·
  intro hb1 Q1 k1
  have hb1' := lF hb1
  refine rs hb1 (OpT.loadA (H rfl) (T1 rfl) ag30 sz30) rfl ?_
  refine rs hb1 (OpT.c1 (ms := [.flat]) (c_impl_isMask _) (H rfl) (Af (T1 rfl) rfl rfl <| An) rfl rfl) rfl ?_
  refine rs hb1 (OpT.not (H rfl) (T1 rfl)) rfl ?_
  refine st (OpT.pickF (A := .cel _ _) (H rfl) (T1 rfl) hb1 (T1 rfl) rfl) rfl ?_
  exact AWl.to (junk 3 rfl) k1
 ·
  intro hb1 Q1 k1
  refine ps hb1 rfl ?_
  refine ps hb1 rfl ?_
  refine ps hb1 rfl ?_
  refine st (OpT.pickT (A := .cel _ _) (H rfl) (T1 rfl) hb1 Opd.bool rfl) rfl ?_
  exact k1
 refine ng ?_
 refine cd rfl (fun hc1 => ?_) fun hc1 => ?_
 ·
  obtain ⟨hc1, hc1'⟩ := pT hc1
  refine sr ?_
  refine st (nilO (E := 2) (Kd.int .i64) rfl (.inl rfl)) rfl ?_
  refine st (asI rfl) rfl ?_
  refine st (asI rfl) rfl ?_
  refine ng ?_
  refine AW.ret ?_
  refine rT ?_
  exact AX.rt (rs := [.tmp 4, .tmp 5, .tmp 6]) (ts := [some 4, some 5, some 6]) (.inl rfl) rfl (ROs.cons (RO.tmp (At.self (by decide)) (Ko rfl (by first | (rw [neaS_bad hc1]; done) | (rw [neaS_none hc1 (by omega)]; done) | (rw [neaS_yes hc1 (by omega)]; first | done | rw [show z = x.length by omega]))) rfl) <| ROs.cons (RO.tmp (At.self (by decide)) (Kv rfl (by first | (rw [neaS_bad hc1]; done) | (rw [neaS_none hc1 (by omega)]; done) | (rw [neaS_yes hc1 (by omega)]; first | done | rw [show z = x.length by omega]))) rfl) <| ROs.cons (RO.tmp (At.self (by decide)) (Kv rfl (by first | (rw [neaS_bad hc1]; done) | (rw [neaS_none hc1 (by omega)]; done) | (rw [neaS_yes hc1 (by omega)]; first | done | rw [show z = x.length by omega]))) rfl) <| ROs.nil) (by decide) OutsOK.nil
 ·
  obtain ⟨hc1, hc1'⟩ := pF hc1
  have hxl := deck_bad hc1
  refine AW.skip ?_
  refine AX.go ?_
  refine AW.seq ?_
  refine sr ?_
  refine st (mvT rfl) rfl ?_
  refine st (OpT.len (H rfl) (T1 rfl) el26) rfl ?_
  refine st (OpT.eql (H rfl) (T1 rfl) (I rfl)) rfl ?_
  refine ng ?_
  refine cd rfl (fun hc2 => ?_) fun hc2 => ?_
  ·
   obtain ⟨hc2, hc2'⟩ := pT hc2
   refine sr ?_
   refine st (nilO (E := 2) (Kd.int .i64) rfl (.inl rfl)) rfl ?_
   refine st (asI rfl) rfl ?_
   refine st (asI rfl) rfl ?_
   refine AWl.to (kc2 6 5 rfl <| ko 4 rfl <| kc2 3 0 rfl <| Kn) ?_
   refine ng ?_
   refine AW.ret ?_
   refine rT ?_
   exact AX.rt (rs := [.tmp 4, .tmp 5, .tmp 6]) (ts := [some 4, some 5, some 6]) (.inl rfl) rfl (ROs.cons (RO.tmp (At.self (by decide)) (Ko rfl (by first | (rw [neaS_bad hc1]; done) | (rw [neaS_none hc1 (by omega)]; done) | (rw [neaS_yes hc1 (by omega)]; first | done | rw [show z = x.length by omega]))) rfl) <| ROs.cons (RO.tmp (At.self (by decide)) (Kv rfl (by first | (rw [neaS_bad hc1]; done) | (rw [neaS_none hc1 (by omega)]; done) | (rw [neaS_yes hc1 (by omega)]; first | done | rw [show z = x.length by omega]))) rfl) <| ROs.cons (RO.tmp (At.self (by decide)) (Kv rfl (by first | (rw [neaS_bad hc1]; done) | (rw [neaS_none hc1 (by omega)]; done) | (rw [neaS_yes hc1 (by omega)]; first | done | rw [show z = x.length by omega]))) rfl) <| ROs.nil) (by decide) OutsOK.nil
  ·
   obtain ⟨hc2, hc2'⟩ := pF hc2
   refine AW.skip ?_
   refine AX.go ?_
   refine sr ?_
   refine st (OpT.buildSlice0 (m := 0) (z := .bool false) (Kd.int .i64) (H rfl) el34 sz2 (by decide)) rfl ?_
   refine sg (OpT.take (.inl rfl) rfl (ok' rfl) (Root.self (by decide)) rfl rfl (by decide)) (ko 7 rfl <| kc4 22 21 20 19 rfl <| kc4 15 14 13 12 rfl <| kc2 6 5 rfl <| ko 4 rfl <| kc2 3 0 rfl <| ka 1 rfl <| Kn) rfl ?_
   refine ng ?_
   refine sr ?_
   refine st (asI rfl) rfl ?_
   refine ng ?_
   refine AW.seq ?_
   refine sr ?_
   refine st (mvT rfl) rfl ?_
   refine st (OpT.len (H rfl) (T1 rfl) el26) rfl ?_
   refine st (mvI rfl) rfl ?_
   refine ng ?_
   refine AW.block ?_
   refine AW.loop (fun z : Nat => z ≤ x.length) (fun z : Nat => keep [(3, .cel (Kd.ptr kMask) m), (7, .own 2 (Kd.int .i64) (nea m x (mnD m x z) z)), (8, .cel (Kd.int .i64) (mnD m x z)), (24, .cel (Kd.slice kCard) x), (25, .cel (Kd.int .i64) (x.length : Int)), (26, .cel (Kd.int .i64) (z : Int))]) (fun z : Nat => x.length - z) (0) (Nat.zero_le _) (Kc 3 _ (Kv rfl rfl) <| Kc 7 _ (Ko rfl rfl) <| Kc 8 _ (Kv rfl rfl) <| Kc 24 _ (Kv rfl rfl) <| Kc 25 _ (Kv rfl rfl) <| Kc 26 _ (Kv rfl rfl) <| Kn) ?_
   intro z hI
   refine sr ?_
   refine st (OpT.lss (H rfl) (T1 rfl) (T1 rfl)) rfl ?_
   refine ng ?_
   refine AW.seq ?_
   refine cd rfl (fun hc3 => ?_) fun hc3 => ?_
   ·
    obtain ⟨hc3, hc3'⟩ := pT hc3
    obtain ⟨e, he⟩ := getI (x := x) (z := z) (by omega)
    have hnl := nea_len (m := m) (x := x) (z := z) (mnD m x z)
    have hmi := mnD_in (m := m) (x := x) (z := z) (by omega)
    refine AW.skip ?_
    refine AX.go ?_
    refine AW.seq ?_
    refine AW.block ?_
    refine sr ?_
    refine st (mvT rfl) rfl ?_
    refine st (OpT.indexAddr (H rfl) (T1 rfl) (T1 rfl) el26 sz42 (by omega) (by assumption)) rfl ?_
    refine st (OpT.loadA (H rfl) (T1 rfl) ag42 sz42) rfl ?_
    refine st (OpT.alloc (H rfl) zr42 zk42) rfl ?_
    refine st (asT rfl) rfl ?_
    refine sk (OpT.storeBA rfl rfl (Opd.whole (Root.self (t := 10) (by decide)) rfl) rfl sz42 (by decide) (T1 rfl)) rfl ?_
    refine ng ?_
    refine sr ?_
    refine st (OpT.fieldAddrB (H rfl) (Root.self (t := 10) (by decide)) rfl (by decide) fd42_1 sz30 (by decide) sb42_1) rfl ?_
    refine st (OpT.loadPA (H rfl) (T1 rfl) (.inl ⟨_, rfl, rfl⟩) ag30 sz30) rfl ?_
    refine st (OpT.loadA (H rfl) (T1 rfl) ag30 sz30) rfl ?_
    refine st (OpT.c1 (ms := [.flat, .flat]) (c_impl_distance _ _) (H rfl) (Af (T1 rfl) rfl rfl <| Af (T1 rfl) rfl rfl <| An) rfl rfl) rfl ?_
    refine st (asT rfl) rfl ?_
    refine ng ?_
    refine AW.seq ?_
    refine sr ?_
    refine st (mvT rfl) rfl ?_
    refine st (OpT.lss (H rfl) (T1 rfl) (I rfl)) rfl ?_
    refine st (mvT rfl) rfl ?_
    apply AWl.or (d := 41) (t := 37) rfl
    ·
     intro hb2 Q1 k1
     have hb2' := lF hb2
     refine rs hb2 (mvT rfl) rfl ?_
     refine rs hb2 (mvT rfl) rfl ?_
     refine rs hb2 (OpT.lss (H rfl) (T1 rfl) (T1 rfl)) rfl ?_
     refine st (OpT.pickF (A := .cel _ _) (H rfl) (T1 rfl) hb2 (T1 rfl) rfl) rfl ?_
     exact AWl.to (junk 3 rfl) k1
    ·
     intro hb2 Q1 k1
     refine ps hb2 rfl ?_
     refine ps hb2 rfl ?_
     refine ps hb2 rfl ?_
     refine st (OpT.pickT (A := .cel _ _) (H rfl) (T1 rfl) hb2 Opd.bool rfl) rfl ?_
     exact k1
    refine ng ?_
    refine cd rfl (fun hc4 => ?_) fun hc4 => ?_
    ·
     obtain ⟨hc4, hc4'⟩ := pT hc4
     have hnw := nea_new (m := m) (by omega) he (by simpa [dst] using hc4)
     refine sr ?_
     refine st (OpT.buildSlice0 (m := 0) (z := .bool false) (Kd.int .i64) (H rfl) el34 sz2 (by decide)) rfl ?_
     refine sg (OpT.take (.inl rfl) rfl (ok' rfl) (Root.self (by decide)) rfl rfl (by decide)) (ko 7 rfl <| kc4 41 37 36 35 rfl <| kc2 11 34 rfl <| ka 33 rfl <| ka 32 rfl <| Kc 31 (.pel _ _ _ _ _ _ _) rfl <| kb 10 rfl <| kc 9 rfl <| ka 30 rfl <| kc4 29 28 27 3 rfl <| kc4 8 24 25 26 rfl <| Kn) rfl ?_
     refine ng ?_
     refine AW.region ?_
     refine st (mvT rfl) rfl ?_
     refine st (asT rfl) rfl ?_
     refine ng ?_
     refine sr ?_
     refine st (mvT rfl) rfl ?_
     refine st (mvT rfl) rfl ?_
     refine st (OpT.eql (H rfl) (T1 rfl) (T1 rfl)) rfl ?_
     refine ng ?_
     refine cd rfl (fun hc5 => ?_) fun hc5 => ?_
     ·
      obtain ⟨hc5, hc5'⟩ := pT hc5
      refine AW.region ?_
      refine st (OpT.alias (H rfl) (by decide) (by decide)) rfl ?_
      refine st (mvT rfl) rfl ?_
      refine st (OpT.buildSlice (H rfl) el34 zr2 sz2 rfl (by decide) zk2 (by decide) (Built.cel (T1 rfl) rfl rfl (sub_arr (by decide) (0 : Int)) (Built.nil _))) rfl ?_
      refine sg (OpT.append (H rfl) (Root.ali rfl (by decide) (by decide)) rfl (Src.own (Root.self (t := 49) (by decide)) rfl) (by decide) el34 zr2 rfl sz2 by2 (by decide) (by (try simp only [List.length_cons, List.length_nil, List.length_append, List.length_set, List.length_replicate, List.length_drop, List.length_take]); omega)) (ko 50 rfl <| ko 49 rfl <| kc4 48 46 45 44 rfl <| kc4 8 43 41 37 rfl <| kc4 36 35 11 34 rfl <| ka 33 rfl <| ka 32 rfl <| Kc 31 (.pel _ _ _ _ _ _ _) rfl <| kb 10 rfl <| kc 9 rfl <| ka 30 rfl <| kc4 29 28 27 3 rfl <| kc3 24 25 26 rfl <| Kn) rfl ?_
      refine sg (OpT.take (.inl rfl) rfl (ok' rfl) (Root.self (by decide)) rfl rfl (by decide)) (ko 7 rfl <| ko 49 rfl <| kc4 48 46 45 44 rfl <| kc4 8 43 41 37 rfl <| kc4 36 35 11 34 rfl <| ka 33 rfl <| ka 32 rfl <| Kc 31 (.pel _ _ _ _ _ _ _) rfl <| kb 10 rfl <| kc 9 rfl <| ka 30 rfl <| kc4 29 28 27 3 rfl <| kc3 24 25 26 rfl <| Kn) rfl ?_
      refine nn ?_
      refine AX.normal_block ?_
      refine AX.go ?_
      refine AW.region ?_
      refine st (OpT.add (H rfl) (T1 rfl) (I rfl) (nw (by omega))) rfl ?_
      refine st (mvT rfl) rfl ?_
      refine nn ?_
      exact AX.again (z + 1) (by omega) (by omega) (Kc 3 _ (Kv rfl rfl) <| Kc 7 _ (Ko rfl (by first | exact hnw.2 | exact absurd rfl hc5' | (rw [← hsm]; exact nea_yes he hc6') | (rw [← hsm]; exact nea_no he hc6'))) <| Kc 8 _ (Kv rfl (by first | exact hnw.1 | exact hsm)) <| Kc 24 _ (Kv rfl rfl) <| Kc 25 _ (Kv rfl rfl) <| Kc 26 _ (Kv rfl (by omega)) <| Kn)
     ·
      obtain ⟨hc5, hc5'⟩ := pF hc5
      refine AW.skip ?_
      refine AX.normal_block ?_
      refine AX.go ?_
      refine AW.region ?_
      refine st (OpT.add (H rfl) (T1 rfl) (I rfl) (nw (by omega))) rfl ?_
      refine st (mvT rfl) rfl ?_
      refine nn ?_
      exact AX.again (z + 1) (by omega) (by omega) (Kc 3 _ (Kv rfl rfl) <| Kc 7 _ (Ko rfl (by first | exact hnw.2 | exact absurd rfl hc5' | (rw [← hsm]; exact nea_yes he hc6') | (rw [← hsm]; exact nea_no he hc6'))) <| Kc 8 _ (Kv rfl (by first | exact hnw.1 | exact hsm)) <| Kc 24 _ (Kv rfl rfl) <| Kc 25 _ (Kv rfl rfl) <| Kc 26 _ (Kv rfl (by omega)) <| Kn)
    ·
     obtain ⟨hc4, hc4'⟩ := pF hc4
     have hsm := nea_same (m := m) he (by simpa [dst] using hc4)
     refine AW.skip ?_
     refine AX.go ?_
     refine sr ?_
     refine st (mvT rfl) rfl ?_
     refine st (mvT rfl) rfl ?_
     refine st (OpT.eql (H rfl) (T1 rfl) (T1 rfl)) rfl ?_
     refine ng ?_
     refine cd rfl (fun hc6 => ?_) fun hc6 => ?_
     ·
      obtain ⟨hc6, hc6'⟩ := pT hc6
      refine AW.region ?_
      refine st (OpT.alias (H rfl) (by decide) (by decide)) rfl ?_
      refine st (mvT rfl) rfl ?_
      refine st (OpT.buildSlice (H rfl) el34 zr2 sz2 rfl (by decide) zk2 (by decide) (Built.cel (T1 rfl) rfl rfl (sub_arr (by decide) (0 : Int)) (Built.nil _))) rfl ?_
      refine sg (OpT.append (H rfl) (Root.ali rfl (by decide) (by decide)) rfl (Src.own (Root.self (t := 49) (by decide)) rfl) (by decide) el34 zr2 rfl sz2 by2 (by decide) (by (try simp only [List.length_cons, List.length_nil, List.length_append, List.length_set, List.length_replicate, List.length_drop, List.length_take]); omega)) (ko 50 rfl <| ko 49 rfl <| kc4 48 46 45 44 rfl <| kc4 41 37 36 35 rfl <| kc2 11 34 rfl <| ka 33 rfl <| ka 32 rfl <| Kc 31 (.pel _ _ _ _ _ _ _) rfl <| kb 10 rfl <| kc 9 rfl <| ka 30 rfl <| kc4 29 28 27 3 rfl <| kc4 8 24 25 26 rfl <| Kn) rfl ?_
      refine sg (OpT.take (.inl rfl) rfl (ok' rfl) (Root.self (by decide)) rfl rfl (by decide)) (ko 7 rfl <| ko 49 rfl <| kc4 48 46 45 44 rfl <| kc4 41 37 36 35 rfl <| kc2 11 34 rfl <| ka 33 rfl <| ka 32 rfl <| Kc 31 (.pel _ _ _ _ _ _ _) rfl <| kb 10 rfl <| kc 9 rfl <| ka 30 rfl <| kc4 29 28 27 3 rfl <| kc4 8 24 25 26 rfl <| Kn) rfl ?_
      refine nn ?_
      refine AX.normal_block ?_
      refine AX.go ?_
      refine AW.region ?_
      refine st (OpT.add (H rfl) (T1 rfl) (I rfl) (nw (by omega))) rfl ?_
      refine st (mvT rfl) rfl ?_
      refine nn ?_
      exact AX.again (z + 1) (by omega) (by omega) (Kc 3 _ (Kv rfl rfl) <| Kc 7 _ (Ko rfl (by first | exact hnw.2 | exact absurd rfl hc5' | (rw [← hsm]; exact nea_yes he hc6') | (rw [← hsm]; exact nea_no he hc6'))) <| Kc 8 _ (Kv rfl (by first | exact hnw.1 | exact hsm)) <| Kc 24 _ (Kv rfl rfl) <| Kc 25 _ (Kv rfl rfl) <| Kc 26 _ (Kv rfl (by omega)) <| Kn)
     ·
      obtain ⟨hc6, hc6'⟩ := pF hc6
      refine AW.skip ?_
      refine AX.normal_block ?_
      refine AX.go ?_
      refine AW.region ?_
      refine st (OpT.add (H rfl) (T1 rfl) (I rfl) (nw (by omega))) rfl ?_
      refine st (mvT rfl) rfl ?_
      refine nn ?_
      exact AX.again (z + 1) (by omega) (by omega) (Kc 3 _ (Kv rfl rfl) <| Kc 7 _ (Ko rfl (by first | exact hnw.2 | exact absurd rfl hc5' | (rw [← hsm]; exact nea_yes he hc6') | (rw [← hsm]; exact nea_no he hc6'))) <| Kc 8 _ (Kv rfl (by first | exact hnw.1 | exact hsm)) <| Kc 24 _ (Kv rfl rfl) <| Kc 25 _ (Kv rfl rfl) <| Kc 26 _ (Kv rfl (by omega)) <| Kn)
   ·
    obtain ⟨hc3, hc3'⟩ := pF hc3
    refine AW.exit ?_
    refine xT <| xT <| AX.exit_hit ?_
    refine AX.go ?_
    refine sr ?_
    refine st (OpT.alias (H rfl) (by decide) (by decide)) rfl ?_
    refine st (mvT rfl) rfl ?_
    refine sg (OpT.take (.inl rfl) rfl (ok' rfl) (Root.ali rfl (by decide) (by decide)) rfl rfl (by decide)) (ko 4 rfl <| kc4 53 27 3 8 rfl <| kc3 24 25 26 rfl <| Kn) rfl ?_
    refine st (asT rfl) rfl ?_
    refine st (asI rfl) rfl ?_
    refine ng ?_
    refine AW.ret ?_
    exact AX.rt (rs := [.tmp 4, .tmp 5, .tmp 6]) (ts := [some 4, some 5, some 6]) (.inl rfl) rfl (ROs.cons (RO.tmp (At.self (by decide)) (Ko rfl (by first | (rw [neaS_bad hc1]; done) | (rw [neaS_none hc1 (by omega)]; done) | (rw [neaS_yes hc1 (by omega)]; first | done | rw [show z = x.length by omega]))) rfl) <| ROs.cons (RO.tmp (At.self (by decide)) (Kv rfl (by first | (rw [neaS_bad hc1]; done) | (rw [neaS_none hc1 (by omega)]; done) | (rw [neaS_yes hc1 (by omega)]; first | done | rw [show z = x.length by omega]))) rfl) <| ROs.cons (RO.tmp (At.self (by decide)) (Kv rfl (by first | (rw [neaS_bad hc1]; done) | (rw [neaS_none hc1 (by omega)]; done) | (rw [neaS_yes hc1 (by omega)]; first | done | rw [show z = x.length by omega]))) rfl) <| ROs.nil) (by decide) OutsOK.nil
theorem c_impl_NearestCards (x : List DCard) (m : DMask) : AC Tryd.prog 14 [.cel (Kd.slice kCard) x, .agg kMask m] [.cel (Kd.slice (Kd.int .i64)) (neaS x m).1, .cel (Kd.int .i64) (neaS x m).2.1, .cel (Kd.int .i64) (neaS x m).2.2] [] := (c_impl_NearestCards_o x m).frz rfl
end Go.Proofs.YtohcpnobmknglaaDoor.VL
