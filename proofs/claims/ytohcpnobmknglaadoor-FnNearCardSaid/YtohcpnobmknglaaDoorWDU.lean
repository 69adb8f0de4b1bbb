/- Proved here: what some functions of the program take and give: walks with the words of VA..VQ. Printed by program. -/
import Derived.Test.YtohcpnobmknglaaDoorWT
import Derived.Test.YtohcpnobmknglaaDoorBpa
import Derived.Test.YtohcpnobmknglaaDoorWL
set_option linter.unusedVariables false
set_option linter.unusedSimpArgs false
set_option maxRecDepth 4000
namespace Go.Proofs.YtohcpnobmknglaaDoor.VL
open Go
set_option maxHeartbeats 4000000 in
/-- spec.DuplicatesOf -/
theorem c_spec_DuplicatesOf (x : List DCard) : AC Tryd.prog 18 [.cel (Kd.slice kCard) x] [.cel (Kd.slice (Kd.slice (Kd.int .i64))) (dupS x).1, .cel (Kd.int .i64) (dupS x).2] [] := by
 refine acI (N := 59) Tryd.func18 (Nat.le_of_ble_eq_true rfl) rfl fun w0 hd s0 ar => ?_
 refine AW.to (kc 0 rfl <| Kn) ?_
 refine AW.fact (fun a w hr => (ok_slice (R_ok (t := 0) rfl hr)).2) (fun hl0 => ?_)
 refine sr ?_
 refine st (OpT.move (A := .cel _ _) (.inr rfl) rfl (ok' rfl) (Opd.nilslice (Kd.slice (Kd.int .i64))) rfl) rfl ?_
 refine st (asI rfl) rfl ?_
 refine ng ?_
 refine AW.seq ?_
 refine sr ?_
 refine st (mvT rfl) rfl ?_
 refine st (OpT.c1 (ms := [.flat]) (c_spec_l02Ok _) (H rfl) (Af (T1 rfl) rfl rfl <| An) rfl rfl) rfl ?_
 refine st (OpT.not (H rfl) (T1 rfl)) rfl ?_
 refine ng ?_
 refine cd rfl (fun hc1 => ?_) fun hc1 => ?_
 ·
  obtain ⟨hc1, hc1'⟩ := pT hc1
  refine sr ?_
  refine st (OpT.buildSlice0 (m := 0) (z := .bool false) (Kd.slice (Kd.int .i64)) (H rfl) el38 sz34 (by decide)) rfl ?_
  refine sg (OpT.take (.inl rfl) rfl (ok' rfl) (Root.self (by decide)) rfl rfl (by decide)) (ko 2 rfl <| kc4 11 10 9 3 rfl <| kc 0 rfl <| Kn) rfl ?_
  refine st (asI rfl) rfl ?_
  refine ng ?_
  refine AW.ret ?_
  refine rT ?_
  refine AX.freeze (t := 2) rfl ?_
  refine AX.pr (kc4 3 2 11 10 rfl <| kc3 9 3 0 rfl <| Kn) ?_
  exact rt2 rfl (.inl rfl) (by first | (rw [dup_bad hc1]; done) | (rw [dup_ok hc1]; first | done | rw [show z = x.length by omega])) (by first | (rw [dup_bad hc1]; done) | (rw [dup_ok hc1]; first | done | rw [show z = x.length by omega]))
 ·
  obtain ⟨hc1, hc1'⟩ := pF hc1
  have hxl := deck_one' hc1
  refine AW.skip ?_
  refine AX.go ?_
  refine sr ?_
  refine st (OpT.buildSlice0 (m := 0) (z := .bool false) (Kd.slice (Kd.int .i64)) (H rfl) el38 sz34 (by decide)) rfl ?_
  refine sg (OpT.take (.inl rfl) rfl (ok' rfl) (Root.self (by decide)) rfl rfl (by decide)) (ko 4 rfl <| kc4 11 10 9 3 rfl <| kc2 2 0 rfl <| Kn) rfl ?_
  refine ng ?_
  refine AW.seq ?_
  refine sr ?_
  refine st (asI rfl) rfl ?_
  refine ng ?_
  refine AW.block ?_
  refine AW.loop (fun z : Nat => z ≤ x.length) (fun z : Nat => keep [(0, .cel (Kd.slice kCard) x), (4, .own 34 (Kd.slice (Kd.int .i64)) (dupR x z)), (5, .cel (Kd.int .i64) (z : Int))]) (fun z : Nat => x.length - z) (0) (Nat.zero_le _) (Kc 0 _ (Kv rfl rfl) <| Kc 4 _ (Ko rfl rfl) <| Kc 5 _ (Kv rfl rfl) <| Kn) ?_
  intro z hI
  refine AW.seq ?_
  refine sr ?_
  refine st (mvT rfl) rfl ?_
  refine st (mvT rfl) rfl ?_
  refine st (OpT.len (H rfl) (T1 rfl) el26) rfl ?_
  refine st (OpT.lss (H rfl) (T1 rfl) (T1 rfl)) rfl ?_
  refine ng ?_
  refine cd rfl (fun hc2 => ?_) fun hc2 => ?_
  ·
   obtain ⟨hc2, hc2'⟩ := pT hc2
   obtain ⟨c, hcc⟩ := getI (x := x) (z := z) (by omega)
   refine AW.skip ?_
   refine AX.go ?_
   refine AW.seq ?_
   refine AW.block ?_
   refine sr ?_
   refine st (OpT.buildSlice0 (m := 0) (z := .bool false) (Kd.int .i64) (H rfl) el34 sz2 (by decide)) rfl ?_
   refine sg (OpT.take (.inl rfl) rfl (ok' rfl) (Root.self (by decide)) rfl rfl (by decide)) (ko 6 rfl <| kc4 17 16 15 14 rfl <| kc 0 rfl <| ko 4 rfl <| kc 5 rfl <| Kn) rfl ?_
   refine ng ?_
   refine sr ?_
   refine st (asB rfl) rfl ?_
   refine ng ?_
   refine AW.seq ?_
   refine sr ?_
   refine st (asI rfl) rfl ?_
   refine ng ?_
   refine AW.block ?_
   refine AW.loop (fun y : Nat => y ≤ x.length) (fun y : Nat => keep [(0, .cel (Kd.slice kCard) x), (4, .own 34 (Kd.slice (Kd.int .i64)) (dupR x z)), (5, .cel (Kd.int .i64) (z : Int)), (6, .own 2 (Kd.int .i64) (grp x c.2 y)), (7, .cel Kd.bool (fl x c.2 z y)), (8, .cel (Kd.int .i64) (y : Int))]) (fun y : Nat => x.length - y) (0) (Nat.zero_le _) (Kc 0 _ (Kv rfl rfl) <| Kc 4 _ (Ko rfl rfl) <| Kc 5 _ (Kv rfl rfl) <| Kc 6 _ (Ko rfl rfl) <| Kc 7 _ (Kv rfl rfl) <| Kc 8 _ (Kv rfl rfl) <| Kn) ?_
   intro y hI
   refine AW.seq ?_
   refine sr ?_
   refine st (mvT rfl) rfl ?_
   refine st (mvT rfl) rfl ?_
   refine st (OpT.len (H rfl) (T1 rfl) el26) rfl ?_
   refine st (OpT.lss (H rfl) (T1 rfl) (T1 rfl)) rfl ?_
   refine ng ?_
   refine cd rfl (fun hc3 => ?_) fun hc3 => ?_
   ·
    obtain ⟨hc3, hc3'⟩ := pT hc3
    obtain ⟨v, hv⟩ := getI (x := x) (z := y) (by omega)
    refine AW.skip ?_
    refine AX.go ?_
    refine AW.seq ?_
    refine AW.block ?_
    refine AW.seq ?_
    refine dh fomo ?_
    refine d1 [0] (fun ve h => OpT.move (A := .cel _ _) (.inl rfl) rfl (ok' rfl) (D1 h rfl) rfl) rfl ?_
    refine d1 [8] (fun ve h => OpT.move (A := .cel _ _) (.inl rfl) rfl (ok' rfl) (D1 h rfl) rfl) rfl ?_
    refine d1 [27, 28] (fun ve h => OpT.indexAddr (H rfl) (D1 h rfl) (D1 h rfl) el26 sz42 (by omega) (by assumption)) rfl ?_
    refine d1 [29] (fun ve h => OpT.fieldAddr (H rfl) (D1 h rfl) fd42_1 sz30 (by decide) sb42_1) rfl ?_
    refine d1 [30] (fun ve h => OpT.loadA (H rfl) (D1 h rfl) ag30 sz30) rfl ?_
    refine d1 [0] (fun ve h => OpT.move (A := .cel _ _) (.inl rfl) rfl (ok' rfl) (D1 h rfl) rfl) rfl ?_
    refine d1 [5] (fun ve h => OpT.move (A := .cel _ _) (.inl rfl) rfl (ok' rfl) (D1 h rfl) rfl) rfl ?_
    refine d1 [32, 33] (fun ve h => OpT.indexAddr (H rfl) (D1 h rfl) (D1 h rfl) el26 sz42 (by omega) (by assumption)) rfl ?_
    refine d1 [34] (fun ve h => OpT.fieldAddr (H rfl) (D1 h rfl) fd42_1 sz30 (by decide) sb42_1) rfl ?_
    refine d1 [35] (fun ve h => OpT.loadA (H rfl) (D1 h rfl) ag30 sz30) rfl ?_
    refine d1 [31, 36] (fun ve h => OpT.eqA (H rfl) (D1 h rfl) (D1 h rfl) eq30 ag30 rfl eg30) rfl ?_
    refine dn ⟨by kernel_rfl, by kernel_rfl, ?_⟩
    refine AX.go ?_
    refine cd rfl (fun hc4 => ?_) fun hc4 => ?_
    ·
     obtain ⟨hc4, hc4'⟩ := pT hc4
     have hm := eqv_iff.1 hc4
     refine sr ?_
     refine st (mvT rfl) rfl ?_
     refine st (mvT rfl) rfl ?_
     apply AWl.and (d := 43) (t := 39) rfl
     ·
      intro hb1 Q1 k1
      have hb1' := lT hb1
      refine rs hb1 (mvT rfl) rfl ?_
      refine rs hb1 (mvT rfl) rfl ?_
      refine rs hb1 (OpT.geq (H rfl) (T1 rfl) (T1 rfl)) rfl ?_
      refine st (OpT.pickT (A := .cel _ _) (H rfl) (T1 rfl) hb1 (T1 rfl) rfl) rfl ?_
      exact AWl.to (junk 3 rfl) k1
     ·
      intro hb1 Q1 k1
      refine ps hb1 rfl ?_
      refine ps hb1 rfl ?_
      refine ps hb1 rfl ?_
      refine st (OpT.pickF (A := .cel _ _) (H rfl) (T1 rfl) hb1 Opd.bool rfl) rfl ?_
      exact k1
     refine st (asT rfl) rfl ?_
     refine ng ?_
     refine AW.region ?_
     refine st (OpT.alias (H rfl) (by decide) (by decide)) rfl ?_
     refine st (mvT rfl) rfl ?_
     refine st (OpT.buildSlice (H rfl) el34 zr2 sz2 rfl (by decide) zk2 (by decide) (Built.cel (T1 rfl) rfl rfl (sub_arr (by decide) (0 : Int)) (Built.nil _))) rfl ?_
     refine sg (OpT.append (H rfl) (Root.ali rfl (by decide) (by decide)) rfl (Src.own (Root.self (t := 46) (by decide)) rfl) (by decide) el34 zr2 rfl sz2 by2 (by decide) (by have h72 := grp_len x c.2 y; simp only [List.length_set, List.length_replicate]; omega)) (ko 47 rfl <| ko 46 rfl <| kc4 45 7 43 39 rfl <| kc2 38 37 rfl <| ka 36 rfl <| kc4 35 34 33 32 rfl <| ka 31 rfl <| kc4 30 29 28 27 rfl <| kc4 24 23 22 21 rfl <| kc 0 rfl <| ko 4 rfl <| kc2 5 8 rfl <| Kn) rfl ?_
     refine sg (OpT.take (.inl rfl) rfl (ok' rfl) (Root.self (by decide)) rfl rfl (by decide)) (ko 6 rfl <| ko 46 rfl <| kc4 45 7 43 39 rfl <| kc2 38 37 rfl <| ka 36 rfl <| kc4 35 34 33 32 rfl <| ka 31 rfl <| kc4 30 29 28 27 rfl <| kc4 24 23 22 21 rfl <| kc 0 rfl <| ko 4 rfl <| kc2 5 8 rfl <| Kn) rfl ?_
     refine nn ?_
     refine AX.normal_block ?_
     refine AX.go ?_
     refine AW.region ?_
     refine st (mvT rfl) rfl ?_
     refine st (OpT.add (H rfl) (T1 rfl) (I rfl) (nw (by omega))) rfl ?_
     refine st (asT rfl) rfl ?_
     refine nn ?_
     exact AX.again (y + 1) (by omega) (by omega) (Kc 0 _ (Kv rfl rfl) <| Kc 4 _ (Ko rfl rfl) <| Kc 5 _ (Kv rfl rfl) <| Kc 6 _ (Ko rfl (by first | exact grp_yes hv hm | exact grp_no hv hm)) <| Kc 7 _ (Kv rfl (by first | exact fl_yes hv hm | exact fl_no hv hm)) <| Kc 8 _ (Kv rfl (by omega)) <| Kn)
    ·
     obtain ⟨hc4, hc4'⟩ := pF hc4
     have hm := eqv_false_iff.1 hc4
     refine AW.skip ?_
     refine AX.normal_block ?_
     refine AX.go ?_
     refine AW.region ?_
     refine st (mvT rfl) rfl ?_
     refine st (OpT.add (H rfl) (T1 rfl) (I rfl) (nw (by omega))) rfl ?_
     refine st (asT rfl) rfl ?_
     refine nn ?_
     exact AX.again (y + 1) (by omega) (by omega) (Kc 0 _ (Kv rfl rfl) <| Kc 4 _ (Ko rfl rfl) <| Kc 5 _ (Kv rfl rfl) <| Kc 6 _ (Ko rfl (by first | exact grp_yes hv hm | exact grp_no hv hm)) <| Kc 7 _ (Kv rfl (by first | exact fl_yes hv hm | exact fl_no hv hm)) <| Kc 8 _ (Kv rfl (by omega)) <| Kn)
   ·
    obtain ⟨hc3, hc3'⟩ := pF hc3
    refine AW.exit ?_
    refine AX.freeze (t := 6) rfl ?_
    refine AX.pr (kc4 24 23 22 21 rfl <| kc 0 rfl <| ko 4 rfl <| kc4 5 6 7 8 rfl <| Kn) ?_
    refine xT <| xT <| AX.exit_hit ?_
    refine AX.go ?_
    refine sr ?_
    refine st (mvT rfl) rfl ?_
    refine st (mvT rfl) rfl ?_
    apply AWl.and (d := 53) (t := 49) rfl
    ·
     intro hb2 Q1 k1
     have hb2' := lT hb2
     refine rs hb2 (mvT rfl) rfl ?_
     refine rs hb2 (OpT.len (H rfl) (T1 rfl) el34) rfl ?_
     refine rs hb2 (OpT.gtr (H rfl) (T1 rfl) (I rfl)) rfl ?_
     refine st (OpT.pickT (A := .cel _ _) (H rfl) (T1 rfl) hb2 (T1 rfl) rfl) rfl ?_
     exact AWl.to (junk 3 rfl) k1
    ·
     intro hb2 Q1 k1
     refine ps hb2 rfl ?_
     refine ps hb2 rfl ?_
     refine ps hb2 rfl ?_
     refine st (OpT.pickF (A := .cel _ _) (H rfl) (T1 rfl) hb2 Opd.bool rfl) rfl ?_
     exact k1
    refine ng ?_
    refine cd rfl (fun hc5 => ?_) fun hc5 => ?_
    ·
     obtain ⟨hc5, hc5'⟩ := pT hc5
     obtain rfl : y = x.length := by omega
     rw [fl_same hcc (by omega)] at hc5
     have hdu := hc5
     refine AW.region ?_
     refine st (OpT.alias (H rfl) (by decide) (by decide)) rfl ?_
     refine st (mvT rfl) rfl ?_
     refine st (OpT.buildSlice (H rfl) el38 zr34 sz34 rfl (by decide) zk34 (by decide) (Built.cel (T1 rfl) rfl rfl (sub_arr (by decide) ([] : List (Int))) (Built.nil _))) rfl ?_
     refine sg (OpT.append (H rfl) (Root.ali rfl (by decide) (by decide)) rfl (Src.own (Root.self (t := 56) (by decide)) rfl) (by decide) el38 zr34 rfl sz34 by34 (by decide) (by have h70 := dup_len x z; simp only [List.length_set, List.length_replicate]; omega)) (ko 57 rfl <| ko 56 rfl <| kc4 55 53 49 48 rfl <| kc4 24 23 22 21 rfl <| kc4 0 5 6 7 rfl <| kc 8 rfl <| Kn) rfl ?_
     refine sg (OpT.take (.inl rfl) rfl (ok' rfl) (Root.self (by decide)) rfl rfl (by decide)) (ko 4 rfl <| ko 56 rfl <| kc4 55 53 49 48 rfl <| kc4 24 23 22 21 rfl <| kc4 0 5 6 7 rfl <| kc 8 rfl <| Kn) rfl ?_
     refine nn ?_
     refine AX.normal_block ?_
     refine AX.go ?_
     refine AW.region ?_
     refine st (mvT rfl) rfl ?_
     refine st (OpT.add (H rfl) (T1 rfl) (I rfl) (nw (by omega))) rfl ?_
     refine st (asT rfl) rfl ?_
     refine nn ?_
     exact AX.again (z + 1) (by omega) (by omega) (Kc 0 _ (Kv rfl rfl) <| Kc 4 _ (Ko rfl (by first | exact dup_yes hcc hdu | exact dup_no hcc hdu)) <| Kc 5 _ (Kv rfl (by omega)) <| Kn)
    ·
     obtain ⟨hc5, hc5'⟩ := pF hc5
     obtain rfl : y = x.length := by omega
     rw [fl_same hcc (by omega)] at hc5
     have hdu := hc5
     refine AW.skip ?_
     refine AX.normal_block ?_
     refine AX.go ?_
     refine AW.region ?_
     refine st (mvT rfl) rfl ?_
     refine st (OpT.add (H rfl) (T1 rfl) (I rfl) (nw (by omega))) rfl ?_
     refine st (asT rfl) rfl ?_
     refine nn ?_
     exact AX.again (z + 1) (by omega) (by omega) (Kc 0 _ (Kv rfl rfl) <| Kc 4 _ (Ko rfl (by first | exact dup_yes hcc hdu | exact dup_no hcc hdu)) <| Kc 5 _ (Kv rfl (by omega)) <| Kn)
  ·
   obtain ⟨hc2, hc2'⟩ := pF hc2
   refine AW.exit ?_
   refine xT <| xT <| AX.exit_hit ?_
   refine AX.go ?_
   refine sr ?_
   refine st (OpT.alias (H rfl) (by decide) (by decide)) rfl ?_
   refine sg (OpT.take (.inl rfl) rfl (ok' rfl) (Root.ali rfl (by decide) (by decide)) rfl rfl (by decide)) (ko 2 rfl <| kc4 17 16 15 14 rfl <| kc2 0 5 rfl <| Kn) rfl ?_
   refine st (asI rfl) rfl ?_
   refine ng ?_
   refine AW.ret ?_
   refine AX.freeze (t := 2) rfl ?_
   refine AX.pr (kc4 3 2 17 16 rfl <| kc4 15 14 0 5 rfl <| Kn) ?_
   exact rt2 rfl (.inl rfl) (by first | (rw [dup_bad hc1]; done) | (rw [dup_ok hc1]; first | done | rw [show z = x.length by omega])) (by first | (rw [dup_bad hc1]; done) | (rw [dup_ok hc1]; first | done | rw [show z = x.length by omega]))

set_option maxHeartbeats 4000000 in
/-- impl.DuplicatesOf -/
theorem c_impl_DuplicatesOf_o (x : List DCard) : AC Tryd.prog 17 [.cel (Kd.slice kCard) x] [.deep (OSh.rows 34 (Inn.row 2 (Kd.int .i64)) (dupS x).1), .cel (Kd.int .i64) (dupS x).2] [] := by
 refine acI (N := 55) Tryd.func17 (Nat.le_of_ble_eq_true rfl) rfl fun w0 hd s0 ar => ?_
 refine AW.to (kc 0 rfl <| Kn) ?_
 refine AW.fact (fun a w hr => (ok_slice (R_ok (t := 0) rfl hr)).2) (fun hl0 => ?_)
 refine sr ?_
 refine st (nilO (E := 34) Kd.raw rfl (.inl rfl)) rfl ?_
 refine st (asI rfl) rfl ?_
 refine ng ?_
 refine AW.seq ?_
 refine sr ?_
 refine st (mvT rfl) rfl ?_
 refine st (OpT.c1 (ms := [.flat]) (c_impl_isDeck _) (H rfl) (Af (T1 rfl) rfl rfl <| An) rfl rfl) rfl ?_
 refine st (OpT.not (H rfl) (T1 rfl)) rfl ?_
 refine ng ?_
 refine cd rfl (fun hc1 => ?_) fun hc1 => ?_
 ·
  obtain ⟨hc1, hc1'⟩ := pT hc1
  refine sr ?_
  refine st (nilO (E := 34) Kd.raw rfl (.inl rfl)) rfl ?_
  refine st (asI rfl) rfl ?_
  refine ng ?_
  refine AW.ret ?_
  refine rT ?_
  refine AX.vw (vnil 9099 9000 rfl rfl (by decide)) fun _ => ?_
  refine AX.vw (vrows (d := (Inn.row 2 (Kd.int .i64))) (xs := []) 2 9000 rfl rfl (by decide)) fun _ => ?_
  refine AX.pr (kc 3 rfl <| Kc 2 (.deep _) rfl <| kc4 12 11 10 3 rfl <| Kc 2 (.deep _) rfl <| kc 0 rfl <| Kn) ?_
  exact AX.rt (rs := [.tmp 2, .tmp 3]) (ts := [some 2, some 3]) (.inl rfl) rfl (ROs.cons (RO.tmp (At.self (by decide)) (Kr rfl (by first | (rw [dup_bad hc1]; done) | (rw [dup_ok hc1]; first | done | rw [show p.1 = x.length by omega]))) rfl) <| ROs.cons (RO.tmp (At.self (by decide)) (Kv rfl (by first | (rw [dup_bad hc1]; done) | (rw [dup_ok hc1]; first | done | rw [show p.1 = x.length by omega]))) rfl) <| ROs.nil) (by decide) OutsOK.nil
 ·
  obtain ⟨hc1, hc1'⟩ := pF hc1
  have hxl := deck_one' hc1
  refine AW.skip ?_
  refine AX.go ?_
  refine sr ?_
  refine st (OpT.buildSlice0 (m := 0) (z := .bool false) Kd.raw (H rfl) el38 sz34 (by decide)) rfl ?_
  refine AWl.vw (vnil 9001 9000 rfl rfl (by decide)) fun _ => ?_
  refine AWl.to (Kc 9000 (.deep _) rfl <| ko 13 rfl <| kc4 12 11 10 3 rfl <| ko 2 rfl <| kc 0 rfl <| Kn) ?_
  refine sg (OpT.take (.inl rfl) rfl (ok' rfl) (Root.self (by decide)) rfl rfl (by decide)) (ko 4 rfl <| Kc 9000 (.deep _) rfl <| kc4 12 11 10 3 rfl <| ko 2 rfl <| kc 0 rfl <| Kn) rfl ?_
  refine ng ?_
  refine AW.seq ?_
  refine sr ?_
  refine st (mvT rfl) rfl ?_
  refine st (OpT.len (H rfl) (T1 rfl) el26) rfl ?_
  refine st (mvI rfl) rfl ?_
  refine ng ?_
  refine AW.block ?_
  refine AW.loop (fun p : Nat × List Value => p.1 ≤ x.length ∧ p.2.length ≤ p.1) (fun p : Nat × List Value => keep [(0, .cel (Kd.slice kCard) x), (4, .own 34 Kd.raw p.2), (9000, .deep (OSh.gh (Inn.all (Inn.row 2 (Kd.int .i64)) p.2 (dupR x p.1)))), (14, .cel (Kd.slice kCard) x), (15, .cel (Kd.int .i64) (x.length : Int)), (16, .cel (Kd.int .i64) (p.1 : Int))]) (fun p : Nat × List Value => x.length - p.1) ((0, [])) ⟨Nat.zero_le _, Nat.le_refl _⟩ (Kc 0 _ (Kv rfl rfl) <| Kc 4 _ (Ko rfl rfl) <| Kc 9000 _ (rfl) <| Kc 14 _ (Kv rfl rfl) <| Kc 15 _ (Kv rfl rfl) <| Kc 16 _ (Kv rfl rfl) <| Kn) ?_
  intro p hI
  have hI0 := hI
  refine sr ?_
  refine st (OpT.lss (H rfl) (T1 rfl) (T1 rfl)) rfl ?_
  refine ng ?_
  refine AW.seq ?_
  refine cd rfl (fun hc2 => ?_) fun hc2 => ?_
  ·
   obtain ⟨hc2, hc2'⟩ := pT hc2
   obtain ⟨c, hcc⟩ := getI (x := x) (z := p.1) (by omega)
   refine AW.skip ?_
   refine AX.go ?_
   refine AW.seq ?_
   refine AW.block ?_
   refine sr ?_
   refine st (mvT rfl) rfl ?_
   refine st (OpT.indexAddr (H rfl) (T1 rfl) (T1 rfl) el26 sz42 (by omega) (by assumption)) rfl ?_
   refine st (OpT.loadA (H rfl) (T1 rfl) ag42 sz42) rfl ?_
   refine st (OpT.alloc (H rfl) zr42 zk42) rfl ?_
   refine st (asT rfl) rfl ?_
   refine sk (OpT.storeBA rfl rfl (Opd.whole (Root.self (t := 6) (by decide)) rfl) rfl sz42 (by decide) (T1 rfl)) rfl ?_
   refine ng ?_
   refine sr ?_
   refine st (OpT.buildSlice0 (m := 0) (z := .bool false) (Kd.int .i64) (H rfl) el34 sz2 (by decide)) rfl ?_
   refine sg (OpT.take (.inl rfl) rfl (ok' rfl) (Root.self (by decide)) rfl rfl (by decide)) (ko 7 rfl <| kb 6 rfl <| kc 5 rfl <| ka 20 rfl <| kc4 19 18 17 0 rfl <| ko 4 rfl <| Kc 9000 (.deep _) rfl <| kc3 14 15 16 rfl <| Kn) rfl ?_
   refine ng ?_
   refine AW.seq ?_
   refine sr ?_
   refine st (mvT rfl) rfl ?_
   refine st (OpT.len (H rfl) (T1 rfl) el26) rfl ?_
   refine st (mvI rfl) rfl ?_
   refine ng ?_
   refine AW.block ?_
   refine AW.loop (fun y : Nat => y ≤ x.length) (fun y : Nat => keep [(0, .cel (Kd.slice kCard) x), (4, .own 34 Kd.raw p.2), (9000, .deep (OSh.gh (Inn.all (Inn.row 2 (Kd.int .i64)) p.2 (dupR x p.1)))), (5, .cel (Kd.int .i64) (p.1 : Int)), (6, .box 42 kCard c), (7, .own 2 (Kd.int .i64) (grp x c.2 y)), (14, .cel (Kd.slice kCard) x), (15, .cel (Kd.int .i64) (x.length : Int)), (16, .cel (Kd.int .i64) (p.1 : Int)), (22, .cel (Kd.slice kCard) x), (23, .cel (Kd.int .i64) (x.length : Int)), (24, .cel (Kd.int .i64) (y : Int))]) (fun y : Nat => x.length - y) (0) (Nat.zero_le _) (Kc 0 _ (Kv rfl rfl) <| Kc 4 _ (Ko rfl rfl) <| Kc 9000 _ (Kg rfl rfl) <| Kc 5 _ (Kv rfl rfl) <| Kc 6 _ (Kb rfl rfl) <| Kc 7 _ (Ko rfl rfl) <| Kc 14 _ (Kv rfl rfl) <| Kc 15 _ (Kv rfl rfl) <| Kc 16 _ (Kv rfl rfl) <| Kc 22 _ (Kv rfl rfl) <| Kc 23 _ (Kv rfl rfl) <| Kc 24 _ (Kv rfl rfl) <| Kn) ?_
   intro y hI
   refine sr ?_
   refine st (OpT.lss (H rfl) (T1 rfl) (T1 rfl)) rfl ?_
   refine ng ?_
   refine AW.seq ?_
   refine cd rfl (fun hc3 => ?_) fun hc3 => ?_
   ·
    obtain ⟨hc3, hc3'⟩ := pT hc3
    obtain ⟨v, hv⟩ := getI (x := x) (z := y) (by omega)
    refine AW.skip ?_
    refine AX.go ?_
    refine AW.seq ?_
    refine AW.block ?_
    refine sr ?_
    refine st (mvT rfl) rfl ?_
    refine st (OpT.indexAddr (H rfl) (T1 rfl) (T1 rfl) el26 sz42 (by omega) (by assumption)) rfl ?_
    refine st (OpT.loadA (H rfl) (T1 rfl) ag42 sz42) rfl ?_
    refine st (OpT.alloc (H rfl) zr42 zk42) rfl ?_
    refine st (asT rfl) rfl ?_
    refine sk (OpT.storeBA rfl rfl (Opd.whole (Root.self (t := 9) (by decide)) rfl) rfl sz42 (by decide) (T1 rfl)) rfl ?_
    refine ng ?_
    refine sr ?_
    refine st (OpT.fieldAddrB (H rfl) (Root.self (t := 9) (by decide)) rfl (by decide) fd42_1 sz30 (by decide) sb42_1) rfl ?_
    refine st (OpT.loadPA (H rfl) (T1 rfl) (.inl ⟨_, rfl, rfl⟩) ag30 sz30) rfl ?_
    refine st (OpT.fieldAddrB (H rfl) (Root.self (t := 6) (by decide)) rfl (by decide) fd42_1 sz30 (by decide) sb42_1) rfl ?_
    refine st (OpT.loadPA (H rfl) (T1 rfl) (.inl ⟨_, rfl, rfl⟩) ag30 sz30) rfl ?_
    refine st (OpT.eqA (H rfl) (T1 rfl) (T1 rfl) eq30 ag30 rfl eg30) rfl ?_
    refine ng ?_
    refine cd rfl (fun hc4 => ?_) fun hc4 => ?_
    ·
     obtain ⟨hc4, hc4'⟩ := pT hc4
     have hm := eqv_iff.1 hc4
     refine AW.region ?_
     refine st (OpT.alias (H rfl) (by decide) (by decide)) rfl ?_
     refine st (mvT rfl) rfl ?_
     refine st (OpT.buildSlice (H rfl) el34 zr2 sz2 rfl (by decide) zk2 (by decide) (Built.cel (T1 rfl) rfl rfl (sub_arr (by decide) (0 : Int)) (Built.nil _))) rfl ?_
     refine sg (OpT.append (H rfl) (Root.ali rfl (by decide) (by decide)) rfl (Src.own (Root.self (t := 36) (by decide)) rfl) (by decide) el34 zr2 rfl sz2 by2 (by decide) (by have h72 := grp_len x c.2 y; simp only [List.length_set, List.length_replicate]; omega)) (ko 37 rfl <| ko 36 rfl <| kc2 35 33 rfl <| ka 32 rfl <| Kc 31 (.pel _ _ _ _ _ _ _) rfl <| ka 30 rfl <| Kc 29 (.pel _ _ _ _ _ _ _) rfl <| kb 9 rfl <| kc 8 rfl <| ka 28 rfl <| kc4 27 26 25 0 rfl <| ko 4 rfl <| Kc 9000 (.deep _) rfl <| kc 5 rfl <| kb 6 rfl <| kc4 14 15 16 22 rfl <| kc2 23 24 rfl <| Kn) rfl ?_
     refine sg (OpT.take (.inl rfl) rfl (ok' rfl) (Root.self (by decide)) rfl rfl (by decide)) (ko 7 rfl <| ko 36 rfl <| kc2 35 33 rfl <| ka 32 rfl <| Kc 31 (.pel _ _ _ _ _ _ _) rfl <| ka 30 rfl <| Kc 29 (.pel _ _ _ _ _ _ _) rfl <| kb 9 rfl <| kc 8 rfl <| ka 28 rfl <| kc4 27 26 25 0 rfl <| ko 4 rfl <| Kc 9000 (.deep _) rfl <| kc 5 rfl <| kb 6 rfl <| kc4 14 15 16 22 rfl <| kc2 23 24 rfl <| Kn) rfl ?_
     refine nn ?_
     refine AX.normal_block ?_
     refine AX.go ?_
     refine AW.region ?_
     refine st (OpT.add (H rfl) (T1 rfl) (I rfl) (nw (by omega))) rfl ?_
     refine st (mvT rfl) rfl ?_
     refine nn ?_
     exact AX.again (y + 1) (by omega) (by omega) (Kc 0 _ (Kv rfl rfl) <| Kc 4 _ (Ko rfl rfl) <| Kc 9000 _ (Kg rfl rfl) <| Kc 5 _ (Kv rfl rfl) <| Kc 6 _ (Kb rfl rfl) <| Kc 7 _ (Ko rfl (by first | exact grp_yes hv hm | exact grp_no hv hm)) <| Kc 14 _ (Kv rfl rfl) <| Kc 15 _ (Kv rfl rfl) <| Kc 16 _ (Kv rfl rfl) <| Kc 22 _ (Kv rfl rfl) <| Kc 23 _ (Kv rfl rfl) <| Kc 24 _ (Kv rfl (by omega)) <| Kn)
    ·
     obtain ⟨hc4, hc4'⟩ := pF hc4
     have hm := eqv_false_iff.1 hc4
     refine AW.skip ?_
     refine AX.normal_block ?_
     refine AX.go ?_
     refine AW.region ?_
     refine st (OpT.add (H rfl) (T1 rfl) (I rfl) (nw (by omega))) rfl ?_
     refine st (mvT rfl) rfl ?_
     refine nn ?_
     exact AX.again (y + 1) (by omega) (by omega) (Kc 0 _ (Kv rfl rfl) <| Kc 4 _ (Ko rfl rfl) <| Kc 9000 _ (Kg rfl rfl) <| Kc 5 _ (Kv rfl rfl) <| Kc 6 _ (Kb rfl rfl) <| Kc 7 _ (Ko rfl (by first | exact grp_yes hv hm | exact grp_no hv hm)) <| Kc 14 _ (Kv rfl rfl) <| Kc 15 _ (Kv rfl rfl) <| Kc 16 _ (Kv rfl rfl) <| Kc 22 _ (Kv rfl rfl) <| Kc 23 _ (Kv rfl rfl) <| Kc 24 _ (Kv rfl (by omega)) <| Kn)
   ·
    obtain ⟨hc3, hc3'⟩ := pF hc3
    refine AW.exit ?_
    refine xT <| xT <| AX.exit_hit ?_
    refine AX.go ?_
    refine sr ?_
    refine st (OpT.alias (H rfl) (by decide) (by decide)) rfl ?_
    refine st (OpT.lenO (H rfl) (Root.ali rfl (by decide) (by decide)) rfl el34) rfl ?_
    refine st (OpT.gtr (H rfl) (T1 rfl) (I rfl)) rfl ?_
    refine st (mvT rfl) rfl ?_
    apply AWl.and (d := 48) (t := 42) rfl
    ·
     intro hb1 Q1 k1
     have hb1' := lT hb1
     have hg0 := get0 (l := grp x c.2 y) hb1'
     refine rs hb1 (OpT.alias (H rfl) (by decide) (by decide)) rfl ?_
     refine rs hb1 (OpT.indexAddrO (H rfl) (Root.ali rfl (by decide) (by decide)) rfl (by decide) (I rfl) el34 sz2 (by omega) (by assumption)) rfl ?_
     refine rs hb1 (OpT.loadP (H rfl) (T1 rfl) (.inr ⟨_, _, rfl, (by assumption)⟩) ag2 rfl) rfl ?_
     refine rs hb1 (mvT rfl) rfl ?_
     refine rs hb1 (OpT.eql (H rfl) (T1 rfl) (T1 rfl)) rfl ?_
     refine st (OpT.pickT (A := .cel _ _) (H rfl) (T1 rfl) hb1 (T1 rfl) rfl) rfl ?_
     exact AWl.to (junk 5 rfl) k1
    ·
     intro hb1 Q1 k1
     refine ps hb1 rfl ?_
     refine ps hb1 rfl ?_
     refine ps hb1 rfl ?_
     refine ps hb1 rfl ?_
     refine ps hb1 rfl ?_
     refine st (OpT.pickF (A := .cel _ _) (H rfl) (T1 rfl) hb1 Opd.bool rfl) rfl ?_
     exact k1
    refine ng ?_
    refine cd rfl (fun hc5 => ?_) fun hc5 => ?_
    ·
     obtain ⟨hc5, hc5'⟩ := pT hc5
     obtain rfl : y = x.length := by omega
     have hdu := hc5
     refine AW.region ?_
     refine st (OpT.alias (H rfl) (by decide) (by decide)) rfl ?_
     refine AWl.vw (vmelt 7 9001 rfl rfl (by decide)) fun v7 => ?_
     refine AWl.to (Kc 9001 (.deep _) rfl <| kc 7 rfl <| Kc 49 (.ali _) rfl <| kc4 48 42 41 40 rfl <| kc2 25 0 rfl <| ko 4 rfl <| Kc 9000 (.deep _) rfl <| kc 5 rfl <| kb 6 rfl <| kc4 14 15 16 22 rfl <| kc2 23 24 rfl <| Kn) ?_
     refine st (mvT rfl) rfl ?_
     refine st (OpT.buildSlice (H rfl) el38 zr34 sz34 rfl (by decide) zkr34 (by decide) (Built.cel (T1 rfl) rfl rfl (sub_arr (by decide) ((Value.slice none 0 0) : Value)) (Built.nil _))) rfl ?_
     refine sg (OpT.append (H rfl) (Root.ali rfl (by decide) (by decide)) rfl (Src.own (Root.self (t := 51) (by decide)) rfl) (by decide) el38 zr34 rfl sz34 by34 (by decide) (by simp only [List.length_set, List.length_replicate]; omega)) (ko 52 rfl <| ko 51 rfl <| kc 50 rfl <| Kc 9001 (.deep _) rfl <| kc4 7 48 42 41 rfl <| kc3 40 25 0 rfl <| Kc 9000 (.deep _) rfl <| kc 5 rfl <| kb 6 rfl <| kc4 14 15 16 22 rfl <| kc2 23 24 rfl <| Kn) rfl ?_
     refine AWl.vw (vjoin 9000 9001 (Inn.all_snoc (d := (Inn.row 2 (Kd.int .i64)))) rfl rfl (by decide)) fun _ => ?_
     refine AWl.to (Kc 9000 (.deep _) rfl <| ko 52 rfl <| ko 51 rfl <| kc4 50 7 48 42 rfl <| kc4 41 40 25 0 rfl <| kc 5 rfl <| kb 6 rfl <| kc4 14 15 16 22 rfl <| kc2 23 24 rfl <| Kn) ?_
     refine sg (OpT.take (.inl rfl) rfl (ok' rfl) (Root.self (by decide)) rfl rfl (by decide)) (ko 4 rfl <| Kc 9000 (.deep _) rfl <| ko 51 rfl <| kc4 50 7 48 42 rfl <| kc4 41 40 25 0 rfl <| kc 5 rfl <| kb 6 rfl <| kc4 14 15 16 22 rfl <| kc2 23 24 rfl <| Kn) rfl ?_
     refine nn ?_
     refine AX.normal_block ?_
     refine AX.go ?_
     refine AW.region ?_
     refine st (OpT.add (H rfl) (T1 rfl) (I rfl) (nw (by omega))) rfl ?_
     refine st (mvT rfl) rfl ?_
     refine nn ?_
     exact AX.again ((p.1 + 1, _)) ⟨by simp only []; omega, (by first | exact Nat.le_succ_of_le hI0.2 | exact len_step hI0.2 (Nat.le_refl 1))⟩ (by simp only []; omega) (Kc 0 _ (Kv rfl rfl) <| Kc 4 _ (Ko rfl rfl) <| Kc 9000 _ (Kg rfl (by first | exact dup_yes hcc hdu | exact dup_no hcc hdu)) <| Kc 14 _ (Kv rfl rfl) <| Kc 15 _ (Kv rfl rfl) <| Kc 16 _ (Kv rfl (by simp only []; omega)) <| Kn)
    ·
     obtain ⟨hc5, hc5'⟩ := pF hc5
     obtain rfl : y = x.length := by omega
     have hdu := hc5
     refine AW.skip ?_
     refine AX.normal_block ?_
     refine AX.go ?_
     refine AW.region ?_
     refine st (OpT.add (H rfl) (T1 rfl) (I rfl) (nw (by omega))) rfl ?_
     refine st (mvT rfl) rfl ?_
     refine nn ?_
     exact AX.again ((p.1 + 1, _)) ⟨by simp only []; omega, (by first | exact Nat.le_succ_of_le hI0.2 | exact len_step hI0.2 (Nat.le_refl 1))⟩ (by simp only []; omega) (Kc 0 _ (Kv rfl rfl) <| Kc 4 _ (Ko rfl rfl) <| Kc 9000 _ (Kg rfl (by first | exact dup_yes hcc hdu | exact dup_no hcc hdu)) <| Kc 14 _ (Kv rfl rfl) <| Kc 15 _ (Kv rfl rfl) <| Kc 16 _ (Kv rfl (by simp only []; omega)) <| Kn)
  ·
   obtain ⟨hc2, hc2'⟩ := pF hc2
   refine AW.exit ?_
   refine xT <| xT <| AX.exit_hit ?_
   refine AX.go ?_
   refine sr ?_
   refine st (OpT.alias (H rfl) (by decide) (by decide)) rfl ?_
   refine sg (OpT.take (.inl rfl) rfl (ok' rfl) (Root.ali rfl (by decide) (by decide)) rfl rfl (by decide)) (ko 2 rfl <| kc2 17 0 rfl <| Kc 9000 (.deep _) rfl <| kc3 14 15 16 rfl <| Kn) rfl ?_
   refine st (asI rfl) rfl ?_
   refine ng ?_
   refine AW.ret ?_
   refine AX.vw (vrows (d := (Inn.row 2 (Kd.int .i64))) 2 9000 rfl rfl (by decide)) fun _ => ?_
   refine AX.pr (kc 3 rfl <| Kc 2 (.deep _) rfl <| kc4 17 0 14 15 rfl <| kc 16 rfl <| Kn) ?_
   exact AX.rt (rs := [.tmp 2, .tmp 3]) (ts := [some 2, some 3]) (.inl rfl) rfl (ROs.cons (RO.tmp (At.self (by decide)) (Kr rfl (by first | (rw [dup_bad hc1]; done) | (rw [dup_ok hc1]; first | done | rw [show p.1 = x.length by omega]))) rfl) <| ROs.cons (RO.tmp (At.self (by decide)) (Kv rfl (by first | (rw [dup_bad hc1]; done) | (rw [dup_ok hc1]; first | done | rw [show p.1 = x.length by omega]))) rfl) <| ROs.nil) (by decide) OutsOK.nil
theorem c_impl_DuplicatesOf (x : List DCard) : AC Tryd.prog 17 [.cel (Kd.slice kCard) x] [.cel (Kd.slice (Kd.slice (Kd.int .i64))) (dupS x).1, .cel (Kd.int .i64) (dupS x).2] [] := (c_impl_DuplicatesOf_o x).shr (Shrs.cons (Shr.rows (Inn.Reads.row _ _)) <| Shrs.cons (Shr.frz _) <| Shrs.nil)
end Go.Proofs.YtohcpnobmknglaaDoor.VL
