/- Proved here: what some functions of the program take and give: walks with the words of VA..VQ. Printed by program. -/
import Derived.Test.YtohcpnobmknglaaGreatDoorWT
import Derived.Test.YtohcpnobmknglaaGreatDoorBpa
import Derived.Test.YtohcpnobmknglaaGreatDoorWP
import Derived.Test.YtohcpnobmknglaaGreatDoorWN
import Derived.Test.YtohcpnobmknglaaGreatDoorWB
set_option linter.unusedVariables false
set_option linter.unusedSimpArgs false
set_option maxRecDepth 4000
namespace Go.Proofs.YtohcpnobmknglaaGreatDoor.VL
open Go
/-- spec.HoleTally -/
theorem c_spec_HoleTally (x : List DCard) : AC Tryz.prog 12 [.cel (Kd.slice kCard) x] [.cel (Kd.slice (Kd.int .i64)) (talS x).1, .cel (Kd.int .i64) (talS x).2] [] := by
 refine acI (N := 40) Tryz.func12 (Nat.le_of_ble_eq_true rfl) rfl fun w0 hd s0 ar => ?_
 refine AW.to (kc 0 rfl <| Kn) ?_
 refine AW.fact (fun a w hr => (ok_slice (R_ok (t := 0) rfl hr)).2) (fun hl0 => ?_)
 refine sr ?_
 refine st (OpT.move (A := .cel _ _) (.inr rfl) rfl (ok' rfl) (Opd.nilslice (Kd.int .i64)) rfl) rfl ?_
 refine st (asI rfl) rfl ?_
 refine ng ?_
 refine AW.seq ?_
 refine sr ?_
 refine st (mvT rfl) rfl ?_
 refine st (OpT.c1 (ms := [.flat]) (c_spec_l06Deck _) (H rfl) (Af (T1 rfl) rfl rfl <| An) rfl rfl) rfl ?_
 refine st (asT rfl) rfl ?_
 refine ng ?_
 refine sr ?_
 refine st (mvT rfl) rfl ?_
 refine st (OpT.neq (H rfl) (T1 rfl) (I rfl)) rfl ?_
 refine ng ?_
 refine cd rfl (fun hc1 => ?_) fun hc1 => ?_
 ·
  obtain ⟨hc1, hc1'⟩ := pT hc1
  have hz1 : tabE [] x ≠ 0 := hc1'
  refine sr ?_
  refine st (OpT.buildSlice0 (m := 0) (z := .bool false) (Kd.int .i64) (H rfl) el28 sz2 (by decide)) rfl ?_
  refine st (mvT rfl) rfl ?_
  refine sg (OpT.take (.inl rfl) rfl (ok' rfl) (Root.self (by decide)) rfl rfl (by decide)) (ko 2 rfl <| kc4 14 12 11 4 rfl <| kc4 10 9 3 0 rfl <| Kn) rfl ?_
  refine st (asT rfl) rfl ?_
  refine ng ?_
  refine AW.ret ?_
  refine rT ?_
  refine AX.freeze (t := 2) rfl ?_
  refine AX.pr (kc4 3 2 14 12 rfl <| kc4 11 4 10 9 rfl <| kc2 3 0 rfl <| Kn) ?_
  exact rt2 rfl (.inl rfl) (by first | (rw [talS_no hz1]; done) | (rw [talS_yes hz0]; first | done | rw [show z = 96 by omega])) (by first | (rw [talS_no hz1]; done) | (rw [talS_yes hz0]; first | done | rw [show z = 96 by omega]))
 ·
  obtain ⟨hc1, hc1'⟩ := pF hc1
  have hz0 : tabE [] x = 0 := hc1'
  have hxl := (tabE_ok hz0).2.2
  refine AW.skip ?_
  refine AX.go ?_
  refine sr ?_
  refine st (OpT.buildSlice0 (m := 0) (z := .bool false) (Kd.int .i64) (H rfl) el28 sz2 (by decide)) rfl ?_
  refine sg (OpT.take (.inl rfl) rfl (ok' rfl) (Root.self (by decide)) rfl rfl (by decide)) (ko 5 rfl <| kc4 12 11 4 10 rfl <| kc4 9 3 2 0 rfl <| Kn) rfl ?_
  refine ng ?_
  refine AW.seq ?_
  refine sr ?_
  refine st (asI rfl) rfl ?_
  refine ng ?_
  refine AW.block ?_
  refine AW.loop (fun z : Nat => z ≤ 96) (fun z : Nat => keep [(0, .cel (Kd.slice kCard) x), (5, .own 2 (Kd.int .i64) (tally x z)), (6, .cel (Kd.int .i64) (z : Int))]) (fun z : Nat => 96 - z) (0) (Nat.zero_le _) (Kc 0 _ (Kv rfl rfl) <| Kc 5 _ (Ko rfl rfl) <| Kc 6 _ (Kv rfl rfl) <| Kn) ?_
  intro z hI
  refine AW.seq ?_
  refine sr ?_
  refine st (mvT rfl) rfl ?_
  refine st (OpT.lss (H rfl) (T1 rfl) (I rfl)) rfl ?_
  refine ng ?_
  refine cd rfl (fun hc2 => ?_) fun hc2 => ?_
  ·
   obtain ⟨hc2, hc2'⟩ := pT hc2
   have hlt := tally_len x z
   refine AW.skip ?_
   refine AX.go ?_
   refine AW.seq ?_
   refine AW.block ?_
   refine sr ?_
   refine st (asI rfl) rfl ?_
   refine ng ?_
   refine AW.seq ?_
   refine sr ?_
   refine st (asI rfl) rfl ?_
   refine ng ?_
   refine AW.block ?_
   refine AW.loop (fun y : Nat => y ≤ x.length) (fun y : Nat => keep [(0, .cel (Kd.slice kCard) x), (5, .own 2 (Kd.int .i64) (tally x z)), (6, .cel (Kd.int .i64) (z : Int)), (7, .cel (Kd.int .i64) (cntQ (hasH (z : Int)) (x.take y))), (8, .cel (Kd.int .i64) (y : Int))]) (fun y : Nat => x.length - y) (0) (Nat.zero_le _) (Kc 0 _ (Kv rfl rfl) <| Kc 5 _ (Ko rfl rfl) <| Kc 6 _ (Kv rfl rfl) <| Kc 7 _ (Kv rfl rfl) <| Kc 8 _ (Kv rfl rfl) <| Kn) ?_
   intro y hI
   refine AW.seq ?_
   refine sr ?_
   refine st (mvT rfl) rfl ?_
   refine st (mvT rfl) rfl ?_
   refine st (OpT.len (H rfl) (T1 rfl) el25) rfl ?_
   refine st (OpT.lss (H rfl) (T1 rfl) (T1 rfl)) rfl ?_
   refine ng ?_
   refine cd rfl (fun hc3 => ?_) fun hc3 => ?_
   ·
    obtain ⟨hc3, hc3'⟩ := pT hc3
    obtain ⟨e, he⟩ := getI (x := x) (z := y) (by omega)
    have hci := cntQ_in (hasH (z : Int)) (x.take y)
    have htl : (x.take y).length ≤ 60 := by (rw [List.length_take]; omega)
    refine AW.skip ?_
    refine AX.go ?_
    refine AW.seq ?_
    refine AW.block ?_
    refine sr ?_
    refine st (mvT rfl) rfl ?_
    refine st (mvT rfl) rfl ?_
    refine st (OpT.indexAddr (H rfl) (T1 rfl) (T1 rfl) el25 sz39 (by omega) (by assumption)) rfl ?_
    refine st (OpT.fieldAddr (H rfl) (T1 rfl) fd39_1 sz33 (by decide) sb39_1) rfl ?_
    refine st (OpT.loadA (H rfl) (T1 rfl) ag33 sz33) rfl ?_
    refine st (mvT rfl) rfl ?_
    refine st (OpT.c1 (ms := [.flat, .flat]) (c_spec_l01Has _ _ (by omega)) (H rfl) (Af (T1 rfl) rfl rfl <| Af (T1 rfl) rfl rfl <| An) rfl rfl) rfl ?_
    refine ng ?_
    refine cd rfl (fun hc4 => ?_) fun hc4 => ?_
    ·
     obtain ⟨hc4, hc4'⟩ := pT hc4
     refine AW.region ?_
     refine st (mvT rfl) rfl ?_
     refine st (OpT.add (H rfl) (T1 rfl) (I rfl) (nw (by omega))) rfl ?_
     refine st (asT rfl) rfl ?_
     refine nn ?_
     refine AX.normal_block ?_
     refine AX.go ?_
     refine AW.region ?_
     refine st (mvT rfl) rfl ?_
     refine st (OpT.add (H rfl) (T1 rfl) (I rfl) (nw (by omega))) rfl ?_
     refine st (asT rfl) rfl ?_
     refine nn ?_
     exact AX.again (y + 1) (by omega) (by omega) (Kc 0 _ (Kv rfl rfl) <| Kc 5 _ (Ko rfl rfl) <| Kc 6 _ (Kv rfl rfl) <| Kc 7 _ (Kv rfl (by first | exact cntQ_yes he hc4 | exact cntQ_no he hc4)) <| Kc 8 _ (Kv rfl (by omega)) <| Kn)
    ·
     obtain ⟨hc4, hc4'⟩ := pF hc4
     refine AW.skip ?_
     refine AX.normal_block ?_
     refine AX.go ?_
     refine AW.region ?_
     refine st (mvT rfl) rfl ?_
     refine st (OpT.add (H rfl) (T1 rfl) (I rfl) (nw (by omega))) rfl ?_
     refine st (asT rfl) rfl ?_
     refine nn ?_
     exact AX.again (y + 1) (by omega) (by omega) (Kc 0 _ (Kv rfl rfl) <| Kc 5 _ (Ko rfl rfl) <| Kc 6 _ (Kv rfl rfl) <| Kc 7 _ (Kv rfl (by first | exact cntQ_yes he hc4 | exact cntQ_no he hc4)) <| Kc 8 _ (Kv rfl (by omega)) <| Kn)
   ·
    obtain ⟨hc3, hc3'⟩ := pF hc3
    refine AW.exit ?_
    refine xT <| xT <| AX.exit_hit ?_
    refine AX.go ?_
    refine AW.region ?_
    refine st (OpT.alias (H rfl) (by decide) (by decide)) rfl ?_
    refine st (mvT rfl) rfl ?_
    refine st (OpT.buildSlice (H rfl) el28 zr2 sz2 rfl (by decide) zk2 (by decide) (Built.cel (T1 rfl) rfl rfl (sub_arr (by decide) (0 : Int)) (Built.nil _))) rfl ?_
    refine sg (OpT.append (H rfl) (Root.ali rfl (by decide) (by decide)) rfl (Src.own (Root.self (t := 37) (by decide)) rfl) (by decide) el28 zr2 rfl sz2 by2 (by decide) (by simp only [List.length_set, List.length_replicate]; omega)) (ko 38 rfl <| ko 37 rfl <| kc4 36 23 22 21 rfl <| kc4 20 0 6 7 rfl <| kc 8 rfl <| Kn) rfl ?_
    refine sg (OpT.take (.inl rfl) rfl (ok' rfl) (Root.self (by decide)) rfl rfl (by decide)) (ko 5 rfl <| ko 37 rfl <| kc4 36 23 22 21 rfl <| kc4 20 0 6 7 rfl <| kc 8 rfl <| Kn) rfl ?_
    refine nn ?_
    refine AX.normal_block ?_
    refine AX.go ?_
    refine AW.region ?_
    refine st (mvT rfl) rfl ?_
    refine st (OpT.add (H rfl) (T1 rfl) (I rfl) (nw (by omega))) rfl ?_
    refine st (asT rfl) rfl ?_
    refine nn ?_
    exact AX.again (z + 1) (by omega) (by omega) (Kc 0 _ (Kv rfl rfl) <| Kc 5 _ (Ko rfl (by rw [← tally_next]; congr 2; unfold cntH; rw [List.take_of_length_le (by omega)]; rfl)) <| Kc 6 _ (Kv rfl (by omega)) <| Kn)
  ·
   obtain ⟨hc2, hc2'⟩ := pF hc2
   refine AW.exit ?_
   refine xT <| xT <| AX.exit_hit ?_
   refine AX.go ?_
   refine sr ?_
   refine st (OpT.alias (H rfl) (by decide) (by decide)) rfl ?_
   refine sg (OpT.take (.inl rfl) rfl (ok' rfl) (Root.ali rfl (by decide) (by decide)) rfl rfl (by decide)) (ko 2 rfl <| kc4 17 16 0 6 rfl <| Kn) rfl ?_
   refine st (asI rfl) rfl ?_
   refine ng ?_
   refine AW.ret ?_
   refine AX.freeze (t := 2) rfl ?_
   refine AX.pr (kc4 3 2 17 16 rfl <| kc2 0 6 rfl <| Kn) ?_
   exact rt2 rfl (.inl rfl) (by first | (rw [talS_no hz1]; done) | (rw [talS_yes hz0]; first | done | rw [show z = 96 by omega])) (by first | (rw [talS_no hz1]; done) | (rw [talS_yes hz0]; first | done | rw [show z = 96 by omega]))

/-- spec.IdleHoles -/
theorem c_spec_IdleHoles (x : List DCard) : AC Tryz.prog 14 [.cel (Kd.slice kCard) x] [.agg kMask (idlS x).1, .cel (Kd.int .i64) (idlS x).2] [] := by
 refine acI (N := 32) Tryz.func14 (Nat.le_of_ble_eq_true rfl) rfl fun w0 hd s0 ar => ?_
 refine AW.to (kc 0 rfl <| Kn) ?_
 refine AW.fact (fun a w hr => (ok_slice (R_ok (t := 0) rfl hr)).2) (fun hl0 => ?_)
 refine sr ?_
 refine st (OpT.alloc (H rfl) zr33 zk33) rfl ?_
 refine st (asI rfl) rfl ?_
 refine ng ?_
 refine sr ?_
 refine st (mvT rfl) rfl ?_
 refine s2 (OpT.c2 (ms := [.flat]) (c_spec_HoleTally _) (H rfl) (Af (T1 rfl) rfl rfl <| An) rfl rfl rfl) rfl ?_
 refine st (OpT.alias (H rfl) (by decide) (by decide)) rfl ?_
 refine st (OpT.extractV (m := 10010) (H rfl) rfl rfl rfl rfl rfl rfl rfl) rfl ?_
 refine st (OpT.extractV (m := 20010) (H rfl) rfl rfl rfl rfl rfl rfl rfl) rfl ?_
 refine st (asT rfl) rfl ?_
 refine st (asT rfl) rfl ?_
 refine ng ?_
 refine AW.seq ?_
 refine sr ?_
 refine st (mvT rfl) rfl ?_
 refine st (OpT.neq (H rfl) (T1 rfl) (I rfl)) rfl ?_
 refine ng ?_
 refine cd rfl (fun hc1 => ?_) fun hc1 => ?_
 ·
  obtain ⟨hc1, hc1'⟩ := pT hc1
  have hz1 := talS_bad hc1'
  refine sr ?_
  refine st (OpT.buildA (H rfl) ar33 sz31 zr33 zk33 (Built.nil _)) rfl ?_
  refine st (mvT rfl) rfl ?_
  refine sk (OpT.storeBA rfl rfl (Opd.whole (Root.self (t := 2) (by decide)) rfl) rfl sz33 (by decide) (T1 rfl)) rfl ?_
  refine st (asT rfl) rfl ?_
  refine AWl.to (kc 3 rfl <| kb 2 rfl <| kc 4 rfl <| Kn) ?_
  refine ng ?_
  refine AW.ret ?_
  refine rT ?_
  exact AX.rt (rs := [.cell 2 33, .tmp 3]) (ts := [none, some 3]) (.inl rfl) rfl (ROs.cons (RO.cellA (by decide) (Kb rfl (by first | (rw [idlS_no hz1.1]; first | done | rfl | exact hz1.2) | (rw [idlS_yes hz0.1]; first | done | rw [show z = 96 by omega]))) ag33 sz33) <| ROs.cons (RO.tmp (At.self (by decide)) (Kv rfl (by first | (rw [idlS_no hz1.1]; first | done | rfl | exact hz1.2) | (rw [idlS_yes hz0.1]; first | done | rw [show z = 96 by omega]))) rfl) <| ROs.nil) (by decide) OutsOK.nil
 ·
  obtain ⟨hc1, hc1'⟩ := pF hc1
  have hz0 := talS_ok hc1'
  refine AW.skip ?_
  refine AX.go ?_
  refine sr ?_
  refine st (OpT.buildA (H rfl) ar33 sz31 zr33 zk33 (Built.nil _)) rfl ?_
  refine st (OpT.alloc (H rfl) zr33 zk33) rfl ?_
  refine sk (OpT.storeBA rfl rfl (Opd.whole (Root.self (t := 6) (by decide)) rfl) rfl sz33 (by decide) (T1 rfl)) rfl ?_
  refine AWl.to (kb 6 rfl <| kc2 4 3 rfl <| kb 2 rfl <| Kn) ?_
  refine ng ?_
  refine AW.seq ?_
  refine sr ?_
  refine st (asI rfl) rfl ?_
  refine ng ?_
  refine AW.block ?_
  refine AW.loop (fun z : Nat => z ≤ 96) (fun z : Nat => keep [(2, .box 33 kMask (0#64, 0#64)), (4, .cel (Kd.slice (Kd.int .i64)) (tally x 96)), (6, .box 33 kMask (idl x z)), (7, .cel (Kd.int .i64) (z : Int))]) (fun z : Nat => 96 - z) (0) (Nat.zero_le _) (Kc 2 _ (Kb rfl rfl) <| Kc 4 _ (Kv rfl (by rw [hz0.2])) <| Kc 6 _ (Kb rfl rfl) <| Kc 7 _ (Kv rfl rfl) <| Kn) ?_
  intro z hI
  refine AW.seq ?_
  refine sr ?_
  refine st (mvT rfl) rfl ?_
  refine st (OpT.lss (H rfl) (T1 rfl) (I rfl)) rfl ?_
  refine ng ?_
  refine cd rfl (fun hc2 => ?_) fun hc2 => ?_
  ·
   obtain ⟨hc2, hc2'⟩ := pT hc2
   have ht := tally_get x (z := 96) (h := z) (by omega)
   refine AW.skip ?_
   refine AX.go ?_
   refine AW.seq ?_
   refine AW.block ?_
   refine sr ?_
   refine st (mvT rfl) rfl ?_
   refine st (mvT rfl) rfl ?_
   refine st (OpT.indexAddr (H rfl) (T1 rfl) (T1 rfl) el28 sz2 (by omega) (by assumption)) rfl ?_
   refine st (OpT.load (H rfl) (T1 rfl) ag2 rfl) rfl ?_
   refine st (OpT.eql (H rfl) (T1 rfl) (I rfl)) rfl ?_
   refine ng ?_
   refine cd rfl (fun hc3 => ?_) fun hc3 => ?_
   ·
    obtain ⟨hc3, hc3'⟩ := pT hc3
    refine dh fomo ?_
    refine d1 [6] (fun ve h => OpT.loadB (H rfl) (Root.self (t := 6) (by decide)) ((h _ (List.elem_iff.1 rfl)).trans rfl) ag33 sz33) rfl ?_
    refine d1 [7] (fun ve h => OpT.move (A := .cel _ _) (.inl rfl) rfl (ok' rfl) (D1 h rfl) rfl) rfl ?_
    refine d1 [28] (fun ve h => OpT.c1 (ms := [.flat]) (c_spec_l01Bit _ (by omega)) (H rfl) (Af (D1 h rfl) rfl rfl <| An) rfl rfl) rfl ?_
    refine d1 [27, 29] (fun ve h => OpT.c1 (ms := [.flat, .flat]) (c_spec_l01Join _ _) (H rfl) (Af (D1 h rfl) rfl rfl <| Af (D1 h rfl) rfl rfl <| An) rfl rfl) rfl ?_
    refine dm (t := 6) [6, 30] (fun ve h => OpT.storeBA rfl rfl (Opd.whole (Root.self (t := 6) (by decide)) ((h _ (List.elem_iff.1 rfl)).trans rfl)) ((h _ (List.elem_iff.1 rfl)).trans rfl) sz33 (by decide) (D1 h rfl)) rfl ?_
    refine dn ⟨by kernel_rfl, by kernel_rfl, ?_⟩
    refine AX.normal_block ?_
    refine AX.go ?_
    refine AW.region ?_
    refine st (mvT rfl) rfl ?_
    refine st (OpT.add (H rfl) (T1 rfl) (I rfl) (nw (by omega))) rfl ?_
    refine st (asT rfl) rfl ?_
    refine nn ?_
    exact AX.again (z + 1) (by omega) (by omega) (Kc 2 _ (Kb rfl rfl) <| Kc 4 _ (Kv rfl rfl) <| Kc 6 _ (Kb rfl (by first | exact idl_yes hc3' | exact idl_no hc3')) <| Kc 7 _ (Kv rfl (by omega)) <| Kn)
   ·
    obtain ⟨hc3, hc3'⟩ := pF hc3
    refine AW.skip ?_
    refine AX.normal_block ?_
    refine AX.go ?_
    refine AW.region ?_
    refine st (mvT rfl) rfl ?_
    refine st (OpT.add (H rfl) (T1 rfl) (I rfl) (nw (by omega))) rfl ?_
    refine st (asT rfl) rfl ?_
    refine nn ?_
    exact AX.again (z + 1) (by omega) (by omega) (Kc 2 _ (Kb rfl rfl) <| Kc 4 _ (Kv rfl rfl) <| Kc 6 _ (Kb rfl (by first | exact idl_yes hc3' | exact idl_no hc3')) <| Kc 7 _ (Kv rfl (by omega)) <| Kn)
  ·
   obtain ⟨hc2, hc2'⟩ := pF hc2
   refine AW.exit ?_
   refine xT <| xT <| AX.exit_hit ?_
   refine AX.go ?_
   refine sr ?_
   refine st (OpT.loadB (H rfl) (Root.self (t := 6) (by decide)) rfl ag33 sz33) rfl ?_
   refine sk (OpT.storeBA rfl rfl (Opd.whole (Root.self (t := 2) (by decide)) rfl) rfl sz33 (by decide) (T1 rfl)) rfl ?_
   refine st (asI rfl) rfl ?_
   refine ng ?_
   refine AW.ret ?_
   exact AX.rt (rs := [.cell 2 33, .tmp 3]) (ts := [none, some 3]) (.inl rfl) rfl (ROs.cons (RO.cellA (by decide) (Kb rfl (by first | (rw [idlS_no hz1.1]; first | done | rfl | exact hz1.2) | (rw [idlS_yes hz0.1]; first | done | rw [show z = 96 by omega]))) ag33 sz33) <| ROs.cons (RO.tmp (At.self (by decide)) (Kv rfl (by first | (rw [idlS_no hz1.1]; first | done | rfl | exact hz1.2) | (rw [idlS_yes hz0.1]; first | done | rw [show z = 96 by omega]))) rfl) <| ROs.nil) (by decide) OutsOK.nil

/-- impl.IdleHoles -/
theorem c_impl_IdleHoles (x : List DCard) : AC Tryz.prog 13 [.cel (Kd.slice kCard) x] [.agg kMask (idlS x).1, .cel (Kd.int .i64) (idlS x).2] [] := by
 refine acI (N := 27) Tryz.func13 (Nat.le_of_ble_eq_true rfl) rfl fun w0 hd s0 ar => ?_
 refine AW.to (kc 0 rfl <| Kn) ?_
 refine AW.fact (fun a w hr => (ok_slice (R_ok (t := 0) rfl hr)).2) (fun hl0 => ?_)
 have htn := tabF_nil (s := []) (x := x)
 refine sr ?_
 refine st (OpT.alloc (H rfl) zr33 zk33) rfl ?_
 refine st (asI rfl) rfl ?_
 refine ng ?_
 refine AW.seq ?_
 refine sr ?_
 refine st (mvT rfl) rfl ?_
 refine st (OpT.c1 (ms := [.flat, .flat, .flat]) (htn ▸ c_impl_checkTable [] x []) (H rfl) (Af (Opd.nilslice _) rfl rfl <| Af (T1 rfl) rfl rfl <| Af (Opd.nilslice _) rfl rfl <| An) rfl rfl) rfl ?_
 refine st (asT rfl) rfl ?_
 refine ng ?_
 refine sr ?_
 refine st (mvT rfl) rfl ?_
 refine st (OpT.neq (H rfl) (T1 rfl) (I rfl)) rfl ?_
 refine ng ?_
 refine cd rfl (fun hc1 => ?_) fun hc1 => ?_
 ·
  obtain ⟨hc1, hc1'⟩ := pT hc1
  have hz1 : tabE [] x ≠ 0 := hc1'
  refine sr ?_
  refine st (OpT.buildA (H rfl) ar33 sz31 zr33 zk33 (Built.nil _)) rfl ?_
  refine st (mvT rfl) rfl ?_
  refine sk (OpT.storeBA rfl rfl (Opd.whole (Root.self (t := 2) (by decide)) rfl) rfl sz33 (by decide) (T1 rfl)) rfl ?_
  refine st (asT rfl) rfl ?_
  refine ng ?_
  refine AW.ret ?_
  refine rT ?_
  exact AX.rt (rs := [.cell 2 33, .tmp 3]) (ts := [none, some 3]) (.inl rfl) rfl (ROs.cons (RO.cellA (by decide) (Kb rfl (by first | (rw [idlS_no hz1]; first | done | rfl) | (rw [idlS_yes hz0]; first | done | (rw [List.take_of_length_le (by omega)]; exact idl_same x)))) ag33 sz33) <| ROs.cons (RO.tmp (At.self (by decide)) (Kv rfl (by first | (rw [idlS_no hz1]; first | done | rfl) | (rw [idlS_yes hz0]; first | done | (rw [List.take_of_length_le (by omega)]; exact idl_same x)))) rfl) <| ROs.nil) (by decide) OutsOK.nil
 ·
  obtain ⟨hc1, hc1'⟩ := pF hc1
  have hz0 : tabE [] x = 0 := hc1'
  have hxl := (tabE_ok hz0).2.2
  refine AW.skip ?_
  refine AX.go ?_
  refine sr ?_
  refine st (OpT.c1 (ms := [.flat, .flat]) (c_impl_rangeMask 0 96 (by omega)) (H rfl) (Af (I rfl) rfl rfl <| Af (I rfl) rfl rfl <| An) rfl rfl) rfl ?_
  refine st (OpT.alloc (H rfl) zr33 zk33) rfl ?_
  refine sk (OpT.storeBA rfl rfl (Opd.whole (Root.self (t := 5) (by decide)) rfl) rfl sz33 (by decide) (T1 rfl)) rfl ?_
  refine ng ?_
  refine AW.seq ?_
  refine sr ?_
  refine st (mvT rfl) rfl ?_
  refine st (OpT.len (H rfl) (T1 rfl) el25) rfl ?_
  refine st (mvI rfl) rfl ?_
  refine ng ?_
  refine AW.block ?_
  refine AW.loop (fun z : Nat => z ≤ x.length) (fun z : Nat => keep [(2, .box 33 kMask (0#64, 0#64)), (5, .box 33 kMask ((x.take z).foldl (fun m c => lessM m c.2) (rngM 0 96))), (15, .cel (Kd.slice kCard) x), (16, .cel (Kd.int .i64) (x.length : Int)), (17, .cel (Kd.int .i64) (z : Int))]) (fun z : Nat => x.length - z) (0) (Nat.zero_le _) (Kc 2 _ (Kb rfl rfl) <| Kc 5 _ (Kb rfl rfl) <| Kc 15 _ (Kv rfl rfl) <| Kc 16 _ (Kv rfl rfl) <| Kc 17 _ (Kv rfl rfl) <| Kn) ?_
  intro z hI
  refine sr ?_
  refine st (OpT.lss (H rfl) (T1 rfl) (T1 rfl)) rfl ?_
  refine ng ?_
  refine AW.seq ?_
  refine cd rfl (fun hc2 => ?_) fun hc2 => ?_
  ·
   obtain ⟨hc2, hc2'⟩ := pT hc2
   obtain ⟨e, he⟩ := getI (x := x) (z := z) (by omega)
   refine AW.skip ?_
   refine AX.go ?_
   refine AW.seq ?_
   refine AW.block ?_
   refine sr ?_
   refine st (OpT.indexAddr (H rfl) (T1 rfl) (T1 rfl) el25 sz39 (by omega) (by assumption)) rfl ?_
   refine st (OpT.loadA (H rfl) (T1 rfl) ag39 sz39) rfl ?_
   refine st (OpT.alloc (H rfl) zr39 zk39) rfl ?_
   refine sk (OpT.storeBA rfl rfl (Opd.whole (Root.self (t := 7) (by decide)) rfl) rfl sz39 (by decide) (T1 rfl)) rfl ?_
   refine ng ?_
   refine AW.region ?_
   refine st (OpT.loadB (H rfl) (Root.self (t := 5) (by decide)) rfl ag33 sz33) rfl ?_
   refine st (OpT.fieldAddrB (H rfl) (Root.self (t := 7) (by decide)) rfl (by decide) fd39_1 sz33 (by decide) sb39_1) rfl ?_
   refine st (OpT.loadPA (H rfl) (T1 rfl) (.inl ⟨_, rfl, rfl⟩) ag33 sz33) rfl ?_
   refine st (OpT.c1 (ms := [.flat, .flat]) (c_impl_LessMask _ _) (H rfl) (Af (T1 rfl) rfl rfl <| Af (T1 rfl) rfl rfl <| An) rfl rfl) rfl ?_
   refine sk (OpT.storeBA rfl rfl (Opd.whole (Root.self (t := 5) (by decide)) rfl) rfl sz33 (by decide) (T1 rfl)) rfl ?_
   refine nn ?_
   refine AX.normal_block ?_
   refine AX.go ?_
   refine AW.region ?_
   refine st (OpT.add (H rfl) (T1 rfl) (I rfl) (nw (by omega))) rfl ?_
   refine st (mvT rfl) rfl ?_
   refine nn ?_
   exact AX.again (z + 1) (by omega) (by omega) (Kc 2 _ (Kb rfl rfl) <| Kc 5 _ (Kb rfl (lessf_next he)) <| Kc 15 _ (Kv rfl rfl) <| Kc 16 _ (Kv rfl rfl) <| Kc 17 _ (Kv rfl (by omega)) <| Kn)
  ·
   obtain ⟨hc2, hc2'⟩ := pF hc2
   refine AW.exit ?_
   refine xT <| xT <| AX.exit_hit ?_
   refine AX.go ?_
   refine sr ?_
   refine st (OpT.loadB (H rfl) (Root.self (t := 5) (by decide)) rfl ag33 sz33) rfl ?_
   refine sk (OpT.storeBA rfl rfl (Opd.whole (Root.self (t := 2) (by decide)) rfl) rfl sz33 (by decide) (T1 rfl)) rfl ?_
   refine st (asI rfl) rfl ?_
   refine ng ?_
   refine AW.ret ?_
   exact AX.rt (rs := [.cell 2 33, .tmp 3]) (ts := [none, some 3]) (.inl rfl) rfl (ROs.cons (RO.cellA (by decide) (Kb rfl (by first | (rw [idlS_no hz1]; first | done | rfl) | (rw [idlS_yes hz0]; first | done | (rw [List.take_of_length_le (by omega)]; exact idl_same x)))) ag33 sz33) <| ROs.cons (RO.tmp (At.self (by decide)) (Kv rfl (by first | (rw [idlS_no hz1]; first | done | rfl) | (rw [idlS_yes hz0]; first | done | (rw [List.take_of_length_le (by omega)]; exact idl_same x)))) rfl) <| ROs.nil) (by decide) OutsOK.nil
end Go.Proofs.YtohcpnobmknglaaGreatDoor.VL
