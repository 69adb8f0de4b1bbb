/- Proved here: what some functions of the program take and give: walks with the words of VA..VQ. Printed by program. -/
import Derived.Test.YtohcpnobmknglaaGreatDoorWT
import Derived.Test.YtohcpnobmknglaaGreatDoorBpa
import Derived.Test.YtohcpnobmknglaaGreatDoorWN
import Derived.Test.YtohcpnobmknglaaGreatDoorWP
set_option linter.unusedVariables false
set_option linter.unusedSimpArgs false
set_option maxRecDepth 4000
namespace Go.Proofs.YtohcpnobmknglaaGreatDoor.VL
open Go
/-- impl.Mask).holes -/
theorem c_impl_Mask_holes_o (m : DMask) : AC Tryz.prog 55 [.agg kMask m] [.own 2 (Kd.int .i64) (hol m 96)] [] := by
 refine acI (N := 18) Tryz.func55 (Nat.le_of_ble_eq_true rfl) rfl fun w0 hd s0 ar => ?_
 refine AW.to (ka 0 rfl <| Kn) ?_
 refine sr ?_
 refine st (OpT.frz (OpT.boxA (E := 33) (H rfl) (T1 rfl))) rfl ?_
 refine st (nilO (E := 2) (Kd.int .i64) rfl (.inl rfl)) rfl ?_
 refine ng ?_
 refine sr ?_
 refine st (OpT.buildSlice0 (m := 0) (z := .bool false) (Kd.int .i64) (H rfl) el28 sz2 (by decide)) rfl ?_
 refine sg (OpT.take (.inl rfl) rfl (ok' rfl) (Root.self (by decide)) rfl rfl (by decide)) (ko 3 rfl <| ko 2 rfl <| kc 1 rfl <| ka 0 rfl <| Kn) rfl ?_
 refine ng ?_
 refine AW.seq ?_
 refine sr ?_
 refine st (mvI rfl) rfl ?_
 refine ng ?_
 refine AW.block ?_
 refine AW.loop (fun z : Nat => z ≤ 96) (fun z : Nat => keep [(1, .cel (Kd.ptr kMask) m), (3, .own 2 (Kd.int .i64) (hol m z)), (6, .cel (Kd.int .i64) (z : Int))]) (fun z : Nat => 96 - z) (0) (Nat.zero_le _) (Kc 1 _ (Kv rfl rfl) <| Kc 3 _ (Ko rfl rfl) <| Kc 6 _ (Kv rfl rfl) <| Kn) ?_
 intro z hI
 refine sr ?_
 refine st (OpT.lss (H rfl) (T1 rfl) (I rfl)) rfl ?_
 refine ng ?_
 refine AW.seq ?_
 refine cd rfl (fun hc1 => ?_) fun hc1 => ?_
 ·
  obtain ⟨hc1, hc1'⟩ := pT hc1
  refine AW.skip ?_
  refine AX.go ?_
  refine AW.seq ?_
  refine AW.block ?_
  refine sr ?_
  refine st (mvT rfl) rfl ?_
  refine st (asT rfl) rfl ?_
  refine ng ?_
  refine sr ?_
  refine st (OpT.loadA (H rfl) (T1 rfl) ag33 sz33) rfl ?_
  refine st (mvT rfl) rfl ?_
  refine st (OpT.c1 (ms := [.flat, .flat]) (c_impl_Mask_has _ _ (by omega)) (H rfl) (Af (T1 rfl) rfl rfl <| Af (T1 rfl) rfl rfl <| An) rfl rfl) rfl ?_
  refine ng ?_
  refine cd rfl (fun hc2 => ?_) fun hc2 => ?_
  ·
   obtain ⟨hc2, hc2'⟩ := pT hc2
   refine AW.region ?_
   refine st (OpT.alias (H rfl) (by decide) (by decide)) rfl ?_
   refine st (mvT rfl) rfl ?_
   refine st (OpT.buildSlice (H rfl) el28 zr2 sz2 rfl (by decide) zk2 (by decide) (Built.cel (T1 rfl) rfl rfl (sub_arr (by decide) (0 : Int)) (Built.nil _))) rfl ?_
   refine sg (OpT.append (H rfl) (Root.ali rfl (by decide) (by decide)) rfl (Src.own (Root.self (t := 14) (by decide)) rfl) (by decide) el28 zr2 rfl sz2 by2 (by decide) (by have := hol_len m z; simp only [List.length_set, List.length_replicate]; omega)) (ko 15 rfl <| ko 14 rfl <| kc3 13 11 10 rfl <| ka 9 rfl <| kc4 4 8 7 1 rfl <| kc 6 rfl <| Kn) rfl ?_
   refine sg (OpT.take (.inl rfl) rfl (ok' rfl) (Root.self (by decide)) rfl rfl (by decide)) (ko 3 rfl <| ko 14 rfl <| kc3 13 11 10 rfl <| ka 9 rfl <| kc4 4 8 7 1 rfl <| kc 6 rfl <| Kn) rfl ?_
   refine nn ?_
   refine AX.normal_block ?_
   refine AX.go ?_
   refine AW.region ?_
   refine st (OpT.add (H rfl) (T1 rfl) (I rfl) (nw (by omega))) rfl ?_
   refine st (mvT rfl) rfl ?_
   refine nn ?_
   exact AX.again (z + 1) (by omega) (by omega) (Kc 1 _ (Kv rfl rfl) <| Kc 3 _ (Ko rfl (by first | exact hol_yes hc2 (by omega) | exact hol_no hc2 (by omega))) <| Kc 6 _ (Kv rfl (by omega)) <| Kn)
  ·
   obtain ⟨hc2, hc2'⟩ := pF hc2
   refine AW.skip ?_
   refine AX.normal_block ?_
   refine AX.go ?_
   refine AW.region ?_
   refine st (OpT.add (H rfl) (T1 rfl) (I rfl) (nw (by omega))) rfl ?_
   refine st (mvT rfl) rfl ?_
   refine nn ?_
   exact AX.again (z + 1) (by omega) (by omega) (Kc 1 _ (Kv rfl rfl) <| Kc 3 _ (Ko rfl (by first | exact hol_yes hc2 (by omega) | exact hol_no hc2 (by omega))) <| Kc 6 _ (Kv rfl (by omega)) <| Kn)
 ·
  obtain ⟨hc1, hc1'⟩ := pF hc1
  refine AW.exit ?_
  refine xT <| xT <| AX.exit_hit ?_
  refine AX.go ?_
  refine sr ?_
  refine st (OpT.alias (H rfl) (by decide) (by decide)) rfl ?_
  refine sg (OpT.take (.inl rfl) rfl (ok' rfl) (Root.ali rfl (by decide) (by decide)) rfl rfl (by decide)) (ko 2 rfl <| kc3 7 1 6 rfl <| Kn) rfl ?_
  refine ng ?_
  refine AW.ret ?_
  exact AX.rt (rs := [.tmp 2]) (ts := [some 2]) (.inl rfl) rfl (ROs.cons (RO.tmp (At.self (by decide)) (Ko rfl (by rw [show z = 96 by omega])) rfl) <| ROs.nil) (by decide) OutsOK.nil
theorem c_impl_Mask_holes (m : DMask) : AC Tryz.prog 55 [.agg kMask m] [.cel (Kd.slice (Kd.int .i64)) (hol m 96)] [] := (c_impl_Mask_holes_o m).frz rfl

/-- impl.HoleTally -/
theorem c_impl_HoleTally_o (x : List DCard) : AC Tryz.prog 11 [.cel (Kd.slice kCard) x] [.own 2 (Kd.int .i64) (talS x).1, .cel (Kd.int .i64) (talS x).2] [] := by
 refine acI (N := 39) Tryz.func11 (Nat.le_of_ble_eq_true rfl) rfl fun w0 hd s0 ar => ?_
 refine AW.to (kc 0 rfl <| Kn) ?_
 refine AW.fact (fun a w hr => (ok_slice (R_ok (t := 0) rfl hr)).2) (fun hl0 => ?_)
 have htn := tabF_nil (s := []) (x := x)
 refine sr ?_
 refine st (nilO (E := 2) (Kd.int .i64) rfl (.inl rfl)) rfl ?_
 refine st (asI rfl) rfl ?_
 refine ng ?_
 refine AW.seq ?_
 refine sr ?_
 refine st (mvT rfl) rfl ?_
 refine st (OpT.c1 (ms := [.flat, .flat, .flat]) (htn ▸ c_impl_checkTable [] x []) (H rfl) (Af (Opd.nilslice _) rfl rfl <| Af (T1 rfl) rfl rfl <| Af (Opd.nilslice _) rfl rfl <| An) rfl rfl) rfl ?_
 refine st (asT rfl) rfl ?_
 refine ng ?_
 refine sr ?_
 refine st (mvT rfl) rfl ?_
 refine st (OpT.neq (H rfl) (T1 rfl) (I rfl)) rfl ?_
 refine ng ?_
 refine cd rfl (fun hc1 => ?_) fun hc1 => ?_
 ·
  obtain ⟨hc1, hc1'⟩ := pT hc1
  have hz1 : tabE [] x ≠ 0 := hc1'
  refine sr ?_
  refine st (mvT rfl) rfl ?_
  refine st (nilO (E := 2) (Kd.int .i64) rfl (.inl rfl)) rfl ?_
  refine st (asT rfl) rfl ?_
  refine ng ?_
  refine AW.ret ?_
  refine rT ?_
  exact AX.rt (rs := [.tmp 2, .tmp 3]) (ts := [some 2, some 3]) (.inl rfl) rfl (ROs.cons (RO.tmp (At.self (by decide)) (Ko rfl (by first | (rw [talS_no hz1]; done) | (rw [talS_yes hz0]; first | done | (rw [List.take_of_length_le (by omega)]; exact hols_end x)))) rfl) <| ROs.cons (RO.tmp (At.self (by decide)) (Kv rfl (by first | (rw [talS_no hz1]; done) | (rw [talS_yes hz0]; first | done | (rw [List.take_of_length_le (by omega)]; exact hols_end x)))) rfl) <| ROs.nil) (by decide) OutsOK.nil
 ·
  obtain ⟨hc1, hc1'⟩ := pF hc1
  have hz0 : tabE [] x = 0 := hc1'
  have hxl := (tabE_ok hz0).2.2
  refine AW.skip ?_
  refine AX.go ?_
  refine sr ?_
  refine st (OpT.make (H rfl) (I rfl) (I rfl) el28 zr2 sz2 by2 (by decide) zk2 (by decide) (by decide)) rfl ?_
  refine sg (OpT.take (.inl rfl) rfl (ok' rfl) (Root.self (by decide)) rfl rfl (by decide)) (ko 5 rfl <| kc4 13 12 4 11 rfl <| kc2 10 3 rfl <| ko 2 rfl <| kc 0 rfl <| Kn) rfl ?_
  refine ng ?_
  refine AW.seq ?_
  refine sr ?_
  refine st (mvT rfl) rfl ?_
  refine st (OpT.len (H rfl) (T1 rfl) el25) rfl ?_
  refine st (mvI rfl) rfl ?_
  refine ng ?_
  refine AW.block ?_
  refine AW.loop (fun z : Nat => z ≤ x.length) (fun z : Nat => keep [(5, .own 2 (Kd.int .i64) (cntL 0 96 (holsL (x.take z)))), (16, .cel (Kd.slice kCard) x), (17, .cel (Kd.int .i64) (x.length : Int)), (18, .cel (Kd.int .i64) (z : Int))]) (fun z : Nat => x.length - z) (0) (Nat.zero_le _) (Kc 5 _ (Ko rfl cntL_nil) <| Kc 16 _ (Kv rfl rfl) <| Kc 17 _ (Kv rfl rfl) <| Kc 18 _ (Kv rfl rfl) <| Kn) ?_
  intro z hI
  refine sr ?_
  refine st (OpT.lss (H rfl) (T1 rfl) (T1 rfl)) rfl ?_
  refine ng ?_
  refine AW.seq ?_
  refine cd rfl (fun hc2 => ?_) fun hc2 => ?_
  ·
   obtain ⟨hc2, hc2'⟩ := pT hc2
   obtain ⟨e, he⟩ := getI (x := x) (z := z) (by omega)
   refine AW.skip ?_
   refine AX.go ?_
   refine AW.seq ?_
   refine AW.block ?_
   refine sr ?_
   refine st (OpT.indexAddr (H rfl) (T1 rfl) (T1 rfl) el25 sz39 (by omega) (by assumption)) rfl ?_
   refine st (OpT.loadA (H rfl) (T1 rfl) ag39 sz39) rfl ?_
   refine st (OpT.alloc (H rfl) zr39 zk39) rfl ?_
   refine sk (OpT.storeBA rfl rfl (Opd.whole (Root.self (t := 7) (by decide)) rfl) rfl sz39 (by decide) (T1 rfl)) rfl ?_
   refine ng ?_
   refine sr ?_
   refine st (OpT.fieldAddrB (H rfl) (Root.self (t := 7) (by decide)) rfl (by decide) fd39_1 sz33 (by decide) sb39_1) rfl ?_
   refine st (OpT.loadPA (H rfl) (T1 rfl) (.inl ⟨_, rfl, rfl⟩) ag33 sz33) rfl ?_
   refine st (OpT.c1 (ms := [.flat]) (c_impl_Mask_holes _) (H rfl) (Af (T1 rfl) rfl rfl <| An) rfl rfl) rfl ?_
   refine st (OpT.len (H rfl) (T1 rfl) el28) rfl ?_
   refine st (mvI rfl) rfl ?_
   refine ng ?_
   refine AW.block ?_
   refine AW.loop (fun y : Nat => y ≤ (hol e.2 96).length) (fun y : Nat => keep [(5, .own 2 (Kd.int .i64) (cntL 0 96 (holsL (x.take z) ++ (hol e.2 96).take y))), (16, .cel (Kd.slice kCard) x), (17, .cel (Kd.int .i64) (x.length : Int)), (18, .cel (Kd.int .i64) (z : Int)), (24, .cel (Kd.slice (Kd.int .i64)) (hol e.2 96)), (25, .cel (Kd.int .i64) ((hol e.2 96).length : Int)), (26, .cel (Kd.int .i64) (y : Int))]) (fun y : Nat => (hol e.2 96).length - y) (0) (Nat.zero_le _) (Kc 5 _ (Ko rfl (by rw [List.take_zero, List.append_nil])) <| Kc 16 _ (Kv rfl rfl) <| Kc 17 _ (Kv rfl rfl) <| Kc 18 _ (Kv rfl rfl) <| Kc 24 _ (Kv rfl rfl) <| Kc 25 _ (Kv rfl rfl) <| Kc 26 _ (Kv rfl rfl) <| Kn) ?_
   intro y hI
   refine sr ?_
   refine st (OpT.lss (H rfl) (T1 rfl) (T1 rfl)) rfl ?_
   refine ng ?_
   refine AW.seq ?_
   refine cd rfl (fun hc3 => ?_) fun hc3 => ?_
   ·
    obtain ⟨hc3, hc3'⟩ := pT hc3
    obtain ⟨n, hn⟩ := getI (x := hol e.2 96) (z := y) (by omega)
    have hol96 := hol_len e.2 96
    have hnr := hol_mem (mem_getI hn)
    have hln : (holsL (x.take z) ++ (hol e.2 96).take y).length ≤ 96 * 60 + 96 := by (rw [List.length_append, List.length_take]; have h1 := hols_len (x.take z); rw [List.length_take] at h1; omega)
    obtain ⟨v, hv, hv1⟩ := cntL_in (b := 0) (a := n) (n := 96) (l := holsL (x.take z) ++ (hol e.2 96).take y) (by omega) (by omega)
    refine AW.skip ?_
    refine AX.go ?_
    refine AW.seq ?_
    refine AW.block ?_
    refine sr ?_
    refine st (OpT.indexAddr (H rfl) (T1 rfl) (T1 rfl) el28 sz2 (by omega) (by assumption)) rfl ?_
    refine st (OpT.load (H rfl) (T1 rfl) ag2 rfl) rfl ?_
    refine st (asT rfl) rfl ?_
    refine ng ?_
    refine AW.region ?_
    refine st (OpT.alias (H rfl) (by decide) (by decide)) rfl ?_
    refine st (mvT rfl) rfl ?_
    refine st (OpT.indexAddrO (H rfl) (Root.ali rfl (by decide) (by decide)) rfl (by decide) (T1 rfl) el28 sz2 (by omega) (by assumption)) rfl ?_
    refine st (OpT.loadP (H rfl) (T1 rfl) (.inr ⟨_, _, rfl, (by assumption)⟩) ag2 rfl) rfl ?_
    refine st (OpT.add (H rfl) (T1 rfl) (I rfl) (nw (by omega))) rfl ?_
    refine st (OpT.indexAddrO (H rfl) (Root.ali rfl (by decide) (by decide)) rfl (by decide) (T1 rfl) el28 sz2 (by omega) (by assumption)) rfl ?_
    refine sk (OpT.storeO rfl rfl (T1 rfl) rfl (by assumption) sz2 rfl (T1 rfl)) rfl ?_
    refine nn ?_
    refine AX.normal_block ?_
    refine AX.go ?_
    refine AW.region ?_
    refine st (OpT.add (H rfl) (T1 rfl) (I rfl) (nw (by omega))) rfl ?_
    refine st (mvT rfl) rfl ?_
    refine nn ?_
    exact AX.again (y + 1) (by omega) (by omega) (Kc 5 _ (Ko rfl (cnt_next hn (by omega) hv)) <| Kc 16 _ (Kv rfl rfl) <| Kc 17 _ (Kv rfl rfl) <| Kc 18 _ (Kv rfl rfl) <| Kc 24 _ (Kv rfl rfl) <| Kc 25 _ (Kv rfl rfl) <| Kc 26 _ (Kv rfl (by omega)) <| Kn)
   ·
    obtain ⟨hc3, hc3'⟩ := pF hc3
    refine AW.exit ?_
    refine xT <| xT <| AX.exit_hit ?_
    refine AX.normal_block ?_
    refine AX.go ?_
    refine AW.region ?_
    refine st (OpT.add (H rfl) (T1 rfl) (I rfl) (nw (by omega))) rfl ?_
    refine st (mvT rfl) rfl ?_
    refine nn ?_
    exact AX.again (z + 1) (by omega) (by omega) (Kc 5 _ (Ko rfl (by rw [List.take_of_length_le (l := hol e.2 96) (by omega), hols_next he])) <| Kc 16 _ (Kv rfl rfl) <| Kc 17 _ (Kv rfl rfl) <| Kc 18 _ (Kv rfl (by omega)) <| Kn)
  ·
   obtain ⟨hc2, hc2'⟩ := pF hc2
   refine AW.exit ?_
   refine xT <| xT <| AX.exit_hit ?_
   refine AX.go ?_
   refine sr ?_
   refine st (OpT.alias (H rfl) (by decide) (by decide)) rfl ?_
   refine sg (OpT.take (.inl rfl) rfl (ok' rfl) (Root.ali rfl (by decide) (by decide)) rfl rfl (by decide)) (ko 2 rfl <| kc4 19 16 17 18 rfl <| Kn) rfl ?_
   refine st (asI rfl) rfl ?_
   refine ng ?_
   refine AW.ret ?_
   exact AX.rt (rs := [.tmp 2, .tmp 3]) (ts := [some 2, some 3]) (.inl rfl) rfl (ROs.cons (RO.tmp (At.self (by decide)) (Ko rfl (by first | (rw [talS_no hz1]; done) | (rw [talS_yes hz0]; first | done | (rw [List.take_of_length_le (by omega)]; exact hols_end x)))) rfl) <| ROs.cons (RO.tmp (At.self (by decide)) (Kv rfl (by first | (rw [talS_no hz1]; done) | (rw [talS_yes hz0]; first | done | (rw [List.take_of_length_le (by omega)]; exact hols_end x)))) rfl) <| ROs.nil) (by decide) OutsOK.nil
theorem c_impl_HoleTally (x : List DCard) : AC Tryz.prog 11 [.cel (Kd.slice kCard) x] [.cel (Kd.slice (Kd.int .i64)) (talS x).1, .cel (Kd.int .i64) (talS x).2] [] := (c_impl_HoleTally_o x).frz rfl
end Go.Proofs.YtohcpnobmknglaaGreatDoor.VL
