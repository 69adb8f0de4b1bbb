/- Proved here: what some functions of the program take and give: walks with the words of VA..VQ. Printed by program. -/
import Derived.Test.YtconciibbhpigaaDoorWT
import Derived.Test.YtconciibbhpigaaDoorPXL
set_option linter.unusedVariables false
set_option linter.unusedSimpArgs false
set_option maxRecDepth 4000
namespace Go.Proofs.YtconciibbhpigaaDoor.VL
open Go
/-- spec.l01Split -/
theorem c_spec_l01Split_o (x : ByteArray) (c : UInt8) (k : Int) (hx : x.size ≤ 1000000000) (hk : k = (c.toNat : Int)) : AC Tryd.prog 78 [.cel Kd.str x, .cel (Kd.int .u8) k] [.own 9 Kd.str (splB c x)] [] := by
 refine acI (N := 35) Tryd.func78 (Nat.le_of_ble_eq_true rfl) rfl fun w0 hd s0 ar => ?_
 refine AW.to (kc2 0 1 rfl <| Kn) ?_
 have hcn := cnB_le c x
 refine sr ?_
 refine st (nilO (E := 9) Kd.str rfl (.inl rfl)) rfl ?_
 refine ng ?_
 refine sr ?_
 refine st (OpT.buildSlice0 (m := 0) (z := .bool false) Kd.str (H rfl) el47 sz9 (by decide)) rfl ?_
 refine sg (OpT.take (.inl rfl) rfl (ok' rfl) (Root.self (by decide)) rfl rfl (by decide)) (ko 5 rfl <| ko 4 rfl <| kc2 0 1 rfl <| Kn) rfl ?_
 refine ng ?_
 refine sr ?_
 refine st (asI rfl) rfl ?_
 refine ng ?_
 refine AW.seq ?_
 refine sr ?_
 refine st (asI rfl) rfl ?_
 refine ng ?_
 refine AW.block ?_
 refine AW.loop (fun p : Nat × Nat × List ByteArray => sprI c x p) (fun p : Nat × Nat × List ByteArray => keep [(0, .cel Kd.str x), (1, .cel (Kd.int .u8) k), (5, .own 9 Kd.str p.2.2), (6, .cel (Kd.int .i64) (p.2.1 : Int)), (7, .cel (Kd.int .i64) (p.1 : Int))]) (fun p : Nat × Nat × List ByteArray => x.size - p.1) ((0, 0, [])) (spr_zero c x) (Kc 0 _ (Kv rfl rfl) <| Kc 1 _ (Kv rfl rfl) <| Kc 5 _ (Ko rfl rfl) <| Kc 6 _ (Kv rfl rfl) <| Kc 7 _ (Kv rfl rfl) <| Kn) ?_
 intro p hI
 have hq1 : p.1 ≤ x.size := hI.1
 have hq2 : p.2.1 ≤ p.1 := hI.2.1
 have hq3 := spr_len hI
 refine AW.seq ?_
 refine sr ?_
 refine st (mvT rfl) rfl ?_
 refine st (mvT rfl) rfl ?_
 refine st (OpT.lenS (H rfl) (T1 rfl) Tryd.underlying9) rfl ?_
 refine st (OpT.lss (H rfl) (T1 rfl) (T1 rfl)) rfl ?_
 refine ng ?_
 refine cd rfl (fun hc1 => ?_) fun hc1 => ?_
 ·
  obtain ⟨hc1, hc1'⟩ := pT hc1
  obtain ⟨b, hbl⟩ := getI (x := bL x) (z := p.1) (by rw [bL_len]; omega)
  have hb := bL_get hbl
  refine AW.skip ?_
  refine AX.go ?_
  refine AW.seq ?_
  refine AW.block ?_
  refine sr ?_
  refine st (mvT rfl) rfl ?_
  refine st (mvT rfl) rfl ?_
  refine st (OpT.indexS (H rfl) (T1 rfl) (T1 rfl) Tryd.underlying9 (by omega) hb) rfl ?_
  refine st (mvT rfl) rfl ?_
  refine st (OpT.eql (H rfl) (T1 rfl) (T1 rfl)) rfl ?_
  refine ng ?_
  refine cd rfl (fun hc2 => ?_) fun hc2 => ?_
  ·
   obtain ⟨hc2, hc2'⟩ := pT hc2
   have hbc : b = c := u8_ext (by have h9 := hc2; rw [beq_iff_eq] at h9; omega)
   rw [hbc] at hbl
   refine sr ?_
   refine st (OpT.alias (H rfl) (by decide) (by decide)) rfl ?_
   refine st (mvT rfl) rfl ?_
   refine st (mvT rfl) rfl ?_
   refine st (mvT rfl) rfl ?_
   refine st (OpT.cutSLH (H rfl) (T1 rfl) (T1 rfl) (T1 rfl) Tryd.underlying9 (by omega)) rfl ?_
   refine st (OpT.buildSlice (H rfl) el47 zr9 sz9 rfl (by decide) zk9 (by decide) (Built.cel (T1 rfl) rfl rfl (sub_arr (by decide) (.empty : ByteArray)) (Built.nil _))) rfl ?_
   refine sg (OpT.append (H rfl) (Root.ali rfl (by decide) (by decide)) rfl (Src.own (Root.self (t := 25) (by decide)) rfl) (by decide) el47 zr9 rfl sz9 by9 (by decide) (by simp only [List.length_set, List.length_replicate]; omega)) (ko 26 rfl <| ko 25 rfl <| kc4 24 23 22 21 rfl <| kc4 19 18 17 16 rfl <| kc4 15 12 11 10 rfl <| kc4 9 0 1 6 rfl <| kc 7 rfl <| Kn) rfl ?_
   refine sg (OpT.take (.inl rfl) rfl (ok' rfl) (Root.self (by decide)) rfl rfl (by decide)) (ko 5 rfl <| ko 25 rfl <| kc4 24 23 22 21 rfl <| kc4 19 18 17 16 rfl <| kc4 15 12 11 10 rfl <| kc4 9 0 1 6 rfl <| kc 7 rfl <| Kn) rfl ?_
   refine ng ?_
   refine AW.region ?_
   refine st (mvT rfl) rfl ?_
   refine st (OpT.add (H rfl) (T1 rfl) (I rfl) (nw (by omega))) rfl ?_
   refine st (asT rfl) rfl ?_
   refine nn ?_
   refine AX.normal_block ?_
   refine AX.go ?_
   refine AW.region ?_
   refine st (mvT rfl) rfl ?_
   refine st (OpT.add (H rfl) (T1 rfl) (I rfl) (nw (by omega))) rfl ?_
   refine st (asT rfl) rfl ?_
   refine nn ?_
   exact AX.again ((p.1 + 1, p.1 + 1, p.2.2 ++ [x.extract p.2.1 p.1])) (by first | exact spr_hit hI hbl | exact spr_miss hI hbl hbc) (by simp only []; omega) (Kc 0 _ (Kv rfl rfl) <| Kc 1 _ (Kv rfl rfl) <| Kc 5 _ (Ko rfl rfl) <| Kc 6 _ (Kv rfl (by first | rfl | (simp only []; omega))) <| Kc 7 _ (Kv rfl (by simp only []; omega)) <| Kn)
  ·
   obtain ⟨hc2, hc2'⟩ := pF hc2
   have hbc : b ≠ c := fun e9 => by (have h9 := hc2; rw [e9, hk] at h9; simp at h9)
   refine AW.skip ?_
   refine AX.normal_block ?_
   refine AX.go ?_
   refine AW.region ?_
   refine st (mvT rfl) rfl ?_
   refine st (OpT.add (H rfl) (T1 rfl) (I rfl) (nw (by omega))) rfl ?_
   refine st (asT rfl) rfl ?_
   refine nn ?_
   exact AX.again ((p.1 + 1, p.2.1, p.2.2)) (by first | exact spr_hit hI hbl | exact spr_miss hI hbl hbc) (by simp only []; omega) (Kc 0 _ (Kv rfl rfl) <| Kc 1 _ (Kv rfl rfl) <| Kc 5 _ (Ko rfl rfl) <| Kc 6 _ (Kv rfl (by first | rfl | (simp only []; omega))) <| Kc 7 _ (Kv rfl (by simp only []; omega)) <| Kn)
 ·
  obtain ⟨hc1, hc1'⟩ := pF hc1
  refine AW.exit ?_
  refine xT <| xT <| AX.exit_hit ?_
  refine AX.go ?_
  refine sr ?_
  refine st (OpT.alias (H rfl) (by decide) (by decide)) rfl ?_
  refine st (mvT rfl) rfl ?_
  refine st (mvT rfl) rfl ?_
  refine st (OpT.cutSL (H rfl) (T1 rfl) (T1 rfl) Tryd.underlying9 (by omega)) rfl ?_
  refine st (OpT.buildSlice (H rfl) el47 zr9 sz9 rfl (by decide) zk9 (by decide) (Built.cel (T1 rfl) rfl rfl (sub_arr (by decide) (.empty : ByteArray)) (Built.nil _))) rfl ?_
  refine sg (OpT.append (H rfl) (Root.ali rfl (by decide) (by decide)) rfl (Src.own (Root.self (t := 33) (by decide)) rfl) (by decide) el47 zr9 rfl sz9 by9 (by decide) (by simp only [List.length_set, List.length_replicate]; omega)) (ko 34 rfl <| ko 33 rfl <| kc4 32 31 30 12 rfl <| kc4 11 10 9 0 rfl <| kc3 1 6 7 rfl <| Kn) rfl ?_
  refine sg (OpT.take (.inl rfl) rfl (ok' rfl) (Root.self (by decide)) rfl rfl (by decide)) (ko 4 rfl <| ko 33 rfl <| kc4 32 31 30 12 rfl <| kc4 11 10 9 0 rfl <| kc3 1 6 7 rfl <| Kn) rfl ?_
  refine AWl.to (ko 4 rfl <| Kn) ?_
  refine ng ?_
  refine AW.ret ?_
  exact AX.rt (rs := [.tmp 4]) (ts := [some 4]) (.inl rfl) rfl (ROs.cons (RO.tmp (At.self (by decide)) (Ko rfl (spr_end hI (by omega))) rfl) <| ROs.nil) (by decide) OutsOK.nil
theorem c_spec_l01Split (x : ByteArray) (c : UInt8) (k : Int) (hx : x.size ≤ 1000000000) (hk : k = (c.toNat : Int)) : AC Tryd.prog 78 [.cel Kd.str x, .cel (Kd.int .u8) k] [.cel (Kd.slice Kd.str) (splB c x)] [] := (c_spec_l01Split_o x c k hx hk).frz rfl
end Go.Proofs.YtconciibbhpigaaDoor.VL
