/- Proved here: what some functions of the program take and give: walks with the words of VA..VQ. Printed by program. -/
import Derived.Test.YtmmjcpiikdcldaaGreatDoorWT
import Derived.Test.YtmmjcpiikdcldaaGreatDoorPXQ
import Derived.Test.YtmmjcpiikdcldaaGreatDoorVLP
import Derived.Test.YtmmjcpiikdcldaaGreatDoorLSP
import Derived.Test.YtmmjcpiikdcldaaGreatDoorWRD
import Derived.Test.YtmmjcpiikdcldaaGreatDoorWK
import Derived.Test.YtmmjcpiikdcldaaGreatDoorWE1
import Derived.Test.YtmmjcpiikdcldaaGreatDoorWP
import Derived.Test.YtmmjcpiikdcldaaGreatDoorWN
set_option linter.unusedVariables false
set_option linter.unusedSimpArgs false
set_option maxRecDepth 4000
namespace Go.Proofs.YtmmjcpiikdcldaaGreatDoor.VL
open Go
theorem c_fmtA (n : Int) : AC Tryz.prog 98 [.cel (Kd.int .i64) n, .cel (Kd.int .i64) 10] [.cel Kd.str (fmtB n)] [] := AC.fmt trivial Tryz.fmtL rfl (g := 0) (by kernel_rfl) n Tryz.func98 rfl
theorem c_pin_all (w : ByteArray) (hx : w.size ≤ 1000000000) : PIn w := AC.parseAll trivial Tryz.parL rfl (g1 := 2) (g2 := 3) (by kernel_rfl) (by kernel_rfl) w hx Tryz.func128 rfl
theorem c_rdn_all (w : ByteArray) (hx : w.size ≤ 1000000000) : RdN w := c_impl_readNumber w (c_pin_all w hx) (fun _ => c_fmtA _)

/-- spec.l01Split -/
theorem c_spec_l01Split_o (x : ByteArray) (c : UInt8) (k : Int) (hx : x.size ≤ 1000000000) (hk : k = (c.toNat : Int)) : AC Tryz.prog 73 [.cel Kd.str x, .cel (Kd.int .u8) k] [.own 9 Kd.str (splB c x)] [] := by
 refine acI (N := 35) Tryz.func73 (Nat.le_of_ble_eq_true rfl) rfl fun w0 hd s0 ar => ?_
 refine AW.to (kc2 0 1 rfl <| Kn) ?_
 have hcn := cnB_le c x
 refine sr ?_
 refine st (nilO (E := 9) Kd.str rfl (.inl rfl)) rfl ?_
 refine ng ?_
 refine sr ?_
 refine st (OpT.buildSlice0 (m := 0) (z := .bool false) Kd.str (H rfl) el81 sz9 (by decide)) rfl ?_
 refine sg (OpT.take (.inl rfl) rfl (ok' rfl) (Root.self (by decide)) rfl rfl (by decide)) (ko 5 rfl <| ko 4 rfl <| kc2 0 1 rfl <| Kn) rfl ?_
 refine ng ?_
 refine sr ?_
 refine st (asI rfl) rfl ?_
 refine ng ?_
 refine AW.seq ?_
 refine sr ?_
 refine st (asI rfl) rfl ?_
 refine ng ?_
 refine AW.block ?_
 refine AW.loop (fun p : Nat × Nat × List ByteArray => sprI c x p) (fun p : Nat × Nat × List ByteArray => keep [(0, .cel Kd.str x), (1, .cel (Kd.int .u8) k), (5, .own 9 Kd.str p.2.2), (6, .cel (Kd.int .i64) (p.2.1 : Int)), (7, .cel (Kd.int .i64) (p.1 : Int))]) (fun p : Nat × Nat × List ByteArray => x.size - p.1) ((0, 0, [])) (spr_zero c x) (Kc 0 _ (Kv rfl rfl) <| Kc 1 _ (Kv rfl rfl) <| Kc 5 _ (Ko rfl rfl) <| Kc 6 _ (Kv rfl rfl) <| Kc 7 _ (Kv rfl rfl) <| Kn) ?_
 intro p hI
 have hq1 : p.1 ≤ x.size := hI.1
 have hq2 : p.2.1 ≤ p.1 := hI.2.1
 have hq3 := spr_len hI
 refine AW.seq ?_
 refine sr ?_
 refine st (mvT rfl) rfl ?_
 refine st (mvT rfl) rfl ?_
 refine st (OpT.lenS (H rfl) (T1 rfl) Tryz.underlying9) rfl ?_
 refine st (OpT.lss (H rfl) (T1 rfl) (T1 rfl)) rfl ?_
 refine ng ?_
 refine cd rfl (fun hc1 => ?_) fun hc1 => ?_
 ·
  obtain ⟨hc1, hc1'⟩ := pT hc1
  obtain ⟨b, hbl⟩ := getI (x := bL x) (z := p.1) (by rw [bL_len]; omega)
  have hb := bL_get hbl
  refine AW.skip ?_
  refine AX.go ?_
  refine AW.seq ?_
  refine AW.block ?_
  refine sr ?_
  refine st (mvT rfl) rfl ?_
  refine st (mvT rfl) rfl ?_
  refine st (OpT.indexS (H rfl) (T1 rfl) (T1 rfl) Tryz.underlying9 (by omega) hb) rfl ?_
  refine st (mvT rfl) rfl ?_
  refine st (OpT.eql (H rfl) (T1 rfl) (T1 rfl)) rfl ?_
  refine ng ?_
  refine cd rfl (fun hc2 => ?_) fun hc2 => ?_
  ·
   obtain ⟨hc2, hc2'⟩ := pT hc2
   have hbc : b = c := u8_ext (by have h9 := hc2; rw [beq_iff_eq] at h9; omega)
   rw [hbc] at hbl
   refine sr ?_
   refine st (OpT.alias (H rfl) (by decide) (by decide)) rfl ?_
   refine st (mvT rfl) rfl ?_
   refine st (mvT rfl) rfl ?_
   refine st (mvT rfl) rfl ?_
   refine st (OpT.cutSLH (H rfl) (T1 rfl) (T1 rfl) (T1 rfl) Tryz.underlying9 (by omega)) rfl ?_
   refine st (OpT.buildSlice (H rfl) el81 zr9 sz9 rfl (by decide) zk9 (by decide) (Built.cel (T1 rfl) rfl rfl (sub_arr (by decide) (.empty : ByteArray)) (Built.nil _))) rfl ?_
   refine sg (OpT.append (H rfl) (Root.ali rfl (by decide) (by decide)) rfl (Src.own (Root.self (t := 25) (by decide)) rfl) (by decide) el81 zr9 rfl sz9 by9 (by decide) (by simp only [List.length_set, List.length_replicate]; omega)) (ko 26 rfl <| ko 25 rfl <| kc4 24 23 22 21 rfl <| kc4 19 18 17 16 rfl <| kc4 15 12 11 10 rfl <| kc4 9 0 1 6 rfl <| kc 7 rfl <| Kn) rfl ?_
   refine sg (OpT.take (.inl rfl) rfl (ok' rfl) (Root.self (by decide)) rfl rfl (by decide)) (ko 5 rfl <| ko 25 rfl <| kc4 24 23 22 21 rfl <| kc4 19 18 17 16 rfl <| kc4 15 12 11 10 rfl <| kc4 9 0 1 6 rfl <| kc 7 rfl <| Kn) rfl ?_
   refine ng ?_
   refine AW.region ?_
   refine st (mvT rfl) rfl ?_
   refine st (OpT.add (H rfl) (T1 rfl) (I rfl) (nw (by omega))) rfl ?_
   refine st (asT rfl) rfl ?_
   refine nn ?_
   refine AX.normal_block ?_
   refine AX.go ?_
   refine AW.region ?_
   refine st (mvT rfl) rfl ?_
   refine st (OpT.add (H rfl) (T1 rfl) (I rfl) (nw (by omega))) rfl ?_
   refine st (asT rfl) rfl ?_
   refine nn ?_
   exact AX.again ((p.1 + 1, p.1 + 1, p.2.2 ++ [x.extract p.2.1 p.1])) (by first | exact spr_hit hI hbl | exact spr_miss hI hbl hbc) (by simp only []; omega) (Kc 0 _ (Kv rfl rfl) <| Kc 1 _ (Kv rfl rfl) <| Kc 5 _ (Ko rfl rfl) <| Kc 6 _ (Kv rfl (by first | rfl | (simp only []; omega))) <| Kc 7 _ (Kv rfl (by simp only []; omega)) <| Kn)
  ·
   obtain ⟨hc2, hc2'⟩ := pF hc2
   have hbc : b ≠ c := fun e9 => by (have h9 := hc2; rw [e9, hk] at h9; simp at h9)
   refine AW.skip ?_
   refine AX.normal_block ?_
   refine AX.go ?_
   refine AW.region ?_
   refine st (mvT rfl) rfl ?_
   refine st (OpT.add (H rfl) (T1 rfl) (I rfl) (nw (by omega))) rfl ?_
   refine st (asT rfl) rfl ?_
   refine nn ?_
   exact AX.again ((p.1 + 1, p.2.1, p.2.2)) (by first | exact spr_hit hI hbl | exact spr_miss hI hbl hbc) (by simp only []; omega) (Kc 0 _ (Kv rfl rfl) <| Kc 1 _ (Kv rfl rfl) <| Kc 5 _ (Ko rfl rfl) <| Kc 6 _ (Kv rfl (by first | rfl | (simp only []; omega))) <| Kc 7 _ (Kv rfl (by simp only []; omega)) <| Kn)
 ·
  obtain ⟨hc1, hc1'⟩ := pF hc1
  refine AW.exit ?_
  refine xT <| xT <| AX.exit_hit ?_
  refine AX.go ?_
  refine sr ?_
  refine st (OpT.alias (H rfl) (by decide) (by decide)) rfl ?_
  refine st (mvT rfl) rfl ?_
  refine st (mvT rfl) rfl ?_
  refine st (OpT.cutSL (H rfl) (T1 rfl) (T1 rfl) Tryz.underlying9 (by omega)) rfl ?_
  refine st (OpT.buildSlice (H rfl) el81 zr9 sz9 rfl (by decide) zk9 (by decide) (Built.cel (T1 rfl) rfl rfl (sub_arr (by decide) (.empty : ByteArray)) (Built.nil _))) rfl ?_
  refine sg (OpT.append (H rfl) (Root.ali rfl (by decide) (by decide)) rfl (Src.own (Root.self (t := 33) (by decide)) rfl) (by decide) el81 zr9 rfl sz9 by9 (by decide) (by simp only [List.length_set, List.length_replicate]; omega)) (ko 34 rfl <| ko 33 rfl <| kc4 32 31 30 12 rfl <| kc4 11 10 9 0 rfl <| kc3 1 6 7 rfl <| Kn) rfl ?_
  refine sg (OpT.take (.inl rfl) rfl (ok' rfl) (Root.self (by decide)) rfl rfl (by decide)) (ko 4 rfl <| ko 33 rfl <| kc4 32 31 30 12 rfl <| kc4 11 10 9 0 rfl <| kc3 1 6 7 rfl <| Kn) rfl ?_
  refine AWl.to (ko 4 rfl <| Kn) ?_
  refine ng ?_
  refine AW.ret ?_
  exact AX.rt (rs := [.tmp 4]) (ts := [some 4]) (.inl rfl) rfl (ROs.cons (RO.tmp (At.self (by decide)) (Ko rfl (spr_end hI (by omega))) rfl) <| ROs.nil) (by decide) OutsOK.nil
theorem c_spec_l01Split (x : ByteArray) (c : UInt8) (k : Int) (hx : x.size ≤ 1000000000) (hk : k = (c.toNat : Int)) : AC Tryz.prog 73 [.cel Kd.str x, .cel (Kd.int .u8) k] [.cel (Kd.slice Kd.str) (splB c x)] [] := (c_spec_l01Split_o x c k hx hk).frz rfl

/-- spec.l01Number -/
theorem c_spec_l01Number (s : ByteArray) (hs : s.size ≤ 1000000000) : AC Tryz.prog 117 [.cel Kd.str s] [.cel (Kd.int .i64) (nmQ s).1, .cel Kd.bool (nmQ s).2] [] := by
 refine acI (N := 48) Tryz.func117 (Nat.le_of_ble_eq_true rfl) rfl fun w0 hd s0 ar => ?_
 refine AW.to (kc 0 rfl <| Kn) ?_
 refine sr ?_
 refine st (asI rfl) rfl ?_
 refine st (asB rfl) rfl ?_
 refine ng ?_
 refine AW.seq ?_
 refine sr ?_
 refine st (mvT rfl) rfl ?_
 refine st (OpT.seqv (H rfl) (T1 rfl) (Opd.str (by decide))) rfl ?_
 refine st (mvT rfl) rfl ?_
 apply AWl.or (d := 12) (t := 8) rfl
 ·
  intro hb1 Q1 k1
  have hb1' := lF hb1
  refine rs hb1 (mvT rfl) rfl ?_
  refine rs hb1 (OpT.lenS (H rfl) (T1 rfl) Tryz.underlying9) rfl ?_
  refine rs hb1 (OpT.gtr (H rfl) (T1 rfl) (I rfl)) rfl ?_
  refine st (OpT.pickF (A := .cel _ _) (H rfl) (T1 rfl) hb1 (T1 rfl) rfl) rfl ?_
  exact AWl.to (junk 3 rfl) k1
 ·
  intro hb1 Q1 k1
  refine ps hb1 rfl ?_
  refine ps hb1 rfl ?_
  refine ps hb1 rfl ?_
  refine st (OpT.pickT (A := .cel _ _) (H rfl) (T1 rfl) hb1 Opd.bool rfl) rfl ?_
  exact k1
 refine st (mvT rfl) rfl ?_
 apply AWl.or (d := 22) (t := 13) rfl
 ·
  intro hb2 Q1 k1
  have hb2' := lF hb2
  refine rs hb2 (mvT rfl) rfl ?_
  refine rs hb2 (OpT.indexS (H rfl) (T1 rfl) (I rfl) Tryz.underlying9 (by omega) (hd_get (by first | exact hb2 | exact hb1 | assumption))) rfl ?_
  refine rs hb2 (OpT.eql (H rfl) (T1 rfl) (I rfl)) rfl ?_
  refine rs hb2 (mvT rfl) rfl ?_
  apply AWl.and (d := 21) (t := 17) rfl
  ·
   intro hb3 Q1 k1
   have hb3' := lT hb3
   refine rs hb3 (mvT rfl) rfl ?_
   refine rs hb3 (OpT.lenS (H rfl) (T1 rfl) Tryz.underlying9) rfl ?_
   refine rs hb3 (OpT.gtr (H rfl) (T1 rfl) (I rfl)) rfl ?_
   refine rs hb2 (OpT.pickT (A := .cel _ _) (H rfl) (T1 rfl) hb3 (T1 rfl) rfl) rfl ?_
   exact AWl.to (junk 3 rfl) k1
  ·
   intro hb3 Q1 k1
   refine ps hb3 rfl ?_
   refine ps hb3 rfl ?_
   refine ps hb3 rfl ?_
   refine rs hb2 (OpT.pickF (A := .cel _ _) (H rfl) (T1 rfl) hb3 Opd.bool rfl) rfl ?_
   exact k1
  refine st (OpT.pickF (A := .cel _ _) (H rfl) (T1 rfl) hb2 (T1 rfl) rfl) rfl ?_
  exact AWl.to (junk 5 rfl) k1
 ·
  intro hb2 Q1 k1
  refine ps hb2 rfl ?_
  refine ps hb2 rfl ?_
  refine ps hb2 rfl ?_
  refine AWl.pasv rfl rfl rfl rfl hb2 rfl (ok' rfl) rfl ?_
  refine AWl.pasu rfl rfl rfl rfl rfl (ok' rfl) rfl ?_
  refine AWl.pasu rfl rfl rfl rfl rfl (ok' rfl) rfl ?_
  refine AWl.pasu rfl rfl rfl rfl rfl (ok' rfl) rfl ?_
  refine ps hb2 rfl ?_
  refine st (OpT.pickT (A := .cel _ _) (H rfl) (T1 rfl) hb2 Opd.bool rfl) rfl ?_
  exact AWl.to (junk 4 rfl) k1
 refine ng ?_
 refine cd rfl (fun hc1 => ?_) fun hc1 => ?_
 ·
  obtain ⟨hc1, hc1'⟩ := pT hc1
  have hrj : rjL (bL s) = true := (rj_eq s).symm.trans hc1
  refine sr ?_
  refine st (asI rfl) rfl ?_
  refine st (asB rfl) rfl ?_
  refine ng ?_
  refine AW.ret ?_
  refine rT ?_
  exact rt2 rfl (.inl rfl) (by first | (rw [nq_rej hrj]; done) | (rw [nq_bad hrj hbl hdg]; done) | (rw [nq_yes hrj hall]; first | done | rfl | rw [htk])) (by first | (rw [nq_rej hrj]; done) | (rw [nq_bad hrj hbl hdg]; done) | (rw [nq_yes hrj hall]; first | done | rfl | rw [htk]))
 ·
  obtain ⟨hc1, hc1'⟩ := pF hc1
  have hrj : rjL (bL s) = false := (rj_eq s).symm.trans hc1
  have hs10 := rj_len hrj
  refine AW.skip ?_
  refine AX.go ?_
  refine sr ?_
  refine st (asI rfl) rfl ?_
  refine ng ?_
  refine AW.seq ?_
  refine sr ?_
  refine st (asI rfl) rfl ?_
  refine ng ?_
  refine AW.block ?_
  refine AW.loop (fun z : Nat => z ≤ s.size ∧ ((bL s).take z).all isDg = true) (fun z : Nat => keep [(0, .cel Kd.str s), (4, .cel (Kd.int .i64) (vlQ ((bL s).take z))), (5, .cel (Kd.int .i64) (z : Int))]) (fun z : Nat => s.size - z) (0) ⟨Nat.zero_le _, by simp⟩ (Kc 0 _ (Kv rfl rfl) <| Kc 4 _ (Kv rfl rfl) <| Kc 5 _ (Kv rfl rfl) <| Kn) ?_
  intro z hI
  refine AW.seq ?_
  refine sr ?_
  refine st (mvT rfl) rfl ?_
  refine st (mvT rfl) rfl ?_
  refine st (OpT.lenS (H rfl) (T1 rfl) Tryz.underlying9) rfl ?_
  refine st (OpT.lss (H rfl) (T1 rfl) (T1 rfl)) rfl ?_
  refine ng ?_
  refine cd rfl (fun hc2 => ?_) fun hc2 => ?_
  ·
   obtain ⟨hc2, hc2'⟩ := pT hc2
   obtain ⟨b, hbl⟩ := getI (x := bL s) (z := z) (by rw [bL_len]; omega)
   have hb := bL_get hbl
   have hvt := vl_take hI.2 (by omega)
   refine AW.skip ?_
   refine AX.go ?_
   refine AW.seq ?_
   refine AW.block ?_
   refine AW.seq ?_
   refine sr ?_
   refine st (mvT rfl) rfl ?_
   refine st (mvT rfl) rfl ?_
   refine st (OpT.indexS (H rfl) (T1 rfl) (T1 rfl) Tryz.underlying9 (by omega) hb) rfl ?_
   refine st (OpT.lss (H rfl) (T1 rfl) (I rfl)) rfl ?_
   refine st (mvT rfl) rfl ?_
   apply AWl.or (d := 38) (t := 33) rfl
   ·
    intro hb4 Q1 k1
    have hb4' := lF hb4
    refine rs hb4 (mvT rfl) rfl ?_
    refine rs hb4 (mvT rfl) rfl ?_
    refine rs hb4 (OpT.indexS (H rfl) (T1 rfl) (T1 rfl) Tryz.underlying9 (by omega) hb) rfl ?_
    refine rs hb4 (OpT.gtr (H rfl) (T1 rfl) (I rfl)) rfl ?_
    refine st (OpT.pickF (A := .cel _ _) (H rfl) (T1 rfl) hb4 (T1 rfl) rfl) rfl ?_
    exact AWl.to (junk 4 rfl) k1
   ·
    intro hb4 Q1 k1
    refine ps hb4 rfl ?_
    refine ps hb4 rfl ?_
    refine ps hb4 rfl ?_
    refine ps hb4 rfl ?_
    refine st (OpT.pickT (A := .cel _ _) (H rfl) (T1 rfl) hb4 Opd.bool rfl) rfl ?_
    exact k1
   refine ng ?_
   refine cd rfl (fun hc3 => ?_) fun hc3 => ?_
   ·
    obtain ⟨hc3, hc3'⟩ := pT hc3
    have hdg := dg_no hc3
    refine sr ?_
    refine st (asI rfl) rfl ?_
    refine st (asB rfl) rfl ?_
    refine ng ?_
    refine AW.ret ?_
    refine rT <| rK <| rT <| rT <| rK <| rT ?_
    exact rt2 rfl (.inl rfl) (by first | (rw [nq_rej hrj]; done) | (rw [nq_bad hrj hbl hdg]; done) | (rw [nq_yes hrj hall]; first | done | rfl | rw [htk])) (by first | (rw [nq_rej hrj]; done) | (rw [nq_bad hrj hbl hdg]; done) | (rw [nq_yes hrj hall]; first | done | rfl | rw [htk]))
   ·
    obtain ⟨hc3, hc3'⟩ := pF hc3
    have hdg := dg_yes hc3
    refine AW.skip ?_
    refine AX.go ?_
    refine AW.region ?_
    refine st (mvT rfl) rfl ?_
    refine st (OpT.mul (H rfl) (I rfl) (T1 rfl) (nw (by omega))) rfl ?_
    refine st (mvT rfl) rfl ?_
    refine st (mvT rfl) rfl ?_
    refine st (OpT.indexS (H rfl) (T1 rfl) (T1 rfl) Tryz.underlying9 (by omega) hb) rfl ?_
    refine st (OpT.sub (H rfl) (T1 rfl) (I rfl) (wrap_id (by first | (simp only [inR, IntKind.min, IntKind.max, IntKind.signed, IntKind.bits]; omega)))) rfl ?_
    refine st (OpT.conv (H rfl) us5 Tryz.underlying2 (T1 rfl) (nw (by omega))) rfl ?_
    refine st (OpT.add (H rfl) (T1 rfl) (T1 rfl) (nw (by omega))) rfl ?_
    refine st (asT rfl) rfl ?_
    refine nn ?_
    refine AX.normal_block ?_
    refine AX.go ?_
    refine AW.region ?_
    refine st (mvT rfl) rfl ?_
    refine st (OpT.add (H rfl) (T1 rfl) (I rfl) (nw (by omega))) rfl ?_
    refine st (asT rfl) rfl ?_
    refine nn ?_
    exact AX.again (z + 1) ⟨by omega, all_take hbl hdg.1 hI.2⟩ (by omega) (Kc 0 _ (Kv rfl rfl) <| Kc 4 _ (Kv rfl (foldl_more (f := vlF) hbl)) <| Kc 5 _ (Kv rfl (by omega)) <| Kn)
  ·
   obtain ⟨hc2, hc2'⟩ := pF hc2
   have htk : (bL s).take z = bL s := List.take_of_length_le (by rw [bL_len]; omega)
   have hall : (bL s).all isDg = true := by (have h9 := hI.2; rwa [htk] at h9)
   refine AW.exit ?_
   refine xT <| xT <| AX.exit_hit ?_
   refine AX.go ?_
   refine sr ?_
   refine st (mvT rfl) rfl ?_
   refine st (asT rfl) rfl ?_
   refine st (asB rfl) rfl ?_
   refine ng ?_
   refine AW.ret ?_
   exact rt2 rfl (.inl rfl) (by first | (rw [nq_rej hrj]; done) | (rw [nq_bad hrj hbl hdg]; done) | (rw [nq_yes hrj hall]; first | done | rfl | rw [htk])) (by first | (rw [nq_rej hrj]; done) | (rw [nq_bad hrj hbl hdg]; done) | (rw [nq_yes hrj hall]; first | done | rfl | rw [htk]))

/-- spec.l01ReadCard -/
theorem c_spec_l01ReadCard (x : ByteArray) (hx : x.size ≤ 1000000000) : AC Tryz.prog 116 [.cel Kd.str x] [.agg kCard (rcQ x).1, .cel Kd.bool (rcQ x).2] [] := by
 refine acI (N := 50) Tryz.func116 (Nat.le_of_ble_eq_true rfl) rfl fun w0 hd s0 ar => ?_
 refine AW.to (kc 0 rfl <| Kn) ?_
 have hsl := splB_len 32 x
 have hwl := wrd_len x
 refine sr ?_
 refine st (OpT.alloc (H rfl) zr40 zk40) rfl ?_
 refine st (asB rfl) rfl ?_
 refine ng ?_
 refine sr ?_
 refine st (mvT rfl) rfl ?_
 refine st (OpT.c1 (ms := [.flat, .flat]) (c_spec_l01Split x 32 32 hx rfl) (H rfl) (Af (T1 rfl) rfl rfl <| Af (I rfl) rfl rfl <| An) rfl rfl) rfl ?_
 refine st (asT rfl) rfl ?_
 refine ng ?_
 refine sr ?_
 refine st (mvT rfl) rfl ?_
 refine st (OpT.indexAddr (H rfl) (T1 rfl) (I rfl) el81 sz9 (by omega) (nm_get x)) rfl ?_
 refine st (OpT.load (H rfl) (T1 rfl) ag9 rfl) rfl ?_
 refine st (OpT.build (H rfl) pl40 zr40 zk40 (Built.cel (T1 rfl) rfl rfl sb40_0 (Built.nil _))) rfl ?_
 refine st (OpT.alloc (H rfl) zr40 zk40) rfl ?_
 refine sk (OpT.storeBA rfl rfl (Opd.whole (Root.self (t := 5) (by decide)) rfl) rfl sz40 (by decide) (T1 rfl)) rfl ?_
 refine ng ?_
 refine AW.seq ?_
 refine sr ?_
 refine st (asI rfl) rfl ?_
 refine ng ?_
 refine AW.block ?_
 refine AW.loop (fun z : Nat => z ≤ (wrdT x).length ∧ ((wrdT x).take z).all gdQ = true) (fun z : Nat => keep [(0, .cel Kd.str x), (2, .box 40 kCard (.empty, zM)), (4, .cel (Kd.slice Kd.str) (splB 32 x)), (5, .box 40 kCard (nmT x, ((wrdT x).take z).foldl rqF zM)), (6, .cel (Kd.int .i64) ((z : Int) + 1))]) (fun z : Nat => (wrdT x).length - z) (0) ⟨Nat.zero_le _, by simp⟩ (Kc 0 _ (Kv rfl rfl) <| Kc 2 _ (Kb rfl rfl) <| Kc 4 _ (Kv rfl rfl) <| Kc 5 _ (Kb rfl rfl) <| Kc 6 _ (Kv rfl (by omega)) <| Kn) ?_
 intro z hI
 refine AW.seq ?_
 refine sr ?_
 refine st (mvT rfl) rfl ?_
 refine st (mvT rfl) rfl ?_
 refine st (OpT.len (H rfl) (T1 rfl) el81) rfl ?_
 refine st (OpT.lss (H rfl) (T1 rfl) (T1 rfl)) rfl ?_
 refine ng ?_
 refine cd rfl (fun hc1 => ?_) fun hc1 => ?_
 ·
  obtain ⟨hc1, hc1'⟩ := pT hc1
  obtain ⟨w, hw⟩ := getI (x := wrdT x) (z := z) (by omega)
  refine AW.skip ?_
  refine AX.go ?_
  refine AW.seq ?_
  refine AW.block ?_
  refine sr ?_
  refine st (mvT rfl) rfl ?_
  refine st (mvT rfl) rfl ?_
  refine st (OpT.indexAddr (H rfl) (T1 rfl) (T1 rfl) el81 sz9 (by omega) (wrd_get hw)) rfl ?_
  refine st (OpT.load (H rfl) (T1 rfl) ag9 rfl) rfl ?_
  refine s2 (OpT.c2 (ms := [.flat]) (c_spec_l01Number w (by have h9 := wrd_size (mem_getI hw); omega)) (H rfl) (Af (T1 rfl) rfl rfl <| An) rfl rfl rfl) rfl ?_
  refine st (OpT.alias (H rfl) (by decide) (by decide)) rfl ?_
  refine st (OpT.extractV (m := 10026) (H rfl) rfl rfl rfl rfl rfl rfl rfl) rfl ?_
  refine st (OpT.extractV (m := 20026) (H rfl) rfl rfl rfl rfl rfl rfl rfl) rfl ?_
  refine st (asT rfl) rfl ?_
  refine st (asT rfl) rfl ?_
  refine ng ?_
  refine AW.seq ?_
  refine sr ?_
  refine st (mvT rfl) rfl ?_
  refine st (OpT.not (H rfl) (T1 rfl)) rfl ?_
  refine st (mvT rfl) rfl ?_
  apply AWl.or (d := 35) (t := 31) rfl
  ·
   intro hb1 Q1 k1
   have hb1' := lF hb1
   refine rs hb1 (mvT rfl) rfl ?_
   refine rs hb1 (OpT.c1 (ms := [.flat]) (c_spec_l01Hole _) (H rfl) (Af (T1 rfl) rfl rfl <| An) rfl rfl) rfl ?_
   refine rs hb1 (OpT.not (H rfl) (T1 rfl)) rfl ?_
   refine st (OpT.pickF (A := .cel _ _) (H rfl) (T1 rfl) hb1 (T1 rfl) rfl) rfl ?_
   exact AWl.to (junk 3 rfl) k1
  ·
   intro hb1 Q1 k1
   refine ps hb1 rfl ?_
   refine ps hb1 rfl ?_
   refine ps hb1 rfl ?_
   refine st (OpT.pickT (A := .cel _ _) (H rfl) (T1 rfl) hb1 Opd.bool rfl) rfl ?_
   exact k1
  refine ng ?_
  refine cd rfl (fun hc2 => ?_) fun hc2 => ?_
  ·
   obtain ⟨hc2, hc2'⟩ := pT hc2
   have hbad := gq_no hc2
   refine sr ?_
   refine st (OpT.loadB (H rfl) (Root.self (t := 5) (by decide)) rfl ag40 sz40) rfl ?_
   refine sk (OpT.storeBA rfl rfl (Opd.whole (Root.self (t := 2) (by decide)) rfl) rfl sz40 (by decide) (T1 rfl)) rfl ?_
   refine st (asB rfl) rfl ?_
   refine ng ?_
   refine AW.ret ?_
   refine rT <| rK <| rT <| rT <| rK <| rT ?_
   exact AX.rt (rs := [.cell 2 40, .tmp 3]) (ts := [none, some 3]) (.inl rfl) rfl (ROs.cons (RO.cellA (by decide) (Kb rfl (by first | (rw [rq_bad hI.2 hw hbad]; first | done | rfl) | (rw [rq_yes hall, htk]; first | done | rfl))) ag40 sz40) <| ROs.cons (RO.tmp (At.self (by decide)) (Kv rfl (by first | (rw [rq_bad hI.2 hw hbad]; first | done | rfl) | (rw [htk] at hd1; simp only [rq_yes hall, htk, hd1, Bool.true_and, Bool.false_and]))) rfl) <| ROs.nil) (by decide) OutsOK.nil
  ·
   obtain ⟨hc2, hc2'⟩ := pF hc2
   have hgd := gq_yes hc2
   refine AW.skip ?_
   refine AX.go ?_
   refine dh fomo ?_
   refine d1 [5] (fun ve h => OpT.fieldAddrB (H rfl) (Root.self (t := 5) (by decide)) ((h _ (List.elem_iff.1 rfl)).trans rfl) (by decide) fd40_1 sz38 (by decide) sb40_1) rfl ?_
   refine d1 [5, 37] (fun ve h => OpT.loadPA (H rfl) (D1 h rfl) (.inl ⟨_, ((h _ (List.elem_iff.1 rfl)).trans rfl), rfl⟩) ag38 sz38) rfl ?_
   refine d1 [7] (fun ve h => OpT.move (A := .cel _ _) (.inl rfl) rfl (ok' rfl) (D1 h rfl) rfl) rfl ?_
   refine d1 [39] (fun ve h => OpT.c1 (ms := [.flat]) (c_spec_l01Bit _ (by omega)) (H rfl) (Af (D1 h rfl) rfl rfl <| An) rfl rfl) rfl ?_
   refine d1 [38, 40] (fun ve h => OpT.c1 (ms := [.flat, .flat]) (c_spec_l01Join _ _) (H rfl) (Af (D1 h rfl) rfl rfl <| Af (D1 h rfl) rfl rfl <| An) rfl rfl) rfl ?_
   refine d1 [5] (fun ve h => OpT.fieldAddrB (H rfl) (Root.self (t := 5) (by decide)) ((h _ (List.elem_iff.1 rfl)).trans rfl) (by decide) fd40_1 sz38 (by decide) sb40_1) rfl ?_
   refine dm (t := 5) [5, 41, 42] (fun ve h => OpT.storeBA rfl rfl (D1 h rfl) ((h _ (List.elem_iff.1 rfl)).trans rfl) sz38 (by decide) (D1 h rfl)) rfl ?_
   refine dn ⟨by kernel_rfl, by kernel_rfl, ?_⟩
   refine AX.normal_block ?_
   refine AX.go ?_
   refine AW.region ?_
   refine st (mvT rfl) rfl ?_
   refine st (OpT.add (H rfl) (T1 rfl) (I rfl) (nw (by omega))) rfl ?_
   refine st (asT rfl) rfl ?_
   refine nn ?_
   exact AX.again (z + 1) ⟨by omega, all_take hw hgd.1 hI.2⟩ (by omega) (Kc 0 _ (Kv rfl rfl) <| Kc 2 _ (Kb rfl rfl) <| Kc 4 _ (Kv rfl rfl) <| Kc 5 _ (Kb rfl (congrArg (fun m => (nmT x, m)) (foldl_more (f := rqF) hw))) <| Kc 6 _ (Kv rfl (by omega)) <| Kn)
 ·
  obtain ⟨hc1, hc1'⟩ := pF hc1
  have htk : (wrdT x).take z = wrdT x := List.take_of_length_le (by omega)
  have hall : (wrdT x).all gdQ = true := by (have h9 := hI.2; rwa [htk] at h9)
  refine AW.exit ?_
  refine xT <| xT <| AX.exit_hit ?_
  refine AX.pr (kc 0 rfl <| kb 2 rfl <| kb 5 rfl <| Kn) ?_
  refine AX.go ?_
  refine AW.seq ?_
  rcases Bool.eq_false_or_eq_true (tt (cardOK (nmT x, ((wrdT x).take z).foldl rqF zM))) with hd1 | hd1
  ·
   have hd1' := lT hd1
   refine dh fomo ?_
   refine d1 [5] (fun ve h => OpT.loadB (H rfl) (Root.self (t := 5) (by decide)) ((h _ (List.elem_iff.1 rfl)).trans rfl) ag40 sz40) rfl ?_
   refine d1 [5] (fun ve h => cb1 (ms := [.bor 5]) (c_spec_l01Ok _) (H rfl) (Abx (Root.self (t := 5) (by decide)) ((h _ (List.elem_iff.1 rfl)).trans rfl) <| An) rfl (indC fun _ _ _ _ h => h)) rfl ?_
   refine d1 [44] (fun ve h => OpT.move (A := .cel _ _) (.inl rfl) rfl (ok' rfl) (D1 h rfl) rfl) rfl ?_
   refine dr [5, 45] hd1 (fun ve h => cb1 (ms := [.bor 5]) (c_spec_l01Text _ (tt_iff.1 hd1).1.2.2) (H rfl) (Abx (Root.self (t := 5) (by decide)) ((h _ (List.elem_iff.1 rfl)).trans rfl) <| An) rfl (indC fun _ _ _ _ h => h)) rfl ?_
   refine dr [0, 45] hd1 (fun ve h => OpT.move (A := .cel _ _) (.inl rfl) rfl (ok' rfl) (D1 h rfl) rfl) rfl ?_
   refine dr [45, 46, 47] hd1 (fun ve h => OpT.seqv (H rfl) (D1 h rfl) (D1 h rfl)) rfl ?_
   refine d1 [45, 48] (fun ve h => OpT.pickT (A := .cel _ _) (H rfl) (D1 h rfl) hd1 (D1 h rfl) rfl) rfl ?_
   refine dm (t := 2) [2, 43] (fun ve h => OpT.storeBA rfl rfl (Opd.whole (Root.self (t := 2) (by decide)) ((h _ (List.elem_iff.1 rfl)).trans rfl)) ((h _ (List.elem_iff.1 rfl)).trans rfl) sz40 (by decide) (D1 h rfl)) rfl ?_
   refine d1 [49] (fun ve h => OpT.move (A := .cel _ _) (.inr rfl) rfl (ok' rfl) (D1 h rfl) rfl) rfl ?_
   refine dn ⟨by kernel_rfl, by kernel_rfl, ?_⟩
   refine AX.go ?_
   refine AW.ret ?_
   exact AX.rt (rs := [.cell 2 40, .tmp 3]) (ts := [none, some 3]) (.inl rfl) rfl (ROs.cons (RO.cellA (by decide) (Kb rfl (by first | (rw [rq_bad hI.2 hw hbad]; first | done | rfl) | (rw [rq_yes hall, htk]; first | done | rfl))) ag40 sz40) <| ROs.cons (RO.tmp (At.self (by decide)) (Kv rfl (by first | (rw [rq_bad hI.2 hw hbad]; first | done | rfl) | (rw [htk] at hd1; simp only [rq_yes hall, htk, hd1, Bool.true_and, Bool.false_and]))) rfl) <| ROs.nil) (by decide) OutsOK.nil
  ·
   have hd1' := lF hd1
   refine dh fomo ?_
   refine d1 [5] (fun ve h => OpT.loadB (H rfl) (Root.self (t := 5) (by decide)) ((h _ (List.elem_iff.1 rfl)).trans rfl) ag40 sz40) rfl ?_
   refine d1 [5] (fun ve h => cb1 (ms := [.bor 5]) (c_spec_l01Ok _) (H rfl) (Abx (Root.self (t := 5) (by decide)) ((h _ (List.elem_iff.1 rfl)).trans rfl) <| An) rfl (indC fun _ _ _ _ h => h)) rfl ?_
   refine d1 [44] (fun ve h => OpT.move (A := .cel _ _) (.inl rfl) rfl (ok' rfl) (D1 h rfl) rfl) rfl ?_
   refine dp hd1 rfl ?_
   refine dp hd1 rfl ?_
   refine dp hd1 rfl ?_
   refine d1 [45] (fun ve h => OpT.pickF (A := .cel _ _) (H rfl) (D1 h rfl) hd1 Opd.bool rfl) rfl ?_
   refine dm (t := 2) [2, 43] (fun ve h => OpT.storeBA rfl rfl (Opd.whole (Root.self (t := 2) (by decide)) ((h _ (List.elem_iff.1 rfl)).trans rfl)) ((h _ (List.elem_iff.1 rfl)).trans rfl) sz40 (by decide) (D1 h rfl)) rfl ?_
   refine d1 [49] (fun ve h => OpT.move (A := .cel _ _) (.inr rfl) rfl (ok' rfl) (D1 h rfl) rfl) rfl ?_
   refine dn ⟨by kernel_rfl, by kernel_rfl, ?_⟩
   refine AX.go ?_
   refine AW.ret ?_
   exact AX.rt (rs := [.cell 2 40, .tmp 3]) (ts := [none, some 3]) (.inl rfl) rfl (ROs.cons (RO.cellA (by decide) (Kb rfl (by first | (rw [rq_bad hI.2 hw hbad]; first | done | rfl) | (rw [rq_yes hall, htk]; first | done | rfl))) ag40 sz40) <| ROs.cons (RO.tmp (At.self (by decide)) (Kv rfl (by first | (rw [rq_bad hI.2 hw hbad]; first | done | rfl) | (rw [htk] at hd1; simp only [rq_yes hall, htk, hd1, Bool.true_and, Bool.false_and]))) rfl) <| ROs.nil) (by decide) OutsOK.nil
end Go.Proofs.YtmmjcpiikdcldaaGreatDoor.VL
