/- Proved here: what some functions of the program take and give: walks with the words of VA..VQ. Printed by program. -/
import Derived.Test.YtmmjcpiikdcldaaGreatDoorWT
import Derived.Test.YtmmjcpiikdcldaaGreatDoorPXE
import Derived.Test.YtmmjcpiikdcldaaGreatDoorPXS
import Derived.Test.YtmmjcpiikdcldaaGreatDoorVLP
import Derived.Test.YtmmjcpiikdcldaaGreatDoorLSP
import Derived.Test.YtmmjcpiikdcldaaGreatDoorWSP
import Derived.Test.YtmmjcpiikdcldaaGreatDoorWE1
import Derived.Test.YtmmjcpiikdcldaaGreatDoorWX
import Derived.Test.YtmmjcpiikdcldaaGreatDoorWC1
import Derived.Test.YtmmjcpiikdcldaaGreatDoorWRD
import Derived.Test.YtmmjcpiikdcldaaGreatDoorWM
set_option linter.unusedVariables false
set_option linter.unusedSimpArgs false
set_option maxRecDepth 4000
namespace Go.Proofs.YtmmjcpiikdcldaaGreatDoor.VL
open Go
/-- stringslite.Cut -/
theorem c_internal_stringslite_Cut (x : ByteArray) (c : UInt8) (hx : x.size ≤ 1000000000) : AC Tryz.prog 133 [.cel Kd.str x, .cel Kd.str ⟨#[c]⟩] [.cel Kd.str (cutP c x).1, .cel Kd.str (cutP c x).2.1, .cel Kd.bool (cutP c x).2.2] [] := by
 refine acI (N := 23) Tryz.func133 (Nat.le_of_ble_eq_true rfl) rfl fun w0 hd s0 ar => ?_
 refine AW.to (kc2 0 1 rfl <| Kn) ?_
 have hc1s : (⟨#[c]⟩ : ByteArray).size = 1 := rfl
 have hrx := ixB_range c x
 refine sr ?_
 refine st (OpT.move (A := .cel _ _) (.inr rfl) rfl (ok' rfl) (Opd.str (by decide)) rfl) rfl ?_
 refine st (OpT.move (A := .cel _ _) (.inr rfl) rfl (ok' rfl) (Opd.str (by decide)) rfl) rfl ?_
 refine st (asB rfl) rfl ?_
 refine ng ?_
 refine AW.seq ?_
 refine sr ?_
 refine st (mvT rfl) rfl ?_
 refine st (mvT rfl) rfl ?_
 refine st (OpT.c1 (ms := [.flat, .flat]) (c_internal_stringslite_Index x c) (H rfl) (Af (T1 rfl) rfl rfl <| Af (T1 rfl) rfl rfl <| An) rfl rfl) rfl ?_
 refine st (asT rfl) rfl ?_
 refine ng ?_
 refine sr ?_
 refine st (mvT rfl) rfl ?_
 refine st (OpT.geq (H rfl) (T1 rfl) (I rfl)) rfl ?_
 refine AWl.to (kc4 12 7 6 5 rfl <| kc3 4 0 1 rfl <| Kn) ?_
 refine ng ?_
 refine cd rfl (fun hc1 => ?_) fun hc1 => ?_
 ·
  obtain ⟨hc1, hc1'⟩ := pT hc1
  have hok := ix_ok (c := c) (x := x) (by have h9 := ix_pos (c := c) (x := x) (by omega); omega)
  have he := cutP_yes (c := c) (x := x) (by omega)
  refine AW.seq ?_
  refine dh fomo ?_
  refine d1 [0] (fun ve h => OpT.move (A := .cel _ _) (.inl rfl) rfl (ok' rfl) (D1 h rfl) rfl) rfl ?_
  refine d1 [7] (fun ve h => OpT.move (A := .cel _ _) (.inl rfl) rfl (ok' rfl) (D1 h rfl) rfl) rfl ?_
  refine d1 [13, 14] (fun ve h => OpT.cutSH (H rfl) (D1 h rfl) (D1 h rfl) Tryz.underlying9 (by omega)) rfl ?_
  refine d1 [0] (fun ve h => OpT.move (A := .cel _ _) (.inl rfl) rfl (ok' rfl) (D1 h rfl) rfl) rfl ?_
  refine d1 [7] (fun ve h => OpT.move (A := .cel _ _) (.inl rfl) rfl (ok' rfl) (D1 h rfl) rfl) rfl ?_
  refine d1 [1] (fun ve h => OpT.move (A := .cel _ _) (.inl rfl) rfl (ok' rfl) (D1 h rfl) rfl) rfl ?_
  refine d1 [18] (fun ve h => OpT.lenS (H rfl) (D1 h rfl) Tryz.underlying9) rfl ?_
  refine d1 [17, 19] (fun ve h => OpT.add (H rfl) (D1 h rfl) (D1 h rfl) (nw (by omega))) rfl ?_
  refine d1 [16, 20] (fun ve h => OpT.cutSL (H rfl) (D1 h rfl) (D1 h rfl) Tryz.underlying9 (by omega)) rfl ?_
  refine d1 [15] (fun ve h => OpT.move (A := .cel _ _) (.inr rfl) rfl (ok' rfl) (D1 h rfl) rfl) rfl ?_
  refine d1 [21] (fun ve h => OpT.move (A := .cel _ _) (.inr rfl) rfl (ok' rfl) (D1 h rfl) rfl) rfl ?_
  refine d1 [] (fun ve h => asB rfl) rfl ?_
  refine dn ⟨by kernel_rfl, by kernel_rfl, ?_⟩
  refine AX.pr (kc4 6 5 4 0 rfl <| Kn) ?_
  refine AX.go ?_
  refine AW.ret ?_
  refine rT ?_
  exact AX.rt (rs := [.tmp 4, .tmp 5, .tmp 6]) (ts := [some 4, some 5, some 6]) (.inl rfl) rfl (ROs.cons (RO.tmp (At.self (by decide)) (Kv rfl (by rw [he]; first | done | rfl)) rfl) <| ROs.cons (RO.tmp (At.self (by decide)) (Kv rfl (by rw [he]; first | done | rfl)) rfl) <| ROs.cons (RO.tmp (At.self (by decide)) (Kv rfl (by rw [he]; first | done | rfl)) rfl) <| ROs.nil) (by decide) OutsOK.nil
 ·
  obtain ⟨hc1, hc1'⟩ := pF hc1
  have he := cutP_no (c := c) (x := x) (by omega)
  refine AW.skip ?_
  refine AX.go ?_
  refine sr ?_
  refine st (mvT rfl) rfl ?_
  refine st (asT rfl) rfl ?_
  refine st (OpT.move (A := .cel _ _) (.inr rfl) rfl (ok' rfl) (Opd.str (by decide)) rfl) rfl ?_
  refine st (asB rfl) rfl ?_
  refine ng ?_
  refine AW.ret ?_
  exact AX.rt (rs := [.tmp 4, .tmp 5, .tmp 6]) (ts := [some 4, some 5, some 6]) (.inl rfl) rfl (ROs.cons (RO.tmp (At.self (by decide)) (Kv rfl (by rw [he]; first | done | rfl)) rfl) <| ROs.cons (RO.tmp (At.self (by decide)) (Kv rfl (by rw [he]; first | done | rfl)) rfl) <| ROs.cons (RO.tmp (At.self (by decide)) (Kv rfl (by rw [he]; first | done | rfl)) rfl) <| ROs.nil) (by decide) OutsOK.nil

/-- strings.Cut -/
theorem c_strings_Cut (x : ByteArray) (c : UInt8) (hx : x.size ≤ 1000000000) : AC Tryz.prog 105 [.cel Kd.str x, .cel Kd.str ⟨#[c]⟩] [.cel Kd.str (cutP c x).1, .cel Kd.str (cutP c x).2.1, .cel Kd.bool (cutP c x).2.2] [] := by
 refine acI (N := 13) Tryz.func105 (Nat.le_of_ble_eq_true rfl) rfl fun w0 hd s0 ar => ?_
 refine AW.to (kc2 0 1 rfl <| Kn) ?_
 refine sr ?_
 refine st (OpT.move (A := .cel _ _) (.inr rfl) rfl (ok' rfl) (Opd.str (by decide)) rfl) rfl ?_
 refine st (OpT.move (A := .cel _ _) (.inr rfl) rfl (ok' rfl) (Opd.str (by decide)) rfl) rfl ?_
 refine st (asB rfl) rfl ?_
 refine ng ?_
 refine sr ?_
 refine st (mvT rfl) rfl ?_
 refine st (mvT rfl) rfl ?_
 refine s3 (cN (ms := [.flat, .flat]) (c_internal_stringslite_Cut x c hx) (H rfl) (Af (T1 rfl) rfl rfl <| Af (T1 rfl) rfl rfl <| An) rfl (.inl rfl)) rfl ?_
 refine st (OpT.extract (m := 10009) (H rfl) (by decide) rfl rfl rfl rfl) rfl ?_
 refine st (OpT.extract (m := 20009) (H rfl) (by decide) rfl rfl rfl rfl) rfl ?_
 refine st (OpT.extract (m := 30009) (H rfl) (by decide) rfl rfl rfl rfl) rfl ?_
 refine st (asT rfl) rfl ?_
 refine st (asT rfl) rfl ?_
 refine st (asT rfl) rfl ?_
 refine AWl.to (kc3 6 5 4 rfl <| Kn) ?_
 refine ng ?_
 refine AW.ret ?_
 exact AX.rt (rs := [.tmp 4, .tmp 5, .tmp 6]) (ts := [some 4, some 5, some 6]) (.inl rfl) rfl (ROs.cons (RO.tmp (At.self (by decide)) (Kv rfl rfl) rfl) <| ROs.cons (RO.tmp (At.self (by decide)) (Kv rfl rfl) rfl) <| ROs.cons (RO.tmp (At.self (by decide)) (Kv rfl rfl) rfl) <| ROs.nil) (by decide) OutsOK.nil

set_option maxHeartbeats 4000000 in
/-- impl.readEdit -/
theorem c_impl_readEdit (x : ByteArray) (hx : x.size ≤ 1000000000) (hr : ∀ w ∈ wrdT (cutP 32 x).2.1, RdN w) : AC Tryz.prog 65 [.cel Kd.str x] [.agg kEdit (reS x).1, .cel Kd.bool (reS x).2] [] := by
 refine acI (N := 61) Tryz.func65 (Nat.le_of_ble_eq_true rfl) rfl fun w0 hd s0 ar => ?_
 refine AW.to (kc 0 rfl <| Kn) ?_
 have hkr := kd_in x
 have hcl := cutP_le 32 x
 refine sr ?_
 refine st (OpT.alloc (H rfl) zr63 zk63) rfl ?_
 refine st (asB rfl) rfl ?_
 refine ng ?_
 refine sr ?_
 refine st (mvT rfl) rfl ?_
 refine s3 (cN (ms := [.flat, .flat]) (c_strings_Cut x 32 hx) (H rfl) (Af (T1 rfl) rfl rfl <| Af (Opd.str (by decide)) rfl rfl <| An) rfl (.inl rfl)) rfl ?_
 refine st (OpT.alias (H rfl) (by decide) (by decide)) rfl ?_
 refine st (OpT.extractV (m := 10013) (H rfl) rfl rfl rfl rfl rfl rfl rfl) rfl ?_
 refine st (OpT.extractV (m := 20013) (H rfl) rfl rfl rfl rfl rfl rfl rfl) rfl ?_
 refine st (OpT.extractV (m := 30013) (H rfl) rfl rfl rfl rfl rfl rfl rfl) rfl ?_
 refine st (asT rfl) rfl ?_
 refine st (asT rfl) rfl ?_
 refine st (asT rfl) rfl ?_
 refine ng ?_
 refine sr ?_
 refine st (mvT rfl) rfl ?_
 refine s2 (OpT.c2 (ms := [.flat]) (c_impl_readCard _ (by omega) hr) (H rfl) (Af (T1 rfl) rfl rfl <| An) rfl rfl rfl) rfl ?_
 refine st (OpT.alias (H rfl) (by decide) (by decide)) rfl ?_
 refine st (OpT.extractV (m := 10019) (H rfl) rfl rfl rfl rfl rfl rfl rfl) rfl ?_
 refine st (OpT.extractV (m := 20019) (H rfl) rfl rfl rfl rfl rfl rfl rfl) rfl ?_
 refine st (OpT.alloc (H rfl) zr40 zk40) rfl ?_
 refine sk (OpT.storeBA rfl rfl (Opd.whole (Root.self (t := 7) (by decide)) rfl) rfl sz40 (by decide) (T1 rfl)) rfl ?_
 refine st (asT rfl) rfl ?_
 refine AWl.to (Kc 8 _ (Kv rfl (show _ = (rdC x).2 from rfl)) <| (kb 7 rfl <| kc 21 rfl <| ka 20 rfl <| Kc 17 (.ali _) rfl <| ka 10019 rfl <| kc4 20019 18 6 5 rfl <| kc4 4 16 15 14 rfl <| Kc 11 (.ali _) rfl <| kc4 10013 20013 30013 12 rfl <| kc 3 rfl <| kb 2 rfl <| kc 0 rfl <| Kn)) ?_
 refine AWl.to (kc 8 rfl <| kb 7 rfl <| kc2 4 3 rfl <| kb 2 rfl <| kc 0 rfl <| Kn) ?_
 refine ng ?_
 refine AW.seq ?_
 refine dh fomo ?_
 refine d1 [] (fun ve h => OpT.buildSlice (H rfl) el81 zr9 sz9 rfl (by decide) zk9 (by decide) (Built.cel (Opd.str (by decide)) rfl rfl (sub_arr (by decide) (.empty : ByteArray)) (Built.cel (Opd.str (by decide)) rfl rfl (sub_arr (by decide) (.empty : ByteArray)) (Built.cel (Opd.str (by decide)) rfl rfl (sub_arr (by decide) (.empty : ByteArray)) (Built.cel (Opd.str (by decide)) rfl rfl (sub_arr (by decide) (.empty : ByteArray)) (Built.nil _)))))) rfl ?_
 refine d1 [4] (fun ve h => OpT.move (A := .cel _ _) (.inl rfl) rfl (ok' rfl) (D1 h rfl) rfl) rfl ?_
 refine d1 [22, 23] (fun ve h => cb1 (ms := [.bor 22, .flat]) (c_slices_Index_string_string wrd4 (cutP 32 x).1) (H rfl) (Ab (Root.self (t := 22) (by decide)) ((h _ (List.elem_iff.1 rfl)).trans rfl) <| Af (D1 h rfl) rfl rfl <| An) rfl (indC fun _ _ _ _ h => h)) rfl ?_
 refine d1 [24] (fun ve h => OpT.add (H rfl) (D1 h rfl) (I rfl) (nw (by omega))) rfl ?_
 refine d1 [25] (fun ve h => OpT.conv (H rfl) us3 Tryz.underlying60 (D1 h rfl) (wrap_id (by first | (simp only [inR, IntKind.min, IntKind.max, IntKind.signed, IntKind.bits]; omega)))) rfl ?_
 refine d1 [7] (fun ve h => OpT.fieldAddrB (H rfl) (Root.self (t := 7) (by decide)) ((h _ (List.elem_iff.1 rfl)).trans rfl) (by decide) fd40_0 sz9 (by decide) sb40_0) rfl ?_
 refine d1 [7, 27] (fun ve h => OpT.loadP (H rfl) (D1 h rfl) (.inl ⟨_, ((h _ (List.elem_iff.1 rfl)).trans rfl), rfl⟩) ag9 rfl) rfl ?_
 refine d1 [7] (fun ve h => OpT.fieldAddrB (H rfl) (Root.self (t := 7) (by decide)) ((h _ (List.elem_iff.1 rfl)).trans rfl) (by decide) fd40_1 sz38 (by decide) sb40_1) rfl ?_
 refine d1 [7, 29] (fun ve h => OpT.loadPA (H rfl) (D1 h rfl) (.inl ⟨_, ((h _ (List.elem_iff.1 rfl)).trans rfl), rfl⟩) ag38 sz38) rfl ?_
 refine d1 [26, 28, 30] (fun ve h => OpT.build (H rfl) pl63 zr63 zk63 (Built.cel (D1 h rfl) rfl rfl sb63_0 (Built.cel (D1 h rfl) rfl rfl sb63_1 (Built.agg (D1 h rfl) rfl (by decide) sb63_3 (Built.nil _))))) rfl ?_
 refine d1 [] (fun ve h => OpT.alloc (H rfl) zr63 zk63) rfl ?_
 refine dm (t := 9) [9, 31] (fun ve h => OpT.storeBA rfl rfl (Opd.whole (Root.self (t := 9) (by decide)) ((h _ (List.elem_iff.1 rfl)).trans rfl)) ((h _ (List.elem_iff.1 rfl)).trans rfl) sz63 (by decide) (D1 h rfl)) rfl ?_
 refine dn ⟨by kernel_rfl, by kernel_rfl, ?_⟩
 refine AX.pr (kb 9 rfl <| kc 8 rfl <| kb 7 rfl <| kc 3 rfl <| kb 2 rfl <| kc 0 rfl <| Kn) ?_
 refine AX.go ?_
 refine AW.seq ?_
 refine sr ?_
 refine st (OpT.fieldAddrB (H rfl) (Root.self (t := 9) (by decide)) rfl (by decide) fd63_0 sz60 (by decide) sb63_0) rfl ?_
 refine st (OpT.loadP (H rfl) (T1 rfl) (.inl ⟨_, rfl, rfl⟩) ag60 rfl) rfl ?_
 refine AWl.to (Kc 9 _ (Kb rfl (show _ = ed0 x from rfl)) <| (kc 33 rfl <| Kc 32 (.pel _ _ _ _ _ _ _) rfl <| kc 8 rfl <| kb 7 rfl <| kc 3 rfl <| kb 2 rfl <| kc 0 rfl <| Kn)) ?_
 refine st (OpT.geq (H rfl) (T1 rfl) (I rfl)) rfl ?_
 refine ng ?_
 refine cd rfl (fun hc1 => ?_) fun hc1 => ?_
 ·
  obtain ⟨hc1, hc1'⟩ := pT hc1
  refine sr ?_
  refine st (OpT.fieldAddrB (H rfl) (Root.self (t := 7) (by decide)) rfl (by decide) fd40_1 sz38 (by decide) sb40_1) rfl ?_
  refine st (OpT.loadPA (H rfl) (T1 rfl) (.inl ⟨_, rfl, rfl⟩) ag38 sz38) rfl ?_
  refine st (OpT.c1 (ms := [.flat]) (c_impl_Mask_holes _) (H rfl) (Af (T1 rfl) rfl rfl <| An) rfl rfl) rfl ?_
  refine st (asT rfl) rfl ?_
  refine ng ?_
  refine AW.seq ?_
  refine sr ?_
  refine st (mvT rfl) rfl ?_
  refine st (OpT.len (H rfl) (T1 rfl) el43) rfl ?_
  refine st (OpT.neq (H rfl) (T1 rfl) (I rfl)) rfl ?_
  refine ng ?_
  refine cd rfl (fun hc2 => ?_) fun hc2 => ?_
  ·
   obtain ⟨hc2, hc2'⟩ := pT hc2
   have hl1 : ((hol (rdC x).1.2 96).length : Int) ≠ 1 := hc2'
   have he := re_bad (x := x) (by omega) (by omega)
   refine sr ?_
   refine st (OpT.build (H rfl) pl63 zr63 zk63 (Built.nil _)) rfl ?_
   refine sk (OpT.storeBA rfl rfl (Opd.whole (Root.self (t := 2) (by decide)) rfl) rfl sz63 (by decide) (T1 rfl)) rfl ?_
   refine st (asB rfl) rfl ?_
   refine AWl.to (kc 3 rfl <| kb 2 rfl <| kc 10 rfl <| kb 9 rfl <| kc2 8 0 rfl <| Kn) ?_
   refine ng ?_
   refine AW.ret ?_
   refine rT <| rT ?_
   exact AX.rt (rs := [.cell 2 63, .tmp 3]) (ts := [none, some 3]) (.inl rfl) rfl (ROs.cons (RO.cellA (by decide) (Kb rfl (by rw [he]; first | done | rfl)) ag63 sz63) <| ROs.cons (RO.tmp (At.self (by decide)) (Kv rfl (by rw [he]; first | done | rfl | (have q1 : (rdC x).2 = false := (by assumption); simp only [okE, q1, Bool.false_and]; done) | (have q1 : (rdC x).2 = true := (by assumption); have q2 : editB (ed0 x) = true := (by assumption); simp only [okE, q1, q2, Bool.true_and, Bool.false_and]; first | done | rfl) | (have q1 : (rdC x).2 = true := (by assumption); have q2 : editB (ed0 x) = false := (by assumption); simp only [okE, q1, q2, Bool.true_and, Bool.false_and]; first | done | rfl) | (have q1 : (rdC x).2 = true := (by assumption); have q2 : editB (ed1 x) = true := (by assumption); simp only [okE, q1, q2, Bool.true_and, Bool.false_and]; first | done | rfl) | (have q1 : (rdC x).2 = true := (by assumption); have q2 : editB (ed1 x) = false := (by assumption); simp only [okE, q1, q2, Bool.true_and, Bool.false_and]; first | done | rfl))) rfl) <| ROs.nil) (by decide) OutsOK.nil
  ·
   obtain ⟨hc2, hc2'⟩ := pF hc2
   have hl1 : ((hol (rdC x).1.2 96).length : Int) = 1 := hc2'
   have hg := hl0_get (m := (rdC x).1.2) (by omega)
   have he := re_high (x := x) (by omega) (by omega)
   refine AW.skip ?_
   refine AX.go ?_
   refine sr ?_
   refine st (mvT rfl) rfl ?_
   refine st (OpT.indexAddr (H rfl) (T1 rfl) (I rfl) el43 sz2 (by omega) hg.1) rfl ?_
   refine st (OpT.load (H rfl) (T1 rfl) ag2 rfl) rfl ?_
   refine st (OpT.conv (H rfl) us2 Tryz.underlying61 (T1 rfl) (nw16 (by omega))) rfl ?_
   refine st (OpT.fieldAddrB (H rfl) (Root.self (t := 9) (by decide)) rfl (by decide) fd63_2 sz61 (by decide) sb63_2) rfl ?_
   refine sk (OpT.storeB rfl rfl (T1 rfl) rfl sz61 rfl (T1 rfl)) rfl ?_
   refine AWl.to (kb 9 rfl <| kc2 8 3 rfl <| kb 2 rfl <| kc 0 rfl <| Kn) ?_
   refine ng ?_
   refine AW.region ?_
   refine st (OpT.buildA (H rfl) ar38 sz36 zr38 zk38 (Built.nil _)) rfl ?_
   refine st (OpT.fieldAddrB (H rfl) (Root.self (t := 9) (by decide)) rfl (by decide) fd63_3 sz38 (by decide) sb63_3) rfl ?_
   refine sk (OpT.storeBA rfl rfl (T1 rfl) rfl sz38 (by decide) (T1 rfl)) rfl ?_
   refine AWl.to (Kc 9 _ (Kb rfl (show _ = ed1 x from rfl)) <| (Kc 48 (.pel _ _ _ _ _ _ _) rfl <| ka 47 rfl <| kc2 8 3 rfl <| kb 2 rfl <| kc 0 rfl <| Kn)) ?_
   refine AWl.to (kb 9 rfl <| kc2 8 3 rfl <| kb 2 rfl <| kc 0 rfl <| Kn) ?_
   refine ng ?_
   refine AW.seq ?_
   rcases Bool.eq_false_or_eq_true (rdC x).2 with hd1 | hd1
   ·
    have hd1' := lT hd1
    rcases Bool.eq_false_or_eq_true (editB (ed1 x)) with hd2 | hd2
    ·
     have hd2' := lT hd2
     refine dh fomo ?_
     refine d1 [9] (fun ve h => OpT.loadB (H rfl) (Root.self (t := 9) (by decide)) ((h _ (List.elem_iff.1 rfl)).trans rfl) ag63 sz63) rfl ?_
     refine d1 [8] (fun ve h => OpT.move (A := .cel _ _) (.inl rfl) rfl (ok' rfl) (D1 h rfl) rfl) rfl ?_
     refine d1 [50] (fun ve h => OpT.move (A := .cel _ _) (.inl rfl) rfl (ok' rfl) (D1 h rfl) rfl) rfl ?_
     refine dr [9, 51] hd1 (fun ve h => OpT.loadB (H rfl) (Root.self (t := 9) (by decide)) ((h _ (List.elem_iff.1 rfl)).trans rfl) ag63 sz63) rfl ?_
     refine dr [51, 52] hd1 (fun ve h => OpT.c1 (ms := [.flat]) (c_impl_isEdit _) (H rfl) (Af (D1 h rfl) rfl rfl <| An) rfl rfl) rfl ?_
     refine d1 [51, 53] (fun ve h => OpT.pickT (A := .cel _ _) (H rfl) (D1 h rfl) hd1 (D1 h rfl) rfl) rfl ?_
     refine d1 [54] (fun ve h => OpT.move (A := .cel _ _) (.inl rfl) rfl (ok' rfl) (D1 h rfl) rfl) rfl ?_
     refine dr [9, 55] hd2 (fun ve h => OpT.loadB (H rfl) (Root.self (t := 9) (by decide)) ((h _ (List.elem_iff.1 rfl)).trans rfl) ag63 sz63) rfl ?_
     refine dr [55, 56] hd2 (fun ve h => OpT.c1 (ms := [.flat]) (c_impl_editText _ (by assumption)) (H rfl) (Af (D1 h rfl) rfl rfl <| An) rfl rfl) rfl ?_
     refine dr [0, 55] hd2 (fun ve h => OpT.move (A := .cel _ _) (.inl rfl) rfl (ok' rfl) (D1 h rfl) rfl) rfl ?_
     refine dr [55, 57, 58] hd2 (fun ve h => OpT.seqv (H rfl) (D1 h rfl) (D1 h rfl)) rfl ?_
     refine d1 [55, 59] (fun ve h => OpT.pickT (A := .cel _ _) (H rfl) (D1 h rfl) hd2 (D1 h rfl) rfl) rfl ?_
     refine dm (t := 2) [2, 49] (fun ve h => OpT.storeBA rfl rfl (Opd.whole (Root.self (t := 2) (by decide)) ((h _ (List.elem_iff.1 rfl)).trans rfl)) ((h _ (List.elem_iff.1 rfl)).trans rfl) sz63 (by decide) (D1 h rfl)) rfl ?_
     refine d1 [60] (fun ve h => OpT.move (A := .cel _ _) (.inr rfl) rfl (ok' rfl) (D1 h rfl) rfl) rfl ?_
     refine dn ⟨by kernel_rfl, by kernel_rfl, ?_⟩
     refine AX.pr (kc 3 rfl <| kb 2 rfl <| Kn) ?_
     refine AX.go ?_
     refine AW.ret ?_
     exact AX.rt (rs := [.cell 2 63, .tmp 3]) (ts := [none, some 3]) (.inl rfl) rfl (ROs.cons (RO.cellA (by decide) (Kb rfl (by rw [he]; first | done | rfl)) ag63 sz63) <| ROs.cons (RO.tmp (At.self (by decide)) (Kv rfl (by rw [he]; first | done | rfl | (have q1 : (rdC x).2 = false := (by assumption); simp only [okE, q1, Bool.false_and]; done) | (have q1 : (rdC x).2 = true := (by assumption); have q2 : editB (ed0 x) = true := (by assumption); simp only [okE, q1, q2, Bool.true_and, Bool.false_and]; first | done | rfl) | (have q1 : (rdC x).2 = true := (by assumption); have q2 : editB (ed0 x) = false := (by assumption); simp only [okE, q1, q2, Bool.true_and, Bool.false_and]; first | done | rfl) | (have q1 : (rdC x).2 = true := (by assumption); have q2 : editB (ed1 x) = true := (by assumption); simp only [okE, q1, q2, Bool.true_and, Bool.false_and]; first | done | rfl) | (have q1 : (rdC x).2 = true := (by assumption); have q2 : editB (ed1 x) = false := (by assumption); simp only [okE, q1, q2, Bool.true_and, Bool.false_and]; first | done | rfl))) rfl) <| ROs.nil) (by decide) OutsOK.nil
    ·
     have hd2' := lF hd2
     refine dh fomo ?_
     refine d1 [9] (fun ve h => OpT.loadB (H rfl) (Root.self (t := 9) (by decide)) ((h _ (List.elem_iff.1 rfl)).trans rfl) ag63 sz63) rfl ?_
     refine d1 [8] (fun ve h => OpT.move (A := .cel _ _) (.inl rfl) rfl (ok' rfl) (D1 h rfl) rfl) rfl ?_
     refine d1 [50] (fun ve h => OpT.move (A := .cel _ _) (.inl rfl) rfl (ok' rfl) (D1 h rfl) rfl) rfl ?_
     refine dr [9, 51] hd1 (fun ve h => OpT.loadB (H rfl) (Root.self (t := 9) (by decide)) ((h _ (List.elem_iff.1 rfl)).trans rfl) ag63 sz63) rfl ?_
     refine dr [51, 52] hd1 (fun ve h => OpT.c1 (ms := [.flat]) (c_impl_isEdit _) (H rfl) (Af (D1 h rfl) rfl rfl <| An) rfl rfl) rfl ?_
     refine d1 [51, 53] (fun ve h => OpT.pickT (A := .cel _ _) (H rfl) (D1 h rfl) hd1 (D1 h rfl) rfl) rfl ?_
     refine d1 [54] (fun ve h => OpT.move (A := .cel _ _) (.inl rfl) rfl (ok' rfl) (D1 h rfl) rfl) rfl ?_
     refine dp hd2 rfl ?_
     refine dp hd2 rfl ?_
     refine dp hd2 rfl ?_
     refine dp hd2 rfl ?_
     refine d1 [55] (fun ve h => OpT.pickF (A := .cel _ _) (H rfl) (D1 h rfl) hd2 Opd.bool rfl) rfl ?_
     refine dm (t := 2) [2, 49] (fun ve h => OpT.storeBA rfl rfl (Opd.whole (Root.self (t := 2) (by decide)) ((h _ (List.elem_iff.1 rfl)).trans rfl)) ((h _ (List.elem_iff.1 rfl)).trans rfl) sz63 (by decide) (D1 h rfl)) rfl ?_
     refine d1 [60] (fun ve h => OpT.move (A := .cel _ _) (.inr rfl) rfl (ok' rfl) (D1 h rfl) rfl) rfl ?_
     refine dn ⟨by kernel_rfl, by kernel_rfl, ?_⟩
     refine AX.pr (kc 3 rfl <| kb 2 rfl <| Kn) ?_
     refine AX.go ?_
     refine AW.ret ?_
     exact AX.rt (rs := [.cell 2 63, .tmp 3]) (ts := [none, some 3]) (.inl rfl) rfl (ROs.cons (RO.cellA (by decide) (Kb rfl (by rw [he]; first | done | rfl)) ag63 sz63) <| ROs.cons (RO.tmp (At.self (by decide)) (Kv rfl (by rw [he]; first | done | rfl | (have q1 : (rdC x).2 = false := (by assumption); simp only [okE, q1, Bool.false_and]; done) | (have q1 : (rdC x).2 = true := (by assumption); have q2 : editB (ed0 x) = true := (by assumption); simp only [okE, q1, q2, Bool.true_and, Bool.false_and]; first | done | rfl) | (have q1 : (rdC x).2 = true := (by assumption); have q2 : editB (ed0 x) = false := (by assumption); simp only [okE, q1, q2, Bool.true_and, Bool.false_and]; first | done | rfl) | (have q1 : (rdC x).2 = true := (by assumption); have q2 : editB (ed1 x) = true := (by assumption); simp only [okE, q1, q2, Bool.true_and, Bool.false_and]; first | done | rfl) | (have q1 : (rdC x).2 = true := (by assumption); have q2 : editB (ed1 x) = false := (by assumption); simp only [okE, q1, q2, Bool.true_and, Bool.false_and]; first | done | rfl))) rfl) <| ROs.nil) (by decide) OutsOK.nil
   ·
    have hd1' := lF hd1
    refine dh fomo ?_
    refine d1 [9] (fun ve h => OpT.loadB (H rfl) (Root.self (t := 9) (by decide)) ((h _ (List.elem_iff.1 rfl)).trans rfl) ag63 sz63) rfl ?_
    refine d1 [8] (fun ve h => OpT.move (A := .cel _ _) (.inl rfl) rfl (ok' rfl) (D1 h rfl) rfl) rfl ?_
    refine d1 [50] (fun ve h => OpT.move (A := .cel _ _) (.inl rfl) rfl (ok' rfl) (D1 h rfl) rfl) rfl ?_
    refine dp hd1 rfl ?_
    refine dp hd1 rfl ?_
    refine d1 [51] (fun ve h => OpT.pickF (A := .cel _ _) (H rfl) (D1 h rfl) hd1 Opd.bool rfl) rfl ?_
    refine d1 [54] (fun ve h => OpT.move (A := .cel _ _) (.inl rfl) rfl (ok' rfl) (D1 h rfl) rfl) rfl ?_
    refine dp rfl rfl ?_
    refine dp rfl rfl ?_
    refine dp rfl rfl ?_
    refine dp rfl rfl ?_
    refine d1 [55] (fun ve h => OpT.pickF (A := .cel _ _) (H rfl) (D1 h rfl) rfl Opd.bool rfl) rfl ?_
    refine dm (t := 2) [2, 49] (fun ve h => OpT.storeBA rfl rfl (Opd.whole (Root.self (t := 2) (by decide)) ((h _ (List.elem_iff.1 rfl)).trans rfl)) ((h _ (List.elem_iff.1 rfl)).trans rfl) sz63 (by decide) (D1 h rfl)) rfl ?_
    refine d1 [60] (fun ve h => OpT.move (A := .cel _ _) (.inr rfl) rfl (ok' rfl) (D1 h rfl) rfl) rfl ?_
    refine dn ⟨by kernel_rfl, by kernel_rfl, ?_⟩
    refine AX.pr (kc 3 rfl <| kb 2 rfl <| Kn) ?_
    refine AX.go ?_
    refine AW.ret ?_
    exact AX.rt (rs := [.cell 2 63, .tmp 3]) (ts := [none, some 3]) (.inl rfl) rfl (ROs.cons (RO.cellA (by decide) (Kb rfl (by rw [he]; first | done | rfl)) ag63 sz63) <| ROs.cons (RO.tmp (At.self (by decide)) (Kv rfl (by rw [he]; first | done | rfl | (have q1 : (rdC x).2 = false := (by assumption); simp only [okE, q1, Bool.false_and]; done) | (have q1 : (rdC x).2 = true := (by assumption); have q2 : editB (ed0 x) = true := (by assumption); simp only [okE, q1, q2, Bool.true_and, Bool.false_and]; first | done | rfl) | (have q1 : (rdC x).2 = true := (by assumption); have q2 : editB (ed0 x) = false := (by assumption); simp only [okE, q1, q2, Bool.true_and, Bool.false_and]; first | done | rfl) | (have q1 : (rdC x).2 = true := (by assumption); have q2 : editB (ed1 x) = true := (by assumption); simp only [okE, q1, q2, Bool.true_and, Bool.false_and]; first | done | rfl) | (have q1 : (rdC x).2 = true := (by assumption); have q2 : editB (ed1 x) = false := (by assumption); simp only [okE, q1, q2, Bool.true_and, Bool.false_and]; first | done | rfl))) rfl) <| ROs.nil) (by decide) OutsOK.nil
 ·
  obtain ⟨hc1, hc1'⟩ := pF hc1
  have he := re_low (x := x) (by omega)
  refine AW.skip ?_
  refine AX.pr (kb 9 rfl <| kc2 8 3 rfl <| kb 2 rfl <| kc 0 rfl <| Kn) ?_
  refine AX.go ?_
  refine AW.seq ?_
  rcases Bool.eq_false_or_eq_true (rdC x).2 with hd3 | hd3
  ·
   have hd3' := lT hd3
   rcases Bool.eq_false_or_eq_true (editB (ed0 x)) with hd4 | hd4
   ·
    have hd4' := lT hd4
    refine dh fomo ?_
    refine d1 [9] (fun ve h => OpT.loadB (H rfl) (Root.self (t := 9) (by decide)) ((h _ (List.elem_iff.1 rfl)).trans rfl) ag63 sz63) rfl ?_
    refine d1 [8] (fun ve h => OpT.move (A := .cel _ _) (.inl rfl) rfl (ok' rfl) (D1 h rfl) rfl) rfl ?_
    refine d1 [50] (fun ve h => OpT.move (A := .cel _ _) (.inl rfl) rfl (ok' rfl) (D1 h rfl) rfl) rfl ?_
    refine dr [9, 51] hd3 (fun ve h => OpT.loadB (H rfl) (Root.self (t := 9) (by decide)) ((h _ (List.elem_iff.1 rfl)).trans rfl) ag63 sz63) rfl ?_
    refine dr [51, 52] hd3 (fun ve h => OpT.c1 (ms := [.flat]) (c_impl_isEdit _) (H rfl) (Af (D1 h rfl) rfl rfl <| An) rfl rfl) rfl ?_
    refine d1 [51, 53] (fun ve h => OpT.pickT (A := .cel _ _) (H rfl) (D1 h rfl) hd3 (D1 h rfl) rfl) rfl ?_
    refine d1 [54] (fun ve h => OpT.move (A := .cel _ _) (.inl rfl) rfl (ok' rfl) (D1 h rfl) rfl) rfl ?_
    refine dr [9, 55] hd4 (fun ve h => OpT.loadB (H rfl) (Root.self (t := 9) (by decide)) ((h _ (List.elem_iff.1 rfl)).trans rfl) ag63 sz63) rfl ?_
    refine dr [55, 56] hd4 (fun ve h => OpT.c1 (ms := [.flat]) (c_impl_editText _ (by assumption)) (H rfl) (Af (D1 h rfl) rfl rfl <| An) rfl rfl) rfl ?_
    refine dr [0, 55] hd4 (fun ve h => OpT.move (A := .cel _ _) (.inl rfl) rfl (ok' rfl) (D1 h rfl) rfl) rfl ?_
    refine dr [55, 57, 58] hd4 (fun ve h => OpT.seqv (H rfl) (D1 h rfl) (D1 h rfl)) rfl ?_
    refine d1 [55, 59] (fun ve h => OpT.pickT (A := .cel _ _) (H rfl) (D1 h rfl) hd4 (D1 h rfl) rfl) rfl ?_
    refine dm (t := 2) [2, 49] (fun ve h => OpT.storeBA rfl rfl (Opd.whole (Root.self (t := 2) (by decide)) ((h _ (List.elem_iff.1 rfl)).trans rfl)) ((h _ (List.elem_iff.1 rfl)).trans rfl) sz63 (by decide) (D1 h rfl)) rfl ?_
    refine d1 [60] (fun ve h => OpT.move (A := .cel _ _) (.inr rfl) rfl (ok' rfl) (D1 h rfl) rfl) rfl ?_
    refine dn ⟨by kernel_rfl, by kernel_rfl, ?_⟩
    refine AX.pr (kc 3 rfl <| kb 2 rfl <| Kn) ?_
    refine AX.go ?_
    refine AW.ret ?_
    exact AX.rt (rs := [.cell 2 63, .tmp 3]) (ts := [none, some 3]) (.inl rfl) rfl (ROs.cons (RO.cellA (by decide) (Kb rfl (by rw [he]; first | done | rfl)) ag63 sz63) <| ROs.cons (RO.tmp (At.self (by decide)) (Kv rfl (by rw [he]; first | done | rfl | (have q1 : (rdC x).2 = false := (by assumption); simp only [okE, q1, Bool.false_and]; done) | (have q1 : (rdC x).2 = true := (by assumption); have q2 : editB (ed0 x) = true := (by assumption); simp only [okE, q1, q2, Bool.true_and, Bool.false_and]; first | done | rfl) | (have q1 : (rdC x).2 = true := (by assumption); have q2 : editB (ed0 x) = false := (by assumption); simp only [okE, q1, q2, Bool.true_and, Bool.false_and]; first | done | rfl) | (have q1 : (rdC x).2 = true := (by assumption); have q2 : editB (ed1 x) = true := (by assumption); simp only [okE, q1, q2, Bool.true_and, Bool.false_and]; first | done | rfl) | (have q1 : (rdC x).2 = true := (by assumption); have q2 : editB (ed1 x) = false := (by assumption); simp only [okE, q1, q2, Bool.true_and, Bool.false_and]; first | done | rfl))) rfl) <| ROs.nil) (by decide) OutsOK.nil
   ·
    have hd4' := lF hd4
    refine dh fomo ?_
    refine d1 [9] (fun ve h => OpT.loadB (H rfl) (Root.self (t := 9) (by decide)) ((h _ (List.elem_iff.1 rfl)).trans rfl) ag63 sz63) rfl ?_
    refine d1 [8] (fun ve h => OpT.move (A := .cel _ _) (.inl rfl) rfl (ok' rfl) (D1 h rfl) rfl) rfl ?_
    refine d1 [50] (fun ve h => OpT.move (A := .cel _ _) (.inl rfl) rfl (ok' rfl) (D1 h rfl) rfl) rfl ?_
    refine dr [9, 51] hd3 (fun ve h => OpT.loadB (H rfl) (Root.self (t := 9) (by decide)) ((h _ (List.elem_iff.1 rfl)).trans rfl) ag63 sz63) rfl ?_
    refine dr [51, 52] hd3 (fun ve h => OpT.c1 (ms := [.flat]) (c_impl_isEdit _) (H rfl) (Af (D1 h rfl) rfl rfl <| An) rfl rfl) rfl ?_
    refine d1 [51, 53] (fun ve h => OpT.pickT (A := .cel _ _) (H rfl) (D1 h rfl) hd3 (D1 h rfl) rfl) rfl ?_
    refine d1 [54] (fun ve h => OpT.move (A := .cel _ _) (.inl rfl) rfl (ok' rfl) (D1 h rfl) rfl) rfl ?_
    refine dp hd4 rfl ?_
    refine dp hd4 rfl ?_
    refine dp hd4 rfl ?_
    refine dp hd4 rfl ?_
    refine d1 [55] (fun ve h => OpT.pickF (A := .cel _ _) (H rfl) (D1 h rfl) hd4 Opd.bool rfl) rfl ?_
    refine dm (t := 2) [2, 49] (fun ve h => OpT.storeBA rfl rfl (Opd.whole (Root.self (t := 2) (by decide)) ((h _ (List.elem_iff.1 rfl)).trans rfl)) ((h _ (List.elem_iff.1 rfl)).trans rfl) sz63 (by decide) (D1 h rfl)) rfl ?_
    refine d1 [60] (fun ve h => OpT.move (A := .cel _ _) (.inr rfl) rfl (ok' rfl) (D1 h rfl) rfl) rfl ?_
    refine dn ⟨by kernel_rfl, by kernel_rfl, ?_⟩
    refine AX.pr (kc 3 rfl <| kb 2 rfl <| Kn) ?_
    refine AX.go ?_
    refine AW.ret ?_
    exact AX.rt (rs := [.cell 2 63, .tmp 3]) (ts := [none, some 3]) (.inl rfl) rfl (ROs.cons (RO.cellA (by decide) (Kb rfl (by rw [he]; first | done | rfl)) ag63 sz63) <| ROs.cons (RO.tmp (At.self (by decide)) (Kv rfl (by rw [he]; first | done | rfl | (have q1 : (rdC x).2 = false := (by assumption); simp only [okE, q1, Bool.false_and]; done) | (have q1 : (rdC x).2 = true := (by assumption); have q2 : editB (ed0 x) = true := (by assumption); simp only [okE, q1, q2, Bool.true_and, Bool.false_and]; first | done | rfl) | (have q1 : (rdC x).2 = true := (by assumption); have q2 : editB (ed0 x) = false := (by assumption); simp only [okE, q1, q2, Bool.true_and, Bool.false_and]; first | done | rfl) | (have q1 : (rdC x).2 = true := (by assumption); have q2 : editB (ed1 x) = true := (by assumption); simp only [okE, q1, q2, Bool.true_and, Bool.false_and]; first | done | rfl) | (have q1 : (rdC x).2 = true := (by assumption); have q2 : editB (ed1 x) = false := (by assumption); simp only [okE, q1, q2, Bool.true_and, Bool.false_and]; first | done | rfl))) rfl) <| ROs.nil) (by decide) OutsOK.nil
  ·
   have hd3' := lF hd3
   refine dh fomo ?_
   refine d1 [9] (fun ve h => OpT.loadB (H rfl) (Root.self (t := 9) (by decide)) ((h _ (List.elem_iff.1 rfl)).trans rfl) ag63 sz63) rfl ?_
   refine d1 [8] (fun ve h => OpT.move (A := .cel _ _) (.inl rfl) rfl (ok' rfl) (D1 h rfl) rfl) rfl ?_
   refine d1 [50] (fun ve h => OpT.move (A := .cel _ _) (.inl rfl) rfl (ok' rfl) (D1 h rfl) rfl) rfl ?_
   refine dp hd3 rfl ?_
   refine dp hd3 rfl ?_
   refine d1 [51] (fun ve h => OpT.pickF (A := .cel _ _) (H rfl) (D1 h rfl) hd3 Opd.bool rfl) rfl ?_
   refine d1 [54] (fun ve h => OpT.move (A := .cel _ _) (.inl rfl) rfl (ok' rfl) (D1 h rfl) rfl) rfl ?_
   refine dp rfl rfl ?_
   refine dp rfl rfl ?_
   refine dp rfl rfl ?_
   refine dp rfl rfl ?_
   refine d1 [55] (fun ve h => OpT.pickF (A := .cel _ _) (H rfl) (D1 h rfl) rfl Opd.bool rfl) rfl ?_
   refine dm (t := 2) [2, 49] (fun ve h => OpT.storeBA rfl rfl (Opd.whole (Root.self (t := 2) (by decide)) ((h _ (List.elem_iff.1 rfl)).trans rfl)) ((h _ (List.elem_iff.1 rfl)).trans rfl) sz63 (by decide) (D1 h rfl)) rfl ?_
   refine d1 [60] (fun ve h => OpT.move (A := .cel _ _) (.inr rfl) rfl (ok' rfl) (D1 h rfl) rfl) rfl ?_
   refine dn ⟨by kernel_rfl, by kernel_rfl, ?_⟩
   refine AX.pr (kc 3 rfl <| kb 2 rfl <| Kn) ?_
   refine AX.go ?_
   refine AW.ret ?_
   exact AX.rt (rs := [.cell 2 63, .tmp 3]) (ts := [none, some 3]) (.inl rfl) rfl (ROs.cons (RO.cellA (by decide) (Kb rfl (by rw [he]; first | done | rfl)) ag63 sz63) <| ROs.cons (RO.tmp (At.self (by decide)) (Kv rfl (by rw [he]; first | done | rfl | (have q1 : (rdC x).2 = false := (by assumption); simp only [okE, q1, Bool.false_and]; done) | (have q1 : (rdC x).2 = true := (by assumption); have q2 : editB (ed0 x) = true := (by assumption); simp only [okE, q1, q2, Bool.true_and, Bool.false_and]; first | done | rfl) | (have q1 : (rdC x).2 = true := (by assumption); have q2 : editB (ed0 x) = false := (by assumption); simp only [okE, q1, q2, Bool.true_and, Bool.false_and]; first | done | rfl) | (have q1 : (rdC x).2 = true := (by assumption); have q2 : editB (ed1 x) = true := (by assumption); simp only [okE, q1, q2, Bool.true_and, Bool.false_and]; first | done | rfl) | (have q1 : (rdC x).2 = true := (by assumption); have q2 : editB (ed1 x) = false := (by assumption); simp only [okE, q1, q2, Bool.true_and, Bool.false_and]; first | done | rfl))) rfl) <| ROs.nil) (by decide) OutsOK.nil

/-- impl.ReadEdits -/
theorem c_impl_ReadEdits_o (x : ByteArray) (hx : x.size ≤ 100000000) (hr : ∀ l ∈ (linS x).1, ∀ w ∈ wrdT (cutP 32 l).2.1, RdN w) : AC Tryz.prog 24 [.cel Kd.str x] [.own 63 kEdit (rsS x).1, .cel (Kd.int .i64) (rsS x).2] [] := by
 refine acI (N := 43) Tryz.func24 (Nat.le_of_ble_eq_true rfl) rfl fun w0 hd s0 ar => ?_
 refine AW.to (kc 0 rfl <| Kn) ?_
 have hll := lin_len x
 refine sr ?_
 refine st (nilO (E := 63) kEdit rfl (.inl rfl)) rfl ?_
 refine st (asI rfl) rfl ?_
 refine ng ?_
 refine sr ?_
 refine st (mvT rfl) rfl ?_
 refine s2 (OpT.c2 (ms := [.flat]) (c_impl_linesOf x (by omega)) (H rfl) (Af (T1 rfl) rfl rfl <| An) rfl rfl rfl) rfl ?_
 refine st (OpT.alias (H rfl) (by decide) (by decide)) rfl ?_
 refine st (OpT.extractV (m := 10013) (H rfl) rfl rfl rfl rfl rfl rfl rfl) rfl ?_
 refine st (OpT.extractV (m := 20013) (H rfl) rfl rfl rfl rfl rfl rfl rfl) rfl ?_
 refine st (asT rfl) rfl ?_
 refine st (asT rfl) rfl ?_
 refine ng ?_
 refine AW.seq ?_
 refine sr ?_
 refine st (mvT rfl) rfl ?_
 refine st (OpT.not (H rfl) (T1 rfl)) rfl ?_
 refine st (mvT rfl) rfl ?_
 apply AWl.or (d := 22) (t := 18) rfl
 ·
  intro hb1 Q1 k1
  have hb1' := lF hb1
  refine rs hb1 (mvT rfl) rfl ?_
  refine rs hb1 (OpT.len (H rfl) (T1 rfl) el81) rfl ?_
  refine rs hb1 (OpT.gtr (H rfl) (T1 rfl) (I rfl)) rfl ?_
  refine st (OpT.pickF (A := .cel _ _) (H rfl) (T1 rfl) hb1 (T1 rfl) rfl) rfl ?_
  exact AWl.to (junk 3 rfl) k1
 ·
  intro hb1 Q1 k1
  refine ps hb1 rfl ?_
  refine ps hb1 rfl ?_
  refine ps hb1 rfl ?_
  refine st (OpT.pickT (A := .cel _ _) (H rfl) (T1 rfl) hb1 Opd.bool rfl) rfl ?_
  exact k1
 refine AWl.to (kc3 22 4 3 rfl <| ko 2 rfl <| Kn) ?_
 refine ng ?_
 refine cd rfl (fun hc1 => ?_) fun hc1 => ?_
 ·
  obtain ⟨hc1, hc1'⟩ := pT hc1
  have hl1 := hc1
  refine sr ?_
  refine st (nilO (E := 63) kEdit rfl (.inl rfl)) rfl ?_
  refine st (asI rfl) rfl ?_
  refine ng ?_
  refine AW.ret ?_
  refine rT ?_
  exact AX.rt (rs := [.tmp 2, .tmp 3]) (ts := [some 2, some 3]) (.inl rfl) rfl (ROs.cons (RO.tmp (At.self (by decide)) (Ko rfl (by first | (rw [rs_no hl1]; done) | (rw [rs_bad hl1 hl hg0]; done) | (rw [rs_yes hl1 hal]; first | done | rfl | rw [htk]))) rfl) <| ROs.cons (RO.tmp (At.self (by decide)) (Kv rfl (by first | (rw [rs_no hl1]; done) | (rw [rs_bad hl1 hl hg0]; done) | (rw [rs_yes hl1 hal]; first | done | rfl | rw [htk]))) rfl) <| ROs.nil) (by decide) OutsOK.nil
 ·
  obtain ⟨hc1, hc1'⟩ := pF hc1
  have hl1 := hc1
  refine AW.skip ?_
  refine AX.go ?_
  refine sr ?_
  refine st (OpT.buildSlice0 (m := 0) (z := .bool false) kEdit (H rfl) el49 sz63 (by decide)) rfl ?_
  refine sg (OpT.take (.inl rfl) rfl (ok' rfl) (Root.self (by decide)) rfl rfl (by decide)) (ko 6 rfl <| kc3 22 4 3 rfl <| ko 2 rfl <| Kn) rfl ?_
  refine ng ?_
  refine AW.seq ?_
  refine sr ?_
  refine st (mvT rfl) rfl ?_
  refine st (OpT.len (H rfl) (T1 rfl) el81) rfl ?_
  refine st (mvI rfl) rfl ?_
  refine ng ?_
  refine AW.block ?_
  refine AW.loop (fun z : Nat => z ≤ (linS x).1.length ∧ ((linS x).1.take z).all gdE = true) (fun z : Nat => keep [(6, .own 63 kEdit (((linS x).1.take z).map reC)), (24, .cel (Kd.slice Kd.str) (linS x).1), (25, .cel (Kd.int .i64) ((linS x).1.length : Int)), (26, .cel (Kd.int .i64) (z : Int))]) (fun z : Nat => (linS x).1.length - z) (0) ⟨Nat.zero_le _, by simp⟩ (Kc 6 _ (Ko rfl (by simp)) <| Kc 24 _ (Kv rfl rfl) <| Kc 25 _ (Kv rfl rfl) <| Kc 26 _ (Kv rfl rfl) <| Kn) ?_
  intro z hI
  refine sr ?_
  refine st (OpT.lss (H rfl) (T1 rfl) (T1 rfl)) rfl ?_
  refine ng ?_
  refine AW.seq ?_
  refine cd rfl (fun hc2 => ?_) fun hc2 => ?_
  ·
   obtain ⟨hc2, hc2'⟩ := pT hc2
   obtain ⟨l, hl⟩ := getI (x := (linS x).1) (z := z) (by omega)
   refine AW.skip ?_
   refine AX.go ?_
   refine AW.seq ?_
   refine AW.block ?_
   refine sr ?_
   refine st (OpT.indexAddr (H rfl) (T1 rfl) (T1 rfl) el81 sz9 (by omega) hl) rfl ?_
   refine st (OpT.load (H rfl) (T1 rfl) ag9 rfl) rfl ?_
   refine st (asT rfl) rfl ?_
   refine ng ?_
   refine sr ?_
   refine st (mvT rfl) rfl ?_
   refine s2 (OpT.c2 (ms := [.flat]) (c_impl_readEdit l (by have h9 := lin_size (mem_getI hl); omega) (hr l (mem_getI hl))) (H rfl) (Af (T1 rfl) rfl rfl <| An) rfl rfl rfl) rfl ?_
   refine st (OpT.alias (H rfl) (by decide) (by decide)) rfl ?_
   refine st (OpT.extractV (m := 10032) (H rfl) rfl rfl rfl rfl rfl rfl rfl) rfl ?_
   refine st (OpT.extractV (m := 20032) (H rfl) rfl rfl rfl rfl rfl rfl rfl) rfl ?_
   refine st (OpT.alloc (H rfl) zr63 zk63) rfl ?_
   refine sk (OpT.storeBA rfl rfl (Opd.whole (Root.self (t := 9) (by decide)) rfl) rfl sz63 (by decide) (T1 rfl)) rfl ?_
   refine st (asT rfl) rfl ?_
   refine ng ?_
   refine AW.seq ?_
   refine sr ?_
   refine st (mvT rfl) rfl ?_
   refine st (OpT.not (H rfl) (T1 rfl)) rfl ?_
   refine ng ?_
   refine cd rfl (fun hc3 => ?_) fun hc3 => ?_
   ·
    obtain ⟨hc3, hc3'⟩ := pT hc3
    have hg0 : (reS l).2 = false := by simpa using hc3
    refine sr ?_
    refine st (nilO (E := 63) kEdit rfl (.inl rfl)) rfl ?_
    refine st (asI rfl) rfl ?_
    refine ng ?_
    refine AW.ret ?_
    refine rT <| rK <| rT <| rT <| rK <| rT ?_
    exact AX.rt (rs := [.tmp 2, .tmp 3]) (ts := [some 2, some 3]) (.inl rfl) rfl (ROs.cons (RO.tmp (At.self (by decide)) (Ko rfl (by first | (rw [rs_no hl1]; done) | (rw [rs_bad hl1 hl hg0]; done) | (rw [rs_yes hl1 hal]; first | done | rfl | rw [htk]))) rfl) <| ROs.cons (RO.tmp (At.self (by decide)) (Kv rfl (by first | (rw [rs_no hl1]; done) | (rw [rs_bad hl1 hl hg0]; done) | (rw [rs_yes hl1 hal]; first | done | rfl | rw [htk]))) rfl) <| ROs.nil) (by decide) OutsOK.nil
   ·
    obtain ⟨hc3, hc3'⟩ := pF hc3
    have hg1 : gdE l = true := by (unfold gdE; simpa using hc3)
    refine AW.skip ?_
    refine AX.go ?_
    refine AW.region ?_
    refine st (OpT.alias (H rfl) (by decide) (by decide)) rfl ?_
    refine st (OpT.loadB (H rfl) (Root.self (t := 9) (by decide)) rfl ag63 sz63) rfl ?_
    refine st (OpT.buildSlice (H rfl) el49 zr63 sz63 rfl (by decide) zk63 (by decide) (Built.agg (T1 rfl) rfl (by decide) (sub_arr (by decide) ((0, .empty, 0, (0, 0)) : Int × ByteArray × Int × (BitVec 64 × BitVec 64))) (Built.nil _))) rfl ?_
    refine sg (OpT.append (H rfl) (Root.ali rfl (by decide) (by decide)) rfl (Src.own (Root.self (t := 39) (by decide)) rfl) (by decide) el49 zr63 rfl sz63 by63 (by decide) (by simp only [List.length_map, List.length_take, List.length_set, List.length_replicate]; omega)) (ko 40 rfl <| ko 39 rfl <| ka 38 rfl <| kc3 36 35 10 rfl <| kb 9 rfl <| kc 34 rfl <| ka 33 rfl <| Kc 30 (.ali _) rfl <| ka 10032 rfl <| kc4 20032 31 8 29 rfl <| kc4 28 27 24 25 rfl <| kc 26 rfl <| Kn) rfl ?_
    refine sg (OpT.take (.inl rfl) rfl (ok' rfl) (Root.self (by decide)) rfl rfl (by decide)) (ko 6 rfl <| ko 39 rfl <| ka 38 rfl <| kc3 36 35 10 rfl <| kb 9 rfl <| kc 34 rfl <| ka 33 rfl <| Kc 30 (.ali _) rfl <| ka 10032 rfl <| kc4 20032 31 8 29 rfl <| kc4 28 27 24 25 rfl <| kc 26 rfl <| Kn) rfl ?_
    refine nn ?_
    refine AX.normal_block ?_
    refine AX.go ?_
    refine AW.region ?_
    refine st (OpT.add (H rfl) (T1 rfl) (I rfl) (nw (by omega))) rfl ?_
    refine st (mvT rfl) rfl ?_
    refine nn ?_
    exact AX.again (z + 1) ⟨by omega, all_take hl hg1 hI.2⟩ (by omega) (Kc 6 _ (Ko rfl (by rw [take_more hl, List.map_append]; rfl)) <| Kc 24 _ (Kv rfl rfl) <| Kc 25 _ (Kv rfl rfl) <| Kc 26 _ (Kv rfl (by omega)) <| Kn)
  ·
   obtain ⟨hc2, hc2'⟩ := pF hc2
   have htk : (linS x).1.take z = (linS x).1 := List.take_of_length_le (by omega)
   have hal : (linS x).1.all gdE = true := by (have h9 := hI.2; rwa [htk] at h9)
   refine AW.exit ?_
   refine xT <| xT <| AX.exit_hit ?_
   refine AX.go ?_
   refine sr ?_
   refine st (OpT.alias (H rfl) (by decide) (by decide)) rfl ?_
   refine sg (OpT.take (.inl rfl) rfl (ok' rfl) (Root.ali rfl (by decide) (by decide)) rfl rfl (by decide)) (ko 2 rfl <| kc4 27 24 25 26 rfl <| Kn) rfl ?_
   refine st (asI rfl) rfl ?_
   refine ng ?_
   refine AW.ret ?_
   exact AX.rt (rs := [.tmp 2, .tmp 3]) (ts := [some 2, some 3]) (.inl rfl) rfl (ROs.cons (RO.tmp (At.self (by decide)) (Ko rfl (by first | (rw [rs_no hl1]; done) | (rw [rs_bad hl1 hl hg0]; done) | (rw [rs_yes hl1 hal]; first | done | rfl | rw [htk]))) rfl) <| ROs.cons (RO.tmp (At.self (by decide)) (Kv rfl (by first | (rw [rs_no hl1]; done) | (rw [rs_bad hl1 hl hg0]; done) | (rw [rs_yes hl1 hal]; first | done | rfl | rw [htk]))) rfl) <| ROs.nil) (by decide) OutsOK.nil
end Go.Proofs.YtmmjcpiikdcldaaGreatDoor.VL
