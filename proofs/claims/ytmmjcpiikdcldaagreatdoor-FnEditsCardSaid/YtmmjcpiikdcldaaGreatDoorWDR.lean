/- Proved here: what some functions of the program take and give: walks with the words of VA..VQ. Printed by program. -/
import Derived.Test.YtmmjcpiikdcldaaGreatDoorWT
import Derived.Test.YtmmjcpiikdcldaaGreatDoorBpa
import Derived.Test.YtmmjcpiikdcldaaGreatDoorWP
import Derived.Test.YtmmjcpiikdcldaaGreatDoorWSR
set_option linter.unusedVariables false
set_option linter.unusedSimpArgs false
set_option maxRecDepth 4000
namespace Go.Proofs.YtmmjcpiikdcldaaGreatDoor.VL
open Go
/-- spec.l01Drawn -/
theorem c_spec_l01Drawn (ss : DSrc) (h : srcI 1000000 ss) : AC Tryz.prog 38 [.box 111 (Kd.pair (Kd.slice (Kd.int .u8)) (Kd.pair (Kd.int .i64) Kd.u64)) ss] [.deep (OSh.ex (fun x : List (ByteArray × Int × Int × Int) => .cel (Kd.slice kField) x) (fun x => schemeOK x ∧ 1 ≤ x.length ∧ x.length ≤ 5))] [] := by
 refine acI (N := 50) Tryz.func38 (Nat.le_of_ble_eq_true rfl) rfl fun w0 hd s0 ar => ?_
 refine AW.to (kb 0 rfl <| Kn) ?_
 have hq1 := pick_in h 6
 have hq2 := pick_src h 6
 have hq3 := pick_in hq2 5
 have hq4 := pick_src hq2 5
 refine sr ?_
 refine st (OpT.move (A := .cel _ _) (.inr rfl) rfl (ok' rfl) (Opd.nilslice kField) rfl) rfl ?_
 refine ng ?_
 refine sr ?_
 refine st (OpT.buildSlice0 (m := 0) (z := .bool false) kField (H rfl) el24 sz106 (by decide)) rfl ?_
 refine sg (OpT.take (.inl rfl) rfl (ok' rfl) (Root.self (by decide)) rfl rfl (by decide)) (ko 3 rfl <| kc 2 rfl <| kb 0 rfl <| Kn) rfl ?_
 refine ng ?_
 refine sr ?_
 refine st (OpT.alias (H rfl) (by decide) (by decide)) rfl ?_
 refine sg (OpT.cr (ms := [.root 0, .flat]) (c_spec_l00Src_pick _ _ (h.le (by omega))) (H rfl) (Ar (Root.ali rfl (by decide) (by decide)) rfl rfl rfl <| Af (I rfl) rfl rfl <| An) rfl (.inl rfl) rfl) (kc 10 rfl <| Kc 9 (.ali _) rfl <| ko 3 rfl <| kc 2 rfl <| kb 0 rfl <| Kn) rfl ?_
 refine st (asT rfl) rfl ?_
 refine ng ?_
 refine sr ?_
 refine st (OpT.c1 (ms := []) (c_spec_l01Names ) (H rfl) (An) rfl rfl) rfl ?_
 refine st (asT rfl) rfl ?_
 refine ng ?_
 refine AW.seq ?_
 refine sr ?_
 refine st (OpT.alias (H rfl) (by decide) (by decide)) rfl ?_
 refine sg (OpT.cr (ms := [.root 0, .flat]) (c_spec_l00Src_pick _ _ (hq2.le (by omega))) (H rfl) (Ar (Root.ali rfl (by decide) (by decide)) rfl rfl rfl <| Af (I rfl) rfl rfl <| An) rfl (.inl rfl) rfl) (kc 13 rfl <| Kc 12 (.ali _) rfl <| kc4 5 11 4 10 rfl <| Kc 9 (.ali _) rfl <| ko 3 rfl <| kc 2 rfl <| kb 0 rfl <| Kn) rfl ?_
 refine st (OpT.add (H rfl) (I rfl) (T1 rfl) (nw (by omega))) rfl ?_
 refine st (asT rfl) rfl ?_
 refine ng ?_
 refine AW.block ?_
 refine AW.loop (fun p : Nat × DSrc × List DField × Int => srcI (1000100 - 10 * (p.1 : Int)) p.2.1 ∧ (p.1 : Int) + p.2.2.1.length ≤ 5 ∧ drI p.2.2.1 p.2.2.2 ∧ (0 ≤ p.2.2.2 ∧ p.2.2.2 ≤ 99) ∧ (1 ≤ p.2.2.1.length ∨ (1 ≤ p.1 ∧ p.2.2.2 ≤ 5))) (fun p : Nat × DSrc × List DField × Int => keep [(0, .box 111 (Kd.pair (Kd.slice (Kd.int .u8)) (Kd.pair (Kd.int .i64) Kd.u64)) p.2.1), (3, .own 106 kField p.2.2.1), (4, .cel (Kd.int .i64) p.2.2.2), (5, .cel (Kd.slice Kd.str) nmL), (6, .cel (Kd.int .i64) (p.1 : Int))]) (fun p : Nat × DSrc × List DField × Int => p.1) (((1 + (pick (pick ss 6).2 5).1).toNat, (pick (pick ss 6).2 5).2, [], (pick ss 6).1)) ⟨hq4.le (by simp only []; omega), by simp only [List.length_nil]; omega, drI_nil _, by simp only []; omega, .inr (by simp only []; omega)⟩ (Kc 0 _ (Kb rfl rfl) <| Kc 3 _ (Ko rfl rfl) <| Kc 4 _ (Kv rfl rfl) <| Kc 5 _ (Kv rfl rfl) <| Kc 6 _ (Kv rfl (by simp only []; omega)) <| Kn) ?_
 intro p hI
 refine AW.seq ?_
 refine sr ?_
 refine st (mvT rfl) rfl ?_
 refine st (OpT.gtr (H rfl) (T1 rfl) (I rfl)) rfl ?_
 refine ng ?_
 refine cd rfl (fun hc1 => ?_) fun hc1 => ?_
 ·
  obtain ⟨hc1, hc1'⟩ := pT hc1
  have hs1 := pick_src hI.1 4
  have hs2 := drS_src hI.1
  have hk4 : 0 ≤ (pick p.2.1 4).1 ∧ (pick p.2.1 4).1 ≤ 3 := drK_in hI.1
  have hwd := drF_width hI.1 p.2.2.1.length p.2.2.2
  have hz := szd_in hs1 hk4
  have hmx := (mostF_in (pick p.2.1 4).1).2.1
  refine AW.skip ?_
  refine AX.go ?_
  refine AW.seq ?_
  refine AW.block ?_
  refine AW.seq ?_
  refine dh fomo ?_
  refine d1 [5] (fun ve h => OpT.move (A := .cel _ _) (.inl rfl) rfl (ok' rfl) (D1 h rfl) rfl) rfl ?_
  refine d1 [] (fun ve h => OpT.alias (H rfl) (by decide) (by decide)) rfl ?_
  refine d1 [3, 20] (fun ve h => OpT.lenO (H rfl) (Root.ali ((h _ (List.elem_iff.1 rfl)).trans rfl) (by decide) (by decide)) ((h _ (List.elem_iff.1 rfl)).trans rfl) el24) rfl ?_
  refine d1 [19, 21] (fun ve h => OpT.indexAddr (H rfl) (D1 h rfl) (D1 h rfl) el81 sz9 (by omega) (nmL_get (by omega))) rfl ?_
  refine d1 [22] (fun ve h => OpT.load (H rfl) (D1 h rfl) ag9 rfl) rfl ?_
  refine d1 [] (fun ve h => OpT.alias (H rfl) (by decide) (by decide)) rfl ?_
  refine dwo (t := 0) [0, 24] (fun ve h => crdo (ms := [.root 0, .flat]) (c_spec_l00Src_pick _ _ (hI.1.le (by omega))) (H rfl) (Ar (Root.ali ((h _ (List.elem_iff.1 rfl)).trans rfl) (by decide) (by decide)) ((h _ (List.elem_iff.1 rfl)).trans rfl) rfl rfl <| Af (I rfl) rfl rfl <| An) rfl rfl) rfl ?_
  refine d1 [25] (fun ve h => OpT.conv (H rfl) us2 Tryz.underlying60 (D1 h rfl) (wrap_id (by first | (simp only [inR, IntKind.min, IntKind.max, IntKind.signed, IntKind.bits]; omega)))) rfl ?_
  refine d1 [4] (fun ve h => OpT.move (A := .cel _ _) (.inl rfl) rfl (ok' rfl) (D1 h rfl) rfl) rfl ?_
  refine d1 [27] (fun ve h => OpT.conv (H rfl) us2 Tryz.underlying61 (D1 h rfl) (nw16 (by omega))) rfl ?_
  refine d1 [23, 26, 28] (fun ve h => OpT.build (H rfl) pl106 zr106 zk106 (Built.cel (D1 h rfl) rfl rfl sb106_0 (Built.cel (D1 h rfl) rfl rfl sb106_1 (Built.cel (D1 h rfl) rfl rfl sb106_2 (Built.nil _))))) rfl ?_
  refine d1 [] (fun ve h => OpT.alloc (H rfl) zr106 zk106) rfl ?_
  refine dm (t := 7) [7, 29] (fun ve h => OpT.storeBA rfl rfl (Opd.whole (Root.self (t := 7) (by decide)) ((h _ (List.elem_iff.1 rfl)).trans rfl)) ((h _ (List.elem_iff.1 rfl)).trans rfl) sz106 (by decide) (D1 h rfl)) rfl ?_
  refine dn ⟨by kernel_rfl, by kernel_rfl, ?_⟩
  refine AX.go ?_
  refine sr ?_
  refine st (OpT.alias (H rfl) (by decide) (by decide)) rfl ?_
  refine st (OpT.fieldAddrB (H rfl) (Root.self (t := 7) (by decide)) rfl (by decide) fd106_1 sz60 (by decide) sb106_1) rfl ?_
  refine st (OpT.loadP (H rfl) (T1 rfl) (.inl ⟨_, rfl, rfl⟩) ag60 rfl) rfl ?_
  refine sg (OpT.cr (ms := [.root 0, .flat]) (c_spec_l01Sized _ _ (hs1.le (by omega))) (H rfl) (Ar (Root.ali rfl (by decide) (by decide)) rfl rfl rfl <| Af (T1 rfl) rfl rfl <| An) rfl (.inl rfl) rfl) (kc2 33 32 rfl <| Kc 31 (.pel _ _ _ _ _ _ _) rfl <| Kc 30 (.ali _) rfl <| kb 7 rfl <| ka 29 rfl <| kc4 28 27 26 25 rfl <| kb 0 rfl <| Kc 24 (.ali _) rfl <| kc3 23 22 21 rfl <| Kc 20 (.ali _) rfl <| kc3 19 16 15 rfl <| ko 3 rfl <| kc3 4 5 6 rfl <| Kn) rfl ?_
  refine st (OpT.fieldAddrB (H rfl) (Root.self (t := 7) (by decide)) rfl (by decide) fd106_3 sz61 (by decide) sb106_3) rfl ?_
  refine sk (OpT.storeB rfl rfl (T1 rfl) rfl sz61 rfl (T1 rfl)) rfl ?_
  refine ng ?_
  refine AW.seq ?_
  refine sr ?_
  refine st (mvT rfl) rfl ?_
  refine st (cb1 (ms := [.bor 7]) (c_spec_l01Width (drF p.2.1 p.2.2.1.length p.2.2.2)) (H rfl) (Abx (Root.self (t := 7) (by decide)) rfl <| An) rfl (indC fun _ _ _ _ h => h)) rfl ?_
  refine st (OpT.add (H rfl) (T1 rfl) (T1 rfl) (nw (by omega))) rfl ?_
  refine st (OpT.gtr (H rfl) (T1 rfl) (I rfl)) rfl ?_
  refine ng ?_
  refine cd rfl (fun hc2 => ?_) fun hc2 => ?_
  ·
   obtain ⟨hc2, hc2'⟩ := pT hc2
   have hbig : ¬ p.2.2.2 + widthF (drF p.2.1 p.2.2.1.length p.2.2.2) ≤ 96 := by have h9 : p.2.2.2 + widthF (drF p.2.1 p.2.2.1.length p.2.2.2) > 96 := hc2'; omega
   refine AW.exit ?_
   refine xT <| xM rfl <| xT <| xT <| AX.exit_hit ?_
   refine AX.pr (ko 3 rfl <| Kn) ?_
   refine AX.go ?_
   refine sr ?_
   refine st (OpT.alias (H rfl) (by decide) (by decide)) rfl ?_
   refine sg (OpT.take (.inl rfl) rfl (ok' rfl) (Root.ali rfl (by decide) (by decide)) rfl rfl (by decide)) (ko 2 rfl <| Kn) rfl ?_
   refine ng ?_
   refine AW.ret ?_
   refine AX.freeze (t := 2) rfl ?_
   refine AX.pr (kc 2 rfl <| Kn) ?_
   refine AX.vw (vclo (A := fun x : List (ByteArray × Int × Int × Int) => .cel (Kd.slice kField) x) (p := fun x => schemeOK x ∧ 1 ≤ x.length ∧ x.length ≤ 5) _ ⟨drI_scheme hI.2.2.1 (by omega), by omega, by omega⟩ 2 9097 rfl rfl (by decide) rfl) fun _ => ?_
   refine AX.pr (Kc 2 (.deep _) rfl <| Kn) ?_
   exact AX.rt (rs := [.tmp 2]) (ts := [some 2]) (.inl rfl) rfl (ROs.cons (RO.tmp (At.self (by decide)) (Ke rfl rfl) rfl) <| ROs.nil) (by decide) OutsOK.nil
  ·
   obtain ⟨hc2, hc2'⟩ := pF hc2
   have hfit : p.2.2.2 + widthF (drF p.2.1 p.2.2.1.length p.2.2.2) ≤ 96 := by simpa using hc2'
   have hfo := drF_ok hI.1 (n := p.2.2.1.length) (by omega) hI.2.2.2.1.1 hfit
   have hpk := pick_in hs2 4
   have hps := pick_src hs2 4
   refine AW.skip ?_
   refine AX.go ?_
   refine sr ?_
   refine st (OpT.alias (H rfl) (by decide) (by decide)) rfl ?_
   refine st (OpT.loadB (H rfl) (Root.self (t := 7) (by decide)) rfl ag106 sz106) rfl ?_
   refine st (OpT.buildSlice (H rfl) el24 zr106 sz106 rfl (by decide) zk106 (by decide) (Built.agg (T1 rfl) rfl (by decide) (sub_arr (by decide) ((.empty, 0, 0, 0) : ByteArray × Int × Int × Int)) (Built.nil _))) rfl ?_
   refine sg (OpT.append (H rfl) (Root.ali rfl (by decide) (by decide)) rfl (Src.own (Root.self (t := 41) (by decide)) rfl) (by decide) el24 zr106 rfl sz106 by106 (by decide) (by simp only [List.length_set, List.length_replicate]; omega)) (ko 42 rfl <| ko 41 rfl <| ka 40 rfl <| kc4 38 37 36 35 rfl <| kb 7 rfl <| Kc 34 (.pel _ _ _ _ _ _ _) rfl <| kc2 33 32 rfl <| Kc 31 (.pel _ _ _ _ _ _ _) rfl <| Kc 30 (.ali _) rfl <| ka 29 rfl <| kc4 28 27 26 25 rfl <| kb 0 rfl <| Kc 24 (.ali _) rfl <| kc4 23 22 21 19 rfl <| kc4 16 15 4 5 rfl <| kc 6 rfl <| Kn) rfl ?_
   refine sg (OpT.take (.inl rfl) rfl (ok' rfl) (Root.self (by decide)) rfl rfl (by decide)) (ko 3 rfl <| ko 41 rfl <| ka 40 rfl <| kc4 38 37 36 35 rfl <| kb 7 rfl <| Kc 34 (.pel _ _ _ _ _ _ _) rfl <| kc2 33 32 rfl <| Kc 31 (.pel _ _ _ _ _ _ _) rfl <| Kc 30 (.ali _) rfl <| ka 29 rfl <| kc4 28 27 26 25 rfl <| kb 0 rfl <| Kc 24 (.ali _) rfl <| kc4 23 22 21 19 rfl <| kc4 16 15 4 5 rfl <| kc 6 rfl <| Kn) rfl ?_
   refine ng ?_
   refine AW.region ?_
   refine st (mvT rfl) rfl ?_
   refine st (cb1 (ms := [.bor 7]) (c_spec_l01Width (drF p.2.1 p.2.2.1.length p.2.2.2)) (H rfl) (Abx (Root.self (t := 7) (by decide)) rfl <| An) rfl (indC fun _ _ _ _ h => h)) rfl ?_
   refine st (OpT.alias (H rfl) (by decide) (by decide)) rfl ?_
   refine sg (OpT.cr (ms := [.root 0, .flat]) (c_spec_l00Src_pick _ _ (hs2.le (by omega))) (H rfl) (Ar (Root.ali rfl (by decide) (by decide)) rfl rfl rfl <| Af (I rfl) rfl rfl <| An) rfl (.inl rfl) rfl) (kc 46 rfl <| Kc 45 (.ali _) rfl <| kc2 44 43 rfl <| ko 3 rfl <| ko 41 rfl <| ka 40 rfl <| kc4 38 37 36 35 rfl <| kb 7 rfl <| Kc 34 (.pel _ _ _ _ _ _ _) rfl <| kc2 33 32 rfl <| Kc 31 (.pel _ _ _ _ _ _ _) rfl <| Kc 30 (.ali _) rfl <| ka 29 rfl <| kc4 28 27 26 25 rfl <| kb 0 rfl <| Kc 24 (.ali _) rfl <| kc4 23 22 21 19 rfl <| kc4 16 15 4 5 rfl <| kc 6 rfl <| Kn) rfl ?_
   refine st (OpT.add (H rfl) (T1 rfl) (T1 rfl) (nw (by omega))) rfl ?_
   refine st (OpT.add (H rfl) (T1 rfl) (T1 rfl) (nw (by omega))) rfl ?_
   refine st (asT rfl) rfl ?_
   refine nn ?_
   refine AX.normal_block ?_
   refine AX.go ?_
   refine AW.region ?_
   refine st (mvT rfl) rfl ?_
   refine st (OpT.sub (H rfl) (T1 rfl) (I rfl) (nw (by omega))) rfl ?_
   refine st (asT rfl) rfl ?_
   refine nn ?_
   exact AX.again ((p.1 - 1, (pick (drS p.2.1) 4).2, p.2.2.1 ++ [(drF p.2.1 p.2.2.1.length p.2.2.2)], p.2.2.2 + (widthF (drF p.2.1 p.2.2.1.length p.2.2.2) + (pick (drS p.2.1) 4).1))) ⟨hps.le (by simp only []; omega), by simp only [List.length_append, List.length_cons, List.length_nil]; omega, drI_add hI.2.2.1 hfo rfl rfl (by simp only []; omega), by simp only []; omega, .inl (by simp only [List.length_append, List.length_cons, List.length_nil]; omega)⟩ (by simp only []; omega) (Kc 0 _ (Kb rfl rfl) <| Kc 3 _ (Ko rfl rfl) <| Kc 4 _ (Kv rfl rfl) <| Kc 5 _ (Kv rfl rfl) <| Kc 6 _ (Kv rfl (by simp only []; omega)) <| Kn)
 ·
  obtain ⟨hc1, hc1'⟩ := pF hc1
  refine AW.exit ?_
  refine xT <| xT <| AX.exit_hit ?_
  refine AX.go ?_
  refine sr ?_
  refine st (OpT.alias (H rfl) (by decide) (by decide)) rfl ?_
  refine sg (OpT.take (.inl rfl) rfl (ok' rfl) (Root.ali rfl (by decide) (by decide)) rfl rfl (by decide)) (ko 2 rfl <| kc2 16 15 rfl <| kb 0 rfl <| kc3 4 5 6 rfl <| Kn) rfl ?_
  refine ng ?_
  refine AW.ret ?_
  refine AX.freeze (t := 2) rfl ?_
  refine AX.pr (kc3 2 16 15 rfl <| kb 0 rfl <| kc3 4 5 6 rfl <| Kn) ?_
  refine AX.vw (vclo (A := fun x : List (ByteArray × Int × Int × Int) => .cel (Kd.slice kField) x) (p := fun x => schemeOK x ∧ 1 ≤ x.length ∧ x.length ≤ 5) _ ⟨drI_scheme hI.2.2.1 (by omega), by omega, by omega⟩ 2 9097 rfl rfl (by decide) rfl) fun _ => ?_
  refine AX.pr (Kc 2 (.deep _) rfl <| kc2 16 15 rfl <| kb 0 rfl <| kc3 4 5 6 rfl <| Kn) ?_
  exact AX.rt (rs := [.tmp 2]) (ts := [some 2]) (.inl rfl) rfl (ROs.cons (RO.tmp (At.self (by decide)) (Ke rfl rfl) rfl) <| ROs.nil) (by decide) OutsOK.nil

/-- spec.A2Scheme -/
theorem c_spec_A2Scheme (l : List Int) (h : (∀ b ∈ l, 0 ≤ b ∧ b ≤ 255) ∧ l.length ≤ 1000000) : AC Tryz.prog 7 [.cel (Kd.slice (Kd.int .u8)) l] [.deep (OSh.ex (fun x : List (ByteArray × Int × Int × Int) => .cel (Kd.slice kField) x) (fun x => schemeOK x ∧ 1 ≤ x.length ∧ x.length ≤ 5))] [] := by
 refine acI (N := 6) Tryz.func7 (Nat.le_of_ble_eq_true rfl) rfl fun w0 hd s0 ar => ?_
 refine AW.to (kc 0 rfl <| Kn) ?_
 refine sr ?_
 refine st (OpT.move (A := .cel _ _) (.inr rfl) rfl (ok' rfl) (Opd.nilslice kField) rfl) rfl ?_
 refine ng ?_
 refine sr ?_
 refine st (mvT rfl) rfl ?_
 refine st (OpT.c1 (ms := [.flat]) (c_spec_l00From _) (H rfl) (Af (T1 rfl) rfl rfl <| An) rfl rfl) rfl ?_
 refine sg (OpT.crn (ms := [.root 4]) (c_spec_l01Drawn _ ⟨h.1, h.2, Int.le_refl 0, (by show (0 : Int) ≤ 1000000; omega)⟩) (H rfl) (Ar (O := .any) (Root.self (t := 4) (by decide)) rfl rfl rfl <| An) rfl rfl (.inl rfl) rfl) (Kc 5 (.deep _) rfl <| kc3 3 2 0 rfl <| Kn) rfl ?_
 refine sg (OpT.take (.inl rfl) rfl (ok' rfl) (Root.self (by decide)) rfl rfl (by decide)) (Kc 2 (.deep _) rfl <| kc2 3 0 rfl <| Kn) rfl ?_
 refine ng ?_
 refine AW.ret ?_
 exact AX.rt (rs := [.tmp 2]) (ts := [some 2]) (.inl rfl) rfl (ROs.cons (RO.tmp (At.self (by decide)) (Ke rfl rfl) rfl) <| ROs.nil) (by decide) OutsOK.nil
end Go.Proofs.YtmmjcpiikdcldaaGreatDoor.VL
