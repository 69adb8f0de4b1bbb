/- Proved here: what some functions of the program take and give: walks with the words of VA..VQ. Printed by program. -/
import Derived.Test.YtkgboidjghcegaaGreatDoorWT
import Derived.Test.YtkgboidjghcegaaGreatDoorPZS
import Derived.Test.YtkgboidjghcegaaGreatDoorBpa
import Derived.Test.YtkgboidjghcegaaGreatDoorWSR
import Derived.Test.YtkgboidjghcegaaGreatDoorWP
import Derived.Test.YtkgboidjghcegaaGreatDoorWV
set_option linter.unusedVariables false
set_option linter.unusedSimpArgs false
set_option maxRecDepth 4000
namespace Go.Proofs.YtkgboidjghcegaaGreatDoor.VL
open Go
attribute [local irreducible] pick nxt
theorem c_codeJ (f : DField) (v : Int) (hok : fieldOK f) (hv : 0 ≤ v ∧ v ≤ topF f) : AC Tryz.prog 71 [.cel (Kd.ptr kField) f, .cel (Kd.int .i64) v] [.agg kMask (codeF f v)] [] := by
 have h := c_spec_l01Code f v.toNat hok (by omega)
 rwa [Int.toNat_of_nonneg hv.1] at h

set_option maxHeartbeats 4000000 in
/-- spec.l06Small -/
theorem c_spec_l06Small (ss : DSrc) (h : srcI 1000000 ss) : AC Tryz.prog 48 [.box 129 (Kd.pair (Kd.slice (Kd.int .u8)) (Kd.pair (Kd.int .i64) Kd.u64)) ss] [.deep (OSh.ex (fun x : List (ByteArray × Int × Int × Int) => .cel (Kd.slice kField) x) (fun x => schemeOK x ∧ 1 ≤ x.length ∧ x.length ≤ 4)), .deep (OSh.ex (fun x : List (ByteArray × (BitVec 64 × BitVec 64)) => .cel (Kd.slice kCard) x) (fun x => deckOK x ∧ x.length ≤ 10))] [] := by
 refine acI (N := 67) Tryz.func48 (Nat.le_of_ble_eq_true rfl) rfl fun w0 hd s0 ar => ?_
 refine AW.to (kb 0 rfl <| Kn) ?_
 have hq1 := pick_in h 4
 have hq2 := pick_src h 4
 have htf : tblF.length = 4 := rfl
 have htl : (tblF.take (Int.toNat (1 + (pick ss 4).1))).length = (1 + (pick ss 4).1).toNat := by rw [tblF_len]; omega
 refine sr ?_
 refine st (OpT.move (A := .cel _ _) (.inr rfl) rfl (ok' rfl) (Opd.nilslice kField) rfl) rfl ?_
 refine st (OpT.move (A := .cel _ _) (.inr rfl) rfl (ok' rfl) (Opd.nilslice kCard) rfl) rfl ?_
 refine ng ?_
 refine sr ?_
 refine st (OpT.build (H rfl) pl80 zr80 zk80 (Built.cel (Opd.str (by decide)) rfl rfl sb80_0 (Built.cel (I rfl) rfl rfl sb80_1 (Built.cel (I rfl) rfl rfl sb80_3 (Built.nil _))))) rfl ?_
 refine st (OpT.build (H rfl) pl80 zr80 zk80 (Built.cel (Opd.str (by decide)) rfl rfl sb80_0 (Built.cel (I rfl) rfl rfl sb80_1 (Built.cel (I rfl) rfl rfl sb80_2 (Built.cel (I rfl) rfl rfl sb80_3 (Built.nil _)))))) rfl ?_
 refine st (OpT.build (H rfl) pl80 zr80 zk80 (Built.cel (Opd.str (by decide)) rfl rfl sb80_0 (Built.cel (I rfl) rfl rfl sb80_1 (Built.cel (I rfl) rfl rfl sb80_2 (Built.cel (I rfl) rfl rfl sb80_3 (Built.nil _)))))) rfl ?_
 refine st (OpT.build (H rfl) pl80 zr80 zk80 (Built.cel (Opd.str (by decide)) rfl rfl sb80_0 (Built.cel (I rfl) rfl rfl sb80_1 (Built.cel (I rfl) rfl rfl sb80_2 (Built.cel (I rfl) rfl rfl sb80_3 (Built.nil _)))))) rfl ?_
 refine st (OpT.buildSlice (H rfl) el29 zr80 sz80 rfl (by decide) zk80 (by decide) (Built.agg (T1 rfl) rfl (by decide) (sub_arr (by decide) ((.empty, 0, 0, 0) : ByteArray × Int × Int × Int)) (Built.agg (T1 rfl) rfl (by decide) (sub_arr (by decide) ((.empty, 0, 0, 0) : ByteArray × Int × Int × Int)) (Built.agg (T1 rfl) rfl (by decide) (sub_arr (by decide) ((.empty, 0, 0, 0) : ByteArray × Int × Int × Int)) (Built.agg (T1 rfl) rfl (by decide) (sub_arr (by decide) ((.empty, 0, 0, 0) : ByteArray × Int × Int × Int)) (Built.nil _)))))) rfl ?_
 refine AWl.freeze (t := 14) rfl ?_
 refine AWl.to (kc 14 rfl <| ka 13 rfl <| ka 12 rfl <| ka 11 rfl <| ka 10 rfl <| kc2 3 2 rfl <| kb 0 rfl <| Kn) ?_
 refine AWl.to (Kc 14 _ (Kv rfl (show _ = tblF from rfl)) <| (ka 13 rfl <| ka 12 rfl <| ka 11 rfl <| ka 10 rfl <| kc2 3 2 rfl <| kb 0 rfl <| Kn)) ?_
 refine st (asT rfl) rfl ?_
 refine ng ?_
 refine sr ?_
 refine st (mvT rfl) rfl ?_
 refine st (OpT.alias (H rfl) (by decide) (by decide)) rfl ?_
 refine sg (OpT.cr (ms := [.root 0, .flat]) (c_spec_l00Src_pick _ _ (h.le (by omega))) (H rfl) (Ar (Root.ali rfl (by decide) (by decide)) rfl rfl rfl <| Af (I rfl) rfl rfl <| An) rfl (.inl rfl) rfl) (kc 17 rfl <| Kc 16 (.ali _) rfl <| kc3 15 4 14 rfl <| ka 13 rfl <| ka 12 rfl <| ka 11 rfl <| ka 10 rfl <| kc2 3 2 rfl <| kb 0 rfl <| Kn) rfl ?_
 refine st (OpT.add (H rfl) (I rfl) (T1 rfl) (nw (by omega))) rfl ?_
 refine st (OpT.cutH (H rfl) (T1 rfl) (T1 rfl) el29 sz80 (by omega)) rfl ?_
 refine st (asT rfl) rfl ?_
 refine AWl.to (kc3 4 3 2 rfl <| kb 0 rfl <| Kn) ?_
 refine ng ?_
 refine sr ?_
 refine st (OpT.buildSlice (H rfl) el124 zr9 sz9 rfl (by decide) zk9 (by decide) (Built.cel (Opd.str (by decide)) rfl rfl (sub_arr (by decide) (.empty : ByteArray)) (Built.cel (Opd.str (by decide)) rfl rfl (sub_arr (by decide) (.empty : ByteArray)) (Built.cel (Opd.str (by decide)) rfl rfl (sub_arr (by decide) (.empty : ByteArray)) (Built.cel (Opd.str (by decide)) rfl rfl (sub_arr (by decide) (.empty : ByteArray)) (Built.cel (Opd.str (by decide)) rfl rfl (sub_arr (by decide) (.empty : ByteArray)) (Built.cel (Opd.str (by decide)) rfl rfl (sub_arr (by decide) (.empty : ByteArray)) (Built.cel (Opd.str (by decide)) rfl rfl (sub_arr (by decide) (.empty : ByteArray)) (Built.cel (Opd.str (by decide)) rfl rfl (sub_arr (by decide) (.empty : ByteArray)) (Built.cel (Opd.str (by decide)) rfl rfl (sub_arr (by decide) (.empty : ByteArray)) (Built.cel (Opd.str (by decide)) rfl rfl (sub_arr (by decide) (.empty : ByteArray)) (Built.nil _)))))))))))) rfl ?_
 refine AWl.freeze (t := 20) rfl ?_
 refine AWl.to (kc4 20 4 3 2 rfl <| kb 0 rfl <| Kn) ?_
 refine AWl.to (Kc 20 _ (Kv rfl (show _ = tblN from rfl)) <| (kc3 4 3 2 rfl <| kb 0 rfl <| Kn)) ?_
 refine st (asT rfl) rfl ?_
 refine ng ?_
 refine sr ?_
 refine st (OpT.buildSlice0 (m := 0) (z := .bool false) kCard (H rfl) el31 sz86 (by decide)) rfl ?_
 refine sg (OpT.take (.inl rfl) rfl (ok' rfl) (Root.self (by decide)) rfl rfl (by decide)) (ko 6 rfl <| kc4 5 20 4 3 rfl <| kc 2 rfl <| kb 0 rfl <| Kn) rfl ?_
 refine ng ?_
 refine AW.seq ?_
 refine sr ?_
 refine st (asI rfl) rfl ?_
 refine ng ?_
 refine AW.block ?_
 refine AW.loop (fun p : Nat × DSrc × List DCard => srcI (1000100 + 100 * (p.1 : Int)) p.2.1 ∧ p.1 = p.2.2.length ∧ p.1 ≤ 10 ∧ sdI p.2.2) (fun p : Nat × DSrc × List DCard => keep [(0, .box 129 (Kd.pair (Kd.slice (Kd.int .u8)) (Kd.pair (Kd.int .i64) Kd.u64)) p.2.1), (4, .cel (Kd.slice kField) (tblF.take (Int.toNat (1 + (pick ss 4).1)))), (5, .cel (Kd.slice Kd.str) tblN), (6, .own 86 kCard p.2.2), (7, .cel (Kd.int .i64) (p.1 : Int))]) (fun p : Nat × DSrc × List DCard => 11 - p.1) ((0, (pick ss 4).2, [])) ⟨hq2.le (by simp only []; omega), rfl, by simp only []; omega, sdI_nil⟩ (Kc 0 _ (Kb rfl rfl) <| Kc 4 _ (Kv rfl rfl) <| Kc 5 _ (Kv rfl rfl) <| Kc 6 _ (Ko rfl rfl) <| Kc 7 _ (Kv rfl rfl) <| Kn) ?_
 intro p hI
 refine AW.seq ?_
 refine sr ?_
 refine st (mvT rfl) rfl ?_
 refine st (OpT.alias (H rfl) (by decide) (by decide)) rfl ?_
 refine sg (OpT.cr (ms := [.root 0, .flat]) (c_spec_l00Src_pick _ _ (hI.1.le (by omega))) (H rfl) (Ar (Root.ali rfl (by decide) (by decide)) rfl rfl rfl <| Af (I rfl) rfl rfl <| An) rfl (.inl rfl) rfl) (kc 24 rfl <| Kc 23 (.ali _) rfl <| kc 22 rfl <| kb 0 rfl <| kc2 4 5 rfl <| ko 6 rfl <| kc 7 rfl <| Kn) rfl ?_
 refine st (OpT.lss (H rfl) (T1 rfl) (T1 rfl)) rfl ?_
 refine ng ?_
 refine cd rfl (fun hc1 => ?_) fun hc1 => ?_
 ·
  obtain ⟨hc1, hc1'⟩ := pT hc1
  have hnq : nmS p.1 = nmS p.2.2.length := congrArg nmS hI.2.1
  have hp0 := pick_in hI.1 11
  have hps := pick_src hI.1 11
  refine AW.skip ?_
  refine AX.go ?_
  refine AW.seq ?_
  refine AW.block ?_
  refine sr ?_
  refine st (mvT rfl) rfl ?_
  refine st (mvT rfl) rfl ?_
  refine st (OpT.indexAddr (H rfl) (T1 rfl) (T1 rfl) el124 sz9 (by omega) (tblN_nm (by omega))) rfl ?_
  refine st (OpT.load (H rfl) (T1 rfl) ag9 rfl) rfl ?_
  refine st (OpT.build (H rfl) pl86 zr86 zk86 (Built.cel (T1 rfl) rfl rfl sb86_0 (Built.nil _))) rfl ?_
  refine st (OpT.alloc (H rfl) zr86 zk86) rfl ?_
  refine sk (OpT.storeBA rfl rfl (Opd.whole (Root.self (t := 8) (by decide)) rfl) rfl sz86 (by decide) (T1 rfl)) rfl ?_
  refine ng ?_
  refine AW.seq ?_
  refine sr ?_
  refine st (asI rfl) rfl ?_
  refine ng ?_
  refine AW.block ?_
  refine AW.loop (fun q : Nat × DSrc × DMask => q.1 ≤ (tblF.take (Int.toNat (1 + (pick ss 4).1))).length ∧ srcI (1000102 + 100 * (p.1 : Int) + 4 * (q.1 : Int)) q.2.1 ∧ okM q.2.2 = true) (fun q : Nat × DSrc × DMask => keep [(0, .box 129 (Kd.pair (Kd.slice (Kd.int .u8)) (Kd.pair (Kd.int .i64) Kd.u64)) q.2.1), (4, .cel (Kd.slice kField) (tblF.take (Int.toNat (1 + (pick ss 4).1)))), (5, .cel (Kd.slice Kd.str) tblN), (6, .own 86 kCard p.2.2), (7, .cel (Kd.int .i64) (p.1 : Int)), (8, .box 86 kCard (nmS p.1, q.2.2)), (9, .cel (Kd.int .i64) (q.1 : Int))]) (fun q : Nat × DSrc × DMask => (tblF.take (Int.toNat (1 + (pick ss 4).1))).length - q.1) ((0, (pick p.2.1 11).2, zM)) ⟨Nat.zero_le _, hps.le (by simp only []; omega), okM_zM⟩ (Kc 0 _ (Kb rfl rfl) <| Kc 4 _ (Kv rfl rfl) <| Kc 5 _ (Kv rfl rfl) <| Kc 6 _ (Ko rfl rfl) <| Kc 7 _ (Kv rfl rfl) <| Kc 8 _ (Kb rfl rfl) <| Kc 9 _ (Kv rfl rfl) <| Kn) ?_
  intro q hJ -- hI
  refine AW.seq ?_
  refine sr ?_
  refine st (mvT rfl) rfl ?_
  refine st (mvT rfl) rfl ?_
  refine st (OpT.len (H rfl) (T1 rfl) el29) rfl ?_
  refine st (OpT.lss (H rfl) (T1 rfl) (T1 rfl)) rfl ?_
  refine ng ?_
  refine cd rfl (fun hc2 => ?_) fun hc2 => ?_
  ·
   obtain ⟨hc2, hc2'⟩ := pT hc2
   obtain ⟨f, hf, hfo, htp⟩ := tbl_get (n := Int.toNat (1 + (pick ss 4).1)) (i := q.1) (by omega)
   have hp1 := pick_src hJ.2.1 8
   have hp2 := pick_src hp1 3
   have hpj := pick_in hp1 3
   have hcd := okM_code hfo (v := (pick (pick q.2.1 8).2 3).1) (by omega)
   have hjn := okM_join hJ.2.2 hcd
   refine AW.skip ?_
   refine AX.go ?_
   refine AW.seq ?_
   refine AW.block ?_
   refine sr ?_
   refine st (OpT.alias (H rfl) (by decide) (by decide)) rfl ?_
   refine sg (OpT.cr (ms := [.root 0, .flat]) (c_spec_l00Src_one _ _ (hJ.2.1.le (by omega))) (H rfl) (Ar (Root.ali rfl (by decide) (by decide)) rfl rfl rfl <| Af (I rfl) rfl rfl <| An) rfl (.inl rfl) rfl) (kc 40 rfl <| Kc 39 (.ali _) rfl <| kc4 36 35 34 33 rfl <| kb 0 rfl <| kc2 4 5 rfl <| ko 6 rfl <| kc 7 rfl <| kb 8 rfl <| kc 9 rfl <| Kn) rfl ?_
   refine st (OpT.not (H rfl) (T1 rfl)) rfl ?_
   refine ng ?_
   refine cd rfl (fun hc3 => ?_) fun hc3 => ?_
   ·
    obtain ⟨hc3, hc3'⟩ := pT hc3
    refine dh fomo ?_
    refine d1 [8] (fun ve h => OpT.fieldAddrB (H rfl) (Root.self (t := 8) (by decide)) ((h _ (List.elem_iff.1 rfl)).trans rfl) (by decide) fd86_1 sz84 (by decide) sb86_1) rfl ?_
    refine d1 [8, 42] (fun ve h => OpT.loadPA (H rfl) (D1 h rfl) (.inl ⟨_, ((h _ (List.elem_iff.1 rfl)).trans rfl), rfl⟩) ag84 sz84) rfl ?_
    refine d1 [4] (fun ve h => OpT.move (A := .cel _ _) (.inl rfl) rfl (ok' rfl) (D1 h rfl) rfl) rfl ?_
    refine d1 [9] (fun ve h => OpT.move (A := .cel _ _) (.inl rfl) rfl (ok' rfl) (D1 h rfl) rfl) rfl ?_
    refine d1 [44, 45] (fun ve h => OpT.indexAddr (H rfl) (D1 h rfl) (D1 h rfl) el29 sz80 (by omega) hf) rfl ?_
    refine d1 [] (fun ve h => OpT.alias (H rfl) (by decide) (by decide)) rfl ?_
    refine dwo (t := 0) [0, 47] (fun ve h => crdo (ms := [.root 0, .flat]) (c_spec_l00Src_pick _ _ (hp1.le (by omega))) (H rfl) (Ar (Root.ali ((h _ (List.elem_iff.1 rfl)).trans rfl) (by decide) (by decide)) ((h _ (List.elem_iff.1 rfl)).trans rfl) rfl rfl <| Af (I rfl) rfl rfl <| An) rfl rfl) rfl ?_
    refine d1 [46, 48] (fun ve h => OpT.c1 (ms := [.flat, .flat]) (c_codeJ _ _ hfo (by omega)) (H rfl) (Af (D1 h rfl) rfl rfl <| Af (D1 h rfl) rfl rfl <| An) rfl rfl) rfl ?_
    refine d1 [43, 49] (fun ve h => OpT.c1 (ms := [.flat, .flat]) (c_spec_l01Join _ _) (H rfl) (Af (D1 h rfl) rfl rfl <| Af (D1 h rfl) rfl rfl <| An) rfl rfl) rfl ?_
    refine d1 [8] (fun ve h => OpT.fieldAddrB (H rfl) (Root.self (t := 8) (by decide)) ((h _ (List.elem_iff.1 rfl)).trans rfl) (by decide) fd86_1 sz84 (by decide) sb86_1) rfl ?_
    refine dm (t := 8) [8, 50, 51] (fun ve h => OpT.storeBA rfl rfl (D1 h rfl) ((h _ (List.elem_iff.1 rfl)).trans rfl) sz84 (by decide) (D1 h rfl)) rfl ?_
    refine dn ⟨by kernel_rfl, by kernel_rfl, ?_⟩
    refine AX.normal_block ?_
    refine AX.go ?_
    refine AW.region ?_
    refine st (mvT rfl) rfl ?_
    refine st (OpT.add (H rfl) (T1 rfl) (I rfl) (nw (by omega))) rfl ?_
    refine st (asT rfl) rfl ?_
    refine nn ?_
    exact AX.again ((q.1 + 1, (pick (pick q.2.1 8).2 3).2, joinM q.2.2 (codeF f (pick (pick q.2.1 8).2 3).1))) (by refine ⟨?_, ?_, ?_⟩ <;> simp only [] <;> first | omega | exact hp2.le (by omega) | exact hp1.le (by omega) | exact hjn | exact hJ.2.2) (by simp only []; omega) (Kc 0 _ (Kb rfl rfl) <| Kc 4 _ (Kv rfl rfl) <| Kc 5 _ (Kv rfl rfl) <| Kc 6 _ (Ko rfl rfl) <| Kc 7 _ (Kv rfl rfl) <| Kc 8 _ (Kb rfl rfl) <| Kc 9 _ (Kv rfl (by simp only []; omega)) <| Kn)
   ·
    obtain ⟨hc3, hc3'⟩ := pF hc3
    refine AW.skip ?_
    refine AX.normal_block ?_
    refine AX.go ?_
    refine AW.region ?_
    refine st (mvT rfl) rfl ?_
    refine st (OpT.add (H rfl) (T1 rfl) (I rfl) (nw (by omega))) rfl ?_
    refine st (asT rfl) rfl ?_
    refine nn ?_
    exact AX.again ((q.1 + 1, (pick q.2.1 8).2, q.2.2)) (by refine ⟨?_, ?_, ?_⟩ <;> simp only [] <;> first | omega | exact hp2.le (by omega) | exact hp1.le (by omega) | exact hjn | exact hJ.2.2) (by simp only []; omega) (Kc 0 _ (Kb rfl rfl) <| Kc 4 _ (Kv rfl rfl) <| Kc 5 _ (Kv rfl rfl) <| Kc 6 _ (Ko rfl rfl) <| Kc 7 _ (Kv rfl rfl) <| Kc 8 _ (Kb rfl rfl) <| Kc 9 _ (Kv rfl (by simp only []; omega)) <| Kn)
  ·
   obtain ⟨hc2, hc2'⟩ := pF hc2
   have hp1 := pick_src hJ.2.1 10
   have hp2 := pick_src hp1 48
   have hpj := pick_in hp1 48
   have hbt := okM_one (h := (pick (pick q.2.1 10).2 48).1) (by omega)
   have hjn := okM_join hJ.2.2 hbt
   refine AW.exit ?_
   refine xT <| xT <| AX.exit_hit ?_
   refine AX.go ?_
   refine AW.seq ?_
   refine sr ?_
   refine st (OpT.alias (H rfl) (by decide) (by decide)) rfl ?_
   refine sg (OpT.cr (ms := [.root 0, .flat]) (c_spec_l00Src_one _ _ (hJ.2.1.le (by omega))) (H rfl) (Ar (Root.ali rfl (by decide) (by decide)) rfl rfl rfl <| Af (I rfl) rfl rfl <| An) rfl (.inl rfl) rfl) (kc 53 rfl <| Kc 52 (.ali _) rfl <| kc4 36 35 34 33 rfl <| kb 0 rfl <| kc2 4 5 rfl <| ko 6 rfl <| kc 7 rfl <| kb 8 rfl <| kc 9 rfl <| Kn) rfl ?_
   refine ng ?_
   refine cd rfl (fun hc4 => ?_) fun hc4 => ?_
   ·
    obtain ⟨hc4, hc4'⟩ := pT hc4
    refine dh fomo ?_
    refine d1 [8] (fun ve h => OpT.fieldAddrB (H rfl) (Root.self (t := 8) (by decide)) ((h _ (List.elem_iff.1 rfl)).trans rfl) (by decide) fd86_1 sz84 (by decide) sb86_1) rfl ?_
    refine d1 [8, 54] (fun ve h => OpT.loadPA (H rfl) (D1 h rfl) (.inl ⟨_, ((h _ (List.elem_iff.1 rfl)).trans rfl), rfl⟩) ag84 sz84) rfl ?_
    refine d1 [] (fun ve h => OpT.alias (H rfl) (by decide) (by decide)) rfl ?_
    refine dwo (t := 0) [0, 56] (fun ve h => crdo (ms := [.root 0, .flat]) (c_spec_l00Src_pick _ _ (hp1.le (by omega))) (H rfl) (Ar (Root.ali ((h _ (List.elem_iff.1 rfl)).trans rfl) (by decide) (by decide)) ((h _ (List.elem_iff.1 rfl)).trans rfl) rfl rfl <| Af (I rfl) rfl rfl <| An) rfl rfl) rfl ?_
    refine d1 [57] (fun ve h => OpT.c1 (ms := [.flat]) (c_spec_l01Bit _ (by omega)) (H rfl) (Af (D1 h rfl) rfl rfl <| An) rfl rfl) rfl ?_
    refine d1 [55, 58] (fun ve h => OpT.c1 (ms := [.flat, .flat]) (c_spec_l01Join _ _) (H rfl) (Af (D1 h rfl) rfl rfl <| Af (D1 h rfl) rfl rfl <| An) rfl rfl) rfl ?_
    refine d1 [8] (fun ve h => OpT.fieldAddrB (H rfl) (Root.self (t := 8) (by decide)) ((h _ (List.elem_iff.1 rfl)).trans rfl) (by decide) fd86_1 sz84 (by decide) sb86_1) rfl ?_
    refine dm (t := 8) [8, 59, 60] (fun ve h => OpT.storeBA rfl rfl (D1 h rfl) ((h _ (List.elem_iff.1 rfl)).trans rfl) sz84 (by decide) (D1 h rfl)) rfl ?_
    refine dn ⟨by kernel_rfl, by kernel_rfl, ?_⟩
    refine AX.go ?_
    refine AW.region ?_
    refine st (OpT.alias (H rfl) (by decide) (by decide)) rfl ?_
    refine st (OpT.loadB (H rfl) (Root.self (t := 8) (by decide)) rfl ag86 sz86) rfl ?_
    refine st (OpT.buildSlice (H rfl) el31 zr86 sz86 rfl (by decide) zk86 (by decide) (Built.agg (T1 rfl) rfl (by decide) (sub_arr (by decide) ((.empty, (0, 0)) : ByteArray × (BitVec 64 × BitVec 64))) (Built.nil _))) rfl ?_
    refine sg (OpT.append (H rfl) (Root.ali rfl (by decide) (by decide)) rfl (Src.own (Root.self (t := 63) (by decide)) rfl) (by decide) el31 zr86 rfl sz86 by86 (by decide) (by simp only [List.length_set, List.length_replicate]; omega)) (ko 64 rfl <| ko 63 rfl <| ka 62 rfl <| kb 8 rfl <| Kc 60 (.pel _ _ _ _ _ _ _) rfl <| ka 59 rfl <| ka 58 rfl <| kc 57 rfl <| kb 0 rfl <| Kc 56 (.ali _) rfl <| ka 55 rfl <| Kc 54 (.pel _ _ _ _ _ _ _) rfl <| kc 53 rfl <| Kc 52 (.ali _) rfl <| kc4 36 35 34 33 rfl <| kc4 4 5 7 9 rfl <| Kn) rfl ?_
    refine sg (OpT.take (.inl rfl) rfl (ok' rfl) (Root.self (by decide)) rfl rfl (by decide)) (ko 6 rfl <| ko 63 rfl <| ka 62 rfl <| kb 8 rfl <| Kc 60 (.pel _ _ _ _ _ _ _) rfl <| ka 59 rfl <| ka 58 rfl <| kc 57 rfl <| kb 0 rfl <| Kc 56 (.ali _) rfl <| ka 55 rfl <| Kc 54 (.pel _ _ _ _ _ _ _) rfl <| kc 53 rfl <| Kc 52 (.ali _) rfl <| kc4 36 35 34 33 rfl <| kc4 4 5 7 9 rfl <| Kn) rfl ?_
    refine nn ?_
    refine AX.normal_block ?_
    refine AX.go ?_
    refine AW.region ?_
    refine st (mvT rfl) rfl ?_
    refine st (OpT.add (H rfl) (T1 rfl) (I rfl) (nw (by omega))) rfl ?_
    refine st (asT rfl) rfl ?_
    refine nn ?_
    exact AX.again ((p.1 + 1, (pick (pick q.2.1 10).2 48).2, p.2.2 ++ [(nmS p.1, joinM q.2.2 (bitM (pick (pick q.2.1 10).2 48).1))])) (by refine ⟨?_, ?_, ?_, ?_⟩ <;> simp only [] <;> first | omega | exact hp2.le (by omega) | exact hp1.le (by omega) | (simp only [List.length_append, List.length_cons, List.length_nil]; omega) | exact sdI_add hI.2.2.2 (by omega) hnq hjn | exact sdI_add hI.2.2.2 (by omega) hnq hJ.2.2) (by simp only []; omega) (Kc 0 _ (Kb rfl rfl) <| Kc 4 _ (Kv rfl rfl) <| Kc 5 _ (Kv rfl rfl) <| Kc 6 _ (Ko rfl rfl) <| Kc 7 _ (Kv rfl (by simp only []; omega)) <| Kn)
   ·
    obtain ⟨hc4, hc4'⟩ := pF hc4
    refine AW.skip ?_
    refine AX.go ?_
    refine AW.region ?_
    refine st (OpT.alias (H rfl) (by decide) (by decide)) rfl ?_
    refine st (OpT.loadB (H rfl) (Root.self (t := 8) (by decide)) rfl ag86 sz86) rfl ?_
    refine st (OpT.buildSlice (H rfl) el31 zr86 sz86 rfl (by decide) zk86 (by decide) (Built.agg (T1 rfl) rfl (by decide) (sub_arr (by decide) ((.empty, (0, 0)) : ByteArray × (BitVec 64 × BitVec 64))) (Built.nil _))) rfl ?_
    refine sg (OpT.append (H rfl) (Root.ali rfl (by decide) (by decide)) rfl (Src.own (Root.self (t := 63) (by decide)) rfl) (by decide) el31 zr86 rfl sz86 by86 (by decide) (by simp only [List.length_set, List.length_replicate]; omega)) (ko 64 rfl <| ko 63 rfl <| ka 62 rfl <| kc 53 rfl <| Kc 52 (.ali _) rfl <| kc4 36 35 34 33 rfl <| kb 0 rfl <| kc3 4 5 7 rfl <| kb 8 rfl <| kc 9 rfl <| Kn) rfl ?_
    refine sg (OpT.take (.inl rfl) rfl (ok' rfl) (Root.self (by decide)) rfl rfl (by decide)) (ko 6 rfl <| ko 63 rfl <| ka 62 rfl <| kc 53 rfl <| Kc 52 (.ali _) rfl <| kc4 36 35 34 33 rfl <| kb 0 rfl <| kc3 4 5 7 rfl <| kb 8 rfl <| kc 9 rfl <| Kn) rfl ?_
    refine nn ?_
    refine AX.normal_block ?_
    refine AX.go ?_
    refine AW.region ?_
    refine st (mvT rfl) rfl ?_
    refine st (OpT.add (H rfl) (T1 rfl) (I rfl) (nw (by omega))) rfl ?_
    refine st (asT rfl) rfl ?_
    refine nn ?_
    exact AX.again ((p.1 + 1, (pick q.2.1 10).2, p.2.2 ++ [(nmS p.1, q.2.2)])) (by refine ⟨?_, ?_, ?_, ?_⟩ <;> simp only [] <;> first | omega | exact hp2.le (by omega) | exact hp1.le (by omega) | (simp only [List.length_append, List.length_cons, List.length_nil]; omega) | exact sdI_add hI.2.2.2 (by omega) hnq hjn | exact sdI_add hI.2.2.2 (by omega) hnq hJ.2.2) (by simp only []; omega) (Kc 0 _ (Kb rfl rfl) <| Kc 4 _ (Kv rfl rfl) <| Kc 5 _ (Kv rfl rfl) <| Kc 6 _ (Ko rfl rfl) <| Kc 7 _ (Kv rfl (by simp only []; omega)) <| Kn)
 ·
  obtain ⟨hc1, hc1'⟩ := pF hc1
  have hnq : nmS p.1 = nmS p.2.2.length := congrArg nmS hI.2.1
  have hp0 := pick_in hI.1 11
  have hps := pick_src hI.1 11
  refine AW.exit ?_
  refine xT <| xT <| AX.exit_hit ?_
  refine AX.go ?_
  refine sr ?_
  refine st (mvT rfl) rfl ?_
  refine st (OpT.alias (H rfl) (by decide) (by decide)) rfl ?_
  refine st (asT rfl) rfl ?_
  refine sg (OpT.take (.inl rfl) rfl (ok' rfl) (Root.ali rfl (by decide) (by decide)) rfl rfl (by decide)) (ko 3 rfl <| kc4 2 65 25 24 rfl <| Kc 23 (.ali _) rfl <| kc 22 rfl <| kb 0 rfl <| kc3 4 5 7 rfl <| Kn) rfl ?_
  refine ng ?_
  refine AW.ret ?_
  refine AX.vw (vclo (A := fun x : List (ByteArray × Int × Int × Int) => .cel (Kd.slice kField) x) (p := fun x => schemeOK x ∧ 1 ≤ x.length ∧ x.length ≤ 4) _ ⟨scheme_take tblF_all _, by omega, by omega⟩ 2 9097 rfl rfl (by decide) rfl) fun _ => ?_
  refine AX.pr (Kc 2 (.deep _) rfl <| ko 3 rfl <| kc3 65 25 24 rfl <| Kc 23 (.ali _) rfl <| kc 22 rfl <| kb 0 rfl <| kc3 4 5 7 rfl <| Kn) ?_
  refine AX.freeze (t := 3) rfl ?_
  refine AX.pr (Kc 2 (.deep _) rfl <| kc4 3 65 25 24 rfl <| Kc 23 (.ali _) rfl <| kc 22 rfl <| kb 0 rfl <| kc3 4 5 7 rfl <| Kn) ?_
  refine AX.vw (vclo (A := fun x : List (ByteArray × (BitVec 64 × BitVec 64)) => .cel (Kd.slice kCard) x) (p := fun x => deckOK x ∧ x.length ≤ 10) _ ⟨sdI_deck hI.2.2.2 (by omega), by omega⟩ 3 9097 rfl rfl (by decide) rfl) fun _ => ?_
  refine AX.pr (Kc 3 (.deep _) rfl <| Kc 2 (.deep _) rfl <| kc3 65 25 24 rfl <| Kc 23 (.ali _) rfl <| kc 22 rfl <| kb 0 rfl <| kc3 4 5 7 rfl <| Kn) ?_
  exact AX.rt (rs := [.tmp 2, .tmp 3]) (ts := [some 2, some 3]) (.inl rfl) rfl (ROs.cons (RO.tmp (At.self (by decide)) (Ke rfl rfl) rfl) <| ROs.cons (RO.tmp (At.self (by decide)) (Ke rfl rfl) rfl) <| ROs.nil) (by decide) OutsOK.nil

/-- spec.P6Pick -/
theorem c_spec_P6Pick (l : List Int) (n : Int) (h : (∀ b ∈ l, 0 ≤ b ∧ b ≤ 255) ∧ l.length ≤ 1000000) : AC Tryz.prog 20 [.cel (Kd.slice (Kd.int .u8)) l, .cel (Kd.int .i64) n] [.cel (Kd.int .i64) (pick (l, 0, 0#64) n).1] [] := by
 refine acI (N := 9) Tryz.func20 (Nat.le_of_ble_eq_true rfl) rfl fun w0 hd s0 ar => ?_
 refine AW.to (kc2 0 1 rfl <| Kn) ?_
 refine sr ?_
 refine st (asI rfl) rfl ?_
 refine ng ?_
 refine sr ?_
 refine st (mvT rfl) rfl ?_
 refine st (OpT.c1 (ms := [.flat]) (c_spec_l00From _) (H rfl) (Af (T1 rfl) rfl rfl <| An) rfl rfl) rfl ?_
 refine st (mvT rfl) rfl ?_
 refine sg (OpT.cr (ms := [.root 6, .flat]) (c_spec_l00Src_pick _ _ ⟨h.1, h.2, Int.le_refl 0, (by show (0 : Int) ≤ 999999999; omega)⟩) (H rfl) (Ar (Root.self (t := 6) (by decide)) rfl rfl rfl <| Af (T1 rfl) rfl rfl <| An) rfl (.inl rfl) rfl) (kc2 8 7 rfl <| kb 6 rfl <| kc4 5 4 0 1 rfl <| Kn) rfl ?_
 refine st (asT rfl) rfl ?_
 refine ng ?_
 refine AW.ret ?_
 exact rt1 rfl (.inl rfl) rfl

/-- laws.f6big -/
theorem c_laws_f6big (x : List Int) : AC Tryz.prog 18 [.cel (Kd.slice (Kd.int .u8)) x] [.cel Kd.bool (decide ((x.length : Int) > 4096))] [] := by
 refine acI (N := 6) Tryz.func18 (Nat.le_of_ble_eq_true rfl) rfl fun w0 hd s0 ar => ?_
 refine AW.to (kc 0 rfl <| Kn) ?_
 refine sr ?_
 refine st (asB rfl) rfl ?_
 refine ng ?_
 refine sr ?_
 refine st (mvT rfl) rfl ?_
 refine st (OpT.len (H rfl) (T1 rfl) el40) rfl ?_
 refine st (OpT.gtr (H rfl) (T1 rfl) (I rfl)) rfl ?_
 refine st (asT rfl) rfl ?_
 refine ng ?_
 refine AW.ret ?_
 exact rt1 rfl (.inl rfl) rfl
end Go.Proofs.YtkgboidjghcegaaGreatDoor.VL
