/- Proved here: what some functions of the program take and give: walks with the words of VA..VQ. Printed by program. -/
import Derived.Test.YtmmjcpiikdcldaaGreatDoorWT
import Derived.Test.YtmmjcpiikdcldaaGreatDoorPZW
import Derived.Test.YtmmjcpiikdcldaaGreatDoorWSR
import Derived.Test.YtmmjcpiikdcldaaGreatDoorWB
import Derived.Test.YtmmjcpiikdcldaaGreatDoorWL
import Derived.Test.YtmmjcpiikdcldaaGreatDoorWP
set_option linter.unusedVariables false
set_option linter.unusedSimpArgs false
set_option maxRecDepth 4000
namespace Go.Proofs.YtmmjcpiikdcldaaGreatDoor.VL
open Go
attribute [local irreducible] pick nxt

/-- spec.l00Src).text -/
theorem c_spec_l00Src_text (ss : DSrc) (l : List ByteArray) (h : srcI 999999999 ss ∧ 1 ≤ l.length) : AC Tryz.prog 100 [.box 111 (Kd.pair (Kd.slice (Kd.int .u8)) (Kd.pair (Kd.int .i64) Kd.u64)) ss, .cel (Kd.slice Kd.str) l] [.cel Kd.str (txtD ss l)] [.box 111 (Kd.pair (Kd.slice (Kd.int .u8)) (Kd.pair (Kd.int .i64) Kd.u64)) (pick ss (l.length : Int)).2, .any] := by
 refine acI (N := 12) Tryz.func100 (Nat.le_of_ble_eq_true rfl) rfl fun w0 hd s0 ar => ?_
 refine AW.to (kb 0 rfl <| kc 1 rfl <| Kn) ?_
 have hpi := pick_in h.1 (l.length : Int)
 refine sr ?_
 refine st (OpT.move (A := .cel _ _) (.inr rfl) rfl (ok' rfl) (Opd.str (by decide)) rfl) rfl ?_
 refine ng ?_
 refine sr ?_
 refine st (mvT rfl) rfl ?_
 refine st (OpT.alias (H rfl) (by decide) (by decide)) rfl ?_
 refine st (mvT rfl) rfl ?_
 refine st (OpT.len (H rfl) (T1 rfl) el81) rfl ?_
 refine sg (OpT.cr (ms := [.root 0, .flat]) (c_spec_l00Src_pick _ _ h.1) (H rfl) (Ar (Root.ali rfl (by decide) (by decide)) rfl rfl rfl <| Af (T1 rfl) rfl rfl <| An) rfl (.inl rfl) rfl) (kc3 9 8 7 rfl <| Kc 6 (.ali _) rfl <| kc2 5 4 rfl <| kb 0 rfl <| kc 1 rfl <| Kn) rfl ?_
 refine st (OpT.indexAddr (H rfl) (T1 rfl) (T1 rfl) el81 sz9 (by omega) (txtD_get h.1 h.2)) rfl ?_
 refine st (OpT.load (H rfl) (T1 rfl) ag9 rfl) rfl ?_
 refine st (asT rfl) rfl ?_
 refine ng ?_
 refine AW.ret ?_
 exact AX.rt (rs := [.tmp 4]) (ts := [some 4]) (.inl rfl) rfl (ROs.cons (RO.tmp (At.self (by decide)) (Kv rfl rfl) rfl) <| ROs.nil) (by decide) (fun i => match i with | 0 => .inr ⟨rfl, Kb rfl rfl, rfl, by decide⟩ | 1 => .inl rfl | _ + 2 => .inl rfl)

set_option maxHeartbeats 4000000 in
/-- spec.l07Changed -/
theorem c_spec_l07Changed (ss : DSrc) (y : List DCard) (h : srcI 1000000 ss) (hy : deckOK y ∧ y.length ≤ 9 ∧ oldN y) : AC Tryz.prog 59 [.box 111 (Kd.pair (Kd.slice (Kd.int .u8)) (Kd.pair (Kd.int .i64) Kd.u64)) ss, .cel (Kd.slice kCard) y] [.deep (OSh.ex (fun x : List (ByteArray × (BitVec 64 × BitVec 64)) => .cel (Kd.slice kCard) x) (fun x => deckOK x ∧ (betw y x).length ≤ 20))] [] := by
 refine acI (N := 66) Tryz.func59 (Nat.le_of_ble_eq_true rfl) rfl fun w0 hd s0 ar => ?_
 refine AW.to (kb 0 rfl <| kc 1 rfl <| Kn) ?_
 refine sr ?_
 refine st (OpT.move (A := .cel _ _) (.inr rfl) rfl (ok' rfl) (Opd.nilslice kCard) rfl) rfl ?_
 refine ng ?_
 refine sr ?_
 refine st (OpT.buildSlice0 (m := 0) (z := .bool false) kCard (H rfl) el26 sz40 (by decide)) rfl ?_
 refine sg (OpT.take (.inl rfl) rfl (ok' rfl) (Root.self (by decide)) rfl rfl (by decide)) (ko 5 rfl <| kc 4 rfl <| kb 0 rfl <| kc 1 rfl <| Kn) rfl ?_
 refine ng ?_
 refine AW.seq ?_
 refine sr ?_
 refine st (asI rfl) rfl ?_
 refine ng ?_
 refine AW.block ?_
 refine AW.loop (fun p : Nat × DSrc × List DCard => p.1 ≤ y.length ∧ srcI (1000000 + 4 * (p.1 : Int)) p.2.1 ∧ chI y p.1 p.2.2 ∧ nearA y p.2.2) (fun p : Nat × DSrc × List DCard => keep [(0, .box 111 (Kd.pair (Kd.slice (Kd.int .u8)) (Kd.pair (Kd.int .i64) Kd.u64)) p.2.1), (1, .cel (Kd.slice kCard) y), (5, .own 40 kCard p.2.2), (6, .cel (Kd.int .i64) (p.1 : Int))]) (fun p : Nat × DSrc × List DCard => y.length - p.1) ((0, ss, [])) ⟨Nat.zero_le _, h.le (by simp only []; omega), chI_nil _, nearA_nil _⟩ (Kc 0 _ (Kb rfl rfl) <| Kc 1 _ (Kv rfl rfl) <| Kc 5 _ (Ko rfl rfl) <| Kc 6 _ (Kv rfl rfl) <| Kn) ?_
 intro p hI
 refine AW.seq ?_
 refine sr ?_
 refine st (mvT rfl) rfl ?_
 refine st (mvT rfl) rfl ?_
 refine st (OpT.len (H rfl) (T1 rfl) el26) rfl ?_
 refine st (OpT.lss (H rfl) (T1 rfl) (T1 rfl)) rfl ?_
 refine ng ?_
 refine cd rfl (fun hc1 => ?_) fun hc1 => ?_
 ·
  obtain ⟨hc1, hc1'⟩ := pT hc1
  obtain ⟨e, he⟩ := getI (x := y) (z := p.1) (by omega)
  have hem := (deck_card hy.1 (List.mem_of_getElem? (by rw [toN] at he; exact he))).2
  have hp0 := pick_in hI.2.1 6
  have hp1 := pick_src hI.2.1 6
  have hpj := pick_in hp1 12
  have hp2 := pick_src hp1 12
  have hbt := okM_one (h := (pick (pick p.2.1 6).2 12).1) (by omega)
  have hjn := okM_join hem hbt
  have hls := okM_less (y := bitM (pick (pick p.2.1 6).2 12).1) hem
  have hcl := chI_len hI.2.2.1
  refine AW.skip ?_
  refine AX.go ?_
  refine AW.seq ?_
  refine AW.block ?_
  refine sr ?_
  refine st (mvT rfl) rfl ?_
  refine st (mvT rfl) rfl ?_
  refine st (OpT.indexAddr (H rfl) (T1 rfl) (T1 rfl) el26 sz40 (by omega) (by assumption)) rfl ?_
  refine st (OpT.loadA (H rfl) (T1 rfl) ag40 sz40) rfl ?_
  refine st (OpT.alloc (H rfl) zr40 zk40) rfl ?_
  refine sk (OpT.storeBA rfl rfl (Opd.whole (Root.self (t := 7) (by decide)) rfl) rfl sz40 (by decide) (T1 rfl)) rfl ?_
  refine ng ?_
  refine AW.seq ?_
  refine sr ?_
  refine st (OpT.alias (H rfl) (by decide) (by decide)) rfl ?_
  refine sg (OpT.cr (ms := [.root 0, .flat]) (c_spec_l00Src_pick _ _ (hI.2.1.le (by omega))) (H rfl) (Ar (Root.ali rfl (by decide) (by decide)) rfl rfl rfl <| Af (I rfl) rfl rfl <| An) rfl (.inl rfl) rfl) (kc 21 rfl <| Kc 20 (.ali _) rfl <| kb 7 rfl <| ka 19 rfl <| kc4 18 17 16 13 rfl <| kc3 12 11 10 rfl <| kb 0 rfl <| kc 1 rfl <| ko 5 rfl <| kc 6 rfl <| Kn) rfl ?_
  refine ng ?_
  refine AW.block ?_
  refine sr ?_
  refine st (OpT.eql (H rfl) (T1 rfl) (I rfl)) rfl ?_
  refine st (asT rfl) rfl ?_
  refine ng ?_
  refine cd rfl (fun hc2 => ?_) fun hc2 => ?_
  ·
   obtain ⟨hc2, hc2'⟩ := pT hc2
   have hnp := hp1
   have hni := chI_skip hI.2.2.1 he
   have hnn := hI.2.2.2
   refine AW.exit ?_
   refine xM rfl <| xT <| AX.exit_hit ?_
   refine AX.go ?_
   refine AW.region ?_
   refine st (mvT rfl) rfl ?_
   refine st (OpT.add (H rfl) (T1 rfl) (I rfl) (nw (by omega))) rfl ?_
   refine st (asT rfl) rfl ?_
   refine nn ?_
   exact AX.again ((p.1 + 1, (pick p.2.1 6).2, p.2.2)) ⟨by simp only []; omega, hnp.le (by simp only []; omega), hni, hnn⟩ (by simp only []; omega) (Kc 0 _ (Kb rfl rfl) <| Kc 1 _ (Kv rfl rfl) <| Kc 5 _ (Ko rfl rfl) <| Kc 6 _ (Kv rfl (by simp only []; omega)) <| Kn)
  ·
   obtain ⟨hc2, hc2'⟩ := pF hc2
   refine sr ?_
   refine st (OpT.eql (H rfl) (T1 rfl) (I rfl)) rfl ?_
   refine st (asT rfl) rfl ?_
   refine ng ?_
   refine cd rfl (fun hc3 => ?_) fun hc3 => ?_
   ·
    obtain ⟨hc3, hc3'⟩ := pT hc3
    have hnp := hp2
    have hni := chI_add (c := (e.1, joinM e.2 (bitM (pick (pick p.2.1 6).2 12).1))) hI.2.2.1 he rfl hjn
    have hnn := nearA_add hI.2.2.2 he (one_join e.2 (h := (pick (pick p.2.1 6).2 12).1) (by omega))
    refine dh fomo ?_
    refine d1 [7] (fun ve h => OpT.fieldAddrB (H rfl) (Root.self (t := 7) (by decide)) ((h _ (List.elem_iff.1 rfl)).trans rfl) (by decide) fd40_1 sz38 (by decide) sb40_1) rfl ?_
    refine d1 [7, 26] (fun ve h => OpT.loadPA (H rfl) (D1 h rfl) (.inl ⟨_, ((h _ (List.elem_iff.1 rfl)).trans rfl), rfl⟩) ag38 sz38) rfl ?_
    refine d1 [] (fun ve h => OpT.alias (H rfl) (by decide) (by decide)) rfl ?_
    refine dwo (t := 0) [0, 28] (fun ve h => crdo (ms := [.root 0, .flat]) (c_spec_l00Src_pick _ _ (hp1.le (by omega))) (H rfl) (Ar (Root.ali ((h _ (List.elem_iff.1 rfl)).trans rfl) (by decide) (by decide)) ((h _ (List.elem_iff.1 rfl)).trans rfl) rfl rfl <| Af (I rfl) rfl rfl <| An) rfl rfl) rfl ?_
    refine d1 [29] (fun ve h => OpT.c1 (ms := [.flat]) (c_spec_l01Bit _ (by omega)) (H rfl) (Af (D1 h rfl) rfl rfl <| An) rfl rfl) rfl ?_
    refine d1 [27, 30] (fun ve h => OpT.c1 (ms := [.flat, .flat]) (c_spec_l01Join _ _) (H rfl) (Af (D1 h rfl) rfl rfl <| Af (D1 h rfl) rfl rfl <| An) rfl rfl) rfl ?_
    refine d1 [7] (fun ve h => OpT.fieldAddrB (H rfl) (Root.self (t := 7) (by decide)) ((h _ (List.elem_iff.1 rfl)).trans rfl) (by decide) fd40_1 sz38 (by decide) sb40_1) rfl ?_
    refine dm (t := 7) [7, 31, 32] (fun ve h => OpT.storeBA rfl rfl (D1 h rfl) ((h _ (List.elem_iff.1 rfl)).trans rfl) sz38 (by decide) (D1 h rfl)) rfl ?_
    refine dn ⟨by kernel_rfl, by kernel_rfl, ?_⟩
    refine AX.normal_block ?_
    refine AX.go ?_
    refine AW.region ?_
    refine st (OpT.alias (H rfl) (by decide) (by decide)) rfl ?_
    refine st (OpT.loadB (H rfl) (Root.self (t := 7) (by decide)) rfl ag40 sz40) rfl ?_
    refine st (OpT.buildSlice (H rfl) el26 zr40 sz40 rfl (by decide) zk40 (by decide) (Built.agg (T1 rfl) rfl (by decide) (sub_arr (by decide) ((.empty, (0, 0)) : ByteArray × (BitVec 64 × BitVec 64))) (Built.nil _))) rfl ?_
    refine sg (OpT.append (H rfl) (Root.ali rfl (by decide) (by decide)) rfl (Src.own (Root.self (t := 44) (by decide)) rfl) (by decide) el26 zr40 rfl sz40 by40 (by decide) (by simp only [List.length_set, List.length_replicate]; omega)) (ko 45 rfl <| ko 44 rfl <| ka 43 rfl <| kb 7 rfl <| Kc 32 (.pel _ _ _ _ _ _ _) rfl <| ka 31 rfl <| ka 30 rfl <| kc 29 rfl <| kb 0 rfl <| Kc 28 (.ali _) rfl <| ka 27 rfl <| Kc 26 (.pel _ _ _ _ _ _ _) rfl <| kc4 24 25 22 23 rfl <| kc 21 rfl <| Kc 20 (.ali _) rfl <| ka 19 rfl <| kc4 18 17 16 13 rfl <| kc4 12 11 10 1 rfl <| kc 6 rfl <| Kn) rfl ?_
    refine sg (OpT.take (.inl rfl) rfl (ok' rfl) (Root.self (by decide)) rfl rfl (by decide)) (ko 5 rfl <| ko 44 rfl <| ka 43 rfl <| kb 7 rfl <| Kc 32 (.pel _ _ _ _ _ _ _) rfl <| ka 31 rfl <| ka 30 rfl <| kc 29 rfl <| kb 0 rfl <| Kc 28 (.ali _) rfl <| ka 27 rfl <| Kc 26 (.pel _ _ _ _ _ _ _) rfl <| kc4 24 25 22 23 rfl <| kc 21 rfl <| Kc 20 (.ali _) rfl <| ka 19 rfl <| kc4 18 17 16 13 rfl <| kc4 12 11 10 1 rfl <| kc 6 rfl <| Kn) rfl ?_
    refine nn ?_
    refine AX.normal_block ?_
    refine AX.go ?_
    refine AW.region ?_
    refine st (mvT rfl) rfl ?_
    refine st (OpT.add (H rfl) (T1 rfl) (I rfl) (nw (by omega))) rfl ?_
    refine st (asT rfl) rfl ?_
    refine nn ?_
    exact AX.again ((p.1 + 1, (pick (pick p.2.1 6).2 12).2, p.2.2 ++ [(e.1, joinM e.2 (bitM (pick (pick p.2.1 6).2 12).1))])) ⟨by simp only []; omega, hnp.le (by simp only []; omega), hni, hnn⟩ (by simp only []; omega) (Kc 0 _ (Kb rfl rfl) <| Kc 1 _ (Kv rfl rfl) <| Kc 5 _ (Ko rfl rfl) <| Kc 6 _ (Kv rfl (by simp only []; omega)) <| Kn)
   ·
    obtain ⟨hc3, hc3'⟩ := pF hc3
    refine sr ?_
    refine st (OpT.eql (H rfl) (T1 rfl) (I rfl)) rfl ?_
    refine st (asT rfl) rfl ?_
    refine ng ?_
    refine cd rfl (fun hc4 => ?_) fun hc4 => ?_
    ·
     obtain ⟨hc4, hc4'⟩ := pT hc4
     have hnp := hp2
     have hni := chI_add (c := (e.1, lessM e.2 (bitM (pick (pick p.2.1 6).2 12).1))) hI.2.2.1 he rfl hls
     have hnn := nearA_add hI.2.2.2 he (one_less e.2 (h := (pick (pick p.2.1 6).2 12).1) (by omega))
     refine dh fomo ?_
     refine d1 [7] (fun ve h => OpT.fieldAddrB (H rfl) (Root.self (t := 7) (by decide)) ((h _ (List.elem_iff.1 rfl)).trans rfl) (by decide) fd40_1 sz38 (by decide) sb40_1) rfl ?_
     refine d1 [7, 35] (fun ve h => OpT.loadPA (H rfl) (D1 h rfl) (.inl ⟨_, ((h _ (List.elem_iff.1 rfl)).trans rfl), rfl⟩) ag38 sz38) rfl ?_
     refine d1 [] (fun ve h => OpT.alias (H rfl) (by decide) (by decide)) rfl ?_
     refine dwo (t := 0) [0, 37] (fun ve h => crdo (ms := [.root 0, .flat]) (c_spec_l00Src_pick _ _ (hp1.le (by omega))) (H rfl) (Ar (Root.ali ((h _ (List.elem_iff.1 rfl)).trans rfl) (by decide) (by decide)) ((h _ (List.elem_iff.1 rfl)).trans rfl) rfl rfl <| Af (I rfl) rfl rfl <| An) rfl rfl) rfl ?_
     refine d1 [38] (fun ve h => OpT.c1 (ms := [.flat]) (c_spec_l01Bit _ (by omega)) (H rfl) (Af (D1 h rfl) rfl rfl <| An) rfl rfl) rfl ?_
     refine d1 [36, 39] (fun ve h => OpT.c1 (ms := [.flat, .flat]) (c_spec_l01Less _ _) (H rfl) (Af (D1 h rfl) rfl rfl <| Af (D1 h rfl) rfl rfl <| An) rfl rfl) rfl ?_
     refine d1 [7] (fun ve h => OpT.fieldAddrB (H rfl) (Root.self (t := 7) (by decide)) ((h _ (List.elem_iff.1 rfl)).trans rfl) (by decide) fd40_1 sz38 (by decide) sb40_1) rfl ?_
     refine dm (t := 7) [7, 40, 41] (fun ve h => OpT.storeBA rfl rfl (D1 h rfl) ((h _ (List.elem_iff.1 rfl)).trans rfl) sz38 (by decide) (D1 h rfl)) rfl ?_
     refine dn ⟨by kernel_rfl, by kernel_rfl, ?_⟩
     refine AX.normal_block ?_
     refine AX.go ?_
     refine AW.region ?_
     refine st (OpT.alias (H rfl) (by decide) (by decide)) rfl ?_
     refine st (OpT.loadB (H rfl) (Root.self (t := 7) (by decide)) rfl ag40 sz40) rfl ?_
     refine st (OpT.buildSlice (H rfl) el26 zr40 sz40 rfl (by decide) zk40 (by decide) (Built.agg (T1 rfl) rfl (by decide) (sub_arr (by decide) ((.empty, (0, 0)) : ByteArray × (BitVec 64 × BitVec 64))) (Built.nil _))) rfl ?_
     refine sg (OpT.append (H rfl) (Root.ali rfl (by decide) (by decide)) rfl (Src.own (Root.self (t := 44) (by decide)) rfl) (by decide) el26 zr40 rfl sz40 by40 (by decide) (by simp only [List.length_set, List.length_replicate]; omega)) (ko 45 rfl <| ko 44 rfl <| ka 43 rfl <| kb 7 rfl <| Kc 41 (.pel _ _ _ _ _ _ _) rfl <| ka 40 rfl <| ka 39 rfl <| kc 38 rfl <| kb 0 rfl <| Kc 37 (.ali _) rfl <| ka 36 rfl <| Kc 35 (.pel _ _ _ _ _ _ _) rfl <| kc4 33 34 24 25 rfl <| kc3 22 23 21 rfl <| Kc 20 (.ali _) rfl <| ka 19 rfl <| kc4 18 17 16 13 rfl <| kc4 12 11 10 1 rfl <| kc 6 rfl <| Kn) rfl ?_
     refine sg (OpT.take (.inl rfl) rfl (ok' rfl) (Root.self (by decide)) rfl rfl (by decide)) (ko 5 rfl <| ko 44 rfl <| ka 43 rfl <| kb 7 rfl <| Kc 41 (.pel _ _ _ _ _ _ _) rfl <| ka 40 rfl <| ka 39 rfl <| kc 38 rfl <| kb 0 rfl <| Kc 37 (.ali _) rfl <| ka 36 rfl <| Kc 35 (.pel _ _ _ _ _ _ _) rfl <| kc4 33 34 24 25 rfl <| kc3 22 23 21 rfl <| Kc 20 (.ali _) rfl <| ka 19 rfl <| kc4 18 17 16 13 rfl <| kc4 12 11 10 1 rfl <| kc 6 rfl <| Kn) rfl ?_
     refine nn ?_
     refine AX.normal_block ?_
     refine AX.go ?_
     refine AW.region ?_
     refine st (mvT rfl) rfl ?_
     refine st (OpT.add (H rfl) (T1 rfl) (I rfl) (nw (by omega))) rfl ?_
     refine st (asT rfl) rfl ?_
     refine nn ?_
     exact AX.again ((p.1 + 1, (pick (pick p.2.1 6).2 12).2, p.2.2 ++ [(e.1, lessM e.2 (bitM (pick (pick p.2.1 6).2 12).1))])) ⟨by simp only []; omega, hnp.le (by simp only []; omega), hni, hnn⟩ (by simp only []; omega) (Kc 0 _ (Kb rfl rfl) <| Kc 1 _ (Kv rfl rfl) <| Kc 5 _ (Ko rfl rfl) <| Kc 6 _ (Kv rfl (by simp only []; omega)) <| Kn)
    ·
     obtain ⟨hc4, hc4'⟩ := pF hc4
     have hnp := hp1
     have hni := chI_add (c := e) hI.2.2.1 he rfl hem
     have hnn : nearA y (p.2.2 ++ [e]) := nearA_add hI.2.2.2 he (one_self e.2)
     refine AW.skip ?_
     refine AX.normal_block ?_
     refine AX.go ?_
     refine AW.region ?_
     refine st (OpT.alias (H rfl) (by decide) (by decide)) rfl ?_
     refine st (OpT.loadB (H rfl) (Root.self (t := 7) (by decide)) rfl ag40 sz40) rfl ?_
     refine st (OpT.buildSlice (H rfl) el26 zr40 sz40 rfl (by decide) zk40 (by decide) (Built.agg (T1 rfl) rfl (by decide) (sub_arr (by decide) ((.empty, (0, 0)) : ByteArray × (BitVec 64 × BitVec 64))) (Built.nil _))) rfl ?_
     refine sg (OpT.append (H rfl) (Root.ali rfl (by decide) (by decide)) rfl (Src.own (Root.self (t := 44) (by decide)) rfl) (by decide) el26 zr40 rfl sz40 by40 (by decide) (by simp only [List.length_set, List.length_replicate]; omega)) (ko 45 rfl <| ko 44 rfl <| ka 43 rfl <| kc4 33 34 24 25 rfl <| kc3 22 23 21 rfl <| Kc 20 (.ali _) rfl <| kb 7 rfl <| ka 19 rfl <| kc4 18 17 16 13 rfl <| kc3 12 11 10 rfl <| kb 0 rfl <| kc2 1 6 rfl <| Kn) rfl ?_
     refine sg (OpT.take (.inl rfl) rfl (ok' rfl) (Root.self (by decide)) rfl rfl (by decide)) (ko 5 rfl <| ko 44 rfl <| ka 43 rfl <| kc4 33 34 24 25 rfl <| kc3 22 23 21 rfl <| Kc 20 (.ali _) rfl <| kb 7 rfl <| ka 19 rfl <| kc4 18 17 16 13 rfl <| kc3 12 11 10 rfl <| kb 0 rfl <| kc2 1 6 rfl <| Kn) rfl ?_
     refine nn ?_
     refine AX.normal_block ?_
     refine AX.go ?_
     refine AW.region ?_
     refine st (mvT rfl) rfl ?_
     refine st (OpT.add (H rfl) (T1 rfl) (I rfl) (nw (by omega))) rfl ?_
     refine st (asT rfl) rfl ?_
     refine nn ?_
     exact AX.again ((p.1 + 1, (pick p.2.1 6).2, p.2.2 ++ [e])) ⟨by simp only []; omega, hnp.le (by simp only []; omega), hni, hnn⟩ (by simp only []; omega) (Kc 0 _ (Kb rfl rfl) <| Kc 1 _ (Kv rfl rfl) <| Kc 5 _ (Ko rfl rfl) <| Kc 6 _ (Kv rfl (by simp only []; omega)) <| Kn)
 ·
  obtain ⟨hc1, hc1'⟩ := pF hc1
  have hcl := chI_len hI.2.2.1
  have hcd := chI_deck hy.1 hI.2.2.1
  have hq1 := pick_src hI.2.1 2
  have hq2 := pick_src hq1 (newL.length : Int)
  have hqk := pick_in hq2 12
  have hnk := newL_ok hq1
  have hbk := okM_one (h := (pick (pick (pick p.2.1 2).2 (newL.length : Int)).2 12).1) (by omega)
  have hex : deckOK p.2.2 ∧ (betw y p.2.2).length ≤ 20 := ⟨hcd, by have h70 := near_betw (n := []) hy.1 (by rw [List.append_nil]; exact hcd) hI.2.2.2 (fun c hc => by cases hc); rw [List.append_nil] at h70; simp only [List.length_nil] at h70; omega⟩
  refine AW.exit ?_
  refine xT <| xT <| AX.exit_hit ?_
  refine AX.go ?_
  refine AW.seq ?_
  refine sr ?_
  refine st (OpT.alias (H rfl) (by decide) (by decide)) rfl ?_
  refine sg (OpT.cr (ms := [.root 0, .flat]) (c_spec_l00Src_one _ _ (hI.2.1.le (by omega))) (H rfl) (Ar (Root.ali rfl (by decide) (by decide)) rfl rfl rfl <| Af (I rfl) rfl rfl <| An) rfl (.inl rfl) rfl) (kc 47 rfl <| Kc 46 (.ali _) rfl <| kc4 13 12 11 10 rfl <| kb 0 rfl <| kc 1 rfl <| ko 5 rfl <| kc 6 rfl <| Kn) rfl ?_
  refine ng ?_
  refine cd rfl (fun hc5 => ?_) fun hc5 => ?_
  ·
   obtain ⟨hc5, hc5'⟩ := pT hc5
   refine sr ?_
   refine st (OpT.alias (H rfl) (by decide) (by decide)) rfl ?_
   refine st (OpT.buildSlice (H rfl) el81 zr9 sz9 rfl (by decide) zk9 (by decide) (Built.cel (Opd.str (by decide)) rfl rfl (sub_arr (by decide) (.empty : ByteArray)) (Built.cel (Opd.str (by decide)) rfl rfl (sub_arr (by decide) (.empty : ByteArray)) (Built.cel (Opd.str (by decide)) rfl rfl (sub_arr (by decide) (.empty : ByteArray)) (Built.nil _))))) rfl ?_
   refine AWl.freeze (t := 49) rfl ?_
   refine AWl.to (kc 49 rfl <| Kc 48 (.ali _) rfl <| kc 47 rfl <| Kc 46 (.ali _) rfl <| kc4 13 12 11 10 rfl <| kb 0 rfl <| kc 1 rfl <| ko 5 rfl <| kc 6 rfl <| Kn) ?_
   refine sg (OpT.cr (ms := [.root 0, .flat]) (c_spec_l00Src_text _ newL ⟨(hq1.le (by omega)), (by decide)⟩) (H rfl) (Ar (Root.ali rfl (by decide) (by decide)) rfl rfl rfl <| Af (T1 rfl) rfl rfl <| An) rfl (.inl rfl) rfl) (kc2 50 49 rfl <| Kc 48 (.ali _) rfl <| kc 47 rfl <| Kc 46 (.ali _) rfl <| kc4 13 12 11 10 rfl <| kb 0 rfl <| kc 1 rfl <| ko 5 rfl <| kc 6 rfl <| Kn) rfl ?_
   refine st (OpT.build (H rfl) pl40 zr40 zk40 (Built.cel (T1 rfl) rfl rfl sb40_0 (Built.nil _))) rfl ?_
   refine st (OpT.alloc (H rfl) zr40 zk40) rfl ?_
   refine sk (OpT.storeBA rfl rfl (Opd.whole (Root.self (t := 8) (by decide)) rfl) rfl sz40 (by decide) (T1 rfl)) rfl ?_
   refine AWl.to (kb 8 rfl <| kb 0 rfl <| ko 5 rfl <| Kn) ?_
   refine ng ?_
   refine sr ?_
   refine st (OpT.alias (H rfl) (by decide) (by decide)) rfl ?_
   refine sg (OpT.cr (ms := [.root 0, .flat]) (c_spec_l00Src_pick _ _ (hq2.le (by omega))) (H rfl) (Ar (Root.ali rfl (by decide) (by decide)) rfl rfl rfl <| Af (I rfl) rfl rfl <| An) rfl (.inl rfl) rfl) (kc 53 rfl <| Kc 52 (.ali _) rfl <| kb 8 rfl <| kb 0 rfl <| ko 5 rfl <| Kn) rfl ?_
   refine st (OpT.c1 (ms := [.flat]) (c_spec_l01Bit _ (by omega)) (H rfl) (Af (T1 rfl) rfl rfl <| An) rfl rfl) rfl ?_
   refine st (OpT.fieldAddrB (H rfl) (Root.self (t := 8) (by decide)) rfl (by decide) fd40_1 sz38 (by decide) sb40_1) rfl ?_
   refine sk (OpT.storeBA rfl rfl (T1 rfl) rfl sz38 (by decide) (T1 rfl)) rfl ?_
   refine ng ?_
   refine sr ?_
   refine st (OpT.alias (H rfl) (by decide) (by decide)) rfl ?_
   refine st (OpT.fieldAddrB (H rfl) (Root.self (t := 8) (by decide)) rfl (by decide) fd40_0 sz9 (by decide) sb40_0) rfl ?_
   refine st (OpT.loadP (H rfl) (T1 rfl) (.inl ⟨_, rfl, rfl⟩) ag9 rfl) rfl ?_
   refine st (cb1 (ms := [.bor 5, .flat]) (c_spec_l02Find _ _) (H rfl) (Ab (Root.ali rfl (by decide) (by decide)) rfl <| Af (T1 rfl) rfl rfl <| An) rfl (indC fun _ _ _ _ h => h)) rfl ?_
   refine st (OpT.lss (H rfl) (T1 rfl) (I rfl)) rfl ?_
   refine ng ?_
   refine cd rfl (fun hc6 => ?_) fun hc6 => ?_
   ·
    obtain ⟨hc6, hc6'⟩ := pT hc6
    have hdk : deckOK (p.2.2 ++ [(txtD (pick p.2.1 2).2 newL, bitM (pick (pick (pick p.2.1 2).2 (newL.length : Int)).2 12).1)]) := chI_new (c := (txtD (pick p.2.1 2).2 newL, bitM (pick (pick (pick p.2.1 2).2 (newL.length : Int)).2 12).1)) hcd (by omega) ⟨hnk, hbk⟩ (by exact hc6)
    have hex : deckOK (p.2.2 ++ [(txtD (pick p.2.1 2).2 newL, bitM (pick (pick (pick p.2.1 2).2 (newL.length : Int)).2 12).1)]) ∧ (betw y (p.2.2 ++ [(txtD (pick p.2.1 2).2 newL, bitM (pick (pick (pick p.2.1 2).2 (newL.length : Int)).2 12).1)])).length ≤ 20 := ⟨hdk, Nat.le_trans (near_betw hy.1 hdk hI.2.2.2 (oldN_new hy.2.2 hq1 _)) (by show y.length + 1 ≤ 20; omega)⟩
    refine AW.region ?_
    refine st (OpT.alias (H rfl) (by decide) (by decide)) rfl ?_
    refine st (OpT.loadB (H rfl) (Root.self (t := 8) (by decide)) rfl ag40 sz40) rfl ?_
    refine st (OpT.buildSlice (H rfl) el26 zr40 sz40 rfl (by decide) zk40 (by decide) (Built.agg (T1 rfl) rfl (by decide) (sub_arr (by decide) ((.empty, (0, 0)) : ByteArray × (BitVec 64 × BitVec 64))) (Built.nil _))) rfl ?_
    refine sg (OpT.append (H rfl) (Root.ali rfl (by decide) (by decide)) rfl (Src.own (Root.self (t := 63) (by decide)) rfl) (by decide) el26 zr40 rfl sz40 by40 (by decide) (by simp only [List.length_set, List.length_replicate]; omega)) (ko 64 rfl <| ko 63 rfl <| ka 62 rfl <| kc3 60 59 58 rfl <| Kc 57 (.pel _ _ _ _ _ _ _) rfl <| kb 8 rfl <| Kc 55 (.pel _ _ _ _ _ _ _) rfl <| ka 54 rfl <| kc 53 rfl <| Kc 52 (.ali _) rfl <| kb 0 rfl <| Kn) rfl ?_
    refine sg (OpT.take (.inl rfl) rfl (ok' rfl) (Root.self (by decide)) rfl rfl (by decide)) (ko 5 rfl <| ko 63 rfl <| ka 62 rfl <| kc3 60 59 58 rfl <| Kc 57 (.pel _ _ _ _ _ _ _) rfl <| kb 8 rfl <| Kc 55 (.pel _ _ _ _ _ _ _) rfl <| ka 54 rfl <| kc 53 rfl <| Kc 52 (.ali _) rfl <| kb 0 rfl <| Kn) rfl ?_
    refine AWl.to (ko 5 rfl <| Kn) ?_
    refine ng ?_
    refine sr ?_
    refine st (OpT.alias (H rfl) (by decide) (by decide)) rfl ?_
    refine sg (OpT.take (.inl rfl) rfl (ok' rfl) (Root.ali rfl (by decide) (by decide)) rfl rfl (by decide)) (ko 4 rfl <| Kn) rfl ?_
    refine ng ?_
    refine AW.ret ?_
    refine AX.freeze (t := 4) rfl ?_
    refine AX.pr (kc 4 rfl <| Kn) ?_
    refine AX.vw (vclo (A := fun x : List (ByteArray × (BitVec 64 × BitVec 64)) => .cel (Kd.slice kCard) x) (p := fun x => deckOK x ∧ (betw y x).length ≤ 20) _ hex 4 9097 rfl rfl (by decide) rfl) fun _ => ?_
    refine AX.pr (Kc 4 (.deep _) rfl <| Kn) ?_
    exact AX.rt (rs := [.tmp 4]) (ts := [some 4]) (.inl rfl) rfl (ROs.cons (RO.tmp (At.self (by decide)) (Ke rfl rfl) rfl) <| ROs.nil) (by decide) OutsOK.nil
   ·
    obtain ⟨hc6, hc6'⟩ := pF hc6
    refine AW.skip ?_
    refine AX.pr (ko 5 rfl <| Kn) ?_
    refine AX.go ?_
    refine sr ?_
    refine st (OpT.alias (H rfl) (by decide) (by decide)) rfl ?_
    refine sg (OpT.take (.inl rfl) rfl (ok' rfl) (Root.ali rfl (by decide) (by decide)) rfl rfl (by decide)) (ko 4 rfl <| Kn) rfl ?_
    refine ng ?_
    refine AW.ret ?_
    refine AX.freeze (t := 4) rfl ?_
    refine AX.pr (kc 4 rfl <| Kn) ?_
    refine AX.vw (vclo (A := fun x : List (ByteArray × (BitVec 64 × BitVec 64)) => .cel (Kd.slice kCard) x) (p := fun x => deckOK x ∧ (betw y x).length ≤ 20) _ hex 4 9097 rfl rfl (by decide) rfl) fun _ => ?_
    refine AX.pr (Kc 4 (.deep _) rfl <| Kn) ?_
    exact AX.rt (rs := [.tmp 4]) (ts := [some 4]) (.inl rfl) rfl (ROs.cons (RO.tmp (At.self (by decide)) (Ke rfl rfl) rfl) <| ROs.nil) (by decide) OutsOK.nil
  ·
   obtain ⟨hc5, hc5'⟩ := pF hc5
   refine AW.skip ?_
   refine AX.go ?_
   refine sr ?_
   refine st (OpT.alias (H rfl) (by decide) (by decide)) rfl ?_
   refine sg (OpT.take (.inl rfl) rfl (ok' rfl) (Root.ali rfl (by decide) (by decide)) rfl rfl (by decide)) (ko 4 rfl <| kc 47 rfl <| Kc 46 (.ali _) rfl <| kc4 13 12 11 10 rfl <| kb 0 rfl <| kc2 1 6 rfl <| Kn) rfl ?_
   refine ng ?_
   refine AW.ret ?_
   refine AX.freeze (t := 4) rfl ?_
   refine AX.pr (kc2 4 47 rfl <| Kc 46 (.ali _) rfl <| kc4 13 12 11 10 rfl <| kb 0 rfl <| kc2 1 6 rfl <| Kn) ?_
   refine AX.vw (vclo (A := fun x : List (ByteArray × (BitVec 64 × BitVec 64)) => .cel (Kd.slice kCard) x) (p := fun x => deckOK x ∧ (betw y x).length ≤ 20) _ hex 4 9097 rfl rfl (by decide) rfl) fun _ => ?_
   refine AX.pr (Kc 4 (.deep _) rfl <| kc 47 rfl <| Kc 46 (.ali _) rfl <| kc4 13 12 11 10 rfl <| kb 0 rfl <| kc2 1 6 rfl <| Kn) ?_
   exact AX.rt (rs := [.tmp 4]) (ts := [some 4]) (.inl rfl) rfl (ROs.cons (RO.tmp (At.self (by decide)) (Ke rfl rfl) rfl) <| ROs.nil) (by decide) OutsOK.nil

/-- spec.A2Changed -/
theorem c_spec_A2Changed (l : List Int) (y : List DCard) (h : (∀ b ∈ l, 0 ≤ b ∧ b ≤ 255) ∧ l.length ≤ 1000000) (hy : deckOK y ∧ y.length ≤ 9 ∧ oldN y) : AC Tryz.prog 21 [.cel (Kd.slice (Kd.int .u8)) l, .cel (Kd.slice kCard) y] [.deep (OSh.ex (fun x : List (ByteArray × (BitVec 64 × BitVec 64)) => .cel (Kd.slice kCard) x) (fun x => deckOK x ∧ (betw y x).length ≤ 20))] [] := by
 refine acI (N := 9) Tryz.func21 (Nat.le_of_ble_eq_true rfl) rfl fun w0 hd s0 ar => ?_
 refine AW.to (kc2 0 1 rfl <| Kn) ?_
 refine sr ?_
 refine st (OpT.move (A := .cel _ _) (.inr rfl) rfl (ok' rfl) (Opd.nilslice kCard) rfl) rfl ?_
 refine ng ?_
 refine sr ?_
 refine st (mvT rfl) rfl ?_
 refine st (OpT.c1 (ms := [.flat]) (c_spec_l00From _) (H rfl) (Af (T1 rfl) rfl rfl <| An) rfl rfl) rfl ?_
 refine st (mvT rfl) rfl ?_
 refine sg (OpT.crn (ms := [.root 6, .flat]) (c_spec_l07Changed _ _ ⟨h.1, h.2, Int.le_refl 0, (by show (0 : Int) ≤ 1000000; omega)⟩ hy) (H rfl) (Ar (O := .any) (Root.self (t := 6) (by decide)) rfl rfl rfl <| Af (T1 rfl) rfl rfl <| An) rfl rfl (.inl rfl) rfl) (Kc 8 (.deep _) rfl <| kc4 7 5 4 0 rfl <| kc 1 rfl <| Kn) rfl ?_
 refine sg (OpT.take (.inl rfl) rfl (ok' rfl) (Root.self (by decide)) rfl rfl (by decide)) (Kc 4 (.deep _) rfl <| kc4 7 5 0 1 rfl <| Kn) rfl ?_
 refine ng ?_
 refine AW.ret ?_
 exact AX.rt (rs := [.tmp 4]) (ts := [some 4]) (.inl rfl) rfl (ROs.cons (RO.tmp (At.self (by decide)) (Ke rfl rfl) rfl) <| ROs.nil) (by decide) OutsOK.nil
end Go.Proofs.YtmmjcpiikdcldaaGreatDoor.VL
