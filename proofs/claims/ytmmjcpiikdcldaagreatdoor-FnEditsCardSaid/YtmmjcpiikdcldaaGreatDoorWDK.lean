/- Proved here: what some functions of the program take and give: walks with the words of VA..VQ. Printed by program. -/
import Derived.Test.YtmmjcpiikdcldaaGreatDoorWT
import Derived.Test.YtmmjcpiikdcldaaGreatDoorBpa
import Derived.Test.YtmmjcpiikdcldaaGreatDoorWSR
import Derived.Test.YtmmjcpiikdcldaaGreatDoorWP
import Derived.Test.YtmmjcpiikdcldaaGreatDoorWV
set_option linter.unusedVariables false
set_option linter.unusedSimpArgs false
set_option maxRecDepth 4000
namespace Go.Proofs.YtmmjcpiikdcldaaGreatDoor.VL
open Go
theorem c_codeI (f : DField) (v : Int) (hok : fieldOK f) (hv : 0 ≤ v ∧ v ≤ topF f) : AC Tryz.prog 84 [.cel (Kd.ptr kField) f, .cel (Kd.int .i64) v] [.agg kMask (codeF f v)] [] := by
 have h := c_spec_l01Code f v.toNat hok (by omega)
 rwa [Int.toNat_of_nonneg hv.1] at h

/-- spec.l02Named -/
theorem c_spec_l02Named (i : Nat) (hi : i < 12) : AC Tryz.prog 81 [.cel (Kd.int .i64) ((i : Nat) : Int)] [.cel Kd.str (nm i)] [] := by
 refine acI (N := 26) Tryz.func81 (Nat.le_of_ble_eq_true rfl) rfl fun w0 hd s0 ar => ?_
 refine AW.to (kc 0 rfl <| Kn) ?_
 have hrm := nmL_rin hi
 have hqo := nmL_quo hi
 refine sr ?_
 refine st (OpT.move (A := .cel _ _) (.inr rfl) rfl (ok' rfl) (Opd.str (by decide)) rfl) rfl ?_
 refine ng ?_
 refine sr ?_
 refine st (OpT.c1 (ms := []) (c_spec_l01Names ) (H rfl) (An) rfl rfl) rfl ?_
 refine st (asT rfl) rfl ?_
 refine ng ?_
 refine sr ?_
 refine st (mvT rfl) rfl ?_
 refine st (OpT.len (H rfl) (T1 rfl) el81) rfl ?_
 refine st (asT rfl) rfl ?_
 refine ng ?_
 refine sr ?_
 refine st (mvT rfl) rfl ?_
 refine st (mvT rfl) rfl ?_
 refine st (mvT rfl) rfl ?_
 refine st (OpT.rem (H rfl) (T1 rfl) (T1 rfl) (by decide)) rfl ?_
 refine st (OpT.indexAddr (H rfl) (T1 rfl) (T1 rfl) el81 sz9 (by omega) (nmL_rem hi)) rfl ?_
 refine st (OpT.load (H rfl) (T1 rfl) ag9 rfl) rfl ?_
 refine st (asT rfl) rfl ?_
 refine ng ?_
 refine AW.seq ?_
 refine sr ?_
 refine st (mvT rfl) rfl ?_
 refine st (mvT rfl) rfl ?_
 refine st (OpT.quo (H rfl) (T1 rfl) (T1 rfl) (by decide) (nw (by omega))) rfl ?_
 refine st (asT rfl) rfl ?_
 refine AWl.to (kc3 6 5 2 rfl <| Kn) ?_
 refine ng ?_
 refine AW.block ?_
 refine AW.loop (fun z : Nat => z = 0) (fun z : Nat => keep [(5, .cel Kd.str (nm i)), (6, .cel (Kd.int .i64) (((i : Nat) : Int).tdiv (nmL.length : Int)))]) (fun z : Nat => z) (0) rfl (Kc 5 _ (Kv rfl rfl) <| Kc 6 _ (Kv rfl rfl) <| Kn) ?_
 intro z hI
 refine AW.seq ?_
 refine sr ?_
 refine st (mvT rfl) rfl ?_
 refine st (OpT.gtr (H rfl) (T1 rfl) (I rfl)) rfl ?_
 refine ng ?_
 refine cd rfl (fun hc1 => ?_) fun hc1 => ?_
 ·
  obtain ⟨hc1, hc1'⟩ := pT hc1
  exact (show False from (by have h9 := hc1'; rw [nmL_quo hi] at h9; omega)).elim
 ·
  obtain ⟨hc1, hc1'⟩ := pF hc1
  refine AW.exit ?_
  refine xT <| xT <| AX.exit_hit ?_
  refine AX.go ?_
  refine sr ?_
  refine st (mvT rfl) rfl ?_
  refine st (asT rfl) rfl ?_
  refine ng ?_
  refine AW.ret ?_
  exact rt1 rfl (.inl rfl) rfl

/-- spec.l02Drawn -/
theorem c_spec_l02Drawn (ss : DSrc) (x : List DField) (h : srcI 1000000 ss) (hx : schemeOK x) : AC Tryz.prog 40 [.box 111 (Kd.pair (Kd.slice (Kd.int .u8)) (Kd.pair (Kd.int .i64) Kd.u64)) ss, .cel (Kd.slice kField) x] [.deep (OSh.ex (fun x : List (ByteArray × (BitVec 64 × BitVec 64)) => .cel (Kd.slice kCard) x) (fun x => (deckOK x ∧ x.length ≤ 8) ∧ dkI x))] [] := by
 refine acI (N := 58) Tryz.func40 (Nat.le_of_ble_eq_true rfl) rfl fun w0 hd s0 ar => ?_
 refine AW.to (kb 0 rfl <| kc 1 rfl <| Kn) ?_
 have hq1 := pick_in h 9
 have hq2 := pick_src h 9
 have hxl : x.length ≤ 12 := hx.1
 refine sr ?_
 refine st (OpT.move (A := .cel _ _) (.inr rfl) rfl (ok' rfl) (Opd.nilslice kCard) rfl) rfl ?_
 refine ng ?_
 refine sr ?_
 refine st (OpT.buildSlice0 (m := 0) (z := .bool false) kCard (H rfl) el26 sz40 (by decide)) rfl ?_
 refine sg (OpT.take (.inl rfl) rfl (ok' rfl) (Root.self (by decide)) rfl rfl (by decide)) (ko 5 rfl <| kc 4 rfl <| kb 0 rfl <| kc 1 rfl <| Kn) rfl ?_
 refine ng ?_
 refine AW.seq ?_
 refine sr ?_
 refine st (OpT.alias (H rfl) (by decide) (by decide)) rfl ?_
 refine sg (OpT.cr (ms := [.root 0, .flat]) (c_spec_l00Src_pick _ _ (h.le (by omega))) (H rfl) (Ar (Root.ali rfl (by decide) (by decide)) rfl rfl rfl <| Af (I rfl) rfl rfl <| An) rfl (.inl rfl) rfl) (kc 11 rfl <| Kc 10 (.ali _) rfl <| ko 5 rfl <| kc 4 rfl <| kb 0 rfl <| kc 1 rfl <| Kn) rfl ?_
 refine st (asT rfl) rfl ?_
 refine ng ?_
 refine AW.block ?_
 refine AW.loop (fun p : Nat × DSrc × List DCard => srcI (1000902 - 100 * (p.1 : Int)) p.2.1 ∧ p.1 + p.2.2.length ≤ 8 ∧ dkI p.2.2) (fun p : Nat × DSrc × List DCard => keep [(0, .box 111 (Kd.pair (Kd.slice (Kd.int .u8)) (Kd.pair (Kd.int .i64) Kd.u64)) p.2.1), (1, .cel (Kd.slice kField) x), (5, .own 40 kCard p.2.2), (6, .cel (Kd.int .i64) (p.1 : Int))]) (fun p : Nat × DSrc × List DCard => p.1) (((pick ss 9).1.toNat, (pick ss 9).2, [])) ⟨hq2.le (by simp only []; omega), by simp only [List.length_nil]; omega, dkI_nil⟩ (Kc 0 _ (Kb rfl rfl) <| Kc 1 _ (Kv rfl rfl) <| Kc 5 _ (Ko rfl rfl) <| Kc 6 _ (Kv rfl (by simp only []; omega)) <| Kn) ?_
 intro p hI
 refine AW.seq ?_
 refine sr ?_
 refine st (mvT rfl) rfl ?_
 refine st (OpT.gtr (H rfl) (T1 rfl) (I rfl)) rfl ?_
 refine ng ?_
 refine cd rfl (fun hc1 => ?_) fun hc1 => ?_
 ·
  obtain ⟨hc1, hc1'⟩ := pT hc1
  refine AW.skip ?_
  refine AX.go ?_
  refine AW.seq ?_
  refine AW.block ?_
  refine sr ?_
  refine st (OpT.alias (H rfl) (by decide) (by decide)) rfl ?_
  refine st (OpT.lenO (H rfl) (Root.ali rfl (by decide) (by decide)) rfl el26) rfl ?_
  refine st (OpT.c1 (ms := [.flat]) (c_spec_l02Named p.2.2.length (by omega)) (H rfl) (Af (T1 rfl) rfl rfl <| An) rfl rfl) rfl ?_
  refine st (OpT.build (H rfl) pl40 zr40 zk40 (Built.cel (T1 rfl) rfl rfl sb40_0 (Built.nil _))) rfl ?_
  refine st (OpT.alloc (H rfl) zr40 zk40) rfl ?_
  refine sk (OpT.storeBA rfl rfl (Opd.whole (Root.self (t := 7) (by decide)) rfl) rfl sz40 (by decide) (T1 rfl)) rfl ?_
  refine ng ?_
  refine AW.seq ?_
  refine sr ?_
  refine st (asI rfl) rfl ?_
  refine ng ?_
  refine AW.block ?_
  refine AW.loop (fun q : Nat × DSrc × DMask => q.1 ≤ x.length ∧ srcI (1000902 - 100 * (p.1 : Int) + 4 * (q.1 : Int)) q.2.1 ∧ okM q.2.2 = true) (fun q : Nat × DSrc × DMask => keep [(0, .box 111 (Kd.pair (Kd.slice (Kd.int .u8)) (Kd.pair (Kd.int .i64) Kd.u64)) q.2.1), (1, .cel (Kd.slice kField) x), (5, .own 40 kCard p.2.2), (6, .cel (Kd.int .i64) (p.1 : Int)), (7, .box 40 kCard (nm p.2.2.length, q.2.2)), (8, .cel (Kd.int .i64) (q.1 : Int))]) (fun q : Nat × DSrc × DMask => x.length - q.1) ((0, p.2.1, zM)) ⟨Nat.zero_le _, hI.1.le (by simp only []; omega), okM_zM⟩ (Kc 0 _ (Kb rfl rfl) <| Kc 1 _ (Kv rfl rfl) <| Kc 5 _ (Ko rfl rfl) <| Kc 6 _ (Kv rfl rfl) <| Kc 7 _ (Kb rfl rfl) <| Kc 8 _ (Kv rfl rfl) <| Kn) ?_
  intro q hJ -- hI
  refine AW.seq ?_
  refine sr ?_
  refine st (mvT rfl) rfl ?_
  refine st (mvT rfl) rfl ?_
  refine st (OpT.len (H rfl) (T1 rfl) el24) rfl ?_
  refine st (OpT.lss (H rfl) (T1 rfl) (T1 rfl)) rfl ?_
  refine ng ?_
  refine cd rfl (fun hc2 => ?_) fun hc2 => ?_
  ·
   obtain ⟨hc2, hc2'⟩ := pT hc2
   obtain ⟨f, hf, hfo⟩ := schemeF hx (i := q.1) (by omega)
   have htp := top_in hfo
   have hp1 := pick_src hJ.2.1 8
   have hp2 := pick_src hp1 (topF f + 1)
   have hpj := pick_in hp1 (topF f + 1)
   have hcd := okM_code hfo (v := (pick (pick q.2.1 8).2 (topF f + 1)).1) (by omega)
   have hjn := okM_join hJ.2.2 hcd
   refine AW.skip ?_
   refine AX.go ?_
   refine AW.seq ?_
   refine AW.block ?_
   refine sr ?_
   refine st (OpT.alias (H rfl) (by decide) (by decide)) rfl ?_
   refine sg (OpT.cr (ms := [.root 0, .flat]) (c_spec_l00Src_one _ _ (hJ.2.1.le (by omega))) (H rfl) (Ar (Root.ali rfl (by decide) (by decide)) rfl rfl rfl <| Af (I rfl) rfl rfl <| An) rfl (.inl rfl) rfl) (kc 27 rfl <| Kc 26 (.ali _) rfl <| kc4 23 22 21 20 rfl <| kb 0 rfl <| kc 1 rfl <| ko 5 rfl <| kc 6 rfl <| kb 7 rfl <| kc 8 rfl <| Kn) rfl ?_
   refine st (OpT.not (H rfl) (T1 rfl)) rfl ?_
   refine ng ?_
   refine cd rfl (fun hc3 => ?_) fun hc3 => ?_
   ·
    obtain ⟨hc3, hc3'⟩ := pT hc3
    refine dh fomo ?_
    refine d1 [7] (fun ve h => OpT.fieldAddrB (H rfl) (Root.self (t := 7) (by decide)) ((h _ (List.elem_iff.1 rfl)).trans rfl) (by decide) fd40_1 sz38 (by decide) sb40_1) rfl ?_
    refine d1 [7, 29] (fun ve h => OpT.loadPA (H rfl) (D1 h rfl) (.inl ⟨_, ((h _ (List.elem_iff.1 rfl)).trans rfl), rfl⟩) ag38 sz38) rfl ?_
    refine d1 [1] (fun ve h => OpT.move (A := .cel _ _) (.inl rfl) rfl (ok' rfl) (D1 h rfl) rfl) rfl ?_
    refine d1 [8] (fun ve h => OpT.move (A := .cel _ _) (.inl rfl) rfl (ok' rfl) (D1 h rfl) rfl) rfl ?_
    refine d1 [31, 32] (fun ve h => OpT.indexAddr (H rfl) (D1 h rfl) (D1 h rfl) el24 sz106 (by omega) hf) rfl ?_
    refine d1 [] (fun ve h => OpT.alias (H rfl) (by decide) (by decide)) rfl ?_
    refine d1 [1] (fun ve h => OpT.move (A := .cel _ _) (.inl rfl) rfl (ok' rfl) (D1 h rfl) rfl) rfl ?_
    refine d1 [8] (fun ve h => OpT.move (A := .cel _ _) (.inl rfl) rfl (ok' rfl) (D1 h rfl) rfl) rfl ?_
    refine d1 [35, 36] (fun ve h => OpT.indexAddr (H rfl) (D1 h rfl) (D1 h rfl) el24 sz106 (by omega) hf) rfl ?_
    refine d1 [37] (fun ve h => OpT.c1 (ms := [.flat]) (c_spec_l01Most _ hfo) (H rfl) (Af (D1 h rfl) rfl rfl <| An) rfl rfl) rfl ?_
    refine d1 [38] (fun ve h => OpT.add (H rfl) (D1 h rfl) (I rfl) (nw (by omega))) rfl ?_
    refine dwo (t := 0) [0, 34, 39] (fun ve h => crdo (ms := [.root 0, .flat]) (c_spec_l00Src_pick _ _ (hp1.le (by omega))) (H rfl) (Ar (Root.ali ((h _ (List.elem_iff.1 rfl)).trans rfl) (by decide) (by decide)) ((h _ (List.elem_iff.1 rfl)).trans rfl) rfl rfl <| Af (D1 h rfl) rfl rfl <| An) rfl rfl) rfl ?_
    refine d1 [33, 40] (fun ve h => OpT.c1 (ms := [.flat, .flat]) (c_codeI _ _ hfo (by omega)) (H rfl) (Af (D1 h rfl) rfl rfl <| Af (D1 h rfl) rfl rfl <| An) rfl rfl) rfl ?_
    refine d1 [30, 41] (fun ve h => OpT.c1 (ms := [.flat, .flat]) (c_spec_l01Join _ _) (H rfl) (Af (D1 h rfl) rfl rfl <| Af (D1 h rfl) rfl rfl <| An) rfl rfl) rfl ?_
    refine d1 [7] (fun ve h => OpT.fieldAddrB (H rfl) (Root.self (t := 7) (by decide)) ((h _ (List.elem_iff.1 rfl)).trans rfl) (by decide) fd40_1 sz38 (by decide) sb40_1) rfl ?_
    refine dm (t := 7) [7, 42, 43] (fun ve h => OpT.storeBA rfl rfl (D1 h rfl) ((h _ (List.elem_iff.1 rfl)).trans rfl) sz38 (by decide) (D1 h rfl)) rfl ?_
    refine dn ⟨by kernel_rfl, by kernel_rfl, ?_⟩
    refine AX.normal_block ?_
    refine AX.go ?_
    refine AW.region ?_
    refine st (mvT rfl) rfl ?_
    refine st (OpT.add (H rfl) (T1 rfl) (I rfl) (nw (by omega))) rfl ?_
    refine st (asT rfl) rfl ?_
    refine nn ?_
    first | exact AX.again ((q.1 + 1, (pick (pick q.2.1 8).2 (topF f + 1)).2, joinM q.2.2 (codeF f (pick (pick q.2.1 8).2 (topF f + 1)).1))) (by refine ⟨?_, ?_, ?_⟩ <;> simp only [] <;> first | omega | exact hp2.le (by omega) | exact hp1.le (by omega) | exact hjn | exact hJ.2.2) (by simp only []; omega) (Kc 0 _ (Kb rfl rfl) <| Kc 1 _ (Kv rfl rfl) <| Kc 5 _ (Ko rfl rfl) <| Kc 6 _ (Kv rfl rfl) <| Kc 7 _ (Kb rfl rfl) <| Kc 8 _ (Kv rfl (by simp only []; omega)) <| Kn) | exact AX.again ((q.1 + 1, (pick q.2.1 8).2, q.2.2)) (by refine ⟨?_, ?_, ?_⟩ <;> simp only [] <;> first | omega | exact hp2.le (by omega) | exact hp1.le (by omega) | exact hjn | exact hJ.2.2) (by simp only []; omega) (Kc 0 _ (Kb rfl rfl) <| Kc 1 _ (Kv rfl rfl) <| Kc 5 _ (Ko rfl rfl) <| Kc 6 _ (Kv rfl rfl) <| Kc 7 _ (Kb rfl rfl) <| Kc 8 _ (Kv rfl (by simp only []; omega)) <| Kn)
   ·
    obtain ⟨hc3, hc3'⟩ := pF hc3
    refine AW.skip ?_
    refine AX.normal_block ?_
    refine AX.go ?_
    refine AW.region ?_
    refine st (mvT rfl) rfl ?_
    refine st (OpT.add (H rfl) (T1 rfl) (I rfl) (nw (by omega))) rfl ?_
    refine st (asT rfl) rfl ?_
    refine nn ?_
    first | exact AX.again ((q.1 + 1, (pick (pick q.2.1 8).2 (topF f + 1)).2, joinM q.2.2 (codeF f (pick (pick q.2.1 8).2 (topF f + 1)).1))) (by refine ⟨?_, ?_, ?_⟩ <;> simp only [] <;> first | omega | exact hp2.le (by omega) | exact hp1.le (by omega) | exact hjn | exact hJ.2.2) (by simp only []; omega) (Kc 0 _ (Kb rfl rfl) <| Kc 1 _ (Kv rfl rfl) <| Kc 5 _ (Ko rfl rfl) <| Kc 6 _ (Kv rfl rfl) <| Kc 7 _ (Kb rfl rfl) <| Kc 8 _ (Kv rfl (by simp only []; omega)) <| Kn) | exact AX.again ((q.1 + 1, (pick q.2.1 8).2, q.2.2)) (by refine ⟨?_, ?_, ?_⟩ <;> simp only [] <;> first | omega | exact hp2.le (by omega) | exact hp1.le (by omega) | exact hjn | exact hJ.2.2) (by simp only []; omega) (Kc 0 _ (Kb rfl rfl) <| Kc 1 _ (Kv rfl rfl) <| Kc 5 _ (Ko rfl rfl) <| Kc 6 _ (Kv rfl rfl) <| Kc 7 _ (Kb rfl rfl) <| Kc 8 _ (Kv rfl (by simp only []; omega)) <| Kn)
  ·
   obtain ⟨hc2, hc2'⟩ := pF hc2
   have hp1 := pick_src hJ.2.1 8
   have hp2 := pick_src hp1 96
   have hpj := pick_in hp1 96
   have hbt := okM_one (h := (pick (pick q.2.1 8).2 96).1) (by omega)
   have hjn := okM_join hJ.2.2 hbt
   refine AW.exit ?_
   refine xT <| xT <| AX.exit_hit ?_
   refine AX.go ?_
   refine AW.seq ?_
   refine sr ?_
   refine st (OpT.alias (H rfl) (by decide) (by decide)) rfl ?_
   refine sg (OpT.cr (ms := [.root 0, .flat]) (c_spec_l00Src_one _ _ (hJ.2.1.le (by omega))) (H rfl) (Ar (Root.ali rfl (by decide) (by decide)) rfl rfl rfl <| Af (I rfl) rfl rfl <| An) rfl (.inl rfl) rfl) (kc 45 rfl <| Kc 44 (.ali _) rfl <| kc4 23 22 21 20 rfl <| kb 0 rfl <| kc 1 rfl <| ko 5 rfl <| kc 6 rfl <| kb 7 rfl <| kc 8 rfl <| Kn) rfl ?_
   refine ng ?_
   refine cd rfl (fun hc4 => ?_) fun hc4 => ?_
   ·
    obtain ⟨hc4, hc4'⟩ := pT hc4
    refine dh fomo ?_
    refine d1 [7] (fun ve h => OpT.fieldAddrB (H rfl) (Root.self (t := 7) (by decide)) ((h _ (List.elem_iff.1 rfl)).trans rfl) (by decide) fd40_1 sz38 (by decide) sb40_1) rfl ?_
    refine d1 [7, 46] (fun ve h => OpT.loadPA (H rfl) (D1 h rfl) (.inl ⟨_, ((h _ (List.elem_iff.1 rfl)).trans rfl), rfl⟩) ag38 sz38) rfl ?_
    refine d1 [] (fun ve h => OpT.alias (H rfl) (by decide) (by decide)) rfl ?_
    refine dwo (t := 0) [0, 48] (fun ve h => crdo (ms := [.root 0, .flat]) (c_spec_l00Src_pick _ _ (hp1.le (by omega))) (H rfl) (Ar (Root.ali ((h _ (List.elem_iff.1 rfl)).trans rfl) (by decide) (by decide)) ((h _ (List.elem_iff.1 rfl)).trans rfl) rfl rfl <| Af (I rfl) rfl rfl <| An) rfl rfl) rfl ?_
    refine d1 [49] (fun ve h => OpT.c1 (ms := [.flat]) (c_spec_l01Bit _ (by omega)) (H rfl) (Af (D1 h rfl) rfl rfl <| An) rfl rfl) rfl ?_
    refine d1 [47, 50] (fun ve h => OpT.c1 (ms := [.flat, .flat]) (c_spec_l01Join _ _) (H rfl) (Af (D1 h rfl) rfl rfl <| Af (D1 h rfl) rfl rfl <| An) rfl rfl) rfl ?_
    refine d1 [7] (fun ve h => OpT.fieldAddrB (H rfl) (Root.self (t := 7) (by decide)) ((h _ (List.elem_iff.1 rfl)).trans rfl) (by decide) fd40_1 sz38 (by decide) sb40_1) rfl ?_
    refine dm (t := 7) [7, 51, 52] (fun ve h => OpT.storeBA rfl rfl (D1 h rfl) ((h _ (List.elem_iff.1 rfl)).trans rfl) sz38 (by decide) (D1 h rfl)) rfl ?_
    refine dn ⟨by kernel_rfl, by kernel_rfl, ?_⟩
    refine AX.go ?_
    refine AW.region ?_
    refine st (OpT.alias (H rfl) (by decide) (by decide)) rfl ?_
    refine st (OpT.loadB (H rfl) (Root.self (t := 7) (by decide)) rfl ag40 sz40) rfl ?_
    refine st (OpT.buildSlice (H rfl) el26 zr40 sz40 rfl (by decide) zk40 (by decide) (Built.agg (T1 rfl) rfl (by decide) (sub_arr (by decide) ((.empty, (0, 0)) : ByteArray × (BitVec 64 × BitVec 64))) (Built.nil _))) rfl ?_
    refine sg (OpT.append (H rfl) (Root.ali rfl (by decide) (by decide)) rfl (Src.own (Root.self (t := 55) (by decide)) rfl) (by decide) el26 zr40 rfl sz40 by40 (by decide) (by simp only [List.length_set, List.length_replicate]; omega)) (ko 56 rfl <| ko 55 rfl <| ka 54 rfl <| kb 7 rfl <| Kc 52 (.pel _ _ _ _ _ _ _) rfl <| ka 51 rfl <| ka 50 rfl <| kc 49 rfl <| kb 0 rfl <| Kc 48 (.ali _) rfl <| ka 47 rfl <| Kc 46 (.pel _ _ _ _ _ _ _) rfl <| kc 45 rfl <| Kc 44 (.ali _) rfl <| kc4 23 22 21 20 rfl <| kc3 1 6 8 rfl <| Kn) rfl ?_
    refine sg (OpT.take (.inl rfl) rfl (ok' rfl) (Root.self (by decide)) rfl rfl (by decide)) (ko 5 rfl <| ko 55 rfl <| ka 54 rfl <| kb 7 rfl <| Kc 52 (.pel _ _ _ _ _ _ _) rfl <| ka 51 rfl <| ka 50 rfl <| kc 49 rfl <| kb 0 rfl <| Kc 48 (.ali _) rfl <| ka 47 rfl <| Kc 46 (.pel _ _ _ _ _ _ _) rfl <| kc 45 rfl <| Kc 44 (.ali _) rfl <| kc4 23 22 21 20 rfl <| kc3 1 6 8 rfl <| Kn) rfl ?_
    refine nn ?_
    refine AX.normal_block ?_
    refine AX.go ?_
    refine AW.region ?_
    refine st (mvT rfl) rfl ?_
    refine st (OpT.sub (H rfl) (T1 rfl) (I rfl) (nw (by omega))) rfl ?_
    refine st (asT rfl) rfl ?_
    refine nn ?_
    first | exact AX.again ((p.1 - 1, (pick (pick q.2.1 8).2 96).2, p.2.2 ++ [(nm p.2.2.length, joinM q.2.2 (bitM (pick (pick q.2.1 8).2 96).1))])) (by refine ⟨?_, ?_, ?_⟩ <;> simp only [] <;> first | exact hp2.le (by omega) | exact hp1.le (by omega) | (simp only [List.length_append, List.length_cons, List.length_nil]; omega) | exact dkI_add hI.2.2 rfl hjn | exact dkI_add hI.2.2 rfl hJ.2.2) (by simp only []; omega) (Kc 0 _ (Kb rfl rfl) <| Kc 1 _ (Kv rfl rfl) <| Kc 5 _ (Ko rfl rfl) <| Kc 6 _ (Kv rfl (by simp only []; omega)) <| Kn) | exact AX.again ((p.1 - 1, (pick q.2.1 8).2, p.2.2 ++ [(nm p.2.2.length, q.2.2)])) (by refine ⟨?_, ?_, ?_⟩ <;> simp only [] <;> first | exact hp2.le (by omega) | exact hp1.le (by omega) | (simp only [List.length_append, List.length_cons, List.length_nil]; omega) | exact dkI_add hI.2.2 rfl hjn | exact dkI_add hI.2.2 rfl hJ.2.2) (by simp only []; omega) (Kc 0 _ (Kb rfl rfl) <| Kc 1 _ (Kv rfl rfl) <| Kc 5 _ (Ko rfl rfl) <| Kc 6 _ (Kv rfl (by simp only []; omega)) <| Kn)
   ·
    obtain ⟨hc4, hc4'⟩ := pF hc4
    refine AW.skip ?_
    refine AX.go ?_
    refine AW.region ?_
    refine st (OpT.alias (H rfl) (by decide) (by decide)) rfl ?_
    refine st (OpT.loadB (H rfl) (Root.self (t := 7) (by decide)) rfl ag40 sz40) rfl ?_
    refine st (OpT.buildSlice (H rfl) el26 zr40 sz40 rfl (by decide) zk40 (by decide) (Built.agg (T1 rfl) rfl (by decide) (sub_arr (by decide) ((.empty, (0, 0)) : ByteArray × (BitVec 64 × BitVec 64))) (Built.nil _))) rfl ?_
    refine sg (OpT.append (H rfl) (Root.ali rfl (by decide) (by decide)) rfl (Src.own (Root.self (t := 55) (by decide)) rfl) (by decide) el26 zr40 rfl sz40 by40 (by decide) (by simp only [List.length_set, List.length_replicate]; omega)) (ko 56 rfl <| ko 55 rfl <| ka 54 rfl <| kc 45 rfl <| Kc 44 (.ali _) rfl <| kc4 23 22 21 20 rfl <| kb 0 rfl <| kc2 1 6 rfl <| kb 7 rfl <| kc 8 rfl <| Kn) rfl ?_
    refine sg (OpT.take (.inl rfl) rfl (ok' rfl) (Root.self (by decide)) rfl rfl (by decide)) (ko 5 rfl <| ko 55 rfl <| ka 54 rfl <| kc 45 rfl <| Kc 44 (.ali _) rfl <| kc4 23 22 21 20 rfl <| kb 0 rfl <| kc2 1 6 rfl <| kb 7 rfl <| kc 8 rfl <| Kn) rfl ?_
    refine nn ?_
    refine AX.normal_block ?_
    refine AX.go ?_
    refine AW.region ?_
    refine st (mvT rfl) rfl ?_
    refine st (OpT.sub (H rfl) (T1 rfl) (I rfl) (nw (by omega))) rfl ?_
    refine st (asT rfl) rfl ?_
    refine nn ?_
    first | exact AX.again ((p.1 - 1, (pick (pick q.2.1 8).2 96).2, p.2.2 ++ [(nm p.2.2.length, joinM q.2.2 (bitM (pick (pick q.2.1 8).2 96).1))])) (by refine ⟨?_, ?_, ?_⟩ <;> simp only [] <;> first | exact hp2.le (by omega) | exact hp1.le (by omega) | (simp only [List.length_append, List.length_cons, List.length_nil]; omega) | exact dkI_add hI.2.2 rfl hjn | exact dkI_add hI.2.2 rfl hJ.2.2) (by simp only []; omega) (Kc 0 _ (Kb rfl rfl) <| Kc 1 _ (Kv rfl rfl) <| Kc 5 _ (Ko rfl rfl) <| Kc 6 _ (Kv rfl (by simp only []; omega)) <| Kn) | exact AX.again ((p.1 - 1, (pick q.2.1 8).2, p.2.2 ++ [(nm p.2.2.length, q.2.2)])) (by refine ⟨?_, ?_, ?_⟩ <;> simp only [] <;> first | exact hp2.le (by omega) | exact hp1.le (by omega) | (simp only [List.length_append, List.length_cons, List.length_nil]; omega) | exact dkI_add hI.2.2 rfl hjn | exact dkI_add hI.2.2 rfl hJ.2.2) (by simp only []; omega) (Kc 0 _ (Kb rfl rfl) <| Kc 1 _ (Kv rfl rfl) <| Kc 5 _ (Ko rfl rfl) <| Kc 6 _ (Kv rfl (by simp only []; omega)) <| Kn)
 ·
  obtain ⟨hc1, hc1'⟩ := pF hc1
  refine AW.exit ?_
  refine xT <| xT <| AX.exit_hit ?_
  refine AX.go ?_
  refine sr ?_
  refine st (OpT.alias (H rfl) (by decide) (by decide)) rfl ?_
  refine sg (OpT.take (.inl rfl) rfl (ok' rfl) (Root.ali rfl (by decide) (by decide)) rfl rfl (by decide)) (ko 4 rfl <| kc2 13 12 rfl <| kb 0 rfl <| kc2 1 6 rfl <| Kn) rfl ?_
  refine ng ?_
  refine AW.ret ?_
  refine AX.freeze (t := 4) rfl ?_
  refine AX.pr (kc3 4 13 12 rfl <| kb 0 rfl <| kc2 1 6 rfl <| Kn) ?_
  refine AX.vw (vclo (A := fun x : List (ByteArray × (BitVec 64 × BitVec 64)) => .cel (Kd.slice kCard) x) (p := fun x => (deckOK x ∧ x.length ≤ 8) ∧ dkI x) _ ⟨⟨dkI_deck hI.2.2 (by omega), by omega⟩, hI.2.2⟩ 4 9097 rfl rfl (by decide) rfl) fun _ => ?_
  refine AX.pr (Kc 4 (.deep _) rfl <| kc2 13 12 rfl <| kb 0 rfl <| kc2 1 6 rfl <| Kn) ?_
  exact AX.rt (rs := [.tmp 4]) (ts := [some 4]) (.inl rfl) rfl (ROs.cons (RO.tmp (At.self (by decide)) (Ke rfl rfl) rfl) <| ROs.nil) (by decide) OutsOK.nil

/-- spec.A2Deck -/
theorem c_spec_A2Deck (l : List Int) (x : List DField) (h : (∀ b ∈ l, 0 ≤ b ∧ b ≤ 255) ∧ l.length ≤ 1000000) (hx : schemeOK x) : AC Tryz.prog 8 [.cel (Kd.slice (Kd.int .u8)) l, .cel (Kd.slice kField) x] [.deep (OSh.ex (fun x : List (ByteArray × (BitVec 64 × BitVec 64)) => .cel (Kd.slice kCard) x) (fun x => (deckOK x ∧ x.length ≤ 8) ∧ dkI x))] [] := by
 refine acI (N := 9) Tryz.func8 (Nat.le_of_ble_eq_true rfl) rfl fun w0 hd s0 ar => ?_
 refine AW.to (kc2 0 1 rfl <| Kn) ?_
 refine sr ?_
 refine st (OpT.move (A := .cel _ _) (.inr rfl) rfl (ok' rfl) (Opd.nilslice kCard) rfl) rfl ?_
 refine ng ?_
 refine sr ?_
 refine st (mvT rfl) rfl ?_
 refine st (OpT.c1 (ms := [.flat]) (c_spec_l00From _) (H rfl) (Af (T1 rfl) rfl rfl <| An) rfl rfl) rfl ?_
 refine st (mvT rfl) rfl ?_
 refine sg (OpT.crn (ms := [.root 6, .flat]) (c_spec_l02Drawn _ _ ⟨h.1, h.2, Int.le_refl 0, (by show (0 : Int) ≤ 1000000; omega)⟩ hx) (H rfl) (Ar (O := .any) (Root.self (t := 6) (by decide)) rfl rfl rfl <| Af (T1 rfl) rfl rfl <| An) rfl rfl (.inl rfl) rfl) (Kc 8 (.deep _) rfl <| kc4 7 5 4 0 rfl <| kc 1 rfl <| Kn) rfl ?_
 refine sg (OpT.take (.inl rfl) rfl (ok' rfl) (Root.self (by decide)) rfl rfl (by decide)) (Kc 4 (.deep _) rfl <| kc4 7 5 0 1 rfl <| Kn) rfl ?_
 refine ng ?_
 refine AW.ret ?_
 exact AX.rt (rs := [.tmp 4]) (ts := [some 4]) (.inl rfl) rfl (ROs.cons (RO.tmp (At.self (by decide)) (Ke rfl rfl) rfl) <| ROs.nil) (by decide) OutsOK.nil
end Go.Proofs.YtmmjcpiikdcldaaGreatDoor.VL
