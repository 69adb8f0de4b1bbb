/- Proved here: what some functions of the program take and give: walks with the words of VA..VQ. Printed by program. -/
import Derived.Test.YtfnkphllkbkfaaaGreatDoorWT
import Derived.Test.YtfnkphllkbkfaaaGreatDoorBpa
import Derived.Test.YtfnkphllkbkfaaaGreatDoorWA
import Derived.Test.YtfnkphllkbkfaaaGreatDoorWF
set_option linter.unusedVariables false
set_option linter.unusedSimpArgs false
set_option maxRecDepth 4000
namespace Go.Proofs.YtfnkphllkbkfaaaGreatDoor.VL
open Go
/-- spec.l06Ok -/
theorem c_spec_l06Ok (x : List DKnot) (hn : okKS x) : AC Tryz.prog 18 [.cel (Kd.slice kKnot) x] [.cel Kd.bool (tt (treeOK x))] [] := by
 refine acI (N := 50) Tryz.func18 (Nat.le_of_ble_eq_true rfl) rfl fun w0 hd s0 ar => ?_
 refine AW.to (kc 0 rfl <| Kn) ?_
 refine AW.fact (fun a w hr => (ok_slice (R_ok (t := 0) rfl hr)).2) (fun hl0 => ?_)
 refine sr ?_
 refine st (asB rfl) rfl ?_
 refine ng ?_
 refine AW.seq ?_
 refine sr ?_
 refine st (mvT rfl) rfl ?_
 refine st (OpT.len (H rfl) (T1 rfl) el34) rfl ?_
 refine st (OpT.c1 (ms := [.flat, .flat, .flat]) (c_spec_l00In _ _ _) (H rfl) (Af (T1 rfl) rfl rfl <| Af (I rfl) rfl rfl <| Af (I rfl) rfl rfl <| An) rfl rfl) rfl ?_
 refine st (OpT.not (H rfl) (T1 rfl)) rfl ?_
 refine ng ?_
 refine cd rfl (fun hc1 => ?_) fun hc1 => ?_
 ·
  obtain ⟨hc1, hc1'⟩ := pT hc1
  simp only [inb, Bool.and_eq_true, Bool.and_eq_false_iff, decide_eq_true_eq, decide_eq_false_iff_not] at hc1'
  refine sr ?_
  refine st (asB rfl) rfl ?_
  refine ng ?_
  refine AW.ret ?_
  refine rT ?_
  exact rt1 rfl (.inl rfl) (by first | exact tree_no ha (by omega) (mt (knot_leaf (by omega)).1 (tt_false.1 (by simpa using hc4))) | exact tree_no ha (by omega) (mt (knot_ask (by omega)).1 (tt_false.1 (by simpa using hc5))) | exact tree_count hI0.2 (by omega) hv hc7' | exact tree_yes (by omega) hI0.2 (all_end hI.2 (by omega)) | exact tree_len (by omega))
 ·
  obtain ⟨hc1, hc1'⟩ := pF hc1
  simp only [inb, Bool.and_eq_true, Bool.and_eq_false_iff, decide_eq_true_eq, decide_eq_false_iff_not] at hc1'
  have h00 : (List.replicate x.length (0 : Int))[Int.toNat 0]? = some 0 := by (show (List.replicate x.length (0 : Int))[0]? = some 0; rw [List.getElem?_replicate, if_pos (by omega)])
  refine AW.skip ?_
  refine AX.go ?_
  refine sr ?_
  refine st (mvT rfl) rfl ?_
  refine st (OpT.len (H rfl) (T1 rfl) el34) rfl ?_
  refine st (OpT.make (H rfl) (T1 rfl) (T1 rfl) el51 zr2 sz2 by2 (by decide) zk2 (by omega) (by omega)) rfl ?_
  refine sg (OpT.take (.inl rfl) rfl (ok' rfl) (Root.self (by decide)) rfl rfl (by decide)) (ko 3 rfl <| kc4 11 10 9 8 rfl <| kc4 7 6 2 0 rfl <| Kn) rfl ?_
  refine ng ?_
  refine sr ?_
  refine st (OpT.alias (H rfl) (by decide) (by decide)) rfl ?_
  refine st (OpT.indexAddrO (H rfl) (Root.ali rfl (by decide) (by decide)) rfl (by decide) (I rfl) el51 sz2 (by omega) (by assumption)) rfl ?_
  refine sk (OpT.storeO rfl rfl (T1 rfl) rfl (by assumption) sz2 rfl (I rfl)) rfl ?_
  refine ng ?_
  refine AW.seq ?_
  refine sr ?_
  refine st (asI rfl) rfl ?_
  refine ng ?_
  refine AW.block ?_
  refine AW.loop (fun z : Nat => z ≤ x.length ∧ ∀ i, i < z → knotI x i) (fun z : Nat => keep [(0, .cel (Kd.slice kKnot) x), (3, .own 2 (Kd.int .i64) (cntL 1 x.length (nexts (x.take z)))), (4, .cel (Kd.int .i64) (z : Int))]) (fun z : Nat => x.length - z) (0) ⟨Nat.zero_le _, all_none⟩ (Kc 0 _ (Kv rfl rfl) <| Kc 3 _ (Ko rfl (cntL_one (by omega))) <| Kc 4 _ (Kv rfl rfl) <| Kn) ?_
  intro z hI
  refine AW.seq ?_
  refine sr ?_
  refine st (mvT rfl) rfl ?_
  refine st (mvT rfl) rfl ?_
  refine st (OpT.len (H rfl) (T1 rfl) el34) rfl ?_
  refine st (OpT.lss (H rfl) (T1 rfl) (T1 rfl)) rfl ?_
  refine ng ?_
  refine cd rfl (fun hc2 => ?_) fun hc2 => ?_
  ·
   obtain ⟨hc2, hc2'⟩ := pT hc2
   obtain ⟨a, ha⟩ := getI (x := x) (z := z) (by omega)
   refine AW.skip ?_
   refine AX.go ?_
   refine AW.seq ?_
   refine AW.block ?_
   refine sr ?_
   refine st (mvT rfl) rfl ?_
   refine st (mvT rfl) rfl ?_
   refine st (OpT.indexAddr (H rfl) (T1 rfl) (T1 rfl) el34 sz66 (by omega) (by assumption)) rfl ?_
   refine st (OpT.fieldAddr (H rfl) (T1 rfl) fd66_0 sz42 (by decide) sb66_0) rfl ?_
   refine st (OpT.load (H rfl) (T1 rfl) ag42 rfl) rfl ?_
   refine st (OpT.eql (H rfl) (T1 rfl) (I rfl)) rfl ?_
   refine ng ?_
   refine cd rfl (fun hc3 => ?_) fun hc3 => ?_
   ·
    obtain ⟨hc3, hc3'⟩ := pT hc3
    refine sr ?_
    refine st (mvT rfl) rfl ?_
    refine st (mvT rfl) rfl ?_
    refine st (OpT.indexAddr (H rfl) (T1 rfl) (T1 rfl) el34 sz66 (by omega) (by assumption)) rfl ?_
    refine st (OpT.c1 (ms := [.flat]) (c_spec_l06Leaf _) (H rfl) (Af (T1 rfl) rfl rfl <| An) rfl rfl) rfl ?_
    refine st (OpT.not (H rfl) (T1 rfl)) rfl ?_
    refine ng ?_
    refine cd rfl (fun hc4 => ?_) fun hc4 => ?_
    ·
     obtain ⟨hc4, hc4'⟩ := pT hc4
     refine sr ?_
     refine st (asB rfl) rfl ?_
     refine ng ?_
     refine AW.ret ?_
     refine rK <| rT <| rT <| rK <| rT ?_
     exact rt1 rfl (.inl rfl) (by first | exact tree_no ha (by omega) (mt (knot_leaf (by omega)).1 (tt_false.1 (by simpa using hc4))) | exact tree_no ha (by omega) (mt (knot_ask (by omega)).1 (tt_false.1 (by simpa using hc5))) | exact tree_count hI0.2 (by omega) hv hc7' | exact tree_yes (by omega) hI0.2 (all_end hI.2 (by omega)) | exact tree_len (by omega))
    ·
     obtain ⟨hc4, hc4'⟩ := pF hc4
     refine AW.skip ?_
     refine AX.normal_block ?_
     refine AX.go ?_
     refine AW.region ?_
     refine st (mvT rfl) rfl ?_
     refine st (OpT.add (H rfl) (T1 rfl) (I rfl) (nw (by omega))) rfl ?_
     refine st (asT rfl) rfl ?_
     refine nn ?_
     exact AX.again (z + 1) ⟨by omega, all_step hI.2 ((knotI_iff ha).2 (by first | exact (knot_leaf (by omega)).2 (tt_iff.1 (by simpa using hc4)) | exact (knot_ask (by omega)).2 (tt_iff.1 (by simpa using hc5))))⟩ (by omega) (Kc 0 _ (Kv rfl rfl) <| Kc 3 _ (Ko rfl (by first | exact cnt_leaf ha (tt_iff.1 (by simpa using hc4)) | exact cnt_ask ha (tt_iff.1 (by simpa using hc5)))) <| Kc 4 _ (Kv rfl (by omega)) <| Kn)
   ·
    obtain ⟨hc3, hc3'⟩ := pF hc3
    refine sr ?_
    refine st (mvT rfl) rfl ?_
    refine st (mvT rfl) rfl ?_
    refine st (OpT.indexAddr (H rfl) (T1 rfl) (T1 rfl) el34 sz66 (by omega) (by assumption)) rfl ?_
    refine st (mvT rfl) rfl ?_
    refine st (OpT.alias (H rfl) (by decide) (by decide)) rfl ?_
    refine sg (OpT.cr (ms := [.flat, .flat, .root 3]) (c_spec_l06Asker a (z : Int) 1 x.length (nexts (x.take z)) (by have := nexts_lenK hn (z := z) (by omega); have := (hn.2 a (mem_getI ha)).2.1; omega)) (H rfl) (Af (T1 rfl) rfl rfl <| Af (T1 rfl) rfl rfl <| Ar (Root.ali rfl (by decide) (by decide)) rfl rfl rfl <| An) rfl (.inl rfl) rfl) (kc 37 rfl <| Kc 36 (.ali _) rfl <| kc4 35 34 33 32 rfl <| kc4 26 25 24 23 rfl <| kc4 22 21 18 17 rfl <| kc3 16 15 0 rfl <| ko 3 rfl <| kc 4 rfl <| Kn) rfl ?_
    refine st (OpT.not (H rfl) (T1 rfl)) rfl ?_
    refine ng ?_
    refine cd rfl (fun hc5 => ?_) fun hc5 => ?_
    ·
     obtain ⟨hc5, hc5'⟩ := pT hc5
     refine sr ?_
     refine st (asB rfl) rfl ?_
     refine ng ?_
     refine AW.ret ?_
     refine rK <| rT <| rT <| rK <| rT ?_
     exact rt1 rfl (.inl rfl) (by first | exact tree_no ha (by omega) (mt (knot_leaf (by omega)).1 (tt_false.1 (by simpa using hc4))) | exact tree_no ha (by omega) (mt (knot_ask (by omega)).1 (tt_false.1 (by simpa using hc5))) | exact tree_count hI0.2 (by omega) hv hc7' | exact tree_yes (by omega) hI0.2 (all_end hI.2 (by omega)) | exact tree_len (by omega))
    ·
     obtain ⟨hc5, hc5'⟩ := pF hc5
     refine AW.skip ?_
     refine AX.normal_block ?_
     refine AX.go ?_
     refine AW.region ?_
     refine st (mvT rfl) rfl ?_
     refine st (OpT.add (H rfl) (T1 rfl) (I rfl) (nw (by omega))) rfl ?_
     refine st (asT rfl) rfl ?_
     refine nn ?_
     exact AX.again (z + 1) ⟨by omega, all_step hI.2 ((knotI_iff ha).2 (by first | exact (knot_leaf (by omega)).2 (tt_iff.1 (by simpa using hc4)) | exact (knot_ask (by omega)).2 (tt_iff.1 (by simpa using hc5))))⟩ (by omega) (Kc 0 _ (Kv rfl rfl) <| Kc 3 _ (Ko rfl (by first | exact cnt_leaf ha (tt_iff.1 (by simpa using hc4)) | exact cnt_ask ha (tt_iff.1 (by simpa using hc5)))) <| Kc 4 _ (Kv rfl (by omega)) <| Kn)
  ·
   obtain ⟨hc2, hc2'⟩ := pF hc2
   refine AW.exit ?_
   refine xT <| xT <| AX.exit_hit ?_
   refine AX.go ?_
   refine AW.seq ?_
   refine sr ?_
   refine st (asI rfl) rfl ?_
   refine ng ?_
   refine AW.block ?_
   obtain rfl : z = x.length := by omega
   have hI0 := hI
   refine AW.loop (fun j : Nat => j ≤ x.length ∧ ∀ i, i < j → (cntL 1 x.length (nexts x))[i]? = some 1) (fun j : Nat => keep [(3, .own 2 (Kd.int .i64) (cntL 1 x.length (nexts x))), (5, .cel (Kd.int .i64) (j : Int))]) (fun j : Nat => x.length - j) (0) ⟨Nat.zero_le _, all_none⟩ (Kc 3 _ (Ko rfl (by rw [List.take_length])) <| Kc 5 _ (Kv rfl rfl) <| Kn) ?_
   intro j hI
   refine AW.seq ?_
   refine sr ?_
   refine st (mvT rfl) rfl ?_
   refine st (OpT.alias (H rfl) (by decide) (by decide)) rfl ?_
   refine st (OpT.lenO (H rfl) (Root.ali rfl (by decide) (by decide)) rfl el51) rfl ?_
   refine st (OpT.lss (H rfl) (T1 rfl) (T1 rfl)) rfl ?_
   refine ng ?_
   refine cd rfl (fun hc6 => ?_) fun hc6 => ?_
   ·
    obtain ⟨hc6, hc6'⟩ := pT hc6
    simp only [cntL_len] at hc6 hc6'
    obtain ⟨v, hv⟩ := getI (x := cntL 1 x.length (nexts x)) (z := j) (by rw [cntL_len]; omega)
    refine AW.skip ?_
    refine AX.go ?_
    refine AW.seq ?_
    refine AW.block ?_
    refine sr ?_
    refine st (OpT.alias (H rfl) (by decide) (by decide)) rfl ?_
    refine st (mvT rfl) rfl ?_
    refine st (OpT.indexAddrO (H rfl) (Root.ali rfl (by decide) (by decide)) rfl (by decide) (T1 rfl) el51 sz2 (by omega) (by assumption)) rfl ?_
    refine st (OpT.loadP (H rfl) (T1 rfl) (.inr ⟨_, _, rfl, (by assumption)⟩) ag2 rfl) rfl ?_
    refine st (OpT.neq (H rfl) (T1 rfl) (I rfl)) rfl ?_
    refine ng ?_
    refine cd rfl (fun hc7 => ?_) fun hc7 => ?_
    ·
     obtain ⟨hc7, hc7'⟩ := pT hc7
     refine sr ?_
     refine st (asB rfl) rfl ?_
     refine ng ?_
     refine AW.ret ?_
     refine rK <| rT <| rT <| rK <| rT ?_
     exact rt1 rfl (.inl rfl) (by first | exact tree_no ha (by omega) (mt (knot_leaf (by omega)).1 (tt_false.1 (by simpa using hc4))) | exact tree_no ha (by omega) (mt (knot_ask (by omega)).1 (tt_false.1 (by simpa using hc5))) | exact tree_count hI0.2 (by omega) hv hc7' | exact tree_yes (by omega) hI0.2 (all_end hI.2 (by omega)) | exact tree_len (by omega))
    ·
     obtain ⟨hc7, hc7'⟩ := pF hc7
     refine AW.skip ?_
     refine AX.normal_block ?_
     refine AX.go ?_
     refine AW.region ?_
     refine st (mvT rfl) rfl ?_
     refine st (OpT.add (H rfl) (T1 rfl) (I rfl) (nw (by omega))) rfl ?_
     refine st (asT rfl) rfl ?_
     refine nn ?_
     exact AX.again (j + 1) ⟨by omega, all_step hI.2 (by rw [toN] at hv; rw [hv, hc7'])⟩ (by omega) (Kc 3 _ (Ko rfl rfl) <| Kc 5 _ (Kv rfl (by omega)) <| Kn)
   ·
    obtain ⟨hc6, hc6'⟩ := pF hc6
    simp only [cntL_len] at hc6 hc6'
    refine AW.exit ?_
    refine xT <| xT <| AX.exit_hit ?_
    refine AX.go ?_
    refine sr ?_
    refine st (asB rfl) rfl ?_
    refine ng ?_
    refine AW.ret ?_
    exact rt1 rfl (.inl rfl) (by first | exact tree_no ha (by omega) (mt (knot_leaf (by omega)).1 (tt_false.1 (by simpa using hc4))) | exact tree_no ha (by omega) (mt (knot_ask (by omega)).1 (tt_false.1 (by simpa using hc5))) | exact tree_count hI0.2 (by omega) hv hc7' | exact tree_yes (by omega) hI0.2 (all_end hI.2 (by omega)) | exact tree_len (by omega))

/-- impl.isTree$1 -/
theorem c_impl_isTree_1 (v : Int) : AC Tryz.prog 48 [.cel (Kd.int .i64) v] [.cel Kd.bool (v != 1)] [] := by
 refine acI (N := 5) Tryz.func48 (Nat.le_of_ble_eq_true rfl) rfl fun w0 hd s0 ar => ?_
 refine AW.to (kc 0 rfl <| Kn) ?_
 refine sr ?_
 refine st (asB rfl) rfl ?_
 refine ng ?_
 refine sr ?_
 refine st (mvT rfl) rfl ?_
 refine st (OpT.neq (H rfl) (T1 rfl) (I rfl)) rfl ?_
 refine st (asT rfl) rfl ?_
 refine ng ?_
 refine AW.ret ?_
 exact rt1 rfl (.inl rfl) rfl

/-- slices.IndexFunc[[]int,int] -/
theorem c_slices_IndexFunc_int_int (x : List Int) : AC Tryz.prog 63 [.cel (Kd.slice (Kd.int .i64)) x, .clo 48 Kd.unit ()] [.cel (Kd.int .i64) (idx1 x)] [] := by
 refine acI (N := 19) Tryz.func63 (Nat.le_of_ble_eq_true rfl) rfl fun w0 hd s0 ar => ?_
 refine AW.to (kc 0 rfl <| Kc 1 (.clo _ _ _) rfl <| Kn) ?_
 refine AW.fact (fun a w hr => (ok_slice (R_ok (t := 0) rfl hr)).2) (fun hl0 => ?_)
 refine sr ?_
 refine st (asI rfl) rfl ?_
 refine ng ?_
 refine AW.seq ?_
 refine sr ?_
 refine st (mvT rfl) rfl ?_
 refine st (OpT.len (H rfl) (T1 rfl) el91) rfl ?_
 refine st (mvI rfl) rfl ?_
 refine ng ?_
 refine AW.block ?_
 refine AW.loop (fun z : Nat => z ≤ x.length ∧ ∀ i, i < z → x[i]? = some 1) (fun z : Nat => keep [(0, .cel (Kd.slice (Kd.int .i64)) x), (1, .clo 48 Kd.unit ()), (7, .cel (Kd.int .i64) ((x.length : Nat) : Int)), (8, .cel (Kd.int .i64) (z : Int))]) (fun z : Nat => x.length - z) (0) ⟨Nat.zero_le _, all_none⟩ (Kc 0 _ (Kv rfl rfl) <| Kc 1 _ (rfl) <| Kc 7 _ (Kv rfl rfl) <| Kc 8 _ (Kv rfl rfl) <| Kn) ?_
 intro z hI
 refine sr ?_
 refine st (OpT.lss (H rfl) (T1 rfl) (T1 rfl)) rfl ?_
 refine ng ?_
 refine AW.seq ?_
 refine cd rfl (fun hc1 => ?_) fun hc1 => ?_
 ·
  obtain ⟨hc1, hc1'⟩ := pT hc1
  obtain ⟨v, hv⟩ := getI (x := x) (z := z) (by omega)
  refine AW.skip ?_
  refine AX.go ?_
  refine AW.seq ?_
  refine AW.block ?_
  refine sr ?_
  refine st (mvT rfl) rfl ?_
  refine st (asT rfl) rfl ?_
  refine ng ?_
  refine sr ?_
  refine st (OpT.move (A := .clo _ _ _) (.inl rfl) rfl (ok' rfl) (T1 rfl) rfl) rfl ?_
  refine st (mvT rfl) rfl ?_
  refine st (mvT rfl) rfl ?_
  refine st (OpT.indexAddr (H rfl) (T1 rfl) (T1 rfl) el91 sz3 (by omega) (by assumption)) rfl ?_
  refine st (OpT.load (H rfl) (T1 rfl) ag3 rfl) rfl ?_
  refine st (OpT.v1 (ms := [.flat]) (T1 rfl) (c_impl_isTree_1 _) (H rfl) (Af (T1 rfl) rfl rfl <| An) rfl rfl) rfl ?_
  refine ng ?_
  refine cd rfl (fun hc2 => ?_) fun hc2 => ?_
  ·
   obtain ⟨hc2, hc2'⟩ := pT hc2
   refine sr ?_
   refine st (mvT rfl) rfl ?_
   refine st (asT rfl) rfl ?_
   refine ng ?_
   refine AW.ret ?_
   refine rK <| rT <| rT <| rK <| rT ?_
   exact rt1 rfl (.inl rfl) (by first | exact idx1_at hI.2 hv hc2' | exact idx1_end hI.2 (by omega))
  ·
   obtain ⟨hc2, hc2'⟩ := pF hc2
   refine AW.skip ?_
   refine AX.normal_block ?_
   refine AX.go ?_
   refine AW.region ?_
   refine st (OpT.add (H rfl) (T1 rfl) (I rfl) (nw (by omega))) rfl ?_
   refine st (mvT rfl) rfl ?_
   refine nn ?_
   exact AX.again (z + 1) ⟨by omega, all_step hI.2 (by rw [toN] at hv; rw [hv, hc2'])⟩ (by omega) (Kc 0 _ (Kv rfl rfl) <| Kc 1 _ (rfl) <| Kc 7 _ (Kv rfl rfl) <| Kc 8 _ (Kv rfl (by omega)) <| Kn)
 ·
  obtain ⟨hc1, hc1'⟩ := pF hc1
  refine AW.exit ?_
  refine xT <| xT <| AX.exit_hit ?_
  refine AX.go ?_
  refine sr ?_
  refine st (asI rfl) rfl ?_
  refine ng ?_
  refine AW.ret ?_
  exact rt1 rfl (.inl rfl) (by first | exact idx1_at hI.2 hv hc2' | exact idx1_end hI.2 (by omega))

/-- slices.ContainsFunc[[]int,int] -/
theorem c_slices_ContainsFunc_int_int (x : List Int) : AC Tryz.prog 47 [.cel (Kd.slice (Kd.int .i64)) x, .clo 48 Kd.unit ()] [.cel Kd.bool (tt (¬ all1 x))] [] := by
 refine acI (N := 9) Tryz.func47 (Nat.le_of_ble_eq_true rfl) rfl fun w0 hd s0 ar => ?_
 refine AW.to (kc 0 rfl <| Kc 1 (.clo _ _ _) rfl <| Kn) ?_
 refine sr ?_
 refine st (asB rfl) rfl ?_
 refine ng ?_
 refine sr ?_
 refine st (mvT rfl) rfl ?_
 refine st (OpT.move (A := .clo _ _ _) (.inl rfl) rfl (ok' rfl) (T1 rfl) rfl) rfl ?_
 refine st (OpT.c1 (ms := [.flat, .flat]) (c_slices_IndexFunc_int_int _) (H rfl) (Af (T1 rfl) rfl rfl <| Af (T1 rfl) rfl rfl <| An) rfl rfl) rfl ?_
 refine st (OpT.geq (H rfl) (T1 rfl) (I rfl)) rfl ?_
 refine st (asT rfl) rfl ?_
 refine ng ?_
 refine AW.ret ?_
 exact rt1 rfl (.inl rfl) (idx1_iff x)
end Go.Proofs.YtfnkphllkbkfaaaGreatDoor.VL
