/- Proved here: what some functions of the program take and give: walks with the words of VA..VQ. Printed by program. -/
import Derived.Test.YtfnkphllkbkfaaaGreatDoorWT
import Derived.Test.YtfnkphllkbkfaaaGreatDoorBpa
set_option linter.unusedVariables false
set_option linter.unusedSimpArgs false
set_option maxRecDepth 4000
namespace Go.Proofs.YtfnkphllkbkfaaaGreatDoor.VL
open Go
/-- spec.l06Find -/
theorem c_spec_l06Find (x : List Int) (v : Int) : AC Tryz.prog 42 [.cel (Kd.slice (Kd.int .i64)) x, .cel (Kd.int .i64) v] [.cel (Kd.int .i64) (idxV v x)] [] := by
 refine acI (N := 19) Tryz.func42 (Nat.le_of_ble_eq_true rfl) rfl fun w0 hd s0 ar => ?_
 refine AW.to (kc2 0 1 rfl <| Kn) ?_
 refine AW.fact (fun a w hr => (ok_slice (R_ok (t := 0) rfl hr)).2) (fun hl0 => ?_)
 refine sr ?_
 refine st (asI rfl) rfl ?_
 refine ng ?_
 refine AW.seq ?_
 refine sr ?_
 refine st (asI rfl) rfl ?_
 refine ng ?_
 refine AW.block ?_
 refine AW.loop (fun z : Nat => z ≤ x.length ∧ ∀ i, i < z → nI (fun b => b == v) x i) (fun z : Nat => keep [(0, .cel (Kd.slice (Kd.int .i64)) x), (1, .cel (Kd.int .i64) v), (5, .cel (Kd.int .i64) (z : Int))]) (fun z : Nat => x.length - z) (0) ⟨Nat.zero_le _, all_none⟩ (Kc 0 _ (Kv rfl rfl) <| Kc 1 _ (Kv rfl rfl) <| Kc 5 _ (Kv rfl rfl) <| Kn) ?_
 intro z hI
 refine AW.seq ?_
 refine sr ?_
 refine st (mvT rfl) rfl ?_
 refine st (mvT rfl) rfl ?_
 refine st (OpT.len (H rfl) (T1 rfl) el51) rfl ?_
 refine st (OpT.lss (H rfl) (T1 rfl) (T1 rfl)) rfl ?_
 refine ng ?_
 refine cd rfl (fun hc1 => ?_) fun hc1 => ?_
 ·
  obtain ⟨hc1, hc1'⟩ := pT hc1
  obtain ⟨a, ha⟩ := getI (x := x) (z := z) (by omega)
  refine AW.skip ?_
  refine AX.go ?_
  refine AW.seq ?_
  refine AW.block ?_
  refine sr ?_
  refine st (mvT rfl) rfl ?_
  refine st (mvT rfl) rfl ?_
  refine st (OpT.indexAddr (H rfl) (T1 rfl) (T1 rfl) el51 sz2 (by omega) (by assumption)) rfl ?_
  refine st (OpT.load (H rfl) (T1 rfl) ag2 rfl) rfl ?_
  refine st (mvT rfl) rfl ?_
  refine st (OpT.eql (H rfl) (T1 rfl) (T1 rfl)) rfl ?_
  refine ng ?_
  refine cd rfl (fun hc2 => ?_) fun hc2 => ?_
  ·
   obtain ⟨hc2, hc2'⟩ := pT hc2
   refine sr ?_
   refine st (mvT rfl) rfl ?_
   refine st (asT rfl) rfl ?_
   refine ng ?_
   refine AW.ret ?_
   refine rK <| rT <| rT <| rK <| rT ?_
   exact rt1 rfl (.inl rfl) (by first | exact idxQ_at hI.2 ha (by simpa using hc2) | exact idxQ_end hI.2 (by omega))
  ·
   obtain ⟨hc2, hc2'⟩ := pF hc2
   refine AW.skip ?_
   refine AX.normal_block ?_
   refine AX.go ?_
   refine AW.region ?_
   refine st (mvT rfl) rfl ?_
   refine st (OpT.add (H rfl) (T1 rfl) (I rfl) (nw (by omega))) rfl ?_
   refine st (asT rfl) rfl ?_
   refine nn ?_
   exact AX.again (z + 1) ⟨by omega, all_step hI.2 ((nI_iff ha).2 (by simpa using hc2))⟩ (by omega) (Kc 0 _ (Kv rfl rfl) <| Kc 1 _ (Kv rfl rfl) <| Kc 5 _ (Kv rfl (by omega)) <| Kn)
 ·
  obtain ⟨hc1, hc1'⟩ := pF hc1
  refine AW.exit ?_
  refine xT <| xT <| AX.exit_hit ?_
  refine AX.go ?_
  refine sr ?_
  refine st (asI rfl) rfl ?_
  refine ng ?_
  refine AW.ret ?_
  exact rt1 rfl (.inl rfl) (by first | exact idxQ_at hI.2 ha (by simpa using hc2) | exact idxQ_end hI.2 (by omega))

/-- slices.Index[[]int64,int64] -/
theorem c_slices_Index_int64_int64 (x : List Int) (v : Int) : AC Tryz.prog 52 [.cel (Kd.slice (Kd.int .i64)) x, .cel (Kd.int .i64) v] [.cel (Kd.int .i64) (idxV v x)] [] := by
 refine acI (N := 19) Tryz.func52 (Nat.le_of_ble_eq_true rfl) rfl fun w0 hd s0 ar => ?_
 refine AW.to (kc2 0 1 rfl <| Kn) ?_
 refine AW.fact (fun a w hr => (ok_slice (R_ok (t := 0) rfl hr)).2) (fun hl0 => ?_)
 refine sr ?_
 refine st (asI rfl) rfl ?_
 refine ng ?_
 refine AW.seq ?_
 refine sr ?_
 refine st (mvT rfl) rfl ?_
 refine st (OpT.len (H rfl) (T1 rfl) el51) rfl ?_
 refine st (mvI rfl) rfl ?_
 refine ng ?_
 refine AW.block ?_
 refine AW.loop (fun z : Nat => z ≤ x.length ∧ ∀ i, i < z → nI (fun b => b == v) x i) (fun z : Nat => keep [(0, .cel (Kd.slice (Kd.int .i64)) x), (1, .cel (Kd.int .i64) v), (7, .cel (Kd.int .i64) ((x.length : Nat) : Int)), (8, .cel (Kd.int .i64) (z : Int))]) (fun z : Nat => x.length - z) (0) ⟨Nat.zero_le _, all_none⟩ (Kc 0 _ (Kv rfl rfl) <| Kc 1 _ (Kv rfl rfl) <| Kc 7 _ (Kv rfl rfl) <| Kc 8 _ (Kv rfl rfl) <| Kn) ?_
 intro z hI
 refine sr ?_
 refine st (OpT.lss (H rfl) (T1 rfl) (T1 rfl)) rfl ?_
 refine ng ?_
 refine AW.seq ?_
 refine cd rfl (fun hc1 => ?_) fun hc1 => ?_
 ·
  obtain ⟨hc1, hc1'⟩ := pT hc1
  obtain ⟨a, ha⟩ := getI (x := x) (z := z) (by omega)
  refine AW.skip ?_
  refine AX.go ?_
  refine AW.seq ?_
  refine AW.block ?_
  refine sr ?_
  refine st (mvT rfl) rfl ?_
  refine st (asT rfl) rfl ?_
  refine ng ?_
  refine sr ?_
  refine st (mvT rfl) rfl ?_
  refine st (mvT rfl) rfl ?_
  refine st (mvT rfl) rfl ?_
  refine st (OpT.indexAddr (H rfl) (T1 rfl) (T1 rfl) el51 sz2 (by omega) (by assumption)) rfl ?_
  refine st (OpT.load (H rfl) (T1 rfl) ag2 rfl) rfl ?_
  refine st (OpT.eql (H rfl) (T1 rfl) (T1 rfl)) rfl ?_
  refine ng ?_
  refine cd rfl (fun hc2 => ?_) fun hc2 => ?_
  ·
   obtain ⟨hc2, hc2'⟩ := pT hc2
   have h9 : v = a := by simpa using hc2
   have hq2 : (a == v) = true := by rw [h9]; simp
   refine sr ?_
   refine st (mvT rfl) rfl ?_
   refine st (asT rfl) rfl ?_
   refine ng ?_
   refine AW.ret ?_
   refine rK <| rT <| rT <| rK <| rT ?_
   exact rt1 rfl (.inl rfl) (by first | exact idxQ_at hI.2 ha hq2 | exact idxQ_end hI.2 (by omega))
  ·
   obtain ⟨hc2, hc2'⟩ := pF hc2
   have h9 : ¬ v = a := by simpa using hc2
   have hq2 : (a == v) = false := by simp; exact fun h => h9 h.symm
   refine AW.skip ?_
   refine AX.normal_block ?_
   refine AX.go ?_
   refine AW.region ?_
   refine st (OpT.add (H rfl) (T1 rfl) (I rfl) (nw (by omega))) rfl ?_
   refine st (mvT rfl) rfl ?_
   refine nn ?_
   exact AX.again (z + 1) ⟨by omega, all_step hI.2 ((nI_iff ha).2 hq2)⟩ (by omega) (Kc 0 _ (Kv rfl rfl) <| Kc 1 _ (Kv rfl rfl) <| Kc 7 _ (Kv rfl rfl) <| Kc 8 _ (Kv rfl (by omega)) <| Kn)
 ·
  obtain ⟨hc1, hc1'⟩ := pF hc1
  refine AW.exit ?_
  refine xT <| xT <| AX.exit_hit ?_
  refine AX.go ?_
  refine sr ?_
  refine st (asI rfl) rfl ?_
  refine ng ?_
  refine AW.ret ?_
  exact rt1 rfl (.inl rfl) (by first | exact idxQ_at hI.2 ha hq2 | exact idxQ_end hI.2 (by omega))

/-- spec.l06Walk -/
theorem c_spec_l06Walk (x : List DKnot) (q : List Int) (h : treeOK x) : AC Tryz.prog 21 [.cel (Kd.slice kKnot) x, .cel (Kd.slice (Kd.int .i64)) q] [.cel (Kd.int .i64) (wkS x q).1, .cel (Kd.int .i64) (wkS x q).2.1, .cel (Kd.int .i64) (wkS x q).2.2] [] := by
 refine acI (N := 52) Tryz.func21 (Nat.le_of_ble_eq_true rfl) rfl fun w0 hd s0 ar => ?_
 refine AW.to (kc2 0 1 rfl <| Kn) ?_
 refine AW.fact (fun a w hr => (ok_slice (R_ok (t := 0) rfl hr)).2) (fun hl0 => ?_)
 refine AW.fact (fun a w hr => (ok_slice (R_ok (t := 1) rfl hr)).2) (fun hl1 => ?_)
 refine sr ?_
 refine st (asI rfl) rfl ?_
 refine st (asI rfl) rfl ?_
 refine st (asI rfl) rfl ?_
 refine ng ?_
 refine sr ?_
 refine st (asI rfl) rfl ?_
 refine ng ?_
 refine sr ?_
 refine st (asI rfl) rfl ?_
 refine ng ?_
 refine AW.seq ?_
 refine AW.block ?_
 refine AW.loop (fun p : Nat × Nat => p.1 < x.length ∧ p.2 ≤ p.1 ∧ wk x q (x.length - p.2) p.1 (p.2 : Int) = wkS x q) (fun p : Nat × Nat => keep [(0, .cel (Kd.slice kKnot) x), (1, .cel (Kd.slice (Kd.int .i64)) q), (7, .cel (Kd.int .i64) (p.1 : Int)), (8, .cel (Kd.int .i64) (p.2 : Int))]) (fun p : Nat × Nat => x.length - p.1) ((0, 0)) ⟨h.1, Nat.le_refl _, rfl⟩ (Kc 0 _ (Kv rfl rfl) <| Kc 1 _ (Kv rfl rfl) <| Kc 7 _ (Kv rfl rfl) <| Kc 8 _ (Kv rfl rfl) <| Kn) ?_
 intro p hI
 obtain ⟨k, hk⟩ := getI (x := x) (z := p.1) hI.1
 have hko := (knotI_iff hk).1 (h.2.2.1 p.1 hI.1)
 refine AW.seq ?_
 refine sr ?_
 refine st (mvT rfl) rfl ?_
 refine st (mvT rfl) rfl ?_
 refine st (OpT.indexAddr (H rfl) (T1 rfl) (T1 rfl) el34 sz66 (by omega) (by assumption)) rfl ?_
 refine st (OpT.fieldAddr (H rfl) (T1 rfl) fd66_0 sz42 (by decide) sb66_0) rfl ?_
 refine st (OpT.load (H rfl) (T1 rfl) ag42 rfl) rfl ?_
 refine st (OpT.geq (H rfl) (T1 rfl) (I rfl)) rfl ?_
 refine ng ?_
 refine cd rfl (fun hc1 => ?_) fun hc1 => ?_
 ·
  obtain ⟨hc1, hc1'⟩ := pT hc1
  have hak := (knot_ask (by omega)).1 hko
  have haH : 0 ≤ k.1 ∧ k.1 < 12 ∧ k.2.2.2.length = 0 ∧ k.2.1.length ≠ 0 ∧ k.2.2.1.length = k.2.1.length := hak.1
  refine AW.skip ?_
  refine AX.go ?_
  refine AW.block ?_
  refine sr ?_
  refine st (mvT rfl) rfl ?_
  refine st (mvT rfl) rfl ?_
  refine st (OpT.indexAddr (H rfl) (T1 rfl) (T1 rfl) el34 sz66 (by omega) (by assumption)) rfl ?_
  refine st (OpT.fieldAddr (H rfl) (T1 rfl) fd66_0 sz42 (by decide) sb66_0) rfl ?_
  refine st (OpT.load (H rfl) (T1 rfl) ag42 rfl) rfl ?_
  refine st (OpT.conv (H rfl) us42 Tryz.underlying3 (T1 rfl) (nw (by omega))) rfl ?_
  refine st (asT rfl) rfl ?_
  refine ng ?_
  refine AW.seq ?_
  refine sr ?_
  refine st (mvT rfl) rfl ?_
  refine st (mvT rfl) rfl ?_
  refine st (OpT.len (H rfl) (T1 rfl) el51) rfl ?_
  refine st (OpT.geq (H rfl) (T1 rfl) (T1 rfl)) rfl ?_
  refine ng ?_
  refine cd rfl (fun hc2 => ?_) fun hc2 => ?_
  ·
   obtain ⟨hc2, hc2'⟩ := pT hc2
   refine sr ?_
   refine st (asI rfl) rfl ?_
   refine st (asI rfl) rfl ?_
   refine st (asI rfl) rfl ?_
   refine ng ?_
   refine AW.ret ?_
   refine rT <| rK <| rT <| rK <| rT ?_
   exact AX.rt (rs := [.tmp 4, .tmp 5, .tmp 6]) (ts := [some 4, some 5, some 6]) (.inl rfl) rfl (ROs.cons (RO.tmp (At.self (by decide)) (Kv rfl (by rw [← hI.2.2]; first | (rw [wk_leaf hk (by omega) (by omega)]; done) | (rw [wk_two hk (by omega) (by omega) (by omega)]; done) | (rw [wk_six hk (by omega) (by omega) (by omega) hv (by omega)]; done))) rfl) <| ROs.cons (RO.tmp (At.self (by decide)) (Kv rfl (by rw [← hI.2.2]; first | (rw [wk_leaf hk (by omega) (by omega)]; done) | (rw [wk_two hk (by omega) (by omega) (by omega)]; done) | (rw [wk_six hk (by omega) (by omega) (by omega) hv (by omega)]; done))) rfl) <| ROs.cons (RO.tmp (At.self (by decide)) (Kv rfl (by rw [← hI.2.2]; first | (rw [wk_leaf hk (by omega) (by omega)]; done) | (rw [wk_two hk (by omega) (by omega) (by omega)]; done) | (rw [wk_six hk (by omega) (by omega) (by omega) hv (by omega)]; done))) rfl) <| ROs.nil) (by decide) OutsOK.nil
  ·
   obtain ⟨hc2, hc2'⟩ := pF hc2
   obtain ⟨v, hv⟩ : ∃ v, q[Int.toNat k.1]? = some v := ⟨_, List.getElem?_eq_getElem (by omega)⟩
   have hvi := idxV_in v k.2.1
   refine AW.skip ?_
   refine AX.go ?_
   refine AW.seq ?_
   refine dh fomo ?_
   refine d1 [0] (fun ve h => OpT.move (A := .cel _ _) (.inl rfl) rfl (ok' rfl) (D1 h rfl) rfl) rfl ?_
   refine d1 [7] (fun ve h => OpT.move (A := .cel _ _) (.inl rfl) rfl (ok' rfl) (D1 h rfl) rfl) rfl ?_
   refine d1 [27, 28] (fun ve h => OpT.indexAddr (H rfl) (D1 h rfl) (D1 h rfl) el34 sz66 (by omega) (by assumption)) rfl ?_
   refine d1 [29] (fun ve h => OpT.fieldAddr (H rfl) (D1 h rfl) fd66_1 sz51 (by decide) sb66_1) rfl ?_
   refine d1 [30] (fun ve h => OpT.load (H rfl) (D1 h rfl) ag51 rfl) rfl ?_
   refine d1 [1] (fun ve h => OpT.move (A := .cel _ _) (.inl rfl) rfl (ok' rfl) (D1 h rfl) rfl) rfl ?_
   refine d1 [9] (fun ve h => OpT.move (A := .cel _ _) (.inl rfl) rfl (ok' rfl) (D1 h rfl) rfl) rfl ?_
   refine d1 [32, 33] (fun ve h => OpT.indexAddr (H rfl) (D1 h rfl) (D1 h rfl) el51 sz2 (by omega) (by assumption)) rfl ?_
   refine d1 [34] (fun ve h => OpT.load (H rfl) (D1 h rfl) ag2 rfl) rfl ?_
   refine d1 [31, 35] (fun ve h => OpT.c1 (ms := [.flat, .flat]) (c_spec_l06Find _ _) (H rfl) (Af (D1 h rfl) rfl rfl <| Af (D1 h rfl) rfl rfl <| An) rfl rfl) rfl ?_
   refine d1 [36] (fun ve h => OpT.move (A := .cel _ _) (.inr rfl) rfl (ok' rfl) (D1 h rfl) rfl) rfl ?_
   refine dn ⟨by kernel_rfl, by kernel_rfl, ?_⟩
   refine AX.go ?_
   refine AW.seq ?_
   refine sr ?_
   refine st (mvT rfl) rfl ?_
   refine st (OpT.lss (H rfl) (T1 rfl) (I rfl)) rfl ?_
   refine ng ?_
   refine cd rfl (fun hc3 => ?_) fun hc3 => ?_
   ·
    obtain ⟨hc3, hc3'⟩ := pT hc3
    refine sr ?_
    refine st (asI rfl) rfl ?_
    refine st (asI rfl) rfl ?_
    refine st (asI rfl) rfl ?_
    refine ng ?_
    refine AW.ret ?_
    refine rT <| rK <| rT <| rK <| rT ?_
    exact AX.rt (rs := [.tmp 4, .tmp 5, .tmp 6]) (ts := [some 4, some 5, some 6]) (.inl rfl) rfl (ROs.cons (RO.tmp (At.self (by decide)) (Kv rfl (by rw [← hI.2.2]; first | (rw [wk_leaf hk (by omega) (by omega)]; done) | (rw [wk_two hk (by omega) (by omega) (by omega)]; done) | (rw [wk_six hk (by omega) (by omega) (by omega) hv (by omega)]; done))) rfl) <| ROs.cons (RO.tmp (At.self (by decide)) (Kv rfl (by rw [← hI.2.2]; first | (rw [wk_leaf hk (by omega) (by omega)]; done) | (rw [wk_two hk (by omega) (by omega) (by omega)]; done) | (rw [wk_six hk (by omega) (by omega) (by omega) hv (by omega)]; done))) rfl) <| ROs.cons (RO.tmp (At.self (by decide)) (Kv rfl (by rw [← hI.2.2]; first | (rw [wk_leaf hk (by omega) (by omega)]; done) | (rw [wk_two hk (by omega) (by omega) (by omega)]; done) | (rw [wk_six hk (by omega) (by omega) (by omega) hv (by omega)]; done))) rfl) <| ROs.nil) (by decide) OutsOK.nil
   ·
    obtain ⟨hc3, hc3'⟩ := pF hc3
    obtain ⟨n, hn⟩ : ∃ n, k.2.2.1[Int.toNat (idxV v k.2.1)]? = some n := ⟨_, List.getElem?_eq_getElem (by have := haH.2.2.2.2; have := haH.2.2.2.1; omega)⟩
    have hnb := knot_next (z := (idxV v k.2.1).toNat) hko hn
    refine AW.skip ?_
    refine AX.go ?_
    refine sr ?_
    refine st (mvT rfl) rfl ?_
    refine st (mvT rfl) rfl ?_
    refine st (OpT.indexAddr (H rfl) (T1 rfl) (T1 rfl) el34 sz66 (by omega) (by assumption)) rfl ?_
    refine st (OpT.fieldAddr (H rfl) (T1 rfl) fd66_2 sz52 (by decide) sb66_2) rfl ?_
    refine st (OpT.load (H rfl) (T1 rfl) ag52 rfl) rfl ?_
    refine st (mvT rfl) rfl ?_
    refine st (OpT.indexAddr (H rfl) (T1 rfl) (T1 rfl) el52 sz42 (by omega) (by assumption)) rfl ?_
    refine st (OpT.load (H rfl) (T1 rfl) ag42 rfl) rfl ?_
    refine st (OpT.conv (H rfl) us42 Tryz.underlying3 (T1 rfl) (nw (by omega))) rfl ?_
    refine st (asT rfl) rfl ?_
    refine ng ?_
    refine AW.region ?_
    refine st (mvT rfl) rfl ?_
    refine st (OpT.add (H rfl) (T1 rfl) (I rfl) (nw (by omega))) rfl ?_
    refine st (asT rfl) rfl ?_
    refine nn ?_
    refine AX.normal_block ?_
    exact AX.again ((n.toNat, p.2 + 1)) (wk_inv hI hk (by omega) (by omega) hv (by omega) hn hnb) (by simp only []; omega) (Kc 0 _ (Kv rfl rfl) <| Kc 1 _ (Kv rfl rfl) <| Kc 7 _ (Kv rfl (by simp only []; omega)) <| Kc 8 _ (Kv rfl (by simp only []; omega)) <| Kn)
 ·
  obtain ⟨hc1, hc1'⟩ := pF hc1
  refine AW.exit ?_
  refine xT <| xT <| AX.exit_hit ?_
  refine AX.go ?_
  refine sr ?_
  refine st (mvT rfl) rfl ?_
  refine st (mvT rfl) rfl ?_
  refine st (asT rfl) rfl ?_
  refine st (asT rfl) rfl ?_
  refine st (asI rfl) rfl ?_
  refine AWl.to (kc3 6 5 4 rfl <| Kn) ?_
  refine ng ?_
  refine AW.ret ?_
  exact AX.rt (rs := [.tmp 4, .tmp 5, .tmp 6]) (ts := [some 4, some 5, some 6]) (.inl rfl) rfl (ROs.cons (RO.tmp (At.self (by decide)) (Kv rfl (by rw [← hI.2.2]; first | (rw [wk_leaf hk (by omega) (by omega)]; done) | (rw [wk_two hk (by omega) (by omega) (by omega)]; done) | (rw [wk_six hk (by omega) (by omega) (by omega) hv (by omega)]; done))) rfl) <| ROs.cons (RO.tmp (At.self (by decide)) (Kv rfl (by rw [← hI.2.2]; first | (rw [wk_leaf hk (by omega) (by omega)]; done) | (rw [wk_two hk (by omega) (by omega) (by omega)]; done) | (rw [wk_six hk (by omega) (by omega) (by omega) hv (by omega)]; done))) rfl) <| ROs.cons (RO.tmp (At.self (by decide)) (Kv rfl (by rw [← hI.2.2]; first | (rw [wk_leaf hk (by omega) (by omega)]; done) | (rw [wk_two hk (by omega) (by omega) (by omega)]; done) | (rw [wk_six hk (by omega) (by omega) (by omega) hv (by omega)]; done))) rfl) <| ROs.nil) (by decide) OutsOK.nil

/-- impl.walk -/
theorem c_impl_walk (x : List DKnot) (q : List Int) (h : treeOK x) : AC Tryz.prog 29 [.cel (Kd.slice kKnot) x, .cel (Kd.slice (Kd.int .i64)) q] [.cel (Kd.int .i64) (wkS x q).1, .cel (Kd.int .i64) (wkS x q).2.1, .cel (Kd.int .i64) (wkS x q).2.2] [] := by
 refine acI (N := 47) Tryz.func29 (Nat.le_of_ble_eq_true rfl) rfl fun w0 hd s0 ar => ?_
 refine AW.to (kc2 0 1 rfl <| Kn) ?_
 refine AW.fact (fun a w hr => (ok_slice (R_ok (t := 0) rfl hr)).2) (fun hl0 => ?_)
 refine AW.fact (fun a w hr => (ok_slice (R_ok (t := 1) rfl hr)).2) (fun hl1 => ?_)
 refine sr ?_
 refine st (asI rfl) rfl ?_
 refine st (asI rfl) rfl ?_
 refine st (asI rfl) rfl ?_
 refine ng ?_
 refine sr ?_
 refine st (asI rfl) rfl ?_
 refine st (asI rfl) rfl ?_
 refine ng ?_
 refine AW.seq ?_
 refine AW.block ?_
 refine AW.loop (fun p : Nat × Nat => p.1 < x.length ∧ p.2 ≤ p.1 ∧ wk x q (x.length - p.2) p.1 (p.2 : Int) = wkS x q) (fun p : Nat × Nat => keep [(0, .cel (Kd.slice kKnot) x), (1, .cel (Kd.slice (Kd.int .i64)) q), (7, .cel (Kd.int .i64) (p.1 : Int)), (8, .cel (Kd.int .i64) (p.2 : Int))]) (fun p : Nat × Nat => x.length - p.1) ((0, 0)) ⟨h.1, Nat.le_refl _, rfl⟩ (Kc 0 _ (Kv rfl rfl) <| Kc 1 _ (Kv rfl rfl) <| Kc 7 _ (Kv rfl rfl) <| Kc 8 _ (Kv rfl rfl) <| Kn) ?_
 intro p hI
 obtain ⟨k, hk⟩ := getI (x := x) (z := p.1) hI.1
 have hko := (knotI_iff hk).1 (h.2.2.1 p.1 hI.1)
 refine AW.seq ?_
 refine sr ?_
 refine st (mvT rfl) rfl ?_
 refine st (mvT rfl) rfl ?_
 refine st (OpT.indexAddr (H rfl) (T1 rfl) (T1 rfl) el34 sz66 (by omega) (by assumption)) rfl ?_
 refine st (OpT.fieldAddr (H rfl) (T1 rfl) fd66_0 sz42 (by decide) sb66_0) rfl ?_
 refine st (OpT.load (H rfl) (T1 rfl) ag42 rfl) rfl ?_
 refine st (OpT.geq (H rfl) (T1 rfl) (I rfl)) rfl ?_
 refine ng ?_
 refine cd rfl (fun hc1 => ?_) fun hc1 => ?_
 ·
  obtain ⟨hc1, hc1'⟩ := pT hc1
  have hak := (knot_ask (by omega)).1 hko
  have haH : 0 ≤ k.1 ∧ k.1 < 12 ∧ k.2.2.2.length = 0 ∧ k.2.1.length ≠ 0 ∧ k.2.2.1.length = k.2.1.length := hak.1
  refine AW.skip ?_
  refine AX.go ?_
  refine AW.block ?_
  refine sr ?_
  refine st (mvT rfl) rfl ?_
  refine st (mvT rfl) rfl ?_
  refine st (OpT.indexAddr (H rfl) (T1 rfl) (T1 rfl) el34 sz66 (by omega) (by assumption)) rfl ?_
  refine st (OpT.loadA (H rfl) (T1 rfl) ag66 sz66) rfl ?_
  refine st (OpT.alloc (H rfl) zr66 zk66) rfl ?_
  refine sk (OpT.storeBA rfl rfl (Opd.whole (Root.self (t := 9) (by decide)) rfl) rfl sz66 (by decide) (T1 rfl)) rfl ?_
  refine ng ?_
  refine AW.seq ?_
  refine sr ?_
  refine st (OpT.fieldAddrB (H rfl) (Root.self (t := 9) (by decide)) rfl (by decide) fd66_0 sz42 (by decide) sb66_0) rfl ?_
  refine st (OpT.loadP (H rfl) (T1 rfl) (.inl ⟨_, rfl, rfl⟩) ag42 rfl) rfl ?_
  refine st (OpT.conv (H rfl) us42 Tryz.underlying3 (T1 rfl) (nw (by omega))) rfl ?_
  refine st (mvT rfl) rfl ?_
  refine st (OpT.len (H rfl) (T1 rfl) el51) rfl ?_
  refine st (OpT.geq (H rfl) (T1 rfl) (T1 rfl)) rfl ?_
  refine ng ?_
  refine cd rfl (fun hc2 => ?_) fun hc2 => ?_
  ·
   obtain ⟨hc2, hc2'⟩ := pT hc2
   refine sr ?_
   refine st (asI rfl) rfl ?_
   refine st (asI rfl) rfl ?_
   refine st (asI rfl) rfl ?_
   refine ng ?_
   refine AW.ret ?_
   refine rT <| rK <| rT <| rK <| rT ?_
   exact AX.rt (rs := [.tmp 4, .tmp 5, .tmp 6]) (ts := [some 4, some 5, some 6]) (.inl rfl) rfl (ROs.cons (RO.tmp (At.self (by decide)) (Kv rfl (by rw [← hI.2.2]; first | (rw [wk_leaf hk (by omega) (by omega)]; done) | (rw [wk_two hk (by omega) (by omega) (by omega)]; done) | (rw [wk_six hk (by omega) (by omega) (by omega) hv (by omega)]; done))) rfl) <| ROs.cons (RO.tmp (At.self (by decide)) (Kv rfl (by rw [← hI.2.2]; first | (rw [wk_leaf hk (by omega) (by omega)]; done) | (rw [wk_two hk (by omega) (by omega) (by omega)]; done) | (rw [wk_six hk (by omega) (by omega) (by omega) hv (by omega)]; done))) rfl) <| ROs.cons (RO.tmp (At.self (by decide)) (Kv rfl (by rw [← hI.2.2]; first | (rw [wk_leaf hk (by omega) (by omega)]; done) | (rw [wk_two hk (by omega) (by omega) (by omega)]; done) | (rw [wk_six hk (by omega) (by omega) (by omega) hv (by omega)]; done))) rfl) <| ROs.nil) (by decide) OutsOK.nil
  ·
   obtain ⟨hc2, hc2'⟩ := pF hc2
   obtain ⟨v, hv⟩ : ∃ v, q[Int.toNat k.1]? = some v := ⟨_, List.getElem?_eq_getElem (by omega)⟩
   have hvi := idxV_in v k.2.1
   refine AW.skip ?_
   refine AX.pr (kc4 26 25 24 23 rfl <| kc 22 rfl <| Kc 21 (.pel _ _ _ _ _ _ _) rfl <| kb 9 rfl <| ka 20 rfl <| kc4 19 18 17 16 rfl <| kc4 15 14 13 12 rfl <| kc4 11 0 1 7 rfl <| kc 8 rfl <| Kn) ?_
   refine AX.go ?_
   refine AW.seq ?_
   refine dh fomo ?_
   refine d1 [9] (fun ve h => OpT.fieldAddrB (H rfl) (Root.self (t := 9) (by decide)) ((h _ (List.elem_iff.1 rfl)).trans rfl) (by decide) fd66_1 sz51 (by decide) sb66_1) rfl ?_
   refine d1 [9, 27] (fun ve h => OpT.loadP (H rfl) (D1 h rfl) (.inl ⟨_, ((h _ (List.elem_iff.1 rfl)).trans rfl), rfl⟩) ag51 rfl) rfl ?_
   refine d1 [1] (fun ve h => OpT.move (A := .cel _ _) (.inl rfl) rfl (ok' rfl) (D1 h rfl) rfl) rfl ?_
   refine d1 [9] (fun ve h => OpT.fieldAddrB (H rfl) (Root.self (t := 9) (by decide)) ((h _ (List.elem_iff.1 rfl)).trans rfl) (by decide) fd66_0 sz42 (by decide) sb66_0) rfl ?_
   refine d1 [9, 30] (fun ve h => OpT.loadP (H rfl) (D1 h rfl) (.inl ⟨_, ((h _ (List.elem_iff.1 rfl)).trans rfl), rfl⟩) ag42 rfl) rfl ?_
   refine d1 [29, 31] (fun ve h => OpT.indexAddr (H rfl) (D1 h rfl) (D1 h rfl) el51 sz2 (by omega) (by assumption)) rfl ?_
   refine d1 [32] (fun ve h => OpT.load (H rfl) (D1 h rfl) ag2 rfl) rfl ?_
   refine d1 [28, 33] (fun ve h => OpT.c1 (ms := [.flat, .flat]) (c_slices_Index_int64_int64 _ _) (H rfl) (Af (D1 h rfl) rfl rfl <| Af (D1 h rfl) rfl rfl <| An) rfl rfl) rfl ?_
   refine d1 [34] (fun ve h => OpT.move (A := .cel _ _) (.inr rfl) rfl (ok' rfl) (D1 h rfl) rfl) rfl ?_
   refine dn ⟨by kernel_rfl, by kernel_rfl, ?_⟩
   refine AX.go ?_
   refine AW.seq ?_
   refine sr ?_
   refine st (mvT rfl) rfl ?_
   refine st (OpT.lss (H rfl) (T1 rfl) (I rfl)) rfl ?_
   refine ng ?_
   refine cd rfl (fun hc3 => ?_) fun hc3 => ?_
   ·
    obtain ⟨hc3, hc3'⟩ := pT hc3
    refine sr ?_
    refine st (asI rfl) rfl ?_
    refine st (asI rfl) rfl ?_
    refine st (asI rfl) rfl ?_
    refine ng ?_
    refine AW.ret ?_
    refine rT <| rK <| rT <| rK <| rT ?_
    exact AX.rt (rs := [.tmp 4, .tmp 5, .tmp 6]) (ts := [some 4, some 5, some 6]) (.inl rfl) rfl (ROs.cons (RO.tmp (At.self (by decide)) (Kv rfl (by rw [← hI.2.2]; first | (rw [wk_leaf hk (by omega) (by omega)]; done) | (rw [wk_two hk (by omega) (by omega) (by omega)]; done) | (rw [wk_six hk (by omega) (by omega) (by omega) hv (by omega)]; done))) rfl) <| ROs.cons (RO.tmp (At.self (by decide)) (Kv rfl (by rw [← hI.2.2]; first | (rw [wk_leaf hk (by omega) (by omega)]; done) | (rw [wk_two hk (by omega) (by omega) (by omega)]; done) | (rw [wk_six hk (by omega) (by omega) (by omega) hv (by omega)]; done))) rfl) <| ROs.cons (RO.tmp (At.self (by decide)) (Kv rfl (by rw [← hI.2.2]; first | (rw [wk_leaf hk (by omega) (by omega)]; done) | (rw [wk_two hk (by omega) (by omega) (by omega)]; done) | (rw [wk_six hk (by omega) (by omega) (by omega) hv (by omega)]; done))) rfl) <| ROs.nil) (by decide) OutsOK.nil
   ·
    obtain ⟨hc3, hc3'⟩ := pF hc3
    obtain ⟨n, hn⟩ : ∃ n, k.2.2.1[Int.toNat (idxV v k.2.1)]? = some n := ⟨_, List.getElem?_eq_getElem (by have := haH.2.2.2.2; have := haH.2.2.2.1; omega)⟩
    have hnb := knot_next (z := (idxV v k.2.1).toNat) hko hn
    refine AW.skip ?_
    refine AX.go ?_
    refine sr ?_
    refine st (OpT.fieldAddrB (H rfl) (Root.self (t := 9) (by decide)) rfl (by decide) fd66_2 sz52 (by decide) sb66_2) rfl ?_
    refine st (OpT.loadP (H rfl) (T1 rfl) (.inl ⟨_, rfl, rfl⟩) ag52 rfl) rfl ?_
    refine st (mvT rfl) rfl ?_
    refine st (OpT.indexAddr (H rfl) (T1 rfl) (T1 rfl) el52 sz42 (by omega) (by assumption)) rfl ?_
    refine st (OpT.load (H rfl) (T1 rfl) ag42 rfl) rfl ?_
    refine st (OpT.conv (H rfl) us42 Tryz.underlying3 (T1 rfl) (nw (by omega))) rfl ?_
    refine st (asT rfl) rfl ?_
    refine ng ?_
    refine AW.region ?_
    refine st (mvT rfl) rfl ?_
    refine st (OpT.add (H rfl) (T1 rfl) (I rfl) (nw (by omega))) rfl ?_
    refine st (asT rfl) rfl ?_
    refine nn ?_
    refine AX.normal_block ?_
    exact AX.again ((n.toNat, p.2 + 1)) (wk_inv hI hk (by omega) (by omega) hv (by omega) hn hnb) (by simp only []; omega) (Kc 0 _ (Kv rfl rfl) <| Kc 1 _ (Kv rfl rfl) <| Kc 7 _ (Kv rfl (by simp only []; omega)) <| Kc 8 _ (Kv rfl (by simp only []; omega)) <| Kn)
 ·
  obtain ⟨hc1, hc1'⟩ := pF hc1
  refine AW.exit ?_
  refine xT <| xT <| AX.exit_hit ?_
  refine AX.go ?_
  refine sr ?_
  refine st (mvT rfl) rfl ?_
  refine st (mvT rfl) rfl ?_
  refine st (asT rfl) rfl ?_
  refine st (asT rfl) rfl ?_
  refine st (asI rfl) rfl ?_
  refine AWl.to (kc3 6 5 4 rfl <| Kn) ?_
  refine ng ?_
  refine AW.ret ?_
  exact AX.rt (rs := [.tmp 4, .tmp 5, .tmp 6]) (ts := [some 4, some 5, some 6]) (.inl rfl) rfl (ROs.cons (RO.tmp (At.self (by decide)) (Kv rfl (by rw [← hI.2.2]; first | (rw [wk_leaf hk (by omega) (by omega)]; done) | (rw [wk_two hk (by omega) (by omega) (by omega)]; done) | (rw [wk_six hk (by omega) (by omega) (by omega) hv (by omega)]; done))) rfl) <| ROs.cons (RO.tmp (At.self (by decide)) (Kv rfl (by rw [← hI.2.2]; first | (rw [wk_leaf hk (by omega) (by omega)]; done) | (rw [wk_two hk (by omega) (by omega) (by omega)]; done) | (rw [wk_six hk (by omega) (by omega) (by omega) hv (by omega)]; done))) rfl) <| ROs.cons (RO.tmp (At.self (by decide)) (Kv rfl (by rw [← hI.2.2]; first | (rw [wk_leaf hk (by omega) (by omega)]; done) | (rw [wk_two hk (by omega) (by omega) (by omega)]; done) | (rw [wk_six hk (by omega) (by omega) (by omega) hv (by omega)]; done))) rfl) <| ROs.nil) (by decide) OutsOK.nil
end Go.Proofs.YtfnkphllkbkfaaaGreatDoor.VL
