/- Proved here: what some functions of the program take and give: walks with the words of VA..VQ. Printed by program. -/
import Derived.Test.YtbckpmjiimiceaaDoorWT
import Derived.Test.YtbckpmjiimiceaaDoorPXA
set_option linter.unusedVariables false
set_option linter.unusedSimpArgs false
set_option maxRecDepth 4000
namespace Go.Proofs.YtbckpmjiimiceaaDoor.VL
open Go
/-- slices.swapRangeCmpFunc[int64] -/
theorem c_slices_swapRangeCmpFunc_int64 {γ : Type} {g : FuncId} {kg : Kd γ} {y : γ} (xs : List Int) (a b n : Nat) (h : a + n ≤ b ∧ b + n ≤ xs.length ∧ xs.length ≤ 1000000) : AC Tryd.prog 95 [.own 2 (Kd.int .i64) xs, .cel (Kd.int .i64) (a : Int), .cel (Kd.int .i64) (b : Int), .cel (Kd.int .i64) (n : Int), .clo g kg y] [] [.own 2 (Kd.int .i64) (swR xs a b n), .any, .any, .any, .any] := by
 refine acI (N := 38) Tryd.func95 (Nat.le_of_ble_eq_true rfl) rfl fun w0 hd s0 ar => ?_
 refine AW.to (ko 0 rfl <| kc3 1 2 3 rfl <| Kc 4 (.clo _ _ _) rfl <| Kn) ?_
 refine sr ?_
 refine st (asI rfl) rfl ?_
 refine ng ?_
 refine AW.block ?_
 refine AW.loop (fun z : Nat => z ≤ n) (fun z : Nat => keep [(0, .own 2 (Kd.int .i64) (swR xs a b z)), (1, .cel (Kd.int .i64) (a : Int)), (2, .cel (Kd.int .i64) (b : Int)), (3, .cel (Kd.int .i64) (n : Int)), (10, .cel (Kd.int .i64) (z : Int))]) (fun z : Nat => n - z) (0) (Nat.zero_le _) (Kc 0 _ (Ko rfl (swR_zero xs a b).symm) <| Kc 1 _ (Kv rfl rfl) <| Kc 2 _ (Kv rfl rfl) <| Kc 3 _ (Kv rfl rfl) <| Kc 10 _ (Kv rfl rfl) <| Kn) ?_
 intro z hI
 refine AW.seq ?_
 refine sr ?_
 refine st (mvT rfl) rfl ?_
 refine st (mvT rfl) rfl ?_
 refine st (OpT.lss (H rfl) (T1 rfl) (T1 rfl)) rfl ?_
 refine ng ?_
 refine cd rfl (fun hc1 => ?_) fun hc1 => ?_
 ·
  obtain ⟨hc1, hc1'⟩ := pT hc1
  have hz : z < n := by omega
  have hl := swR_len (xs := xs) (a := a) (b := b) (z := z) (by omega) (by omega)
  obtain ⟨u, hu⟩ := getI (x := swR xs a b z) (z := a + z) (by omega)
  obtain ⟨v, hv⟩ := getI (x := swR xs a b z) (z := b + z) (by omega)
  rw [toN] at hu hv
  have hu1 : (swR xs a b z)[Int.toNat ((a : Int) + (z : Int))]? = some u := atN hu (by omega)
  have hv1 : (swR xs a b z)[Int.toNat ((b : Int) + (z : Int))]? = some v := atN hv (by omega)
  have hv2 : ((swR xs a b z).set (Int.toNat ((a : Int) + (z : Int))) v)[Int.toNat ((b : Int) + (z : Int))]? = some v := setN hv (by omega) (by omega)
  have hs := swR_step (by omega) (by omega) hu hv
  refine AW.skip ?_
  refine AX.go ?_
  refine AW.seq ?_
  refine AW.block ?_
  refine dhm [0, 0, 0, 6, 0, 0, 0, 96, 0, 0, 0, 1536, 3840, 7936, 0, 0, 0, 98304, 245760, 507904, 1048335, 2096911, 4194303, 8388607] [(37, 0), (36, 0), (34, 0), (30, 0), (28, 0), (24, 0), (20, 0), (16, 0)] fomo ?_
  refine d1 [] (fun ve h => OpT.alias (H rfl) (by decide) (by decide)) rfl ?_
  refine d1 [1] (fun ve h => OpT.move (A := .cel _ _) (.inl rfl) rfl (ok' rfl) (D1 h rfl) rfl) rfl ?_
  refine d1 [10] (fun ve h => OpT.move (A := .cel _ _) (.inl rfl) rfl (ok' rfl) (D1 h rfl) rfl) rfl ?_
  refine d1 [17, 18] (fun ve h => OpT.add (H rfl) (D1 h rfl) (D1 h rfl) (nw (by omega))) rfl ?_
  refine d1 [] (fun ve h => OpT.alias (H rfl) (by decide) (by decide)) rfl ?_
  refine d1 [2] (fun ve h => OpT.move (A := .cel _ _) (.inl rfl) rfl (ok' rfl) (D1 h rfl) rfl) rfl ?_
  refine d1 [10] (fun ve h => OpT.move (A := .cel _ _) (.inl rfl) rfl (ok' rfl) (D1 h rfl) rfl) rfl ?_
  refine d1 [21, 22] (fun ve h => OpT.add (H rfl) (D1 h rfl) (D1 h rfl) (nw (by omega))) rfl ?_
  refine d1 [] (fun ve h => OpT.alias (H rfl) (by decide) (by decide)) rfl ?_
  refine d1 [2] (fun ve h => OpT.move (A := .cel _ _) (.inl rfl) rfl (ok' rfl) (D1 h rfl) rfl) rfl ?_
  refine d1 [10] (fun ve h => OpT.move (A := .cel _ _) (.inl rfl) rfl (ok' rfl) (D1 h rfl) rfl) rfl ?_
  refine d1 [25, 26] (fun ve h => OpT.add (H rfl) (D1 h rfl) (D1 h rfl) (nw (by omega))) rfl ?_
  refine d1 [0, 24, 27] (fun ve h => OpT.indexAddrO (H rfl) (Root.ali ((h _ (List.elem_iff.1 rfl)).trans rfl) (by decide) (by decide)) ((h _ (List.elem_iff.1 rfl)).trans rfl) (by decide) (D1 h rfl) el26 sz2 (by omega) (by assumption)) rfl ?_
  refine d1 [0, 28] (fun ve h => OpT.loadP (H rfl) (D1 h rfl) (.inr ⟨_, _, ((h _ (List.elem_iff.1 rfl)).trans rfl), (by assumption)⟩) ag2 rfl) rfl ?_
  refine d1 [] (fun ve h => OpT.alias (H rfl) (by decide) (by decide)) rfl ?_
  refine d1 [1] (fun ve h => OpT.move (A := .cel _ _) (.inl rfl) rfl (ok' rfl) (D1 h rfl) rfl) rfl ?_
  refine d1 [10] (fun ve h => OpT.move (A := .cel _ _) (.inl rfl) rfl (ok' rfl) (D1 h rfl) rfl) rfl ?_
  refine d1 [31, 32] (fun ve h => OpT.add (H rfl) (D1 h rfl) (D1 h rfl) (nw (by omega))) rfl ?_
  refine d1 [0, 30, 33] (fun ve h => OpT.indexAddrO (H rfl) (Root.ali ((h _ (List.elem_iff.1 rfl)).trans rfl) (by decide) (by decide)) ((h _ (List.elem_iff.1 rfl)).trans rfl) (by decide) (D1 h rfl) el26 sz2 (by omega) (by assumption)) rfl ?_
  refine d1 [0, 34] (fun ve h => OpT.loadP (H rfl) (D1 h rfl) (.inr ⟨_, _, ((h _ (List.elem_iff.1 rfl)).trans rfl), (by assumption)⟩) ag2 rfl) rfl ?_
  refine d1 [0, 16, 19] (fun ve h => OpT.indexAddrO (H rfl) (Root.ali ((h _ (List.elem_iff.1 rfl)).trans rfl) (by decide) (by decide)) ((h _ (List.elem_iff.1 rfl)).trans rfl) (by decide) (D1 h rfl) el26 sz2 (by omega) (by assumption)) rfl ?_
  refine dm (t := 0) [0, 29, 36] (fun ve h => OpT.storeO rfl rfl (D1 h rfl) ((h _ (List.elem_iff.1 rfl)).trans rfl) (by assumption) sz2 rfl (D1 h rfl)) rfl ?_
  refine d1 [0, 20, 23] (fun ve h => OpT.indexAddrO (H rfl) (Root.ali ((h _ (List.elem_iff.1 rfl)).trans rfl) (by decide) (by decide)) ((h _ (List.elem_iff.1 rfl)).trans rfl) (by decide) (D1 h rfl) el26 sz2 (by omega) (by assumption)) rfl ?_
  refine dm (t := 0) [0, 35, 37] (fun ve h => OpT.storeO rfl rfl (D1 h rfl) ((h _ (List.elem_iff.1 rfl)).trans rfl) (by assumption) sz2 rfl (D1 h rfl)) rfl ?_
  refine dn ⟨by kernel_rfl, by kernel_rfl, ?_⟩
  refine AX.normal_block ?_
  refine AX.go ?_
  refine AW.region ?_
  refine st (mvT rfl) rfl ?_
  refine st (OpT.add (H rfl) (T1 rfl) (I rfl) (nw (by omega))) rfl ?_
  refine st (asT rfl) rfl ?_
  refine nn ?_
  exact AX.again (z + 1) (by omega) (by omega) (Kc 0 _ (Ko rfl (by rw [show Int.toNat ((a : Int) + (z : Int)) = a + z by omega, show Int.toNat ((b : Int) + (z : Int)) = b + z by omega]; exact hs)) <| Kc 1 _ (Kv rfl rfl) <| Kc 2 _ (Kv rfl rfl) <| Kc 3 _ (Kv rfl rfl) <| Kc 10 _ (Kv rfl (by omega)) <| Kn)
 ·
  obtain ⟨hc1, hc1'⟩ := pF hc1
  refine AW.exit ?_
  refine xT <| xT <| AX.exit_hit ?_
  exact AX.rt (rs := []) (ts := []) (.inr rfl) rfl (ROs.nil) (by decide) (fun i => match i with | 0 => .inr ⟨rfl, Ko rfl (by rw [show z = n by omega]), rfl, by decide⟩ | 1 => .inl rfl | 2 => .inl rfl | 3 => .inl rfl | 4 => .inl rfl | _ + 5 => .inl rfl)

/-- slices.rotateCmpFunc[int64] -/
theorem c_slices_rotateCmpFunc_int64 {γ : Type} {g : FuncId} {kg : Kd γ} {y : γ} (xs : List Int) (a m b : Nat) (h : a < m ∧ m < b ∧ b ≤ xs.length ∧ xs.length ≤ 1000000) : AC Tryd.prog 88 [.own 2 (Kd.int .i64) xs, .cel (Kd.int .i64) (a : Int), .cel (Kd.int .i64) (m : Int), .cel (Kd.int .i64) (b : Int), .clo g kg y] [] [.own 2 (Kd.int .i64) (roR xs a m b), .any, .any, .any, .any] := by
 refine acI (N := 58) Tryd.func88 (Nat.le_of_ble_eq_true rfl) rfl fun w0 hd s0 ar => ?_
 refine AW.to (ko 0 rfl <| kc3 1 2 3 rfl <| Kc 4 (.clo _ _ _) rfl <| Kn) ?_
 refine sr ?_
 refine st (mvT rfl) rfl ?_
 refine st (mvT rfl) rfl ?_
 refine st (OpT.sub (H rfl) (T1 rfl) (T1 rfl) (nw (by omega))) rfl ?_
 refine st (asT rfl) rfl ?_
 refine ng ?_
 refine sr ?_
 refine st (mvT rfl) rfl ?_
 refine st (mvT rfl) rfl ?_
 refine st (OpT.sub (H rfl) (T1 rfl) (T1 rfl) (nw (by omega))) rfl ?_
 refine st (asT rfl) rfl ?_
 refine ng ?_
 refine AW.seq ?_
 refine AW.block ?_
 refine AW.loop (fun p : Nat × Nat × List Int => 0 < p.1 ∧ 0 < p.2.1 ∧ p.1 ≤ m ∧ m + p.2.1 ≤ xs.length ∧ p.2.2.length = xs.length ∧ roR p.2.2 (m - p.1) m (m + p.2.1) = roR xs a m b) (fun p : Nat × Nat × List Int => keep [(0, .own 2 (Kd.int .i64) p.2.2), (2, .cel (Kd.int .i64) (m : Int)), (4, .clo g kg y), (10, .cel (Kd.int .i64) (p.1 : Int)), (11, .cel (Kd.int .i64) (p.2.1 : Int))]) (fun p : Nat × Nat × List Int => p.1 + p.2.1) ((m - a, b - m, xs)) ⟨by simp only []; omega, by simp only []; omega, by simp only []; omega, by simp only []; omega, rfl, by simp only []; rw [show m - (m - a) = a by omega, show m + (b - m) = b by omega]⟩ (Kc 0 _ (Ko rfl rfl) <| Kc 2 _ (Kv rfl rfl) <| Kc 4 _ (rfl) <| Kc 10 _ (Kv rfl (by simp only []; omega)) <| Kc 11 _ (Kv rfl (by simp only []; omega)) <| Kn) ?_
 intro p hI
 obtain ⟨i1, i2, i3, i4, i5, i6⟩ := id hI
 refine AW.seq ?_
 refine sr ?_
 refine st (mvT rfl) rfl ?_
 refine st (mvT rfl) rfl ?_
 refine st (OpT.neq (H rfl) (T1 rfl) (T1 rfl)) rfl ?_
 refine ng ?_
 refine cd rfl (fun hc1 => ?_) fun hc1 => ?_
 ·
  obtain ⟨hc1, hc1'⟩ := pT hc1
  refine AW.skip ?_
  refine AX.go ?_
  refine AW.block ?_
  refine sr ?_
  refine st (mvT rfl) rfl ?_
  refine st (mvT rfl) rfl ?_
  refine st (OpT.gtr (H rfl) (T1 rfl) (T1 rfl)) rfl ?_
  refine ng ?_
  refine cd rfl (fun hc2 => ?_) fun hc2 => ?_
  ·
   obtain ⟨hc2, hc2'⟩ := pT hc2
   refine sr ?_
   refine st (OpT.alias (H rfl) (by decide) (by decide)) rfl ?_
   refine st (mvT rfl) rfl ?_
   refine st (mvT rfl) rfl ?_
   refine st (OpT.sub (H rfl) (T1 rfl) (T1 rfl) (nw (by omega))) rfl ?_
   refine AWl.to (Kc 27 _ (Kv rfl (show _ = ((m - p.1 : Nat) : Int) from by omega)) <| (kc2 26 25 rfl <| Kc 24 (.ali _) rfl <| kc4 23 22 21 20 rfl <| kc2 19 18 rfl <| ko 0 rfl <| kc 2 rfl <| Kc 4 (.clo _ _ _) rfl <| kc2 10 11 rfl <| Kn)) ?_
   refine st (mvT rfl) rfl ?_
   refine st (mvT rfl) rfl ?_
   refine st (OpT.move (A := .clo _ _ _) (.inl rfl) rfl (ok' rfl) (T1 rfl) rfl) rfl ?_
   refine sg (OpT.cr (ms := [.root 0, .flat, .flat, .flat, .flat]) (c_slices_swapRangeCmpFunc_int64 p.2.2 (m - p.1) m p.2.1 ⟨by omega, by omega, by omega⟩) (H rfl) (Ar (Root.ali rfl (by decide) (by decide)) rfl rfl rfl <| Af (T1 rfl) rfl rfl <| Af (T1 rfl) rfl rfl <| Af (T1 rfl) rfl rfl <| Af (T1 rfl) rfl rfl <| An) rfl (.inl rfl) rfl) (Kc 30 (.clo _ _ _) rfl <| kc4 29 28 27 26 rfl <| kc 25 rfl <| Kc 24 (.ali _) rfl <| kc4 23 22 21 20 rfl <| kc2 19 18 rfl <| ko 0 rfl <| kc 2 rfl <| Kc 4 (.clo _ _ _) rfl <| kc2 10 11 rfl <| Kn) rfl ?_
   refine ng ?_
   refine AW.region ?_
   refine st (mvT rfl) rfl ?_
   refine st (mvT rfl) rfl ?_
   refine st (OpT.sub (H rfl) (T1 rfl) (T1 rfl) (nw (by omega))) rfl ?_
   refine st (asT rfl) rfl ?_
   refine nn ?_
   refine AX.normal_block ?_
   exact AX.again ((p.1 - p.2.1, p.2.1, swR p.2.2 (m - p.1) m p.2.1)) (by first | exact ⟨by simp only []; omega, by simp only []; omega, by simp only []; omega, by simp only []; omega, (swR_len (by omega) (by omega)).trans hI.2.2.2.2.1, (ro_more (by omega) (by omega) (by omega) (by omega)).trans hI.2.2.2.2.2⟩ | exact ⟨by simp only []; omega, by simp only []; omega, by simp only []; omega, by simp only []; omega, (swR_len (by omega) (by omega)).trans hI.2.2.2.2.1, (ro_less (by omega) (by omega) (by omega) (by omega)).trans hI.2.2.2.2.2⟩) (by simp only []; omega) (Kc 0 _ (Ko rfl rfl) <| Kc 2 _ (Kv rfl rfl) <| Kc 4 _ (rfl) <| Kc 10 _ (Kv rfl (by first | rfl | (simp only []; omega))) <| Kc 11 _ (Kv rfl (by first | rfl | (simp only []; omega))) <| Kn)
  ·
   obtain ⟨hc2, hc2'⟩ := pF hc2
   refine sr ?_
   refine st (OpT.alias (H rfl) (by decide) (by decide)) rfl ?_
   refine st (mvT rfl) rfl ?_
   refine st (mvT rfl) rfl ?_
   refine st (OpT.sub (H rfl) (T1 rfl) (T1 rfl) (nw (by omega))) rfl ?_
   refine AWl.to (Kc 38 _ (Kv rfl (show _ = ((m - p.1 : Nat) : Int) from by omega)) <| (kc2 37 36 rfl <| Kc 35 (.ali _) rfl <| kc4 23 22 21 20 rfl <| kc2 19 18 rfl <| ko 0 rfl <| kc 2 rfl <| Kc 4 (.clo _ _ _) rfl <| kc2 10 11 rfl <| Kn)) ?_
   refine st (mvT rfl) rfl ?_
   refine st (mvT rfl) rfl ?_
   refine st (OpT.add (H rfl) (T1 rfl) (T1 rfl) (nw (by omega))) rfl ?_
   refine st (mvT rfl) rfl ?_
   refine st (OpT.sub (H rfl) (T1 rfl) (T1 rfl) (nw (by omega))) rfl ?_
   refine AWl.to (Kc 43 _ (Kv rfl (show _ = ((m + p.2.1 - p.1 : Nat) : Int) from by omega)) <| (kc4 42 41 40 39 rfl <| kc3 38 37 36 rfl <| Kc 35 (.ali _) rfl <| kc4 23 22 21 20 rfl <| kc2 19 18 rfl <| ko 0 rfl <| kc 2 rfl <| Kc 4 (.clo _ _ _) rfl <| kc2 10 11 rfl <| Kn)) ?_
   refine st (mvT rfl) rfl ?_
   refine st (OpT.move (A := .clo _ _ _) (.inl rfl) rfl (ok' rfl) (T1 rfl) rfl) rfl ?_
   refine sg (OpT.cr (ms := [.root 0, .flat, .flat, .flat, .flat]) (c_slices_swapRangeCmpFunc_int64 p.2.2 (m - p.1) (m + p.2.1 - p.1) p.1 ⟨by omega, by omega, by omega⟩) (H rfl) (Ar (Root.ali rfl (by decide) (by decide)) rfl rfl rfl <| Af (T1 rfl) rfl rfl <| Af (T1 rfl) rfl rfl <| Af (T1 rfl) rfl rfl <| Af (T1 rfl) rfl rfl <| An) rfl (.inl rfl) rfl) (Kc 45 (.clo _ _ _) rfl <| kc4 44 43 42 41 rfl <| kc4 40 39 38 37 rfl <| kc 36 rfl <| Kc 35 (.ali _) rfl <| kc4 23 22 21 20 rfl <| kc2 19 18 rfl <| ko 0 rfl <| kc 2 rfl <| Kc 4 (.clo _ _ _) rfl <| kc2 10 11 rfl <| Kn) rfl ?_
   refine ng ?_
   refine AW.region ?_
   refine st (mvT rfl) rfl ?_
   refine st (mvT rfl) rfl ?_
   refine st (OpT.sub (H rfl) (T1 rfl) (T1 rfl) (nw (by omega))) rfl ?_
   refine st (asT rfl) rfl ?_
   refine nn ?_
   refine AX.normal_block ?_
   exact AX.again ((p.1, p.2.1 - p.1, swR p.2.2 (m - p.1) (m + p.2.1 - p.1) p.1)) (by first | exact ⟨by simp only []; omega, by simp only []; omega, by simp only []; omega, by simp only []; omega, (swR_len (by omega) (by omega)).trans hI.2.2.2.2.1, (ro_more (by omega) (by omega) (by omega) (by omega)).trans hI.2.2.2.2.2⟩ | exact ⟨by simp only []; omega, by simp only []; omega, by simp only []; omega, by simp only []; omega, (swR_len (by omega) (by omega)).trans hI.2.2.2.2.1, (ro_less (by omega) (by omega) (by omega) (by omega)).trans hI.2.2.2.2.2⟩) (by simp only []; omega) (Kc 0 _ (Ko rfl rfl) <| Kc 2 _ (Kv rfl rfl) <| Kc 4 _ (rfl) <| Kc 10 _ (Kv rfl (by first | rfl | (simp only []; omega))) <| Kc 11 _ (Kv rfl (by first | rfl | (simp only []; omega))) <| Kn)
 ·
  obtain ⟨hc1, hc1'⟩ := pF hc1
  refine AW.exit ?_
  refine xT <| xT <| AX.exit_hit ?_
  refine AX.go ?_
  refine AW.region ?_
  refine st (OpT.alias (H rfl) (by decide) (by decide)) rfl ?_
  refine st (mvT rfl) rfl ?_
  refine st (mvT rfl) rfl ?_
  refine st (OpT.sub (H rfl) (T1 rfl) (T1 rfl) (nw (by omega))) rfl ?_
  refine AWl.to (Kc 53 _ (Kv rfl (show _ = ((m - p.1 : Nat) : Int) from by omega)) <| (kc2 52 51 rfl <| Kc 50 (.ali _) rfl <| kc3 20 19 18 rfl <| ko 0 rfl <| kc 2 rfl <| Kc 4 (.clo _ _ _) rfl <| kc2 10 11 rfl <| Kn)) ?_
  refine st (mvT rfl) rfl ?_
  refine st (mvT rfl) rfl ?_
  refine st (OpT.move (A := .clo _ _ _) (.inl rfl) rfl (ok' rfl) (T1 rfl) rfl) rfl ?_
  refine sg (OpT.cr (ms := [.root 0, .flat, .flat, .flat, .flat]) (c_slices_swapRangeCmpFunc_int64 p.2.2 (m - p.1) m p.1 ⟨by omega, by omega, by omega⟩) (H rfl) (Ar (Root.ali rfl (by decide) (by decide)) rfl rfl rfl <| Af (T1 rfl) rfl rfl <| Af (T1 rfl) rfl rfl <| Af (T1 rfl) rfl rfl <| Af (T1 rfl) rfl rfl <| An) rfl (.inl rfl) rfl) (Kc 56 (.clo _ _ _) rfl <| kc4 55 54 53 52 rfl <| kc 51 rfl <| Kc 50 (.ali _) rfl <| kc3 20 19 18 rfl <| ko 0 rfl <| kc 2 rfl <| Kc 4 (.clo _ _ _) rfl <| kc2 10 11 rfl <| Kn) rfl ?_
  refine nn ?_
  exact AX.rt (rs := []) (ts := []) (.inr rfl) rfl (ROs.nil) (by decide) (fun i => match i with | 0 => .inr ⟨rfl, Ko rfl (by rw [ro_same (by omega) (by omega)]; rw [show p.2.1 = p.1 by omega] at i6; exact i6), rfl, by decide⟩ | 1 => .inl rfl | 2 => .inl rfl | 3 => .inl rfl | 4 => .inl rfl | _ + 5 => .inl rfl)

/-- slices.insertionSortCmpFunc[int64] -/
theorem c_slices_insertionSortCmpFunc_int64 {γ : Type} {g : FuncId} {kg : Kd γ} {y : γ} {cs : List As} (q : Int → Int → Int) (p : Int → Prop) (hcs : CloArgs kg y cs) (hg : ∀ a b, p a → p b → AC Tryd.prog g ([.cel (Kd.int .i64) a, .cel (Kd.int .i64) b] ++ cs) [.cel (Kd.int .i64) (q a b)] []) (xs : List Int) (a b : Nat) (hp : ∀ x ∈ xs, p x) (h : a ≤ b ∧ b ≤ xs.length ∧ xs.length ≤ 1000000) : AC Tryd.prog 77 [.own 2 (Kd.int .i64) xs, .cel (Kd.int .i64) (a : Int), .cel (Kd.int .i64) (b : Int), .clo g kg y] [] [.own 2 (Kd.int .i64) (isS q xs a b), .any, .any, .any] := by
 refine acI (N := 53) Tryd.func77 (Nat.le_of_ble_eq_true rfl) rfl fun w0 hd s0 ar => ?_
 refine AW.to (ko 0 rfl <| kc2 1 2 rfl <| Kc 3 (.clo _ _ _) rfl <| Kn) ?_
 refine sr ?_
 refine st (mvT rfl) rfl ?_
 refine st (OpT.add (H rfl) (T1 rfl) (I rfl) (nw (by omega))) rfl ?_
 refine st (asT rfl) rfl ?_
 refine ng ?_
 refine AW.block ?_
 refine AW.loop (fun i : Nat => a + 1 ≤ i ∧ (i ≤ b ∨ i = a + 1)) (fun i : Nat => keep [(0, .own 2 (Kd.int .i64) (xs.take a ++ (isort q (prt xs a i) ++ xs.drop i))), (1, .cel (Kd.int .i64) (a : Int)), (2, .cel (Kd.int .i64) (b : Int)), (3, .clo g kg y), (8, .cel (Kd.int .i64) (i : Int))]) (fun i : Nat => b - i) ((a + 1)) (by omega) (Kc 0 _ (Ko rfl is_zero) <| Kc 1 _ (Kv rfl rfl) <| Kc 2 _ (Kv rfl rfl) <| Kc 3 _ (rfl) <| Kc 8 _ (Kv rfl (by omega)) <| Kn) ?_
 intro i hI
 refine AW.seq ?_
 refine sr ?_
 refine st (mvT rfl) rfl ?_
 refine st (mvT rfl) rfl ?_
 refine st (OpT.lss (H rfl) (T1 rfl) (T1 rfl)) rfl ?_
 refine ng ?_
 refine cd rfl (fun hc1 => ?_) fun hc1 => ?_
 ·
  obtain ⟨hc1, hc1'⟩ := pT hc1
  have hib : i < b := by omega
  obtain ⟨x, hx⟩ := getI (x := xs) (z := i) (by omega)
  have pu := hp _ (mem_getI hx)
  rw [toN] at hx
  have hT := isR_prt (q := q) (xs := xs) (a := a) (i := i) (by omega)
  have hL : (xs.take a).length = a := by rw [List.length_take]; omega
  refine AW.skip ?_
  refine AX.go ?_
  refine AW.seq ?_
  refine AW.block ?_
  refine sr ?_
  refine st (mvT rfl) rfl ?_
  refine st (asT rfl) rfl ?_
  refine ng ?_
  refine AW.block ?_
  refine AW.loop (fun k : Nat => k + a ≤ i ∧ ∀ z ∈ (isR q (prt xs a i)).take k, q x z < 0) (fun k : Nat => keep [(0, .own 2 (Kd.int .i64) (xs.take a ++ (midS (isR q (prt xs a i)) k x ++ xs.drop (i + 1)))), (1, .cel (Kd.int .i64) (a : Int)), (2, .cel (Kd.int .i64) (b : Int)), (3, .clo g kg y), (8, .cel (Kd.int .i64) (i : Int)), (9, .cel (Kd.int .i64) ((i : Int) - (k : Int)))]) (fun k : Nat => i - k) (0) ⟨by omega, by simp⟩ (Kc 0 _ (Ko rfl (is_init hx)) <| Kc 1 _ (Kv rfl rfl) <| Kc 2 _ (Kv rfl rfl) <| Kc 3 _ (rfl) <| Kc 8 _ (Kv rfl rfl) <| Kc 9 _ (Kv rfl (by omega)) <| Kn) ?_
  intro k hI
  refine AW.seq ?_
  refine AW.seq ?_
  rcases Bool.eq_false_or_eq_true (decide (((i : Int) - (k : Int)) > (a : Int))) with hd1 | hd1
  ·
   have hd1' := lT hd1
   have hka : k + a < i := by omega
   obtain ⟨w, hw⟩ := getI (x := isR q (prt xs a i)) (z := k) (by omega)
   have pv := hp _ (isR_sub (mem_getI hw))
   obtain ⟨m1, m2, m3⟩ := mid_step (L := xs.take a) (R := xs.drop (i + 1)) (x := x) hw (i := i - k - 1) (by omega)
   have x1 : (xs.take a ++ (midS (isR q (prt xs a i)) k x ++ xs.drop (i + 1)))[Int.toNat ((i : Int) - (k : Int))]? = some x := atN m2 (by omega)
   have y1 : (xs.take a ++ (midS (isR q (prt xs a i)) k x ++ xs.drop (i + 1)))[Int.toNat ((i : Int) - (k : Int) - 1)]? = some w := atN m1 (by omega)
   have y2 : ((xs.take a ++ (midS (isR q (prt xs a i)) k x ++ xs.drop (i + 1))).set (Int.toNat ((i : Int) - (k : Int))) w)[Int.toNat ((i : Int) - (k : Int) - 1)]? = some w := setN m1 (by omega) (by omega)
   refine dhm [0, 0, 3, 7, 15, 15, 15, 111, 239, 15, 15, 1039, 3599, 7695, 16383, 32767, 65535] [(30, 0), (27, 0), (25, 0), (23, 0)] fomo ?_
   refine d1 [9] (fun ve h => OpT.move (A := .cel _ _) (.inl rfl) rfl (ok' rfl) (D1 h rfl) rfl) rfl ?_
   refine d1 [1] (fun ve h => OpT.move (A := .cel _ _) (.inl rfl) rfl (ok' rfl) (D1 h rfl) rfl) rfl ?_
   refine d1 [18, 19] (fun ve h => OpT.gtr (H rfl) (D1 h rfl) (D1 h rfl)) rfl ?_
   refine d1 [20] (fun ve h => OpT.move (A := .cel _ _) (.inl rfl) rfl (ok' rfl) (D1 h rfl) rfl) rfl ?_
   refine dr [3, 21] hd1 (fun ve h => OpT.move (A := .clo _ _ _) (.inl rfl) rfl (ok' rfl) (D1 h rfl) rfl) rfl ?_
   refine dr [21] hd1 (fun ve h => OpT.alias (H rfl) (by decide) (by decide)) rfl ?_
   refine dr [9, 21] hd1 (fun ve h => OpT.move (A := .cel _ _) (.inl rfl) rfl (ok' rfl) (D1 h rfl) rfl) rfl ?_
   refine dr [0, 21, 23, 24] hd1 (fun ve h => OpT.indexAddrO (H rfl) (Root.ali ((h _ (List.elem_iff.1 rfl)).trans rfl) (by decide) (by decide)) ((h _ (List.elem_iff.1 rfl)).trans rfl) (by decide) (D1 h rfl) el26 sz2 (by omega) (by assumption)) rfl ?_
   refine dr [0, 21, 25] hd1 (fun ve h => OpT.loadP (H rfl) (D1 h rfl) (.inr ⟨_, _, ((h _ (List.elem_iff.1 rfl)).trans rfl), (by assumption)⟩) ag2 rfl) rfl ?_
   refine dr [21] hd1 (fun ve h => OpT.alias (H rfl) (by decide) (by decide)) rfl ?_
   refine dr [9, 21] hd1 (fun ve h => OpT.move (A := .cel _ _) (.inl rfl) rfl (ok' rfl) (D1 h rfl) rfl) rfl ?_
   refine dr [21, 28] hd1 (fun ve h => OpT.sub (H rfl) (D1 h rfl) (I rfl) (nw (by omega))) rfl ?_
   refine dr [0, 21, 27, 29] hd1 (fun ve h => OpT.indexAddrO (H rfl) (Root.ali ((h _ (List.elem_iff.1 rfl)).trans rfl) (by decide) (by decide)) ((h _ (List.elem_iff.1 rfl)).trans rfl) (by decide) (D1 h rfl) el26 sz2 (by omega) (by assumption)) rfl ?_
   refine dr [0, 21, 30] hd1 (fun ve h => OpT.loadP (H rfl) (D1 h rfl) (.inr ⟨_, _, ((h _ (List.elem_iff.1 rfl)).trans rfl), (by assumption)⟩) ag2 rfl) rfl ?_
   refine dr [21, 22, 26, 31] hd1 (fun ve h => OpT.vg (ms := [.flat, .flat]) (D1 h rfl) hcs ((hg _ _ pu pv)) (H rfl) (Af (D1 h rfl) rfl rfl <| Af (D1 h rfl) rfl rfl <| An) rfl rfl) rfl ?_
   refine dr [21, 32] hd1 (fun ve h => OpT.lss (H rfl) (D1 h rfl) (I rfl)) rfl ?_
   refine d1 [21, 33] (fun ve h => OpT.pickT (A := .cel _ _) (H rfl) (D1 h rfl) hd1 (D1 h rfl) rfl) rfl ?_
   refine dn ⟨by kernel_rfl, by kernel_rfl, ?_⟩
   refine AX.go ?_
   refine cd rfl (fun hc2 => ?_) fun hc2 => ?_
   ·
    obtain ⟨hc2, hc2'⟩ := pT hc2
    have hlt : q x w < 0 := by simpa using hc2
    refine AW.skip ?_
    refine AX.go ?_
    refine AW.seq ?_
    refine AW.block ?_
    refine dhm [0, 0, 0, 0, 8, 0, 0, 64, 224, 480, 0, 0, 3072, 7168, 16355, 32739, 65535, 131071] [(52, 0), (51, 0), (49, 0), (47, 0), (45, 0), (42, 0), (39, 0), (37, 0)] fomo ?_
    refine d1 [] (fun ve h => OpT.alias (H rfl) (by decide) (by decide)) rfl ?_
    refine d1 [9] (fun ve h => OpT.move (A := .cel _ _) (.inl rfl) rfl (ok' rfl) (D1 h rfl) rfl) rfl ?_
    refine d1 [] (fun ve h => OpT.alias (H rfl) (by decide) (by decide)) rfl ?_
    refine d1 [9] (fun ve h => OpT.move (A := .cel _ _) (.inl rfl) rfl (ok' rfl) (D1 h rfl) rfl) rfl ?_
    refine d1 [40] (fun ve h => OpT.sub (H rfl) (D1 h rfl) (I rfl) (nw (by omega))) rfl ?_
    refine d1 [] (fun ve h => OpT.alias (H rfl) (by decide) (by decide)) rfl ?_
    refine d1 [9] (fun ve h => OpT.move (A := .cel _ _) (.inl rfl) rfl (ok' rfl) (D1 h rfl) rfl) rfl ?_
    refine d1 [43] (fun ve h => OpT.sub (H rfl) (D1 h rfl) (I rfl) (nw (by omega))) rfl ?_
    refine d1 [0, 42, 44] (fun ve h => OpT.indexAddrO (H rfl) (Root.ali ((h _ (List.elem_iff.1 rfl)).trans rfl) (by decide) (by decide)) ((h _ (List.elem_iff.1 rfl)).trans rfl) (by decide) (D1 h rfl) el26 sz2 (by omega) (by assumption)) rfl ?_
    refine d1 [0, 45] (fun ve h => OpT.loadP (H rfl) (D1 h rfl) (.inr ⟨_, _, ((h _ (List.elem_iff.1 rfl)).trans rfl), (by assumption)⟩) ag2 rfl) rfl ?_
    refine d1 [] (fun ve h => OpT.alias (H rfl) (by decide) (by decide)) rfl ?_
    refine d1 [9] (fun ve h => OpT.move (A := .cel _ _) (.inl rfl) rfl (ok' rfl) (D1 h rfl) rfl) rfl ?_
    refine d1 [0, 47, 48] (fun ve h => OpT.indexAddrO (H rfl) (Root.ali ((h _ (List.elem_iff.1 rfl)).trans rfl) (by decide) (by decide)) ((h _ (List.elem_iff.1 rfl)).trans rfl) (by decide) (D1 h rfl) el26 sz2 (by omega) (by assumption)) rfl ?_
    refine d1 [0, 49] (fun ve h => OpT.loadP (H rfl) (D1 h rfl) (.inr ⟨_, _, ((h _ (List.elem_iff.1 rfl)).trans rfl), (by assumption)⟩) ag2 rfl) rfl ?_
    refine d1 [0, 37, 38] (fun ve h => OpT.indexAddrO (H rfl) (Root.ali ((h _ (List.elem_iff.1 rfl)).trans rfl) (by decide) (by decide)) ((h _ (List.elem_iff.1 rfl)).trans rfl) (by decide) (D1 h rfl) el26 sz2 (by omega) (by assumption)) rfl ?_
    refine dm (t := 0) [0, 46, 51] (fun ve h => OpT.storeO rfl rfl (D1 h rfl) ((h _ (List.elem_iff.1 rfl)).trans rfl) (by assumption) sz2 rfl (D1 h rfl)) rfl ?_
    refine d1 [0, 39, 41] (fun ve h => OpT.indexAddrO (H rfl) (Root.ali ((h _ (List.elem_iff.1 rfl)).trans rfl) (by decide) (by decide)) ((h _ (List.elem_iff.1 rfl)).trans rfl) (by decide) (D1 h rfl) el26 sz2 (by omega) (by assumption)) rfl ?_
    refine dm (t := 0) [0, 50, 52] (fun ve h => OpT.storeO rfl rfl (D1 h rfl) ((h _ (List.elem_iff.1 rfl)).trans rfl) (by assumption) sz2 rfl (D1 h rfl)) rfl ?_
    refine dn ⟨by kernel_rfl, by kernel_rfl, ?_⟩
    refine AX.normal_block ?_
    refine AX.go ?_
    refine AW.region ?_
    refine st (mvT rfl) rfl ?_
    refine st (OpT.sub (H rfl) (T1 rfl) (I rfl) (nw (by omega))) rfl ?_
    refine st (asT rfl) rfl ?_
    refine nn ?_
    exact AX.again (k + 1) ⟨by omega, all_more hI.2 hw hlt⟩ (by omega) (Kc 0 _ (Ko rfl (by rw [show Int.toNat ((i : Int) - (k : Int)) = i - k - 1 + 1 by omega, show Int.toNat ((i : Int) - (k : Int) - 1) = i - k - 1 by omega]; exact m3)) <| Kc 1 _ (Kv rfl rfl) <| Kc 2 _ (Kv rfl rfl) <| Kc 3 _ (rfl) <| Kc 8 _ (Kv rfl rfl) <| Kc 9 _ (Kv rfl (by omega)) <| Kn)
   ·
    obtain ⟨hc2, hc2'⟩ := pF hc2
    have hge : ¬ q x w < 0 := by simpa using hc2
    refine AW.exit ?_
    refine xT <| xT <| AX.exit_hit ?_
    refine AX.normal_block ?_
    refine AX.go ?_
    refine AW.region ?_
    refine st (mvT rfl) rfl ?_
    refine st (OpT.add (H rfl) (T1 rfl) (I rfl) (nw (by omega))) rfl ?_
    refine st (asT rfl) rfl ?_
    refine nn ?_
    exact AX.again (i + 1) (by omega) (by omega) (Kc 0 _ (Ko rfl (by first | exact is_next (by omega) hx hI.2 (.inl (by omega)) | exact is_next (by omega) hx hI.2 (.inr ⟨w, hw, hge⟩))) <| Kc 1 _ (Kv rfl rfl) <| Kc 2 _ (Kv rfl rfl) <| Kc 3 _ (rfl) <| Kc 8 _ (Kv rfl (by omega)) <| Kn)
  ·
   have hd1' := lF hd1
   refine dhm [0, 0, 3, 7, 15, 15, 15, 111, 239, 15, 15, 1039, 3599, 7695, 16383, 32767, 65535] [] fomo ?_
   refine d1 [9] (fun ve h => OpT.move (A := .cel _ _) (.inl rfl) rfl (ok' rfl) (D1 h rfl) rfl) rfl ?_
   refine d1 [1] (fun ve h => OpT.move (A := .cel _ _) (.inl rfl) rfl (ok' rfl) (D1 h rfl) rfl) rfl ?_
   refine d1 [18, 19] (fun ve h => OpT.gtr (H rfl) (D1 h rfl) (D1 h rfl)) rfl ?_
   refine d1 [20] (fun ve h => OpT.move (A := .cel _ _) (.inl rfl) rfl (ok' rfl) (D1 h rfl) rfl) rfl ?_
   refine dp hd1 rfl ?_
   refine dp hd1 rfl ?_
   refine dp hd1 rfl ?_
   refine dp hd1 rfl ?_
   refine dp hd1 rfl ?_
   refine dp hd1 rfl ?_
   refine dp hd1 rfl ?_
   refine dp hd1 rfl ?_
   refine dp hd1 rfl ?_
   refine dp hd1 rfl ?_
   refine dp hd1 rfl ?_
   refine dp hd1 rfl ?_
   refine d1 [21] (fun ve h => OpT.pickF (A := .cel _ _) (H rfl) (D1 h rfl) hd1 Opd.bool rfl) rfl ?_
   refine dn ⟨by kernel_rfl, by kernel_rfl, ?_⟩
   refine AX.go ?_
   refine cd rfl (fun hc3 => ?_) fun hc3 => ?_
   ·
    obtain ⟨hc3, hc3'⟩ := pT hc3
    exact absurd hc3 (by decide)
   ·
    obtain ⟨hc3, hc3'⟩ := pF hc3
    refine AW.exit ?_
    refine xT <| xT <| AX.exit_hit ?_
    refine AX.normal_block ?_
    refine AX.go ?_
    refine AW.region ?_
    refine st (mvT rfl) rfl ?_
    refine st (OpT.add (H rfl) (T1 rfl) (I rfl) (nw (by omega))) rfl ?_
    refine st (asT rfl) rfl ?_
    refine nn ?_
    exact AX.again (i + 1) (by omega) (by omega) (Kc 0 _ (Ko rfl (by first | exact is_next (by omega) hx hI.2 (.inl (by omega)) | exact is_next (by omega) hx hI.2 (.inr ⟨w, hw, hge⟩))) <| Kc 1 _ (Kv rfl rfl) <| Kc 2 _ (Kv rfl rfl) <| Kc 3 _ (rfl) <| Kc 8 _ (Kv rfl (by omega)) <| Kn)
 ·
  obtain ⟨hc1, hc1'⟩ := pF hc1
  refine AW.exit ?_
  refine xT <| xT <| AX.exit_hit ?_
  exact AX.rt (rs := []) (ts := []) (.inr rfl) rfl (ROs.nil) (by decide) (fun i => match i with | 0 => .inr ⟨rfl, Ko rfl (is_fin (by omega) (by omega) (by omega)), rfl, by decide⟩ | 1 => .inl rfl | 2 => .inl rfl | 3 => .inl rfl | _ + 4 => .inl rfl)

set_option maxHeartbeats 4000000 in
/-- slices.symMergeCmpFunc[int64] -/
theorem c_slices_symMergeCmpFunc_int64 {γ : Type} {g : FuncId} {kg : Kd γ} {y : γ} {cs : List As} (q : Int → Int → Int) (p : Int → Prop) (hcs : CloArgs kg y cs) (hg : ∀ a b, p a → p b → AC Tryd.prog g ([.cel (Kd.int .i64) a, .cel (Kd.int .i64) b] ++ cs) [.cel (Kd.int .i64) (q a b)] []) (ht : TPre q p) (n : Nat) (xs : List Int) (a m b : Nat) (hn : b - a = n) (hp : ∀ x ∈ xs, p x) (h : a < m ∧ m < b ∧ b ≤ xs.length ∧ xs.length ≤ 1000000) (s1 : srtQ q (prt xs a m)) (s2 : srtQ q (prt xs m b)) : AC Tryd.prog 78 [.own 2 (Kd.int .i64) xs, .cel (Kd.int .i64) (a : Int), .cel (Kd.int .i64) (m : Int), .cel (Kd.int .i64) (b : Int), .clo g kg y] [] [.own 2 (Kd.int .i64) (smS q xs a m b), .any, .any, .any, .any] := by
 induction n using Nat.strongRecOn generalizing xs a m b with
 | _ n ih =>
 refine acI (N := 220) Tryd.func78 (Nat.le_of_ble_eq_true rfl) rfl fun w0 hd s0 ar => ?_
 refine AW.to (ko 0 rfl <| kc3 1 2 3 rfl <| Kc 4 (.clo _ _ _) rfl <| Kn) ?_
 refine AW.seq ?_
 refine sr ?_
 refine st (mvT rfl) rfl ?_
 refine st (mvT rfl) rfl ?_
 refine st (OpT.sub (H rfl) (T1 rfl) (T1 rfl) (nw (by omega))) rfl ?_
 refine st (OpT.eql (H rfl) (T1 rfl) (I rfl)) rfl ?_
 refine ng ?_
 refine cd rfl (fun hc1 => ?_) fun hc1 => ?_
 ·
  obtain ⟨hc1, hc1'⟩ := pT hc1
  have hma : m = a + 1 := by omega
  obtain ⟨v, hv⟩ := getI (x := xs) (z := a) (by omega)
  have pv := hp _ (mem_getI hv)
  refine sr ?_
  refine st (mvT rfl) rfl ?_
  refine st (asT rfl) rfl ?_
  refine ng ?_
  refine sr ?_
  refine st (mvT rfl) rfl ?_
  refine st (asT rfl) rfl ?_
  refine ng ?_
  refine AW.seq ?_
  refine AW.block ?_
  refine AW.loop (fun z : Nat × Nat => bsI (fun t => ∃ u, xs[t]? = some u ∧ q u v < 0) (fun t => ∃ u, xs[t]? = some u ∧ ¬ q u v < 0) m b z) (fun z : Nat × Nat => keep [(0, .own 2 (Kd.int .i64) xs), (1, .cel (Kd.int .i64) (a : Int)), (2, .cel (Kd.int .i64) (m : Int)), (3, .cel (Kd.int .i64) (b : Int)), (4, .clo g kg y), (10, .cel (Kd.int .i64) (z.1 : Int)), (11, .cel (Kd.int .i64) (z.2 : Int))]) (fun z : Nat × Nat => z.2 - z.1) ((m, b)) (bs_zero (by omega)) (Kc 0 _ (Ko rfl rfl) <| Kc 1 _ (Kv rfl rfl) <| Kc 2 _ (Kv rfl rfl) <| Kc 3 _ (Kv rfl rfl) <| Kc 4 _ (rfl) <| Kc 10 _ (Kv rfl rfl) <| Kc 11 _ (Kv rfl rfl) <| Kn) ?_
  intro z hI
  refine AW.seq ?_
  refine sr ?_
  refine st (mvT rfl) rfl ?_
  refine st (mvT rfl) rfl ?_
  refine st (OpT.lss (H rfl) (T1 rfl) (T1 rfl)) rfl ?_
  refine ng ?_
  refine cd rfl (fun hc2 => ?_) fun hc2 => ?_
  ·
   obtain ⟨hc2, hc2'⟩ := pT hc2
   have hz := hI.2.1
   have hz2 := hI.1
   have hz3 := hI.2.2.1
   have hlt : z.1 < z.2 := by omega
   obtain ⟨u, hu⟩ := getI (x := xs) (z := (z.1 + z.2) / 2) (by omega)
   have pu := hp _ (mem_getI hu)
   refine AW.skip ?_
   refine AX.go ?_
   refine AW.block ?_
   refine sr ?_
   refine st (mvT rfl) rfl ?_
   refine st (mvT rfl) rfl ?_
   refine st (OpT.add (H rfl) (T1 rfl) (T1 rfl) (nw (by omega))) rfl ?_
   refine st (OpT.convu (H rfl) us3 Tryd.underlying71 (T1 rfl)) rfl ?_
   refine st (OpT.shr (H rfl) (T1 rfl) (I rfl) (by decide)) rfl ?_
   refine st (OpT.convi (H rfl) us71 Tryd.underlying3 (T1 rfl) (halfW _ _ (by omega))) rfl ?_
   refine st (asT rfl) rfl ?_
   refine ng ?_
   refine AW.seq ?_
   refine dh fomo ?_
   refine d1 [4] (fun ve h => OpT.move (A := .clo _ _ _) (.inl rfl) rfl (ok' rfl) (D1 h rfl) rfl) rfl ?_
   refine d1 [] (fun ve h => OpT.alias (H rfl) (by decide) (by decide)) rfl ?_
   refine d1 [12] (fun ve h => OpT.move (A := .cel _ _) (.inl rfl) rfl (ok' rfl) (D1 h rfl) rfl) rfl ?_
   refine d1 [0, 41, 42] (fun ve h => OpT.indexAddrO (H rfl) (Root.ali ((h _ (List.elem_iff.1 rfl)).trans rfl) (by decide) (by decide)) ((h _ (List.elem_iff.1 rfl)).trans rfl) (by decide) (D1 h rfl) el26 sz2 (by omega) hu) rfl ?_
   refine d1 [0, 43] (fun ve h => OpT.loadP (H rfl) (D1 h rfl) (.inr ⟨_, _, ((h _ (List.elem_iff.1 rfl)).trans rfl), (by assumption)⟩) ag2 rfl) rfl ?_
   refine d1 [] (fun ve h => OpT.alias (H rfl) (by decide) (by decide)) rfl ?_
   refine d1 [1] (fun ve h => OpT.move (A := .cel _ _) (.inl rfl) rfl (ok' rfl) (D1 h rfl) rfl) rfl ?_
   refine d1 [0, 45, 46] (fun ve h => OpT.indexAddrO (H rfl) (Root.ali ((h _ (List.elem_iff.1 rfl)).trans rfl) (by decide) (by decide)) ((h _ (List.elem_iff.1 rfl)).trans rfl) (by decide) (D1 h rfl) el26 sz2 (by omega) hv) rfl ?_
   refine d1 [0, 47] (fun ve h => OpT.loadP (H rfl) (D1 h rfl) (.inr ⟨_, _, ((h _ (List.elem_iff.1 rfl)).trans rfl), (by assumption)⟩) ag2 rfl) rfl ?_
   refine d1 [40, 44, 48] (fun ve h => OpT.vg (ms := [.flat, .flat]) (D1 h rfl) hcs ((hg _ _ pu pv)) (H rfl) (Af (D1 h rfl) rfl rfl <| Af (D1 h rfl) rfl rfl <| An) rfl rfl) rfl ?_
   refine d1 [49] (fun ve h => OpT.lss (H rfl) (D1 h rfl) (I rfl)) rfl ?_
   refine dn ⟨by kernel_rfl, by kernel_rfl, ?_⟩
   refine AX.go ?_
   refine cd rfl (fun hc3 => ?_) fun hc3 => ?_
   ·
    obtain ⟨hc3, hc3'⟩ := pT hc3
    have hq : q u v < 0 := by simpa using hc3
    refine AW.region ?_
    refine st (mvT rfl) rfl ?_
    refine st (OpT.add (H rfl) (T1 rfl) (I rfl) (nw (by omega))) rfl ?_
    refine st (asT rfl) rfl ?_
    refine nn ?_
    refine AX.normal_block ?_
    exact AX.again (((z.1 + z.2) / 2 + 1, z.2)) (by first | exact bs_up hI hlt ⟨u, hu, hq⟩ | exact bs_dn hI hlt ⟨u, hu, hq⟩) (by simp only []; omega) (Kc 0 _ (Ko rfl rfl) <| Kc 1 _ (Kv rfl rfl) <| Kc 2 _ (Kv rfl rfl) <| Kc 3 _ (Kv rfl rfl) <| Kc 4 _ (rfl) <| Kc 10 _ (Kv rfl (by first | rfl | (simp only []; omega))) <| Kc 11 _ (Kv rfl (by first | rfl | (simp only []; omega))) <| Kn)
   ·
    obtain ⟨hc3, hc3'⟩ := pF hc3
    have hq : ¬ q u v < 0 := by simpa using hc3
    refine AW.region ?_
    refine st (mvT rfl) rfl ?_
    refine st (asT rfl) rfl ?_
    refine nn ?_
    refine AX.normal_block ?_
    exact AX.again ((z.1, (z.1 + z.2) / 2)) (by first | exact bs_up hI hlt ⟨u, hu, hq⟩ | exact bs_dn hI hlt ⟨u, hu, hq⟩) (by simp only []; omega) (Kc 0 _ (Ko rfl rfl) <| Kc 1 _ (Kv rfl rfl) <| Kc 2 _ (Kv rfl rfl) <| Kc 3 _ (Kv rfl rfl) <| Kc 4 _ (rfl) <| Kc 10 _ (Kv rfl (by first | rfl | (simp only []; omega))) <| Kc 11 _ (Kv rfl (by first | rfl | (simp only []; omega))) <| Kn)
  ·
   obtain ⟨hc2, hc2'⟩ := pF hc2
   have hI2 := hI
   have hi1 := hI.1
   have hi2 := hI.2.1
   have hi3 := hI.2.2.1
   refine AW.exit ?_
   refine xT <| xT <| AX.exit_hit ?_
   refine AX.go ?_
   refine AW.seq ?_
   refine sr ?_
   refine st (mvT rfl) rfl ?_
   refine st (asT rfl) rfl ?_
   refine ng ?_
   refine AW.block ?_
   refine AW.loop (fun k : Nat => a ≤ k ∧ k + 1 ≤ z.1) (fun k : Nat => keep [(0, .own 2 (Kd.int .i64) (roR xs a (a + 1) (k + 1))), (10, .cel (Kd.int .i64) (z.1 : Int)), (13, .cel (Kd.int .i64) (k : Int))]) (fun k : Nat => z.1 - k) (a) (by omega) (Kc 0 _ (Ko rfl (ro_nil xs (by omega)).symm) <| Kc 10 _ (Kv rfl rfl) <| Kc 13 _ (Kv rfl rfl) <| Kn) ?_
   intro k hI
   refine AW.seq ?_
   refine sr ?_
   refine st (mvT rfl) rfl ?_
   refine st (mvT rfl) rfl ?_
   refine st (OpT.sub (H rfl) (T1 rfl) (I rfl) (nw (by omega))) rfl ?_
   refine st (OpT.lss (H rfl) (T1 rfl) (T1 rfl)) rfl ?_
   refine ng ?_
   refine cd rfl (fun hc4 => ?_) fun hc4 => ?_
   ·
    obtain ⟨hc4, hc4'⟩ := pT hc4
    have hlen := roR_len (xs := xs) (a := a) (m := a + 1) (b := k + 1) (by omega) (by omega) (by omega)
    obtain ⟨w1, hw1⟩ := getI (x := roR xs a (a + 1) (k + 1)) (z := k) (by omega)
    obtain ⟨w2, hw2⟩ := getI (x := roR xs a (a + 1) (k + 1)) (z := k + 1) (by omega)
    rw [toN] at hw1 hw2
    have x1 : (roR xs a (a + 1) (k + 1))[Int.toNat (k : Int)]? = some w1 := hw1
    have x2 : (roR xs a (a + 1) (k + 1))[Int.toNat ((k : Int) + 1)]? = some w2 := atN hw2 (by omega)
    have x3 : ((roR xs a (a + 1) (k + 1)).set (Int.toNat (k : Int)) w2)[Int.toNat ((k : Int) + 1)]? = some w2 := setN hw2 (by omega) (by omega)
    refine AW.skip ?_
    refine AX.go ?_
    refine AW.seq ?_
    refine AW.block ?_
    refine dhm [0, 0, 0, 0, 8, 0, 0, 64, 224, 480, 0, 0, 3072, 7168, 16355, 32739, 65535, 131071] [(76, 0), (75, 0), (73, 0), (71, 0), (69, 0), (66, 0), (63, 0), (61, 0)] fomo ?_
    refine d1 [] (fun ve h => OpT.alias (H rfl) (by decide) (by decide)) rfl ?_
    refine d1 [13] (fun ve h => OpT.move (A := .cel _ _) (.inl rfl) rfl (ok' rfl) (D1 h rfl) rfl) rfl ?_
    refine d1 [] (fun ve h => OpT.alias (H rfl) (by decide) (by decide)) rfl ?_
    refine d1 [13] (fun ve h => OpT.move (A := .cel _ _) (.inl rfl) rfl (ok' rfl) (D1 h rfl) rfl) rfl ?_
    refine d1 [64] (fun ve h => OpT.add (H rfl) (D1 h rfl) (I rfl) (nw (by omega))) rfl ?_
    refine d1 [] (fun ve h => OpT.alias (H rfl) (by decide) (by decide)) rfl ?_
    refine d1 [13] (fun ve h => OpT.move (A := .cel _ _) (.inl rfl) rfl (ok' rfl) (D1 h rfl) rfl) rfl ?_
    refine d1 [67] (fun ve h => OpT.add (H rfl) (D1 h rfl) (I rfl) (nw (by omega))) rfl ?_
    refine d1 [0, 66, 68] (fun ve h => OpT.indexAddrO (H rfl) (Root.ali ((h _ (List.elem_iff.1 rfl)).trans rfl) (by decide) (by decide)) ((h _ (List.elem_iff.1 rfl)).trans rfl) (by decide) (D1 h rfl) el26 sz2 (by omega) (by assumption)) rfl ?_
    refine d1 [0, 69] (fun ve h => OpT.loadP (H rfl) (D1 h rfl) (.inr ⟨_, _, ((h _ (List.elem_iff.1 rfl)).trans rfl), (by assumption)⟩) ag2 rfl) rfl ?_
    refine d1 [] (fun ve h => OpT.alias (H rfl) (by decide) (by decide)) rfl ?_
    refine d1 [13] (fun ve h => OpT.move (A := .cel _ _) (.inl rfl) rfl (ok' rfl) (D1 h rfl) rfl) rfl ?_
    refine d1 [0, 71, 72] (fun ve h => OpT.indexAddrO (H rfl) (Root.ali ((h _ (List.elem_iff.1 rfl)).trans rfl) (by decide) (by decide)) ((h _ (List.elem_iff.1 rfl)).trans rfl) (by decide) (D1 h rfl) el26 sz2 (by omega) (by assumption)) rfl ?_
    refine d1 [0, 73] (fun ve h => OpT.loadP (H rfl) (D1 h rfl) (.inr ⟨_, _, ((h _ (List.elem_iff.1 rfl)).trans rfl), (by assumption)⟩) ag2 rfl) rfl ?_
    refine d1 [0, 61, 62] (fun ve h => OpT.indexAddrO (H rfl) (Root.ali ((h _ (List.elem_iff.1 rfl)).trans rfl) (by decide) (by decide)) ((h _ (List.elem_iff.1 rfl)).trans rfl) (by decide) (D1 h rfl) el26 sz2 (by omega) (by assumption)) rfl ?_
    refine dm (t := 0) [0, 70, 75] (fun ve h => OpT.storeO rfl rfl (D1 h rfl) ((h _ (List.elem_iff.1 rfl)).trans rfl) (by assumption) sz2 rfl (D1 h rfl)) rfl ?_
    refine d1 [0, 63, 65] (fun ve h => OpT.indexAddrO (H rfl) (Root.ali ((h _ (List.elem_iff.1 rfl)).trans rfl) (by decide) (by decide)) ((h _ (List.elem_iff.1 rfl)).trans rfl) (by decide) (D1 h rfl) el26 sz2 (by omega) (by assumption)) rfl ?_
    refine dm (t := 0) [0, 74, 76] (fun ve h => OpT.storeO rfl rfl (D1 h rfl) ((h _ (List.elem_iff.1 rfl)).trans rfl) (by assumption) sz2 rfl (D1 h rfl)) rfl ?_
    refine dn ⟨by kernel_rfl, by kernel_rfl, ?_⟩
    refine AX.normal_block ?_
    refine AX.go ?_
    refine AW.region ?_
    refine st (mvT rfl) rfl ?_
    refine st (OpT.add (H rfl) (T1 rfl) (I rfl) (nw (by omega))) rfl ?_
    refine st (asT rfl) rfl ?_
    refine nn ?_
    exact AX.again (k + 1) (by omega) (by omega) (Kc 0 _ (Ko rfl (by rw [show Int.toNat ((k : Int) + 1) = k + 1 by omega]; exact ro_up (by omega) (by omega) hw1 hw2)) <| Kc 10 _ (Kv rfl rfl) <| Kc 13 _ (Kv rfl (by omega)) <| Kn)
   ·
    obtain ⟨hc4, hc4'⟩ := pF hc4
    refine AW.exit ?_
    refine xT <| xT <| AX.exit_hit ?_
    refine AX.go ?_
    refine AW.ret ?_
    refine rT ?_
    exact AX.rt (rs := []) (ts := []) (.inl rfl) rfl (ROs.nil) (by decide) (fun i => match i with | 0 => .inr ⟨rfl, Ko rfl (by first | exact sm_left' ht hp hv hma rfl h.2.2.1 s2 (by omega) (by omega) hI2 | exact sm_right' ht hp hu hbm s1 (i := k) (by omega) (by omega) hI2 | exact hmn | exact (sy_no3 (by omega) (by omega)).trans hmn), rfl, by decide⟩ | 1 => .inl rfl | 2 => .inl rfl | 3 => .inl rfl | 4 => .inl rfl | _ + 5 => .inl rfl)
 ·
  obtain ⟨hc1, hc1'⟩ := pF hc1
  refine AW.skip ?_
  refine AX.go ?_
  refine AW.seq ?_
  refine sr ?_
  refine st (mvT rfl) rfl ?_
  refine st (mvT rfl) rfl ?_
  refine st (OpT.sub (H rfl) (T1 rfl) (T1 rfl) (nw (by omega))) rfl ?_
  refine st (OpT.eql (H rfl) (T1 rfl) (I rfl)) rfl ?_
  refine ng ?_
  refine cd rfl (fun hc5 => ?_) fun hc5 => ?_
  ·
   obtain ⟨hc5, hc5'⟩ := pT hc5
   have hbm : b = m + 1 := by omega
   obtain ⟨u, hu⟩ := getI (x := xs) (z := m) (by omega)
   have pu := hp _ (mem_getI hu)
   refine sr ?_
   refine st (mvT rfl) rfl ?_
   refine st (asT rfl) rfl ?_
   refine ng ?_
   refine sr ?_
   refine st (mvT rfl) rfl ?_
   refine st (asT rfl) rfl ?_
   refine ng ?_
   refine AW.seq ?_
   refine AW.block ?_
   refine AW.loop (fun z : Nat × Nat => bsI (fun t => ∃ v, xs[t]? = some v ∧ ¬ q u v < 0) (fun t => ∃ v, xs[t]? = some v ∧ q u v < 0) a m z) (fun z : Nat × Nat => keep [(0, .own 2 (Kd.int .i64) xs), (1, .cel (Kd.int .i64) (a : Int)), (2, .cel (Kd.int .i64) (m : Int)), (3, .cel (Kd.int .i64) (b : Int)), (4, .clo g kg y), (14, .cel (Kd.int .i64) (z.1 : Int)), (15, .cel (Kd.int .i64) (z.2 : Int))]) (fun z : Nat × Nat => z.2 - z.1) ((a, m)) (bs_zero (by omega)) (Kc 0 _ (Ko rfl rfl) <| Kc 1 _ (Kv rfl rfl) <| Kc 2 _ (Kv rfl rfl) <| Kc 3 _ (Kv rfl rfl) <| Kc 4 _ (rfl) <| Kc 14 _ (Kv rfl rfl) <| Kc 15 _ (Kv rfl rfl) <| Kn) ?_
   intro z hI
   refine AW.seq ?_
   refine sr ?_
   refine st (mvT rfl) rfl ?_
   refine st (mvT rfl) rfl ?_
   refine st (OpT.lss (H rfl) (T1 rfl) (T1 rfl)) rfl ?_
   refine ng ?_
   refine cd rfl (fun hc6 => ?_) fun hc6 => ?_
   ·
    obtain ⟨hc6, hc6'⟩ := pT hc6
    have hz := hI.2.1
    have hz2 := hI.1
    have hz3 := hI.2.2.1
    have hlt : z.1 < z.2 := by omega
    obtain ⟨v, hv⟩ := getI (x := xs) (z := (z.1 + z.2) / 2) (by omega)
    have pv := hp _ (mem_getI hv)
    refine AW.skip ?_
    refine AX.go ?_
    refine AW.block ?_
    refine sr ?_
    refine st (mvT rfl) rfl ?_
    refine st (mvT rfl) rfl ?_
    refine st (OpT.add (H rfl) (T1 rfl) (T1 rfl) (nw (by omega))) rfl ?_
    refine st (OpT.convu (H rfl) us3 Tryd.underlying71 (T1 rfl)) rfl ?_
    refine st (OpT.shr (H rfl) (T1 rfl) (I rfl) (by decide)) rfl ?_
    refine st (OpT.convi (H rfl) us71 Tryd.underlying3 (T1 rfl) (halfW _ _ (by omega))) rfl ?_
    refine st (asT rfl) rfl ?_
    refine ng ?_
    refine AW.seq ?_
    refine dhm [0, 0, 0, 6, 14, 0, 0, 96, 224, 511, 1023, 2047] [(99, 0), (97, 0), (95, 0), (93, 0)] fomo ?_
    refine d1 [4] (fun ve h => OpT.move (A := .clo _ _ _) (.inl rfl) rfl (ok' rfl) (D1 h rfl) rfl) rfl ?_
    refine d1 [] (fun ve h => OpT.alias (H rfl) (by decide) (by decide)) rfl ?_
    refine d1 [2] (fun ve h => OpT.move (A := .cel _ _) (.inl rfl) rfl (ok' rfl) (D1 h rfl) rfl) rfl ?_
    refine d1 [0, 93, 94] (fun ve h => OpT.indexAddrO (H rfl) (Root.ali ((h _ (List.elem_iff.1 rfl)).trans rfl) (by decide) (by decide)) ((h _ (List.elem_iff.1 rfl)).trans rfl) (by decide) (D1 h rfl) el26 sz2 (by omega) hu) rfl ?_
    refine d1 [0, 95] (fun ve h => OpT.loadP (H rfl) (D1 h rfl) (.inr ⟨_, _, ((h _ (List.elem_iff.1 rfl)).trans rfl), (by assumption)⟩) ag2 rfl) rfl ?_
    refine d1 [] (fun ve h => OpT.alias (H rfl) (by decide) (by decide)) rfl ?_
    refine d1 [16] (fun ve h => OpT.move (A := .cel _ _) (.inl rfl) rfl (ok' rfl) (D1 h rfl) rfl) rfl ?_
    refine d1 [0, 97, 98] (fun ve h => OpT.indexAddrO (H rfl) (Root.ali ((h _ (List.elem_iff.1 rfl)).trans rfl) (by decide) (by decide)) ((h _ (List.elem_iff.1 rfl)).trans rfl) (by decide) (D1 h rfl) el26 sz2 (by omega) hv) rfl ?_
    refine d1 [0, 99] (fun ve h => OpT.loadP (H rfl) (D1 h rfl) (.inr ⟨_, _, ((h _ (List.elem_iff.1 rfl)).trans rfl), (by assumption)⟩) ag2 rfl) rfl ?_
    refine d1 [92, 96, 100] (fun ve h => OpT.vg (ms := [.flat, .flat]) (D1 h rfl) hcs ((hg _ _ pu pv)) (H rfl) (Af (D1 h rfl) rfl rfl <| Af (D1 h rfl) rfl rfl <| An) rfl rfl) rfl ?_
    refine d1 [101] (fun ve h => OpT.lss (H rfl) (D1 h rfl) (I rfl)) rfl ?_
    refine d1 [102] (fun ve h => OpT.not (H rfl) (D1 h rfl)) rfl ?_
    refine dn ⟨by kernel_rfl, by kernel_rfl, ?_⟩
    refine AX.go ?_
    refine cd rfl (fun hc7 => ?_) fun hc7 => ?_
    ·
     obtain ⟨hc7, hc7'⟩ := pT hc7
     have hq : ¬ q u v < 0 := by simpa using hc7
     refine AW.region ?_
     refine st (mvT rfl) rfl ?_
     refine st (OpT.add (H rfl) (T1 rfl) (I rfl) (nw (by omega))) rfl ?_
     refine st (asT rfl) rfl ?_
     refine nn ?_
     refine AX.normal_block ?_
     exact AX.again (((z.1 + z.2) / 2 + 1, z.2)) (by first | exact bs_up hI hlt ⟨v, hv, hq⟩ | exact bs_dn hI hlt ⟨v, hv, hq⟩) (by simp only []; omega) (Kc 0 _ (Ko rfl rfl) <| Kc 1 _ (Kv rfl rfl) <| Kc 2 _ (Kv rfl rfl) <| Kc 3 _ (Kv rfl rfl) <| Kc 4 _ (rfl) <| Kc 14 _ (Kv rfl (by first | rfl | (simp only []; omega))) <| Kc 15 _ (Kv rfl (by first | rfl | (simp only []; omega))) <| Kn)
    ·
     obtain ⟨hc7, hc7'⟩ := pF hc7
     have hq : q u v < 0 := by simpa using hc7
     refine AW.region ?_
     refine st (mvT rfl) rfl ?_
     refine st (asT rfl) rfl ?_
     refine nn ?_
     refine AX.normal_block ?_
     exact AX.again ((z.1, (z.1 + z.2) / 2)) (by first | exact bs_up hI hlt ⟨v, hv, hq⟩ | exact bs_dn hI hlt ⟨v, hv, hq⟩) (by simp only []; omega) (Kc 0 _ (Ko rfl rfl) <| Kc 1 _ (Kv rfl rfl) <| Kc 2 _ (Kv rfl rfl) <| Kc 3 _ (Kv rfl rfl) <| Kc 4 _ (rfl) <| Kc 14 _ (Kv rfl (by first | rfl | (simp only []; omega))) <| Kc 15 _ (Kv rfl (by first | rfl | (simp only []; omega))) <| Kn)
   ·
    obtain ⟨hc6, hc6'⟩ := pF hc6
    have hI2 := hI
    have hi1 := hI.1
    have hi2 := hI.2.1
    have hi3 := hI.2.2.1
    refine AW.exit ?_
    refine xT <| xT <| AX.exit_hit ?_
    refine AX.go ?_
    refine AW.seq ?_
    refine sr ?_
    refine st (mvT rfl) rfl ?_
    refine st (asT rfl) rfl ?_
    refine ng ?_
    refine AW.block ?_
    refine AW.loop (fun k : Nat => z.1 ≤ k ∧ k ≤ m) (fun k : Nat => keep [(0, .own 2 (Kd.int .i64) (roR xs k m (m + 1))), (14, .cel (Kd.int .i64) (z.1 : Int)), (17, .cel (Kd.int .i64) (k : Int))]) (fun k : Nat => k) (m) (by omega) (Kc 0 _ (Ko rfl (ro_none xs m (m + 1)).symm) <| Kc 14 _ (Kv rfl rfl) <| Kc 17 _ (Kv rfl rfl) <| Kn) ?_
    intro k hI
    refine AW.seq ?_
    refine sr ?_
    refine st (mvT rfl) rfl ?_
    refine st (mvT rfl) rfl ?_
    refine st (OpT.gtr (H rfl) (T1 rfl) (T1 rfl)) rfl ?_
    refine ng ?_
    refine cd rfl (fun hc8 => ?_) fun hc8 => ?_
    ·
     obtain ⟨hc8, hc8'⟩ := pT hc8
     obtain ⟨j, rfl⟩ : ∃ j, k = j + 1 := ⟨k - 1, by omega⟩
     have hlen := roR_len (xs := xs) (a := j + 1) (m := m) (b := m + 1) (by omega) (by omega) (by omega)
     obtain ⟨w1, hw1⟩ := getI (x := roR xs (j + 1) m (m + 1)) (z := j + 1) (by omega)
     obtain ⟨w2, hw2⟩ := getI (x := roR xs (j + 1) m (m + 1)) (z := j) (by omega)
     rw [toN] at hw1 hw2
     have x1 : (roR xs (j + 1) m (m + 1))[Int.toNat ((j + 1 : Nat) : Int)]? = some w1 := hw1
     have x2 : (roR xs (j + 1) m (m + 1))[Int.toNat (((j + 1 : Nat) : Int) - 1)]? = some w2 := atN hw2 (by omega)
     have x3 : ((roR xs (j + 1) m (m + 1)).set (Int.toNat ((j + 1 : Nat) : Int)) w2)[Int.toNat (((j + 1 : Nat) : Int) - 1)]? = some w2 := setN hw2 (by omega) (by omega)
     refine AW.skip ?_
     refine AX.go ?_
     refine AW.seq ?_
     refine AW.block ?_
     refine dhm [0, 0, 0, 0, 8, 0, 0, 64, 224, 480, 0, 0, 3072, 7168, 16355, 32739, 65535, 131071] [(128, 0), (127, 0), (125, 0), (123, 0), (121, 0), (118, 0), (115, 0), (113, 0)] fomo ?_
     refine d1 [] (fun ve h => OpT.alias (H rfl) (by decide) (by decide)) rfl ?_
     refine d1 [17] (fun ve h => OpT.move (A := .cel _ _) (.inl rfl) rfl (ok' rfl) (D1 h rfl) rfl) rfl ?_
     refine d1 [] (fun ve h => OpT.alias (H rfl) (by decide) (by decide)) rfl ?_
     refine d1 [17] (fun ve h => OpT.move (A := .cel _ _) (.inl rfl) rfl (ok' rfl) (D1 h rfl) rfl) rfl ?_
     refine d1 [116] (fun ve h => OpT.sub (H rfl) (D1 h rfl) (I rfl) (nw (by omega))) rfl ?_
     refine d1 [] (fun ve h => OpT.alias (H rfl) (by decide) (by decide)) rfl ?_
     refine d1 [17] (fun ve h => OpT.move (A := .cel _ _) (.inl rfl) rfl (ok' rfl) (D1 h rfl) rfl) rfl ?_
     refine d1 [119] (fun ve h => OpT.sub (H rfl) (D1 h rfl) (I rfl) (nw (by omega))) rfl ?_
     refine d1 [0, 118, 120] (fun ve h => OpT.indexAddrO (H rfl) (Root.ali ((h _ (List.elem_iff.1 rfl)).trans rfl) (by decide) (by decide)) ((h _ (List.elem_iff.1 rfl)).trans rfl) (by decide) (D1 h rfl) el26 sz2 (by omega) (by assumption)) rfl ?_
     refine d1 [0, 121] (fun ve h => OpT.loadP (H rfl) (D1 h rfl) (.inr ⟨_, _, ((h _ (List.elem_iff.1 rfl)).trans rfl), (by assumption)⟩) ag2 rfl) rfl ?_
     refine d1 [] (fun ve h => OpT.alias (H rfl) (by decide) (by decide)) rfl ?_
     refine d1 [17] (fun ve h => OpT.move (A := .cel _ _) (.inl rfl) rfl (ok' rfl) (D1 h rfl) rfl) rfl ?_
     refine d1 [0, 123, 124] (fun ve h => OpT.indexAddrO (H rfl) (Root.ali ((h _ (List.elem_iff.1 rfl)).trans rfl) (by decide) (by decide)) ((h _ (List.elem_iff.1 rfl)).trans rfl) (by decide) (D1 h rfl) el26 sz2 (by omega) (by assumption)) rfl ?_
     refine d1 [0, 125] (fun ve h => OpT.loadP (H rfl) (D1 h rfl) (.inr ⟨_, _, ((h _ (List.elem_iff.1 rfl)).trans rfl), (by assumption)⟩) ag2 rfl) rfl ?_
     refine d1 [0, 113, 114] (fun ve h => OpT.indexAddrO (H rfl) (Root.ali ((h _ (List.elem_iff.1 rfl)).trans rfl) (by decide) (by decide)) ((h _ (List.elem_iff.1 rfl)).trans rfl) (by decide) (D1 h rfl) el26 sz2 (by omega) (by assumption)) rfl ?_
     refine dm (t := 0) [0, 122, 127] (fun ve h => OpT.storeO rfl rfl (D1 h rfl) ((h _ (List.elem_iff.1 rfl)).trans rfl) (by assumption) sz2 rfl (D1 h rfl)) rfl ?_
     refine d1 [0, 115, 117] (fun ve h => OpT.indexAddrO (H rfl) (Root.ali ((h _ (List.elem_iff.1 rfl)).trans rfl) (by decide) (by decide)) ((h _ (List.elem_iff.1 rfl)).trans rfl) (by decide) (D1 h rfl) el26 sz2 (by omega) (by assumption)) rfl ?_
     refine dm (t := 0) [0, 126, 128] (fun ve h => OpT.storeO rfl rfl (D1 h rfl) ((h _ (List.elem_iff.1 rfl)).trans rfl) (by assumption) sz2 rfl (D1 h rfl)) rfl ?_
     refine dn ⟨by kernel_rfl, by kernel_rfl, ?_⟩
     refine AX.normal_block ?_
     refine AX.go ?_
     refine AW.region ?_
     refine st (mvT rfl) rfl ?_
     refine st (OpT.sub (H rfl) (T1 rfl) (I rfl) (nw (by omega))) rfl ?_
     refine st (asT rfl) rfl ?_
     refine nn ?_
     exact AX.again (j) (by omega) (by omega) (Kc 0 _ (Ko rfl (by rw [show Int.toNat (((j + 1 : Nat) : Int) - 1) = j by omega]; exact ro_down (by omega) (by omega) hw1 hw2)) <| Kc 14 _ (Kv rfl rfl) <| Kc 17 _ (Kv rfl (by omega)) <| Kn)
    ·
     obtain ⟨hc8, hc8'⟩ := pF hc8
     refine AW.exit ?_
     refine xT <| xT <| AX.exit_hit ?_
     refine AX.go ?_
     refine AW.ret ?_
     refine rT ?_
     exact AX.rt (rs := []) (ts := []) (.inl rfl) rfl (ROs.nil) (by decide) (fun i => match i with | 0 => .inr ⟨rfl, Ko rfl (by first | exact sm_left' ht hp hv hma rfl h.2.2.1 s2 (by omega) (by omega) hI2 | exact sm_right' ht hp hu hbm s1 (i := k) (by omega) (by omega) hI2 | exact hmn | exact (sy_no3 (by omega) (by omega)).trans hmn), rfl, by decide⟩ | 1 => .inl rfl | 2 => .inl rfl | 3 => .inl rfl | 4 => .inl rfl | _ + 5 => .inl rfl)
  ·
   obtain ⟨hc5, hc5'⟩ := pF hc5
   have hlo := loM_in (a := a) (m := m) (b := b) (by omega)
   refine AW.skip ?_
   refine AX.go ?_
   refine sr ?_
   refine st (mvT rfl) rfl ?_
   refine st (mvT rfl) rfl ?_
   refine st (OpT.add (H rfl) (T1 rfl) (T1 rfl) (nw (by omega))) rfl ?_
   refine st (OpT.convu (H rfl) us3 Tryd.underlying71 (T1 rfl)) rfl ?_
   refine st (OpT.shr (H rfl) (T1 rfl) (I rfl) (by decide)) rfl ?_
   refine st (OpT.convi (H rfl) us71 Tryd.underlying3 (T1 rfl) (halfW _ _ (by omega))) rfl ?_
   refine st (asT rfl) rfl ?_
   refine AWl.to (kc 18 rfl <| ko 0 rfl <| kc3 1 2 3 rfl <| Kc 4 (.clo _ _ _) rfl <| Kn) ?_
   refine ng ?_
   refine sr ?_
   refine st (mvT rfl) rfl ?_
   refine st (mvT rfl) rfl ?_
   refine st (OpT.add (H rfl) (T1 rfl) (T1 rfl) (nw (by omega))) rfl ?_
   refine st (asT rfl) rfl ?_
   refine AWl.to (Kc 19 _ (Kv rfl (show _ = (((a + b) / 2 + m : Nat) : Int) from by omega)) <| (kc4 137 136 135 18 rfl <| ko 0 rfl <| kc3 1 2 3 rfl <| Kc 4 (.clo _ _ _) rfl <| Kn)) ?_
   refine ng ?_
   refine sr ?_
   refine st (asI rfl) rfl ?_
   refine st (asI rfl) rfl ?_
   refine ng ?_
   refine AW.seqJ (e := [(0, .own 2 (Kd.int .i64) xs), (1, .cel (Kd.int .i64) (a : Int)), (2, .cel (Kd.int .i64) (m : Int)), (3, .cel (Kd.int .i64) (b : Int)), (4, .clo g kg y), (18, .cel (Kd.int .i64) (((a + b) / 2 : Nat) : Int)), (19, .cel (Kd.int .i64) (((a + b) / 2 + m : Nat) : Int)), (20, .cel (Kd.int .i64) (loM a m b : Int)), (21, .cel (Kd.int .i64) (hiM a m b : Int))]) ?_ ?_
   ·
    refine sr ?_
    refine st (mvT rfl) rfl ?_
    refine st (mvT rfl) rfl ?_
    refine st (OpT.gtr (H rfl) (T1 rfl) (T1 rfl)) rfl ?_
    refine ng ?_
    refine cd rfl (fun hc9 => ?_) fun hc9 => ?_
    ·
     obtain ⟨hc9, hc9'⟩ := pT hc9
     have hgt : (a + b) / 2 < m := by omega
     refine sr ?_
     refine st (mvT rfl) rfl ?_
     refine st (mvT rfl) rfl ?_
     refine st (OpT.sub (H rfl) (T1 rfl) (T1 rfl) (nw (by omega))) rfl ?_
     refine st (asT rfl) rfl ?_
     refine ng ?_
     refine AW.region ?_
     refine st (mvT rfl) rfl ?_
     refine st (asT rfl) rfl ?_
     refine nn ?_
     exact AX.join (Kc 0 _ (Ko rfl rfl) <| Kc 1 _ (Kv rfl rfl) <| Kc 2 _ (Kv rfl rfl) <| Kc 3 _ (Kv rfl rfl) <| Kc 4 _ (rfl) <| Kc 18 _ (Kv rfl rfl) <| Kc 19 _ (Kv rfl rfl) <| Kc 20 _ (Kv rfl (by unfold loM; first | (rw [if_pos hgt]; omega) | (rw [if_neg hgt]))) <| Kc 21 _ (Kv rfl (by unfold hiM; first | (rw [if_pos hgt]; done) | (rw [if_neg hgt]; done))) <| Kn)
    ·
     obtain ⟨hc9, hc9'⟩ := pF hc9
     have hgt : ¬ (a + b) / 2 < m := by omega
     refine sr ?_
     refine st (mvT rfl) rfl ?_
     refine st (asT rfl) rfl ?_
     refine ng ?_
     refine AW.region ?_
     refine st (mvT rfl) rfl ?_
     refine st (asT rfl) rfl ?_
     refine nn ?_
     exact AX.join (Kc 0 _ (Ko rfl rfl) <| Kc 1 _ (Kv rfl rfl) <| Kc 2 _ (Kv rfl rfl) <| Kc 3 _ (Kv rfl rfl) <| Kc 4 _ (rfl) <| Kc 18 _ (Kv rfl rfl) <| Kc 19 _ (Kv rfl rfl) <| Kc 20 _ (Kv rfl (by unfold loM; first | (rw [if_pos hgt]; omega) | (rw [if_neg hgt]))) <| Kc 21 _ (Kv rfl (by unfold hiM; first | (rw [if_pos hgt]; done) | (rw [if_neg hgt]; done))) <| Kn)
   ·
    refine sr ?_
    refine st (mvT rfl) rfl ?_
    refine st (OpT.sub (H rfl) (T1 rfl) (I rfl) (nw (by omega))) rfl ?_
    refine st (asT rfl) rfl ?_
    refine ng ?_
    refine AW.seq ?_
    refine AW.block ?_
    refine AW.loop (fun z : Nat × Nat => bsI (symL q xs ((a + b) / 2 + m)) (symR q xs ((a + b) / 2 + m)) (loM a m b) (hiM a m b) z) (fun z : Nat × Nat => keep [(0, .own 2 (Kd.int .i64) xs), (1, .cel (Kd.int .i64) (a : Int)), (2, .cel (Kd.int .i64) (m : Int)), (3, .cel (Kd.int .i64) (b : Int)), (4, .clo g kg y), (18, .cel (Kd.int .i64) (((a + b) / 2 : Nat) : Int)), (19, .cel (Kd.int .i64) (((a + b) / 2 + m : Nat) : Int)), (20, .cel (Kd.int .i64) (z.1 : Int)), (21, .cel (Kd.int .i64) (z.2 : Int)), (22, .cel (Kd.int .i64) (((a + b) / 2 + m - 1 : Nat) : Int))]) (fun z : Nat × Nat => z.2 - z.1) ((loM a m b, hiM a m b)) (bs_zero (by omega)) (Kc 0 _ (Ko rfl rfl) <| Kc 1 _ (Kv rfl rfl) <| Kc 2 _ (Kv rfl rfl) <| Kc 3 _ (Kv rfl rfl) <| Kc 4 _ (rfl) <| Kc 18 _ (Kv rfl rfl) <| Kc 19 _ (Kv rfl rfl) <| Kc 20 _ (Kv rfl rfl) <| Kc 21 _ (Kv rfl rfl) <| Kc 22 _ (Kv rfl (by omega)) <| Kn) ?_
    intro z hI
    refine AW.seq ?_
    refine sr ?_
    refine st (mvT rfl) rfl ?_
    refine st (mvT rfl) rfl ?_
    refine st (OpT.lss (H rfl) (T1 rfl) (T1 rfl)) rfl ?_
    refine ng ?_
    refine cd rfl (fun hc10 => ?_) fun hc10 => ?_
    ·
     obtain ⟨hc10, hc10'⟩ := pT hc10
     have hz := hI.2.1
     have hz2 := hI.1
     have hz3 := hI.2.2.1
     have hlt : z.1 < z.2 := by omega
     obtain ⟨u, hu⟩ := getI (x := xs) (z := (a + b) / 2 + m - 1 - (z.1 + z.2) / 2) (by omega)
     have pu := hp _ (mem_getI hu)
     have hu2 : xs[Int.toNat ((((a + b) / 2 + m - 1 : Nat) : Int) - (((z.1 + z.2) / 2 : Nat) : Int))]? = some u := atN hu (by omega)
     obtain ⟨v, hv⟩ := getI (x := xs) (z := (z.1 + z.2) / 2) (by omega)
     have pv := hp _ (mem_getI hv)
     refine AW.skip ?_
     refine AX.go ?_
     refine AW.block ?_
     refine sr ?_
     refine st (mvT rfl) rfl ?_
     refine st (mvT rfl) rfl ?_
     refine st (OpT.add (H rfl) (T1 rfl) (T1 rfl) (nw (by omega))) rfl ?_
     refine st (OpT.convu (H rfl) us3 Tryd.underlying71 (T1 rfl)) rfl ?_
     refine st (OpT.shr (H rfl) (T1 rfl) (I rfl) (by decide)) rfl ?_
     refine st (OpT.convi (H rfl) us71 Tryd.underlying3 (T1 rfl) (halfW _ _ (by omega))) rfl ?_
     refine st (asT rfl) rfl ?_
     refine ng ?_
     refine AW.seq ?_
     refine dhm [0, 0, 0, 0, 12, 30, 62, 0, 0, 384, 896, 2047, 4095, 8191] [(167, 0), (165, 0), (163, 0), (159, 0)] fomo ?_
     refine d1 [4] (fun ve h => OpT.move (A := .clo _ _ _) (.inl rfl) rfl (ok' rfl) (D1 h rfl) rfl) rfl ?_
     refine d1 [] (fun ve h => OpT.alias (H rfl) (by decide) (by decide)) rfl ?_
     refine d1 [22] (fun ve h => OpT.move (A := .cel _ _) (.inl rfl) rfl (ok' rfl) (D1 h rfl) rfl) rfl ?_
     refine d1 [23] (fun ve h => OpT.move (A := .cel _ _) (.inl rfl) rfl (ok' rfl) (D1 h rfl) rfl) rfl ?_
     refine d1 [160, 161] (fun ve h => OpT.sub (H rfl) (D1 h rfl) (D1 h rfl) (nw (by omega))) rfl ?_
     refine d1 [0, 159, 162] (fun ve h => OpT.indexAddrO (H rfl) (Root.ali ((h _ (List.elem_iff.1 rfl)).trans rfl) (by decide) (by decide)) ((h _ (List.elem_iff.1 rfl)).trans rfl) (by decide) (D1 h rfl) el26 sz2 (by omega) hu2) rfl ?_
     refine d1 [0, 163] (fun ve h => OpT.loadP (H rfl) (D1 h rfl) (.inr ⟨_, _, ((h _ (List.elem_iff.1 rfl)).trans rfl), (by assumption)⟩) ag2 rfl) rfl ?_
     refine d1 [] (fun ve h => OpT.alias (H rfl) (by decide) (by decide)) rfl ?_
     refine d1 [23] (fun ve h => OpT.move (A := .cel _ _) (.inl rfl) rfl (ok' rfl) (D1 h rfl) rfl) rfl ?_
     refine d1 [0, 165, 166] (fun ve h => OpT.indexAddrO (H rfl) (Root.ali ((h _ (List.elem_iff.1 rfl)).trans rfl) (by decide) (by decide)) ((h _ (List.elem_iff.1 rfl)).trans rfl) (by decide) (D1 h rfl) el26 sz2 (by omega) hv) rfl ?_
     refine d1 [0, 167] (fun ve h => OpT.loadP (H rfl) (D1 h rfl) (.inr ⟨_, _, ((h _ (List.elem_iff.1 rfl)).trans rfl), (by assumption)⟩) ag2 rfl) rfl ?_
     refine d1 [158, 164, 168] (fun ve h => OpT.vg (ms := [.flat, .flat]) (D1 h rfl) hcs ((hg _ _ pu pv)) (H rfl) (Af (D1 h rfl) rfl rfl <| Af (D1 h rfl) rfl rfl <| An) rfl rfl) rfl ?_
     refine d1 [169] (fun ve h => OpT.lss (H rfl) (D1 h rfl) (I rfl)) rfl ?_
     refine d1 [170] (fun ve h => OpT.not (H rfl) (D1 h rfl)) rfl ?_
     refine dn ⟨by kernel_rfl, by kernel_rfl, ?_⟩
     refine AX.go ?_
     refine cd rfl (fun hc11 => ?_) fun hc11 => ?_
     ·
      obtain ⟨hc11, hc11'⟩ := pT hc11
      have hq : ¬ q u v < 0 := by simpa using hc11
      refine AW.region ?_
      refine st (mvT rfl) rfl ?_
      refine st (OpT.add (H rfl) (T1 rfl) (I rfl) (nw (by omega))) rfl ?_
      refine st (asT rfl) rfl ?_
      refine nn ?_
      refine AX.normal_block ?_
      exact AX.again (((z.1 + z.2) / 2 + 1, z.2)) (by first | exact bs_up hI hlt ⟨u, v, hu, hv, hq⟩ | exact bs_dn hI hlt ⟨u, v, hu, hv, hq⟩) (by simp only []; omega) (Kc 0 _ (Ko rfl rfl) <| Kc 1 _ (Kv rfl rfl) <| Kc 2 _ (Kv rfl rfl) <| Kc 3 _ (Kv rfl rfl) <| Kc 4 _ (rfl) <| Kc 18 _ (Kv rfl rfl) <| Kc 19 _ (Kv rfl rfl) <| Kc 20 _ (Kv rfl (by first | rfl | (simp only []; omega))) <| Kc 21 _ (Kv rfl (by first | rfl | (simp only []; omega))) <| Kc 22 _ (Kv rfl rfl) <| Kn)
     ·
      obtain ⟨hc11, hc11'⟩ := pF hc11
      have hq : q u v < 0 := by simpa using hc11
      refine AW.region ?_
      refine st (mvT rfl) rfl ?_
      refine st (asT rfl) rfl ?_
      refine nn ?_
      refine AX.normal_block ?_
      exact AX.again ((z.1, (z.1 + z.2) / 2)) (by first | exact bs_up hI hlt ⟨u, v, hu, hv, hq⟩ | exact bs_dn hI hlt ⟨u, v, hu, hv, hq⟩) (by simp only []; omega) (Kc 0 _ (Ko rfl rfl) <| Kc 1 _ (Kv rfl rfl) <| Kc 2 _ (Kv rfl rfl) <| Kc 3 _ (Kv rfl rfl) <| Kc 4 _ (rfl) <| Kc 18 _ (Kv rfl rfl) <| Kc 19 _ (Kv rfl rfl) <| Kc 20 _ (Kv rfl (by first | rfl | (simp only []; omega))) <| Kc 21 _ (Kv rfl (by first | rfl | (simp only []; omega))) <| Kc 22 _ (Kv rfl rfl) <| Kn)
    ·
     obtain ⟨hc10, hc10'⟩ := pF hc10
     obtain ⟨hin, hmn, r1, r2, r3, r4⟩ := sm_main' ht hp (h := ⟨h.1, h.2.1⟩) h.2.2.1 s1 s2 (z := z) (by omega) rfl rfl rfl hI
     have hl1 := roR_len (xs := xs) (a := z.1) (m := m) (b := ((a + b) / 2 + m - z.1)) (by omega) (by omega) (by omega)
     have hl2 := sm_len (q := q) (xs := (roR xs z.1 m ((a + b) / 2 + m - z.1))) (a := a) (m := z.1) (b := (a + b) / 2) (by omega) (by omega) (by omega)
     refine AW.exit ?_
     refine xT <| xT <| AX.exit_hit ?_
     refine AX.go ?_
     refine sr ?_
     refine st (mvT rfl) rfl ?_
     refine st (mvT rfl) rfl ?_
     refine st (OpT.sub (H rfl) (T1 rfl) (T1 rfl) (nw (by omega))) rfl ?_
     refine st (asT rfl) rfl ?_
     refine AWl.to (Kc 24 _ (Kv rfl (show _ = ((((a + b) / 2 + m - z.1) : Nat) : Int) from by omega)) <| (kc4 177 176 175 151 rfl <| kc2 150 149 rfl <| ko 0 rfl <| kc3 1 2 3 rfl <| Kc 4 (.clo _ _ _) rfl <| kc4 18 19 20 21 rfl <| kc 22 rfl <| Kn)) ?_
     refine ng ?_
     refine AW.seqJ (e := [(0, .own 2 (Kd.int .i64) (roR xs z.1 m ((a + b) / 2 + m - z.1))), (1, .cel (Kd.int .i64) (a : Int)), (3, .cel (Kd.int .i64) (b : Int)), (4, .clo g kg y), (18, .cel (Kd.int .i64) (((a + b) / 2 : Nat) : Int)), (20, .cel (Kd.int .i64) (z.1 : Int)), (24, .cel (Kd.int .i64) ((((a + b) / 2 + m - z.1) : Nat) : Int))]) ?_ ?_
     ·
      refine sr ?_
      refine st (mvT rfl) rfl ?_
      refine st (mvT rfl) rfl ?_
      refine st (OpT.lss (H rfl) (T1 rfl) (T1 rfl)) rfl ?_
      refine st (mvT rfl) rfl ?_
      apply AWl.and (d := 185) (t := 181) rfl
      ·
       intro hb1 Q1 k1
       have hb1' := lT hb1
       refine rs hb1 (mvT rfl) rfl ?_
       refine rs hb1 (mvT rfl) rfl ?_
       refine rs hb1 (OpT.lss (H rfl) (T1 rfl) (T1 rfl)) rfl ?_
       refine st (OpT.pickT (A := .cel _ _) (H rfl) (T1 rfl) hb1 (T1 rfl) rfl) rfl ?_
       exact AWl.to (junk 3 rfl) k1
      ·
       intro hb1 Q1 k1
       refine ps hb1 rfl ?_
       refine ps hb1 rfl ?_
       refine ps hb1 rfl ?_
       refine st (OpT.pickF (A := .cel _ _) (H rfl) (T1 rfl) hb1 Opd.bool rfl) rfl ?_
       exact k1
      refine AWl.to (kc2 185 24 rfl <| ko 0 rfl <| kc3 1 2 3 rfl <| Kc 4 (.clo _ _ _) rfl <| kc2 18 20 rfl <| Kn) ?_
      refine ng ?_
      refine cd rfl (fun hc12 => ?_) fun hc12 => ?_
      ·
       obtain ⟨hc12, hc12'⟩ := pT hc12
       refine AW.region ?_
       refine st (OpT.alias (H rfl) (by decide) (by decide)) rfl ?_
       refine st (mvT rfl) rfl ?_
       refine st (mvT rfl) rfl ?_
       refine st (mvT rfl) rfl ?_
       refine st (OpT.move (A := .clo _ _ _) (.inl rfl) rfl (ok' rfl) (T1 rfl) rfl) rfl ?_
       refine sg (OpT.cr (ms := [.root 0, .flat, .flat, .flat, .flat]) (c_slices_rotateCmpFunc_int64 xs z.1 m ((a + b) / 2 + m - z.1) ⟨by omega, by omega, by omega, by omega⟩) (H rfl) (Ar (Root.ali rfl (by decide) (by decide)) rfl rfl rfl <| Af (T1 rfl) rfl rfl <| Af (T1 rfl) rfl rfl <| Af (T1 rfl) rfl rfl <| Af (T1 rfl) rfl rfl <| An) rfl (.inl rfl) rfl) (Kc 190 (.clo _ _ _) rfl <| kc3 189 188 187 rfl <| Kc 186 (.ali _) rfl <| kc2 185 24 rfl <| ko 0 rfl <| kc3 1 2 3 rfl <| Kc 4 (.clo _ _ _) rfl <| kc2 18 20 rfl <| Kn) rfl ?_
       refine nn ?_
       exact AX.join (Kc 0 _ (Ko rfl (by first | rfl | exact sy_no1 (by omega) (by omega))) <| Kc 1 _ (Kv rfl rfl) <| Kc 3 _ (Kv rfl rfl) <| Kc 4 _ (rfl) <| Kc 18 _ (Kv rfl rfl) <| Kc 20 _ (Kv rfl rfl) <| Kc 24 _ (Kv rfl rfl) <| Kn)
      ·
       obtain ⟨hc12, hc12'⟩ := pF hc12
       refine AW.skip ?_
       exact AX.join (Kc 0 _ (Ko rfl (by first | rfl | exact sy_no1 (by omega) (by omega))) <| Kc 1 _ (Kv rfl rfl) <| Kc 3 _ (Kv rfl rfl) <| Kc 4 _ (rfl) <| Kc 18 _ (Kv rfl rfl) <| Kc 20 _ (Kv rfl rfl) <| Kc 24 _ (Kv rfl rfl) <| Kn)
     ·
      refine AW.seqJ (e := [(0, .own 2 (Kd.int .i64) (smS q (roR xs z.1 m ((a + b) / 2 + m - z.1)) a z.1 ((a + b) / 2))), (3, .cel (Kd.int .i64) (b : Int)), (4, .clo g kg y), (18, .cel (Kd.int .i64) (((a + b) / 2 : Nat) : Int)), (24, .cel (Kd.int .i64) ((((a + b) / 2 + m - z.1) : Nat) : Int))]) ?_ ?_
      ·
       refine sr ?_
       refine st (mvT rfl) rfl ?_
       refine st (mvT rfl) rfl ?_
       refine st (OpT.lss (H rfl) (T1 rfl) (T1 rfl)) rfl ?_
       refine st (mvT rfl) rfl ?_
       apply AWl.and (d := 199) (t := 195) rfl
       ·
        intro hb2 Q1 k1
        have hb2' := lT hb2
        refine rs hb2 (mvT rfl) rfl ?_
        refine rs hb2 (mvT rfl) rfl ?_
        refine rs hb2 (OpT.lss (H rfl) (T1 rfl) (T1 rfl)) rfl ?_
        refine st (OpT.pickT (A := .cel _ _) (H rfl) (T1 rfl) hb2 (T1 rfl) rfl) rfl ?_
        exact AWl.to (junk 3 rfl) k1
       ·
        intro hb2 Q1 k1
        refine ps hb2 rfl ?_
        refine ps hb2 rfl ?_
        refine ps hb2 rfl ?_
        refine st (OpT.pickF (A := .cel _ _) (H rfl) (T1 rfl) hb2 Opd.bool rfl) rfl ?_
        exact k1
       refine ng ?_
       refine cd rfl (fun hc13 => ?_) fun hc13 => ?_
       ·
        obtain ⟨hc13, hc13'⟩ := pT hc13
        refine AW.region ?_
        refine st (OpT.alias (H rfl) (by decide) (by decide)) rfl ?_
        refine st (mvT rfl) rfl ?_
        refine st (mvT rfl) rfl ?_
        refine st (mvT rfl) rfl ?_
        refine st (OpT.move (A := .clo _ _ _) (.inl rfl) rfl (ok' rfl) (T1 rfl) rfl) rfl ?_
        refine sg (OpT.cr (ms := [.root 0, .flat, .flat, .flat, .flat]) (ih ((a + b) / 2 - a) (by omega) (roR xs z.1 m ((a + b) / 2 + m - z.1)) a z.1 ((a + b) / 2) rfl (ro_mem hp) ⟨by omega, by omega, by omega, by omega⟩ r1 r2) (H rfl) (Ar (Root.ali rfl (by decide) (by decide)) rfl rfl rfl <| Af (T1 rfl) rfl rfl <| Af (T1 rfl) rfl rfl <| Af (T1 rfl) rfl rfl <| Af (T1 rfl) rfl rfl <| An) rfl (.inl rfl) rfl) (Kc 204 (.clo _ _ _) rfl <| kc3 203 202 201 rfl <| Kc 200 (.ali _) rfl <| kc4 199 195 194 193 rfl <| kc 192 rfl <| ko 0 rfl <| kc2 1 3 rfl <| Kc 4 (.clo _ _ _) rfl <| kc3 18 20 24 rfl <| Kn) rfl ?_
        refine nn ?_
        exact AX.join (Kc 0 _ (Ko rfl (by first | rfl | exact sy_no2 (by omega) (by omega) (by omega))) <| Kc 3 _ (Kv rfl rfl) <| Kc 4 _ (rfl) <| Kc 18 _ (Kv rfl rfl) <| Kc 24 _ (Kv rfl rfl) <| Kn)
       ·
        obtain ⟨hc13, hc13'⟩ := pF hc13
        refine AW.skip ?_
        exact AX.join (Kc 0 _ (Ko rfl (by first | rfl | exact sy_no2 (by omega) (by omega) (by omega))) <| Kc 3 _ (Kv rfl rfl) <| Kc 4 _ (rfl) <| Kc 18 _ (Kv rfl rfl) <| Kc 24 _ (Kv rfl rfl) <| Kn)
      ·
       refine sr ?_
       refine st (mvT rfl) rfl ?_
       refine st (mvT rfl) rfl ?_
       refine st (OpT.lss (H rfl) (T1 rfl) (T1 rfl)) rfl ?_
       refine st (mvT rfl) rfl ?_
       apply AWl.and (d := 213) (t := 209) rfl
       ·
        intro hb3 Q1 k1
        have hb3' := lT hb3
        refine rs hb3 (mvT rfl) rfl ?_
        refine rs hb3 (mvT rfl) rfl ?_
        refine rs hb3 (OpT.lss (H rfl) (T1 rfl) (T1 rfl)) rfl ?_
        refine st (OpT.pickT (A := .cel _ _) (H rfl) (T1 rfl) hb3 (T1 rfl) rfl) rfl ?_
        exact AWl.to (junk 3 rfl) k1
       ·
        intro hb3 Q1 k1
        refine ps hb3 rfl ?_
        refine ps hb3 rfl ?_
        refine ps hb3 rfl ?_
        refine st (OpT.pickF (A := .cel _ _) (H rfl) (T1 rfl) hb3 Opd.bool rfl) rfl ?_
        exact k1
       refine ng ?_
       refine cd rfl (fun hc14 => ?_) fun hc14 => ?_
       ·
        obtain ⟨hc14, hc14'⟩ := pT hc14
        refine AW.region ?_
        refine st (OpT.alias (H rfl) (by decide) (by decide)) rfl ?_
        refine st (mvT rfl) rfl ?_
        refine st (mvT rfl) rfl ?_
        refine st (mvT rfl) rfl ?_
        refine st (OpT.move (A := .clo _ _ _) (.inl rfl) rfl (ok' rfl) (T1 rfl) rfl) rfl ?_
        refine sg (OpT.cr (ms := [.root 0, .flat, .flat, .flat, .flat]) (ih (b - (a + b) / 2) (by omega) (smS q (roR xs z.1 m ((a + b) / 2 + m - z.1)) a z.1 ((a + b) / 2)) ((a + b) / 2) ((a + b) / 2 + m - z.1) b rfl (smp_mem (ro_mem hp)) ⟨by omega, by omega, by omega, by omega⟩ r3 r4) (H rfl) (Ar (Root.ali rfl (by decide) (by decide)) rfl rfl rfl <| Af (T1 rfl) rfl rfl <| Af (T1 rfl) rfl rfl <| Af (T1 rfl) rfl rfl <| Af (T1 rfl) rfl rfl <| An) rfl (.inl rfl) rfl) (Kc 218 (.clo _ _ _) rfl <| kc3 217 216 215 rfl <| Kc 214 (.ali _) rfl <| kc4 213 209 208 207 rfl <| kc 206 rfl <| ko 0 rfl <| kc 3 rfl <| Kc 4 (.clo _ _ _) rfl <| kc2 18 24 rfl <| Kn) rfl ?_
        refine nn ?_
        exact AX.rt (rs := []) (ts := []) (.inr rfl) rfl (ROs.nil) (by decide) (fun i => match i with | 0 => .inr ⟨rfl, Ko rfl (by first | exact sm_left' ht hp hv hma rfl h.2.2.1 s2 (by omega) (by omega) hI2 | exact sm_right' ht hp hu hbm s1 (i := k) (by omega) (by omega) hI2 | exact hmn | exact (sy_no3 (by omega) (by omega)).trans hmn), rfl, by decide⟩ | 1 => .inl rfl | 2 => .inl rfl | 3 => .inl rfl | 4 => .inl rfl | _ + 5 => .inl rfl)
       ·
        obtain ⟨hc14, hc14'⟩ := pF hc14
        refine AW.skip ?_
        exact AX.rt (rs := []) (ts := []) (.inr rfl) rfl (ROs.nil) (by decide) (fun i => match i with | 0 => .inr ⟨rfl, Ko rfl (by first | exact sm_left' ht hp hv hma rfl h.2.2.1 s2 (by omega) (by omega) hI2 | exact sm_right' ht hp hu hbm s1 (i := k) (by omega) (by omega) hI2 | exact hmn | exact (sy_no3 (by omega) (by omega)).trans hmn), rfl, by decide⟩ | 1 => .inl rfl | 2 => .inl rfl | 3 => .inl rfl | 4 => .inl rfl | _ + 5 => .inl rfl)

/-- slices.stableCmpFunc[int64] -/
theorem c_slices_stableCmpFunc_int64 {γ : Type} {g : FuncId} {kg : Kd γ} {y : γ} {cs : List As} (q : Int → Int → Int) (p : Int → Prop) (hcs : CloArgs kg y cs) (hg : ∀ a b, p a → p b → AC Tryd.prog g ([.cel (Kd.int .i64) a, .cel (Kd.int .i64) b] ++ cs) [.cel (Kd.int .i64) (q a b)] []) (ht : TPre q p) (xs : List Int) (hp : ∀ x ∈ xs, p x) (h : xs.length ≤ 1000000) : AC Tryd.prog 63 [.own 2 (Kd.int .i64) xs, .cel (Kd.int .i64) (xs.length : Int), .clo g kg y] [] [.own 2 (Kd.int .i64) (isort q xs), .any, .any] := by
 refine acI (N := 63) Tryd.func63 (Nat.le_of_ble_eq_true rfl) rfl fun w0 hd s0 ar => ?_
 refine AW.to (ko 0 rfl <| kc 1 rfl <| Kc 2 (.clo _ _ _) rfl <| Kn) ?_
 refine sr ?_
 refine st (asI rfl) rfl ?_
 refine ng ?_
 refine sr ?_
 refine st (mvT rfl) rfl ?_
 refine st (asI rfl) rfl ?_
 refine st (asT rfl) rfl ?_
 refine ng ?_
 refine AW.seq ?_
 refine AW.block ?_
 refine AW.loop (fun z : Nat × List Int => z.2.length = z.1 ∧ z.1 ≤ xs.length ∧ blS q (20) xs = z.2 ++ blS q (20) (xs.drop z.1)) (fun z : Nat × List Int => keep [(0, .own 2 (Kd.int .i64) (z.2 ++ xs.drop z.1)), (1, .cel (Kd.int .i64) (xs.length : Int)), (2, .clo g kg y), (6, .cel (Kd.int .i64) (20 : Int)), (7, .cel (Kd.int .i64) (z.1 : Int)), (8, .cel (Kd.int .i64) ((z.1 + 20 : Nat) : Int))]) (fun z : Nat × List Int => xs.length - z.1) ((0, [])) ⟨rfl, Nat.zero_le _, by simp⟩ (Kc 0 _ (Ko rfl (by simp)) <| Kc 1 _ (Kv rfl rfl) <| Kc 2 _ (rfl) <| Kc 6 _ (Kv rfl rfl) <| Kc 7 _ (Kv rfl rfl) <| Kc 8 _ (Kv rfl rfl) <| Kn) ?_
 intro z hI
 refine AW.seq ?_
 refine sr ?_
 refine st (mvT rfl) rfl ?_
 refine st (mvT rfl) rfl ?_
 refine st (OpT.leq (H rfl) (T1 rfl) (T1 rfl)) rfl ?_
 refine ng ?_
 refine cd rfl (fun hc1 => ?_) fun hc1 => ?_
 ·
  obtain ⟨hc1, hc1'⟩ := pT hc1
  have hdl := (bl_dlen (q := q) (r := 20) hI.1 hI.2.1).1
  obtain ⟨hs1, hs2, hs3⟩ := is_step (q := q) (s := 20) (by omega) hI.1 (by omega) hI.2.2
  refine AW.skip ?_
  refine AX.go ?_
  refine AW.block ?_
  refine sr ?_
  refine st (OpT.alias (H rfl) (by decide) (by decide)) rfl ?_
  refine st (mvT rfl) rfl ?_
  refine st (mvT rfl) rfl ?_
  refine st (OpT.move (A := .clo _ _ _) (.inl rfl) rfl (ok' rfl) (T1 rfl) rfl) rfl ?_
  refine sg (OpT.cr (ms := [.root 0, .flat, .flat, .flat]) (c_slices_insertionSortCmpFunc_int64 q p hcs hg (z.2 ++ xs.drop z.1) z.1 (z.1 + 20) (bl_sub (r := 20) hp hI.2.2).1 ⟨by omega, by omega, by omega⟩) (H rfl) (Ar (Root.ali rfl (by decide) (by decide)) rfl rfl rfl <| Af (T1 rfl) rfl rfl <| Af (T1 rfl) rfl rfl <| Af (T1 rfl) rfl rfl <| An) rfl (.inl rfl) rfl) (Kc 17 (.clo _ _ _) rfl <| kc2 16 15 rfl <| Kc 14 (.ali _) rfl <| kc3 13 12 11 rfl <| ko 0 rfl <| kc 1 rfl <| Kc 2 (.clo _ _ _) rfl <| kc3 6 7 8 rfl <| Kn) rfl ?_
  refine ng ?_
  refine sr ?_
  refine st (mvT rfl) rfl ?_
  refine st (asT rfl) rfl ?_
  refine ng ?_
  refine AW.region ?_
  refine st (mvT rfl) rfl ?_
  refine st (mvT rfl) rfl ?_
  refine st (OpT.add (H rfl) (T1 rfl) (T1 rfl) (nw (by omega))) rfl ?_
  refine st (asT rfl) rfl ?_
  refine nn ?_
  refine AX.normal_block ?_
  exact AX.again ((z.1 + 20, z.2 ++ isort q (prt xs z.1 (z.1 + 20)))) ⟨hs3, by simp only []; omega, hs2⟩ (by simp only []; omega) (Kc 0 _ (Ko rfl hs1) <| Kc 1 _ (Kv rfl rfl) <| Kc 2 _ (rfl) <| Kc 6 _ (Kv rfl rfl) <| Kc 7 _ (Kv rfl (by first | rfl | (simp only []; omega))) <| Kc 8 _ (Kv rfl (by simp only []; omega)) <| Kn)
 ·
  obtain ⟨hc1, hc1'⟩ := pF hc1
  have hdl := (bl_dlen (q := q) (r := 20) hI.1 hI.2.1).1
  refine AW.exit ?_
  refine xT <| xT <| AX.exit_hit ?_
  refine AX.go ?_
  refine sr ?_
  refine st (OpT.alias (H rfl) (by decide) (by decide)) rfl ?_
  refine st (mvT rfl) rfl ?_
  refine st (mvT rfl) rfl ?_
  refine st (OpT.move (A := .clo _ _ _) (.inl rfl) rfl (ok' rfl) (T1 rfl) rfl) rfl ?_
  refine sg (OpT.cr (ms := [.root 0, .flat, .flat, .flat]) (c_slices_insertionSortCmpFunc_int64 q p hcs hg (z.2 ++ xs.drop z.1) z.1 xs.length (bl_sub (r := 20) hp hI.2.2).1 ⟨by omega, by omega, by omega⟩) (H rfl) (Ar (Root.ali rfl (by decide) (by decide)) rfl rfl rfl <| Af (T1 rfl) rfl rfl <| Af (T1 rfl) rfl rfl <| Af (T1 rfl) rfl rfl <| An) rfl (.inl rfl) rfl) (Kc 26 (.clo _ _ _) rfl <| kc2 25 24 rfl <| Kc 23 (.ali _) rfl <| kc3 13 12 11 rfl <| ko 0 rfl <| kc 1 rfl <| Kc 2 (.clo _ _ _) rfl <| kc3 6 7 8 rfl <| Kn) rfl ?_
  refine ng ?_
  refine AW.block ?_
  refine AW.loop (fun s : Nat => 0 < s ∧ s ≤ 2 * xs.length + 20) (fun s : Nat => keep [(0, .own 2 (Kd.int .i64) (blS q s xs)), (1, .cel (Kd.int .i64) (xs.length : Int)), (2, .clo g kg y), (6, .cel (Kd.int .i64) (s : Int))]) (fun s : Nat => xs.length - s) (20) (by omega) (Kc 0 _ (Ko rfl (is_last hI.1 hI.2.1 (by omega) hI.2.2)) <| Kc 1 _ (Kv rfl rfl) <| Kc 2 _ (rfl) <| Kc 6 _ (Kv rfl rfl) <| Kn) ?_
  intro s hI
  refine AW.seq ?_
  refine sr ?_
  refine st (mvT rfl) rfl ?_
  refine st (mvT rfl) rfl ?_
  refine st (OpT.lss (H rfl) (T1 rfl) (T1 rfl)) rfl ?_
  refine ng ?_
  refine cd rfl (fun hc2 => ?_) fun hc2 => ?_
  ·
   obtain ⟨hc2, hc2'⟩ := pT hc2
   refine AW.skip ?_
   refine AX.go ?_
   refine AW.block ?_
   refine sr ?_
   refine st (mvT rfl) rfl ?_
   refine st (OpT.mul (H rfl) (I rfl) (T1 rfl) (nw (by omega))) rfl ?_
   refine st (asI rfl) rfl ?_
   refine st (asT rfl) rfl ?_
   refine ng ?_
   refine AW.seq ?_
   refine AW.block ?_
   have hIs := hI
   refine AW.loop (fun z : Nat × List Int => z.2.length = z.1 ∧ z.1 ≤ xs.length ∧ blS q (s + s) xs = z.2 ++ blS q (s + s) (xs.drop z.1)) (fun z : Nat × List Int => keep [(0, .own 2 (Kd.int .i64) (z.2 ++ blS q s (xs.drop z.1))), (1, .cel (Kd.int .i64) (xs.length : Int)), (2, .clo g kg y), (6, .cel (Kd.int .i64) (s : Int)), (7, .cel (Kd.int .i64) (z.1 : Int)), (8, .cel (Kd.int .i64) ((z.1 + s + s : Nat) : Int))]) (fun z : Nat × List Int => xs.length - z.1) ((0, [])) ⟨rfl, Nat.zero_le _, by simp⟩ (Kc 0 _ (Ko rfl (by simp)) <| Kc 1 _ (Kv rfl rfl) <| Kc 2 _ (rfl) <| Kc 6 _ (Kv rfl rfl) <| Kc 7 _ (Kv rfl rfl) <| Kc 8 _ (Kv rfl (by simp only []; omega)) <| Kn) ?_
   intro z hI
   refine AW.seq ?_
   refine sr ?_
   refine st (mvT rfl) rfl ?_
   refine st (mvT rfl) rfl ?_
   refine st (OpT.leq (H rfl) (T1 rfl) (T1 rfl)) rfl ?_
   refine ng ?_
   refine cd rfl (fun hc3 => ?_) fun hc3 => ?_
   ·
    obtain ⟨hc3, hc3'⟩ := pT hc3
    have hdl := (bl_dlen (q := q) (r := s) hI.1 hI.2.1).2
    have hsub := (bl_sub (r := s) hp hI.2.2).2
    obtain ⟨hb1, hb2, hb3, hb4, hb5⟩ := bl_two ht hp (s := s) (by omega) hI.1 (by omega) hI.2.2
    refine AW.skip ?_
    refine AX.go ?_
    refine AW.block ?_
    refine sr ?_
    refine st (OpT.alias (H rfl) (by decide) (by decide)) rfl ?_
    refine st (mvT rfl) rfl ?_
    refine st (mvT rfl) rfl ?_
    refine st (mvT rfl) rfl ?_
    refine st (OpT.add (H rfl) (T1 rfl) (T1 rfl) (nw (by omega))) rfl ?_
    refine AWl.to (Kc 40 _ (Kv rfl (show _ = ((z.1 + s : Nat) : Int) from by omega)) <| (kc3 39 38 37 rfl <| Kc 36 (.ali _) rfl <| kc3 35 34 33 rfl <| ko 0 rfl <| kc 1 rfl <| Kc 2 (.clo _ _ _) rfl <| kc3 6 7 8 rfl <| Kn)) ?_
    refine st (mvT rfl) rfl ?_
    refine st (OpT.move (A := .clo _ _ _) (.inl rfl) rfl (ok' rfl) (T1 rfl) rfl) rfl ?_
    refine sg (OpT.cr (ms := [.root 0, .flat, .flat, .flat, .flat]) (c_slices_symMergeCmpFunc_int64 q p hcs hg ht _ (z.2 ++ blS q s (xs.drop z.1)) z.1 (z.1 + s) (z.1 + s + s) rfl hsub ⟨by omega, by omega, by omega, by omega⟩ hb4 hb5) (H rfl) (Ar (Root.ali rfl (by decide) (by decide)) rfl rfl rfl <| Af (T1 rfl) rfl rfl <| Af (T1 rfl) rfl rfl <| Af (T1 rfl) rfl rfl <| Af (T1 rfl) rfl rfl <| An) rfl (.inl rfl) rfl) (Kc 42 (.clo _ _ _) rfl <| kc4 41 40 39 38 rfl <| kc 37 rfl <| Kc 36 (.ali _) rfl <| kc3 35 34 33 rfl <| ko 0 rfl <| kc 1 rfl <| Kc 2 (.clo _ _ _) rfl <| kc3 6 7 8 rfl <| Kn) rfl ?_
    refine ng ?_
    refine sr ?_
    refine st (mvT rfl) rfl ?_
    refine st (asT rfl) rfl ?_
    refine ng ?_
    refine AW.region ?_
    refine st (mvT rfl) rfl ?_
    refine st (mvT rfl) rfl ?_
    refine st (OpT.mul (H rfl) (I rfl) (T1 rfl) (nw (by omega))) rfl ?_
    refine st (OpT.add (H rfl) (T1 rfl) (T1 rfl) (nw (by omega))) rfl ?_
    refine st (asT rfl) rfl ?_
    refine nn ?_
    refine AX.normal_block ?_
    exact AX.again ((z.1 + s + s, z.2 ++ isort q (prt xs z.1 (z.1 + s + s)))) ⟨hb3, by simp only []; omega, hb2⟩ (by simp only []; omega) (Kc 0 _ (Ko rfl hb1) <| Kc 1 _ (Kv rfl rfl) <| Kc 2 _ (rfl) <| Kc 6 _ (Kv rfl rfl) <| Kc 7 _ (Kv rfl (by first | rfl | (simp only []; omega))) <| Kc 8 _ (Kv rfl (by simp only []; omega)) <| Kn)
   ·
    obtain ⟨hc3, hc3'⟩ := pF hc3
    have hdl := (bl_dlen (q := q) (r := s) hI.1 hI.2.1).2
    have hsub := (bl_sub (r := s) hp hI.2.2).2
    refine AW.exit ?_
    refine xT <| xT <| AX.exit_hit ?_
    refine AX.go ?_
    refine AW.seqJ (e := [(0, .own 2 (Kd.int .i64) (blS q (s + s) xs)), (1, .cel (Kd.int .i64) (xs.length : Int)), (2, .clo g kg y), (6, .cel (Kd.int .i64) (s : Int))]) ?_ ?_
    ·
     refine sr ?_
     refine st (mvT rfl) rfl ?_
     refine st (mvT rfl) rfl ?_
     refine st (OpT.add (H rfl) (T1 rfl) (T1 rfl) (nw (by omega))) rfl ?_
     refine st (asT rfl) rfl ?_
     refine AWl.to (Kc 9 _ (Kv rfl (show _ = ((z.1 + s : Nat) : Int) from by omega)) <| (kc4 51 50 49 35 rfl <| kc2 34 33 rfl <| ko 0 rfl <| kc 1 rfl <| Kc 2 (.clo _ _ _) rfl <| kc3 6 7 8 rfl <| Kn)) ?_
     refine ng ?_
     refine sr ?_
     refine st (mvT rfl) rfl ?_
     refine st (mvT rfl) rfl ?_
     refine st (OpT.lss (H rfl) (T1 rfl) (T1 rfl)) rfl ?_
     refine ng ?_
     refine cd rfl (fun hc4 => ?_) fun hc4 => ?_
     ·
      obtain ⟨hc4, hc4'⟩ := pT hc4
      obtain ⟨hb1, hb4, hb5⟩ := bl_one ht hp (s := s) (by omega) hI.1 (by omega) (by omega) hI.2.2
      refine AW.region ?_
      refine st (OpT.alias (H rfl) (by decide) (by decide)) rfl ?_
      refine st (mvT rfl) rfl ?_
      refine st (mvT rfl) rfl ?_
      refine st (mvT rfl) rfl ?_
      refine st (OpT.move (A := .clo _ _ _) (.inl rfl) rfl (ok' rfl) (T1 rfl) rfl) rfl ?_
      refine sg (OpT.cr (ms := [.root 0, .flat, .flat, .flat, .flat]) (c_slices_symMergeCmpFunc_int64 q p hcs hg ht _ (z.2 ++ blS q s (xs.drop z.1)) z.1 (z.1 + s) xs.length rfl hsub ⟨by omega, by omega, by omega, by omega⟩ hb4 hb5) (H rfl) (Ar (Root.ali rfl (by decide) (by decide)) rfl rfl rfl <| Af (T1 rfl) rfl rfl <| Af (T1 rfl) rfl rfl <| Af (T1 rfl) rfl rfl <| Af (T1 rfl) rfl rfl <| An) rfl (.inl rfl) rfl) (Kc 59 (.clo _ _ _) rfl <| kc3 58 57 56 rfl <| Kc 55 (.ali _) rfl <| kc4 54 53 52 9 rfl <| kc4 51 50 49 35 rfl <| kc2 34 33 rfl <| ko 0 rfl <| kc 1 rfl <| Kc 2 (.clo _ _ _) rfl <| kc3 6 7 8 rfl <| Kn) rfl ?_
      refine nn ?_
      exact AX.join (Kc 0 _ (Ko rfl hb1) <| Kc 1 _ (Kv rfl rfl) <| Kc 2 _ (rfl) <| Kc 6 _ (Kv rfl rfl) <| Kn)
     ·
      obtain ⟨hc4, hc4'⟩ := pF hc4
      have hb1 := bl_no (q := q) (s := s) hI.1 (by omega) hI.2.2
      refine AW.skip ?_
      exact AX.join (Kc 0 _ (Ko rfl hb1) <| Kc 1 _ (Kv rfl rfl) <| Kc 2 _ (rfl) <| Kc 6 _ (Kv rfl rfl) <| Kn)
    ·
     refine AW.region ?_
     refine st (mvT rfl) rfl ?_
     refine st (OpT.mul (H rfl) (T1 rfl) (I rfl) (nw (by omega))) rfl ?_
     refine st (asT rfl) rfl ?_
     refine nn ?_
     refine AX.normal_block ?_
     exact AX.again (s + s) (by omega) (by omega) (Kc 0 _ (Ko rfl rfl) <| Kc 1 _ (Kv rfl rfl) <| Kc 2 _ (rfl) <| Kc 6 _ (Kv rfl (by omega)) <| Kn)
  ·
   obtain ⟨hc2, hc2'⟩ := pF hc2
   refine AW.exit ?_
   refine xT <| xT <| AX.exit_hit ?_
   exact AX.rt (rs := []) (ts := []) (.inr rfl) rfl (ROs.nil) (by decide) (fun i => match i with | 0 => .inr ⟨rfl, Ko rfl (bl_small (by omega)), rfl, by decide⟩ | 1 => .inl rfl | 2 => .inl rfl | _ + 3 => .inl rfl)

/-- slices.SortStableFunc[[]int64,int64] -/
theorem c_slices_SortStableFunc_int64_int64 {γ : Type} {g : FuncId} {kg : Kd γ} {y : γ} {cs : List As} (q : Int → Int → Int) (p : Int → Prop) (hcs : CloArgs kg y cs) (hg : ∀ a b, p a → p b → AC Tryd.prog g ([.cel (Kd.int .i64) a, .cel (Kd.int .i64) b] ++ cs) [.cel (Kd.int .i64) (q a b)] []) (ht : TPre q p) (xs : List Int) (hp : ∀ x ∈ xs, p x) (h : xs.length ≤ 1000000) : AC Tryd.prog 46 [.own 2 (Kd.int .i64) xs, .clo g kg y] [] [.own 2 (Kd.int .i64) (isort q xs), .any] := by
 refine acI (N := 9) Tryd.func46 (Nat.le_of_ble_eq_true rfl) rfl fun w0 hd s0 ar => ?_
 refine AW.to (ko 0 rfl <| Kc 1 (.clo _ _ _) rfl <| Kn) ?_
 refine AW.region ?_
 refine st (OpT.alias (H rfl) (by decide) (by decide)) rfl ?_
 refine st (OpT.alias (H rfl) (by decide) (by decide)) rfl ?_
 refine st (OpT.lenO (H rfl) (Root.ali rfl (by decide) (by decide)) rfl el26) rfl ?_
 refine st (OpT.move (A := .clo _ _ _) (.inl rfl) rfl (ok' rfl) (T1 rfl) rfl) rfl ?_
 refine sg (OpT.cr (ms := [.root 0, .flat, .flat]) (c_slices_stableCmpFunc_int64 q p hcs hg ht xs hp h) (H rfl) (Ar (Root.ali rfl (by decide) (by decide)) rfl rfl rfl <| Af (T1 rfl) rfl rfl <| Af (T1 rfl) rfl rfl <| An) rfl (.inl rfl) rfl) (Kc 7 (.clo _ _ _) rfl <| kc 6 rfl <| Kc 5 (.ali _) rfl <| Kc 4 (.ali _) rfl <| ko 0 rfl <| Kc 1 (.clo _ _ _) rfl <| Kn) rfl ?_
 refine nn ?_
 exact AX.rt (rs := []) (ts := []) (.inr rfl) rfl (ROs.nil) (by decide) (fun i => match i with | 0 => .inr ⟨rfl, Ko rfl rfl, rfl, by decide⟩ | 1 => .inl rfl | _ + 2 => .inl rfl)
end Go.Proofs.YtbckpmjiimiceaaDoor.VL
