/- Proved here: what some functions of the program take and give: walks with the words of VA..VQ. Printed by program. -/
import Derived.Test.YtkgboidjghcegaaGreatDoorWT
import Derived.Test.YtkgboidjghcegaaGreatDoorBpa
set_option linter.unusedVariables false
set_option linter.unusedSimpArgs false
set_option maxRecDepth 4000
namespace Go.Proofs.YtkgboidjghcegaaGreatDoor.VL
open Go
/-- spec.l00From -/
theorem c_spec_l00From (l : List Int) : AC Tryz.prog 49 [.cel (Kd.slice (Kd.int .u8)) l] [.box 129 (Kd.pair (Kd.slice (Kd.int .u8)) (Kd.pair (Kd.int .i64) Kd.u64)) ((l, 0, 0#64) : DSrc)] [] := by
 refine acI (N := 6) Tryz.func49 (Nat.le_of_ble_eq_true rfl) rfl fun w0 hd s0 ar => ?_
 refine AW.to (kc 0 rfl <| Kn) ?_
 refine sr ?_
 refine st (OpT.move (A := .val _) (.inr rfl) rfl (ok' rfl) Opd.const rfl) rfl ?_
 refine ng ?_
 refine sr ?_
 refine st (mvT rfl) rfl ?_
 refine st (OpT.build (H rfl) pl129 zr129 zk129 (Built.cel (T1 rfl) rfl rfl sb129_0 (Built.nil _))) rfl ?_
 refine st (OpT.boxA (E := 129) (H rfl) (T1 rfl)) rfl ?_
 refine sg (OpT.take (.inl rfl) rfl (ok' rfl) (Root.self (by decide)) rfl rfl (by decide)) (kb 2 rfl <| ka 4 rfl <| kc2 3 0 rfl <| Kn) rfl ?_
 refine ng ?_
 refine AW.ret ?_
 exact AX.rt (rs := [.tmp 2]) (ts := [some 2]) (.inl rfl) rfl (ROs.cons (RO.tmp (At.self (by decide)) (Kb rfl rfl) rfl) <| ROs.nil) (by decide) OutsOK.nil

/-- spec.l00Src).next -/
theorem c_spec_l00Src_next (ss : DSrc) (h : srcI 1000000000 ss) : AC Tryz.prog 73 [.box 129 (Kd.pair (Kd.slice (Kd.int .u8)) (Kd.pair (Kd.int .i64) Kd.u64)) ss] [.cel (Kd.int .i64) (nxt ss).1] [.box 129 (Kd.pair (Kd.slice (Kd.int .u8)) (Kd.pair (Kd.int .i64) Kd.u64)) (nxt ss).2] := by
 refine acI (N := 62) Tryz.func73 (Nat.le_of_ble_eq_true rfl) rfl fun w0 hd s0 ar => ?_
 refine AW.to (kb 0 rfl <| Kn) ?_
 have hs := h.2.2
 have hsl := h.2.1
 have hsa := hs.1
 have hsm := hs.2
 have hbi := nxtB_in h
 refine sr ?_
 refine st (asI rfl) rfl ?_
 refine ng ?_
 refine sr ?_
 refine st (asI rfl) rfl ?_
 refine ng ?_
 refine AW.seq ?_
 refine AW.seq ?_
 refine dh fomo ?_
 refine d1 [] (fun ve h => OpT.alias (H rfl) (by decide) (by decide)) rfl ?_
 refine d1 [0, 4] (fun ve h => OpT.nilCheckB (H rfl) (Root.ali ((h _ (List.elem_iff.1 rfl)).trans rfl) (by decide) (by decide)) ((h _ (List.elem_iff.1 rfl)).trans rfl) (by decide)) rfl ?_
 refine d1 [0, 5] (fun ve h => OpT.fieldAddrB (H rfl) (Root.ali ((h _ (List.elem_iff.1 rfl)).trans rfl) (by decide) (by decide)) ((h _ (List.elem_iff.1 rfl)).trans rfl) (by decide) fd129_1 sz3 (by decide) sb129_1) rfl ?_
 refine d1 [0, 6] (fun ve h => OpT.loadP (H rfl) (D1 h rfl) (.inl ⟨_, ((h _ (List.elem_iff.1 rfl)).trans rfl), rfl⟩) ag3 rfl) rfl ?_
 refine d1 [] (fun ve h => OpT.alias (H rfl) (by decide) (by decide)) rfl ?_
 refine d1 [0, 8] (fun ve h => OpT.nilCheckB (H rfl) (Root.ali ((h _ (List.elem_iff.1 rfl)).trans rfl) (by decide) (by decide)) ((h _ (List.elem_iff.1 rfl)).trans rfl) (by decide)) rfl ?_
 refine d1 [0, 9] (fun ve h => OpT.fieldAddrB (H rfl) (Root.ali ((h _ (List.elem_iff.1 rfl)).trans rfl) (by decide) (by decide)) ((h _ (List.elem_iff.1 rfl)).trans rfl) (by decide) fd129_0 sz40 (by decide) sb129_0) rfl ?_
 refine d1 [0, 10] (fun ve h => OpT.loadP (H rfl) (D1 h rfl) (.inl ⟨_, ((h _ (List.elem_iff.1 rfl)).trans rfl), rfl⟩) ag40 rfl) rfl ?_
 refine d1 [11] (fun ve h => OpT.len (H rfl) (D1 h rfl) el40) rfl ?_
 refine d1 [7, 12] (fun ve h => OpT.lss (H rfl) (D1 h rfl) (D1 h rfl)) rfl ?_
 refine dn ⟨by kernel_rfl, by kernel_rfl, ?_⟩
 refine AX.pr (kc3 13 3 2 rfl <| kb 0 rfl <| Kn) ?_
 refine AX.go ?_
 refine cd rfl (fun hc1 => ?_) fun hc1 => ?_
 ·
  obtain ⟨hc1, hc1'⟩ := pT hc1
  obtain ⟨b, hb⟩ : ∃ b, ss.1[Int.toNat ss.2.1]? = some b := ⟨_, List.getElem?_eq_getElem (by omega)⟩
  have hnb := nxtB_yes (s := ss) (by omega) hb
  refine dhm [0, 1, 3, 7, 0, 16, 48, 112, 255, 511, 1023, 2047] [(14, 0), (15, 0), (16, 0), (18, 0), (19, 0), (20, 0)] fomo ?_
  refine d1 [] (fun ve h => OpT.alias (H rfl) (by decide) (by decide)) rfl ?_
  refine d1 [0, 14] (fun ve h => OpT.nilCheckB (H rfl) (Root.ali ((h _ (List.elem_iff.1 rfl)).trans rfl) (by decide) (by decide)) ((h _ (List.elem_iff.1 rfl)).trans rfl) (by decide)) rfl ?_
  refine d1 [0, 15] (fun ve h => OpT.fieldAddrB (H rfl) (Root.ali ((h _ (List.elem_iff.1 rfl)).trans rfl) (by decide) (by decide)) ((h _ (List.elem_iff.1 rfl)).trans rfl) (by decide) fd129_0 sz40 (by decide) sb129_0) rfl ?_
  refine d1 [0, 16] (fun ve h => OpT.loadP (H rfl) (D1 h rfl) (.inl ⟨_, ((h _ (List.elem_iff.1 rfl)).trans rfl), rfl⟩) ag40 rfl) rfl ?_
  refine d1 [] (fun ve h => OpT.alias (H rfl) (by decide) (by decide)) rfl ?_
  refine d1 [0, 18] (fun ve h => OpT.nilCheckB (H rfl) (Root.ali ((h _ (List.elem_iff.1 rfl)).trans rfl) (by decide) (by decide)) ((h _ (List.elem_iff.1 rfl)).trans rfl) (by decide)) rfl ?_
  refine d1 [0, 19] (fun ve h => OpT.fieldAddrB (H rfl) (Root.ali ((h _ (List.elem_iff.1 rfl)).trans rfl) (by decide) (by decide)) ((h _ (List.elem_iff.1 rfl)).trans rfl) (by decide) fd129_1 sz3 (by decide) sb129_1) rfl ?_
  refine d1 [0, 20] (fun ve h => OpT.loadP (H rfl) (D1 h rfl) (.inl ⟨_, ((h _ (List.elem_iff.1 rfl)).trans rfl), rfl⟩) ag3 rfl) rfl ?_
  refine d1 [17, 21] (fun ve h => OpT.indexAddr (H rfl) (D1 h rfl) (D1 h rfl) el40 sz5 (by omega) (by assumption)) rfl ?_
  refine d1 [22] (fun ve h => OpT.load (H rfl) (D1 h rfl) ag5 rfl) rfl ?_
  refine d1 [23] (fun ve h => OpT.conv (H rfl) us5 Tryz.underlying3 (D1 h rfl) (wrap_i64 (by omega))) rfl ?_
  refine d1 [24] (fun ve h => OpT.move (A := .cel _ _) (.inr rfl) rfl (ok' rfl) (D1 h rfl) rfl) rfl ?_
  refine dn ⟨by kernel_rfl, by kernel_rfl, ?_⟩
  refine AX.pr (kc2 3 2 rfl <| kb 0 rfl <| Kn) ?_
  refine AX.go ?_
  refine sr ?_
  refine st (OpT.alias (H rfl) (by decide) (by decide)) rfl ?_
  refine st (OpT.nilCheckB (H rfl) (Root.ali rfl (by decide) (by decide)) rfl (by decide)) rfl ?_
  refine st (OpT.fieldAddrB (H rfl) (Root.ali rfl (by decide) (by decide)) rfl (by decide) fd129_1 sz3 (by decide) sb129_1) rfl ?_
  refine st (OpT.loadP (H rfl) (T1 rfl) (.inl ⟨_, rfl, rfl⟩) ag3 rfl) rfl ?_
  refine st (OpT.add (H rfl) (T1 rfl) (I rfl) (nw (by omega))) rfl ?_
  refine st (OpT.nilCheckB (H rfl) (Root.ali rfl (by decide) (by decide)) rfl (by decide)) rfl ?_
  refine st (OpT.fieldAddrB (H rfl) (Root.ali rfl (by decide) (by decide)) rfl (by decide) fd129_1 sz3 (by decide) sb129_1) rfl ?_
  refine sk (OpT.storeB rfl rfl (T1 rfl) rfl sz3 rfl (T1 rfl)) rfl ?_
  refine ng ?_
  refine sr ?_
  refine st (OpT.alias (H rfl) (by decide) (by decide)) rfl ?_
  refine st (OpT.alias (H rfl) (by decide) (by decide)) rfl ?_
  refine st (OpT.nilCheckB (H rfl) (Root.ali rfl (by decide) (by decide)) rfl (by decide)) rfl ?_
  refine st (OpT.fieldAddrB (H rfl) (Root.ali rfl (by decide) (by decide)) rfl (by decide) fd129_2 sz73 (by decide) sb129_2) rfl ?_
  refine st (OpT.loadP (H rfl) (T1 rfl) (.inl ⟨_, rfl, rfl⟩) ag73 rfl) rfl ?_
  refine st (OpT.umul (H rfl) (T1 rfl) (U2 6364136223846793005 rfl rfl)) rfl ?_
  refine st (mvT rfl) rfl ?_
  refine st (OpT.convu (H rfl) us3 Tryz.underlying73 (T1 rfl)) rfl ?_
  refine st (OpT.uadd (H rfl) (T1 rfl) (T1 rfl)) rfl ?_
  refine st (OpT.uadd (H rfl) (T1 rfl) (U2 1442695040888963407 rfl rfl)) rfl ?_
  refine st (OpT.nilCheckB (H rfl) (Root.ali rfl (by decide) (by decide)) rfl (by decide)) rfl ?_
  refine st (OpT.fieldAddrB (H rfl) (Root.ali rfl (by decide) (by decide)) rfl (by decide) fd129_2 sz73 (by decide) sb129_2) rfl ?_
  refine sk (OpT.storeB rfl rfl (T1 rfl) rfl sz73 rfl (T1 rfl)) rfl ?_
  refine AWl.to (kb 0 rfl <| kc2 3 2 rfl <| Kn) ?_
  refine ng ?_
  refine AW.seq ?_
  refine AW.seq ?_
  refine dh fomo ?_
  refine d1 [] (fun ve h => OpT.alias (H rfl) (by decide) (by decide)) rfl ?_
  refine d1 [0, 44] (fun ve h => OpT.nilCheckB (H rfl) (Root.ali ((h _ (List.elem_iff.1 rfl)).trans rfl) (by decide) (by decide)) ((h _ (List.elem_iff.1 rfl)).trans rfl) (by decide)) rfl ?_
  refine d1 [0, 45] (fun ve h => OpT.fieldAddrB (H rfl) (Root.ali ((h _ (List.elem_iff.1 rfl)).trans rfl) (by decide) (by decide)) ((h _ (List.elem_iff.1 rfl)).trans rfl) (by decide) fd129_1 sz3 (by decide) sb129_1) rfl ?_
  refine d1 [0, 46] (fun ve h => OpT.loadP (H rfl) (D1 h rfl) (.inl ⟨_, ((h _ (List.elem_iff.1 rfl)).trans rfl), rfl⟩) ag3 rfl) rfl ?_
  refine d1 [] (fun ve h => OpT.alias (H rfl) (by decide) (by decide)) rfl ?_
  refine d1 [0, 48] (fun ve h => OpT.nilCheckB (H rfl) (Root.ali ((h _ (List.elem_iff.1 rfl)).trans rfl) (by decide) (by decide)) ((h _ (List.elem_iff.1 rfl)).trans rfl) (by decide)) rfl ?_
  refine d1 [0, 49] (fun ve h => OpT.fieldAddrB (H rfl) (Root.ali ((h _ (List.elem_iff.1 rfl)).trans rfl) (by decide) (by decide)) ((h _ (List.elem_iff.1 rfl)).trans rfl) (by decide) fd129_0 sz40 (by decide) sb129_0) rfl ?_
  refine d1 [0, 50] (fun ve h => OpT.loadP (H rfl) (D1 h rfl) (.inl ⟨_, ((h _ (List.elem_iff.1 rfl)).trans rfl), rfl⟩) ag40 rfl) rfl ?_
  refine d1 [51] (fun ve h => OpT.len (H rfl) (D1 h rfl) el40) rfl ?_
  refine d1 [47, 52] (fun ve h => OpT.leq (H rfl) (D1 h rfl) (D1 h rfl)) rfl ?_
  refine dn ⟨by kernel_rfl, by kernel_rfl, ?_⟩
  refine AX.go ?_
  refine cd rfl (fun hc2 => ?_) fun hc2 => ?_
  ·
   obtain ⟨hc2, hc2'⟩ := pT hc2
   try simp only [] at hc2'
   refine sr ?_
   refine st (mvT rfl) rfl ?_
   refine st (asT rfl) rfl ?_
   refine AWl.to (kc 2 rfl <| kb 0 rfl <| Kn) ?_
   refine ng ?_
   refine AW.ret ?_
   refine rT ?_
   exact AX.rt (rs := [.tmp 2]) (ts := [some 2]) (.inl rfl) rfl (ROs.cons (RO.tmp (At.self (by decide)) (Kv rfl (by first | (rw [nxt_at (by omega), hnb]; done) | (rw [nxt_end (by omega)]; simp only [nxtS, hnb]; done) | (rw [nxt_end (by omega)]; simp only [nxtS, hnb]; rfl))) rfl) <| ROs.nil) (by decide) (fun i => match i with | 0 => .inr ⟨rfl, Kb rfl (by show _ = nxtS ss; simp only [nxtS, hnb]; try rfl), rfl, by decide⟩ | _ + 1 => .inl rfl)
  ·
   obtain ⟨hc2, hc2'⟩ := pF hc2
   try simp only [] at hc2'
   refine AW.skip ?_
   refine AX.pr (kb 0 rfl <| kc 2 rfl <| Kn) ?_
   refine AX.go ?_
   refine sr ?_
   refine st (OpT.alias (H rfl) (by decide) (by decide)) rfl ?_
   refine st (OpT.nilCheckB (H rfl) (Root.ali rfl (by decide) (by decide)) rfl (by decide)) rfl ?_
   refine st (OpT.fieldAddrB (H rfl) (Root.ali rfl (by decide) (by decide)) rfl (by decide) fd129_2 sz73 (by decide) sb129_2) rfl ?_
   refine st (OpT.loadP (H rfl) (T1 rfl) (.inl ⟨_, rfl, rfl⟩) ag73 rfl) rfl ?_
   refine st (OpT.shr (H rfl) (T1 rfl) (I rfl) (by decide)) rfl ?_
   refine st (OpT.band (H rfl) (T1 rfl) (U2 255 rfl rfl)) rfl ?_
   refine st (OpT.convi (H rfl) us73 Tryz.underlying2 (T1 rfl) (wrap_i64 ⟨Int.le_trans (by decide) (and_255 _).1, Int.le_trans (and_255 _).2 (by decide)⟩)) rfl ?_
   refine st (asT rfl) rfl ?_
   refine ng ?_
   refine AW.ret ?_
   exact AX.rt (rs := [.tmp 2]) (ts := [some 2]) (.inl rfl) rfl (ROs.cons (RO.tmp (At.self (by decide)) (Kv rfl (by first | (rw [nxt_at (by omega), hnb]; done) | (rw [nxt_end (by omega)]; simp only [nxtS, hnb]; done) | (rw [nxt_end (by omega)]; simp only [nxtS, hnb]; rfl))) rfl) <| ROs.nil) (by decide) (fun i => match i with | 0 => .inr ⟨rfl, Kb rfl (by show _ = nxtS ss; simp only [nxtS, hnb]; try rfl), rfl, by decide⟩ | _ + 1 => .inl rfl)
 ·
  obtain ⟨hc1, hc1'⟩ := pF hc1
  have hnb := nxtB_no (s := ss) (by omega)
  refine AW.skip ?_
  refine AX.go ?_
  refine sr ?_
  refine st (OpT.alias (H rfl) (by decide) (by decide)) rfl ?_
  refine st (OpT.nilCheckB (H rfl) (Root.ali rfl (by decide) (by decide)) rfl (by decide)) rfl ?_
  refine st (OpT.fieldAddrB (H rfl) (Root.ali rfl (by decide) (by decide)) rfl (by decide) fd129_1 sz3 (by decide) sb129_1) rfl ?_
  refine st (OpT.loadP (H rfl) (T1 rfl) (.inl ⟨_, rfl, rfl⟩) ag3 rfl) rfl ?_
  refine st (OpT.add (H rfl) (T1 rfl) (I rfl) (nw (by omega))) rfl ?_
  refine st (OpT.nilCheckB (H rfl) (Root.ali rfl (by decide) (by decide)) rfl (by decide)) rfl ?_
  refine st (OpT.fieldAddrB (H rfl) (Root.ali rfl (by decide) (by decide)) rfl (by decide) fd129_1 sz3 (by decide) sb129_1) rfl ?_
  refine sk (OpT.storeB rfl rfl (T1 rfl) rfl sz3 rfl (T1 rfl)) rfl ?_
  refine ng ?_
  refine sr ?_
  refine st (OpT.alias (H rfl) (by decide) (by decide)) rfl ?_
  refine st (OpT.alias (H rfl) (by decide) (by decide)) rfl ?_
  refine st (OpT.nilCheckB (H rfl) (Root.ali rfl (by decide) (by decide)) rfl (by decide)) rfl ?_
  refine st (OpT.fieldAddrB (H rfl) (Root.ali rfl (by decide) (by decide)) rfl (by decide) fd129_2 sz73 (by decide) sb129_2) rfl ?_
  refine st (OpT.loadP (H rfl) (T1 rfl) (.inl ⟨_, rfl, rfl⟩) ag73 rfl) rfl ?_
  refine st (OpT.umul (H rfl) (T1 rfl) (U2 6364136223846793005 rfl rfl)) rfl ?_
  refine st (mvT rfl) rfl ?_
  refine st (OpT.convu (H rfl) us3 Tryz.underlying73 (T1 rfl)) rfl ?_
  refine st (OpT.uadd (H rfl) (T1 rfl) (T1 rfl)) rfl ?_
  refine st (OpT.uadd (H rfl) (T1 rfl) (U2 1442695040888963407 rfl rfl)) rfl ?_
  refine st (OpT.nilCheckB (H rfl) (Root.ali rfl (by decide) (by decide)) rfl (by decide)) rfl ?_
  refine st (OpT.fieldAddrB (H rfl) (Root.ali rfl (by decide) (by decide)) rfl (by decide) fd129_2 sz73 (by decide) sb129_2) rfl ?_
  refine sk (OpT.storeB rfl rfl (T1 rfl) rfl sz73 rfl (T1 rfl)) rfl ?_
  refine AWl.to (kb 0 rfl <| kc2 3 2 rfl <| Kn) ?_
  refine ng ?_
  refine AW.seq ?_
  refine AW.seq ?_
  refine dh fomo ?_
  refine d1 [] (fun ve h => OpT.alias (H rfl) (by decide) (by decide)) rfl ?_
  refine d1 [0, 44] (fun ve h => OpT.nilCheckB (H rfl) (Root.ali ((h _ (List.elem_iff.1 rfl)).trans rfl) (by decide) (by decide)) ((h _ (List.elem_iff.1 rfl)).trans rfl) (by decide)) rfl ?_
  refine d1 [0, 45] (fun ve h => OpT.fieldAddrB (H rfl) (Root.ali ((h _ (List.elem_iff.1 rfl)).trans rfl) (by decide) (by decide)) ((h _ (List.elem_iff.1 rfl)).trans rfl) (by decide) fd129_1 sz3 (by decide) sb129_1) rfl ?_
  refine d1 [0, 46] (fun ve h => OpT.loadP (H rfl) (D1 h rfl) (.inl ⟨_, ((h _ (List.elem_iff.1 rfl)).trans rfl), rfl⟩) ag3 rfl) rfl ?_
  refine d1 [] (fun ve h => OpT.alias (H rfl) (by decide) (by decide)) rfl ?_
  refine d1 [0, 48] (fun ve h => OpT.nilCheckB (H rfl) (Root.ali ((h _ (List.elem_iff.1 rfl)).trans rfl) (by decide) (by decide)) ((h _ (List.elem_iff.1 rfl)).trans rfl) (by decide)) rfl ?_
  refine d1 [0, 49] (fun ve h => OpT.fieldAddrB (H rfl) (Root.ali ((h _ (List.elem_iff.1 rfl)).trans rfl) (by decide) (by decide)) ((h _ (List.elem_iff.1 rfl)).trans rfl) (by decide) fd129_0 sz40 (by decide) sb129_0) rfl ?_
  refine d1 [0, 50] (fun ve h => OpT.loadP (H rfl) (D1 h rfl) (.inl ⟨_, ((h _ (List.elem_iff.1 rfl)).trans rfl), rfl⟩) ag40 rfl) rfl ?_
  refine d1 [51] (fun ve h => OpT.len (H rfl) (D1 h rfl) el40) rfl ?_
  refine d1 [47, 52] (fun ve h => OpT.leq (H rfl) (D1 h rfl) (D1 h rfl)) rfl ?_
  refine dn ⟨by kernel_rfl, by kernel_rfl, ?_⟩
  refine AX.go ?_
  refine cd rfl (fun hc3 => ?_) fun hc3 => ?_
  ·
   obtain ⟨hc3, hc3'⟩ := pT hc3
   refine sr ?_
   refine st (mvT rfl) rfl ?_
   refine st (asT rfl) rfl ?_
   refine AWl.to (kc 2 rfl <| kb 0 rfl <| Kn) ?_
   refine ng ?_
   refine AW.ret ?_
   refine rT ?_
   exact AX.rt (rs := [.tmp 2]) (ts := [some 2]) (.inl rfl) rfl (ROs.cons (RO.tmp (At.self (by decide)) (Kv rfl (by first | (rw [nxt_at (by omega), hnb]; done) | (rw [nxt_end (by omega)]; simp only [nxtS, hnb]; done) | (rw [nxt_end (by omega)]; simp only [nxtS, hnb]; rfl))) rfl) <| ROs.nil) (by decide) (fun i => match i with | 0 => .inr ⟨rfl, Kb rfl (by show _ = nxtS ss; simp only [nxtS, hnb]; try rfl), rfl, by decide⟩ | _ + 1 => .inl rfl)
  ·
   obtain ⟨hc3, hc3'⟩ := pF hc3
   refine AW.skip ?_
   refine AX.pr (kb 0 rfl <| kc 2 rfl <| Kn) ?_
   refine AX.go ?_
   refine sr ?_
   refine st (OpT.alias (H rfl) (by decide) (by decide)) rfl ?_
   refine st (OpT.nilCheckB (H rfl) (Root.ali rfl (by decide) (by decide)) rfl (by decide)) rfl ?_
   refine st (OpT.fieldAddrB (H rfl) (Root.ali rfl (by decide) (by decide)) rfl (by decide) fd129_2 sz73 (by decide) sb129_2) rfl ?_
   refine st (OpT.loadP (H rfl) (T1 rfl) (.inl ⟨_, rfl, rfl⟩) ag73 rfl) rfl ?_
   refine st (OpT.shr (H rfl) (T1 rfl) (I rfl) (by decide)) rfl ?_
   refine st (OpT.band (H rfl) (T1 rfl) (U2 255 rfl rfl)) rfl ?_
   refine st (OpT.convi (H rfl) us73 Tryz.underlying2 (T1 rfl) (wrap_i64 ⟨Int.le_trans (by decide) (and_255 _).1, Int.le_trans (and_255 _).2 (by decide)⟩)) rfl ?_
   refine st (asT rfl) rfl ?_
   refine ng ?_
   refine AW.ret ?_
   exact AX.rt (rs := [.tmp 2]) (ts := [some 2]) (.inl rfl) rfl (ROs.cons (RO.tmp (At.self (by decide)) (Kv rfl (by first | (rw [nxt_at (by omega), hnb]; done) | (rw [nxt_end (by omega)]; simp only [nxtS, hnb]; done) | (rw [nxt_end (by omega)]; simp only [nxtS, hnb]; rfl))) rfl) <| ROs.nil) (by decide) (fun i => match i with | 0 => .inr ⟨rfl, Kb rfl (by show _ = nxtS ss; simp only [nxtS, hnb]; try rfl), rfl, by decide⟩ | _ + 1 => .inl rfl)

/-- spec.l00Src).pick -/
theorem c_spec_l00Src_pick (ss : DSrc) (n : Int) (h : srcI 999999999 ss) : AC Tryz.prog 50 [.box 129 (Kd.pair (Kd.slice (Kd.int .u8)) (Kd.pair (Kd.int .i64) Kd.u64)) ss, .cel (Kd.int .i64) n] [.cel (Kd.int .i64) (pick ss n).1] [.box 129 (Kd.pair (Kd.slice (Kd.int .u8)) (Kd.pair (Kd.int .i64) Kd.u64)) (pick ss n).2, .any] := by
 refine acI (N := 20) Tryz.func50 (Nat.le_of_ble_eq_true rfl) rfl fun w0 hd s0 ar => ?_
 refine AW.to (kb 0 rfl <| kc 1 rfl <| Kn) ?_
 have hn1 := nxt_in h
 have hn2 := nxt_in (nxt_src h)
 refine sr ?_
 refine st (asI rfl) rfl ?_
 refine ng ?_
 refine AW.seq ?_
 refine sr ?_
 refine st (mvT rfl) rfl ?_
 refine st (OpT.leq (H rfl) (T1 rfl) (I rfl)) rfl ?_
 refine ng ?_
 refine cd rfl (fun hc1 => ?_) fun hc1 => ?_
 ·
  obtain ⟨hc1, hc1'⟩ := pT hc1
  refine sr ?_
  refine st (asI rfl) rfl ?_
  refine ng ?_
  refine AW.ret ?_
  refine rT ?_
  exact AX.rt (rs := [.tmp 4]) (ts := [some 4]) (.inl rfl) rfl (ROs.cons (RO.tmp (At.self (by decide)) (Kv rfl (by first | (rw [pick_1 (by omega)]; done) | (rw [pick_2 (by omega) (by omega)]; done) | (rw [pick_3 (by omega) (by omega)]; done))) rfl) <| ROs.nil) (by decide) (fun i => match i with | 0 => .inr ⟨rfl, Kb rfl (by first | (rw [pick_1 (by omega)]; done) | (rw [pick_2 (by omega) (by omega)]; done) | (rw [pick_3 (by omega) (by omega)]; done)), rfl, by decide⟩ | 1 => .inl rfl | _ + 2 => .inl rfl)
 ·
  obtain ⟨hc1, hc1'⟩ := pF hc1
  refine AW.skip ?_
  refine AX.go ?_
  refine sr ?_
  refine st (OpT.alias (H rfl) (by decide) (by decide)) rfl ?_
  refine sg (OpT.cr (ms := [.root 0]) (c_spec_l00Src_next _ (h.le (by omega))) (H rfl) (Ar (Root.ali rfl (by decide) (by decide)) rfl rfl rfl <| An) rfl (.inl rfl) rfl) (kc 9 rfl <| Kc 8 (.ali _) rfl <| kc3 7 6 4 rfl <| kb 0 rfl <| kc 1 rfl <| Kn) rfl ?_
  refine st (asT rfl) rfl ?_
  refine ng ?_
  refine AW.seq ?_
  refine sr ?_
  refine st (mvT rfl) rfl ?_
  refine st (OpT.gtr (H rfl) (T1 rfl) (I rfl)) rfl ?_
  refine ng ?_
  refine cd rfl (fun hc2 => ?_) fun hc2 => ?_
  ·
   obtain ⟨hc2, hc2'⟩ := pT hc2
   refine AW.region ?_
   refine st (mvT rfl) rfl ?_
   refine st (OpT.mul (H rfl) (T1 rfl) (I rfl) (nw (by omega))) rfl ?_
   refine st (OpT.alias (H rfl) (by decide) (by decide)) rfl ?_
   refine sg (OpT.cr (ms := [.root 0]) (c_spec_l00Src_next _ (nxt_src h)) (H rfl) (Ar (Root.ali rfl (by decide) (by decide)) rfl rfl rfl <| An) rfl (.inl rfl) rfl) (kc 15 rfl <| Kc 14 (.ali _) rfl <| kc4 13 12 11 10 rfl <| kc2 5 9 rfl <| Kc 8 (.ali _) rfl <| kc3 7 6 4 rfl <| kb 0 rfl <| kc 1 rfl <| Kn) rfl ?_
   refine st (OpT.add (H rfl) (T1 rfl) (T1 rfl) (nw (by omega))) rfl ?_
   refine st (asT rfl) rfl ?_
   refine AWl.to (kc2 5 4 rfl <| kb 0 rfl <| kc 1 rfl <| Kn) ?_
   refine ng ?_
   refine sr ?_
   refine st (mvT rfl) rfl ?_
   refine st (mvT rfl) rfl ?_
   refine st (OpT.rem (H rfl) (T1 rfl) (T1 rfl) (by omega)) rfl ?_
   refine st (asT rfl) rfl ?_
   refine ng ?_
   refine AW.ret ?_
   exact AX.rt (rs := [.tmp 4]) (ts := [some 4]) (.inl rfl) rfl (ROs.cons (RO.tmp (At.self (by decide)) (Kv rfl (by first | (rw [pick_1 (by omega)]; done) | (rw [pick_2 (by omega) (by omega)]; done) | (rw [pick_3 (by omega) (by omega)]; done))) rfl) <| ROs.nil) (by decide) (fun i => match i with | 0 => .inr ⟨rfl, Kb rfl (by first | (rw [pick_1 (by omega)]; done) | (rw [pick_2 (by omega) (by omega)]; done) | (rw [pick_3 (by omega) (by omega)]; done)), rfl, by decide⟩ | 1 => .inl rfl | _ + 2 => .inl rfl)
  ·
   obtain ⟨hc2, hc2'⟩ := pF hc2
   refine AW.skip ?_
   refine AX.go ?_
   refine sr ?_
   refine st (mvT rfl) rfl ?_
   refine st (mvT rfl) rfl ?_
   refine st (OpT.rem (H rfl) (T1 rfl) (T1 rfl) (by omega)) rfl ?_
   refine st (asT rfl) rfl ?_
   refine AWl.to (kc 4 rfl <| kb 0 rfl <| Kn) ?_
   refine ng ?_
   refine AW.ret ?_
   exact AX.rt (rs := [.tmp 4]) (ts := [some 4]) (.inl rfl) rfl (ROs.cons (RO.tmp (At.self (by decide)) (Kv rfl (by first | (rw [pick_1 (by omega)]; done) | (rw [pick_2 (by omega) (by omega)]; done) | (rw [pick_3 (by omega) (by omega)]; done))) rfl) <| ROs.nil) (by decide) (fun i => match i with | 0 => .inr ⟨rfl, Kb rfl (by first | (rw [pick_1 (by omega)]; done) | (rw [pick_2 (by omega) (by omega)]; done) | (rw [pick_3 (by omega) (by omega)]; done)), rfl, by decide⟩ | 1 => .inl rfl | _ + 2 => .inl rfl)

/-- spec.l00Src).one -/
theorem c_spec_l00Src_one (ss : DSrc) (n : Int) (h : srcI 999999999 ss) : AC Tryz.prog 69 [.box 129 (Kd.pair (Kd.slice (Kd.int .u8)) (Kd.pair (Kd.int .i64) Kd.u64)) ss, .cel (Kd.int .i64) n] [.cel Kd.bool ((pick ss n).1 == 0)] [.box 129 (Kd.pair (Kd.slice (Kd.int .u8)) (Kd.pair (Kd.int .i64) Kd.u64)) (pick ss n).2, .any] := by
 refine acI (N := 9) Tryz.func69 (Nat.le_of_ble_eq_true rfl) rfl fun w0 hd s0 ar => ?_
 refine AW.to (kb 0 rfl <| kc 1 rfl <| Kn) ?_
 refine sr ?_
 refine st (asB rfl) rfl ?_
 refine ng ?_
 refine sr ?_
 refine st (OpT.alias (H rfl) (by decide) (by decide)) rfl ?_
 refine st (mvT rfl) rfl ?_
 refine sg (OpT.cr (ms := [.root 0, .flat]) (c_spec_l00Src_pick _ _ h) (H rfl) (Ar (Root.ali rfl (by decide) (by decide)) rfl rfl rfl <| Af (T1 rfl) rfl rfl <| An) rfl (.inl rfl) rfl) (kc2 7 6 rfl <| Kc 5 (.ali _) rfl <| kc 4 rfl <| kb 0 rfl <| kc 1 rfl <| Kn) rfl ?_
 refine st (OpT.eql (H rfl) (T1 rfl) (I rfl)) rfl ?_
 refine st (asT rfl) rfl ?_
 refine ng ?_
 refine AW.ret ?_
 exact AX.rt (rs := [.tmp 4]) (ts := [some 4]) (.inl rfl) rfl (ROs.cons (RO.tmp (At.self (by decide)) (Kv rfl rfl) rfl) <| ROs.nil) (by decide) (fun i => match i with | 0 => .inr ⟨rfl, Kb rfl rfl, rfl, by decide⟩ | 1 => .inl rfl | _ + 2 => .inl rfl)
end Go.Proofs.YtkgboidjghcegaaGreatDoor.VL
