/- Proved here: what some functions of the program take and give: walks with the words of VA..VQ. Printed by program. -/
import Derived.Test.YtohcpnobmknglaaDoorWT
import Derived.Test.YtohcpnobmknglaaDoorBpa
import Derived.Test.YtohcpnobmknglaaDoorWL
import Derived.Test.YtohcpnobmknglaaDoorWX
import Derived.Test.YtohcpnobmknglaaDoorWM
set_option linter.unusedVariables false
set_option linter.unusedSimpArgs false
set_option maxRecDepth 4000
namespace Go.Proofs.YtohcpnobmknglaaDoor.VL
open Go
/-- slices.Index[[]string,string] -/
theorem c_slices_Index_string_string (x : List ByteArray) (a0 : ByteArray) : AC Tryd.prog 181 [.cel (Kd.slice Kd.str) x, .cel Kd.str a0] [.cel (Kd.int .i64) (idxQ (fun b => eqv a0 b) x)] [] := by
 refine acI (N := 19) Tryd.func181 (Nat.le_of_ble_eq_true rfl) rfl fun w0 hd s0 ar => ?_
 refine AW.to (kc2 0 1 rfl <| Kn) ?_
 refine AW.fact (fun a w hr => (ok_slice (R_ok (t := 0) rfl hr)).2) (fun hl0 => ?_)
 refine sr ?_
 refine st (asI rfl) rfl ?_
 refine ng ?_
 refine AW.seq ?_
 refine sr ?_
 refine st (mvT rfl) rfl ?_
 refine st (OpT.len (H rfl) (T1 rfl) el45) rfl ?_
 refine st (mvI rfl) rfl ?_
 refine ng ?_
 refine AW.block ?_
 refine AW.loop (fun z : Nat => z ≤ x.length ∧ ∀ i, i < z → nI (fun b => eqv a0 b) x i) (fun z : Nat => keep [(0, .cel (Kd.slice Kd.str) x), (1, .cel Kd.str a0), (7, .cel (Kd.int .i64) ((x.length : Nat) : Int)), (8, .cel (Kd.int .i64) (z : Int))]) (fun z : Nat => x.length - z) (0) ⟨Nat.zero_le _, all_none⟩ (Kc 0 _ (Kv rfl rfl) <| Kc 1 _ (Kv rfl rfl) <| Kc 7 _ (Kv rfl rfl) <| Kc 8 _ (Kv rfl rfl) <| Kn) ?_
 intro z hI
 refine sr ?_
 refine st (OpT.lss (H rfl) (T1 rfl) (T1 rfl)) rfl ?_
 refine ng ?_
 refine AW.seq ?_
 refine cd rfl (fun hc1 => ?_) fun hc1 => ?_
 ·
  obtain ⟨hc1, hc1'⟩ := pT hc1
  obtain ⟨a, ha⟩ := getI (x := x) (z := z) (by omega)
  refine AW.skip ?_
  refine AX.go ?_
  refine AW.seq ?_
  refine AW.block ?_
  refine sr ?_
  refine st (mvT rfl) rfl ?_
  refine st (asT rfl) rfl ?_
  refine ng ?_
  refine sr ?_
  refine st (mvT rfl) rfl ?_
  refine st (mvT rfl) rfl ?_
  refine st (mvT rfl) rfl ?_
  refine st (OpT.indexAddr (H rfl) (T1 rfl) (T1 rfl) el45 sz9 (by omega) (by assumption)) rfl ?_
  refine st (OpT.load (H rfl) (T1 rfl) ag9 rfl) rfl ?_
  refine st (OpT.seqv (H rfl) (T1 rfl) (T1 rfl)) rfl ?_
  refine ng ?_
  refine cd rfl (fun hc2 => ?_) fun hc2 => ?_
  ·
   obtain ⟨hc2, hc2'⟩ := pT hc2
   refine sr ?_
   refine st (mvT rfl) rfl ?_
   refine st (asT rfl) rfl ?_
   refine ng ?_
   refine AW.ret ?_
   refine rK <| rT <| rT <| rK <| rT ?_
   exact rt1 rfl (.inl rfl) (by first | exact idxQ_at hI.2 ha hc2 | exact idxQ_end hI.2 (by omega))
  ·
   obtain ⟨hc2, hc2'⟩ := pF hc2
   refine AW.skip ?_
   refine AX.normal_block ?_
   refine AX.go ?_
   refine AW.region ?_
   refine st (OpT.add (H rfl) (T1 rfl) (I rfl) (nw (by omega))) rfl ?_
   refine st (mvT rfl) rfl ?_
   refine nn ?_
   exact AX.again (z + 1) ⟨by omega, all_step hI.2 ((nI_iff ha).2 (by simpa using hc2))⟩ (by omega) (Kc 0 _ (Kv rfl rfl) <| Kc 1 _ (Kv rfl rfl) <| Kc 7 _ (Kv rfl rfl) <| Kc 8 _ (Kv rfl (by omega)) <| Kn)
 ·
  obtain ⟨hc1, hc1'⟩ := pF hc1
  refine AW.exit ?_
  refine xT <| xT <| AX.exit_hit ?_
  refine AX.go ?_
  refine sr ?_
  refine st (asI rfl) rfl ?_
  refine ng ?_
  refine AW.ret ?_
  exact rt1 rfl (.inl rfl) (by first | exact idxQ_at hI.2 ha hc2 | exact idxQ_end hI.2 (by omega))

/-- slices.Contains[[]string,string] -/
theorem c_slices_Contains_string_string (x : List ByteArray) (a : ByteArray) : AC Tryd.prog 136 [.cel (Kd.slice Kd.str) x, .cel Kd.str a] [.cel Kd.bool (x.any fun b => eqv a b)] [] := by
 refine acI (N := 9) Tryd.func136 (Nat.le_of_ble_eq_true rfl) rfl fun w0 hd s0 ar => ?_
 refine AW.to (kc2 0 1 rfl <| Kn) ?_
 refine sr ?_
 refine st (asB rfl) rfl ?_
 refine ng ?_
 refine sr ?_
 refine st (mvT rfl) rfl ?_
 refine st (mvT rfl) rfl ?_
 refine st (OpT.c1 (ms := [.flat, .flat]) (c_slices_Index_string_string _ _) (H rfl) (Af (T1 rfl) rfl rfl <| Af (T1 rfl) rfl rfl <| An) rfl rfl) rfl ?_
 refine st (OpT.geq (H rfl) (T1 rfl) (I rfl)) rfl ?_
 refine st (asT rfl) rfl ?_
 refine ng ?_
 refine AW.ret ?_
 exact rt1 rfl (.inl rfl) idxQ_any

/-- impl.namesOf -/
theorem c_impl_namesOf_o (ds : List (List DCard)) (h : ds.length ≤ 3 ∧ ∀ x ∈ ds, deckOK x) : AC Tryd.prog 74 [.cel (Kd.slice (Kd.slice kCard)) ds] [.own 9 Kd.str (names ds)] [] := by
 refine acI (N := 34) Tryd.func74 (Nat.le_of_ble_eq_true rfl) rfl fun w0 hd s0 ar => ?_
 refine AW.to (kc 0 rfl <| Kn) ?_
 refine sr ?_
 refine st (nilO (E := 9) Kd.str rfl (.inl rfl)) rfl ?_
 refine ng ?_
 refine sr ?_
 refine st (OpT.buildSlice0 (m := 0) (z := .bool false) Kd.str (H rfl) el45 sz9 (by decide)) rfl ?_
 refine sg (OpT.take (.inl rfl) rfl (ok' rfl) (Root.self (by decide)) rfl rfl (by decide)) (ko 3 rfl <| ko 2 rfl <| kc 0 rfl <| Kn) rfl ?_
 refine ng ?_
 refine AW.seq ?_
 refine sr ?_
 refine st (mvT rfl) rfl ?_
 refine st (OpT.len (H rfl) (T1 rfl) el106) rfl ?_
 refine st (mvI rfl) rfl ?_
 refine ng ?_
 refine AW.block ?_
 refine AW.loop (fun z : Nat => z ≤ ds.length) (fun z : Nat => keep [(3, .own 9 Kd.str (names (ds.take z))), (9, .cel (Kd.slice (Kd.slice kCard)) ds), (10, .cel (Kd.int .i64) (ds.length : Int)), (11, .cel (Kd.int .i64) (z : Int))]) (fun z : Nat => ds.length - z) (0) (Nat.zero_le _) (Kc 3 _ (Ko rfl rfl) <| Kc 9 _ (Kv rfl rfl) <| Kc 10 _ (Kv rfl rfl) <| Kc 11 _ (Kv rfl rfl) <| Kn) ?_
 intro z hI
 have hnl := names_len (ds := ds.take z) (fun x hx => (h.2 x (List.mem_of_mem_take hx)).1)
 rw [List.length_take] at hnl
 refine sr ?_
 refine st (OpT.lss (H rfl) (T1 rfl) (T1 rfl)) rfl ?_
 refine ng ?_
 refine AW.seq ?_
 refine cd rfl (fun hc1 => ?_) fun hc1 => ?_
 ·
  obtain ⟨hc1, hc1'⟩ := pT hc1
  obtain ⟨x, hx⟩ := getI (x := ds) (z := z) (by omega)
  have hxo := h.2 x (mem_getI hx)
  have hxl := hxo.1
  refine AW.skip ?_
  refine AX.go ?_
  refine AW.seq ?_
  refine AW.block ?_
  refine sr ?_
  refine st (OpT.indexAddr (H rfl) (T1 rfl) (T1 rfl) el106 sz26 (by omega) (by assumption)) rfl ?_
  refine st (OpT.load (H rfl) (T1 rfl) ag26 rfl) rfl ?_
  refine st (asT rfl) rfl ?_
  refine ng ?_
  refine sr ?_
  refine st (mvT rfl) rfl ?_
  refine st (OpT.len (H rfl) (T1 rfl) el26) rfl ?_
  refine st (mvI rfl) rfl ?_
  refine ng ?_
  refine AW.block ?_
  refine AW.loop (fun y : Nat => y ≤ x.length) (fun y : Nat => keep [(3, .own 9 Kd.str (nmP ds z x y)), (9, .cel (Kd.slice (Kd.slice kCard)) ds), (10, .cel (Kd.int .i64) (ds.length : Int)), (11, .cel (Kd.int .i64) (z : Int)), (15, .cel (Kd.slice kCard) x), (16, .cel (Kd.int .i64) (x.length : Int)), (17, .cel (Kd.int .i64) (y : Int))]) (fun y : Nat => x.length - y) (0) (Nat.zero_le _) (Kc 3 _ (Ko rfl (nmP_zero ds z x)) <| Kc 9 _ (Kv rfl rfl) <| Kc 10 _ (Kv rfl rfl) <| Kc 11 _ (Kv rfl rfl) <| Kc 15 _ (Kv rfl rfl) <| Kc 16 _ (Kv rfl rfl) <| Kc 17 _ (Kv rfl rfl) <| Kn) ?_
  intro y hI
  refine sr ?_
  refine st (OpT.lss (H rfl) (T1 rfl) (T1 rfl)) rfl ?_
  refine ng ?_
  refine AW.seq ?_
  refine cd rfl (fun hc2 => ?_) fun hc2 => ?_
  ·
   obtain ⟨hc2, hc2'⟩ := pT hc2
   obtain ⟨c, hcc⟩ := getI (x := x) (z := y) (by omega)
   refine AW.skip ?_
   refine AX.go ?_
   refine AW.seq ?_
   refine AW.block ?_
   refine sr ?_
   refine st (OpT.indexAddr (H rfl) (T1 rfl) (T1 rfl) el26 sz42 (by omega) (by assumption)) rfl ?_
   refine st (OpT.loadA (H rfl) (T1 rfl) ag42 sz42) rfl ?_
   refine st (OpT.alloc (H rfl) zr42 zk42) rfl ?_
   refine sk (OpT.storeBA rfl rfl (Opd.whole (Root.self (t := 7) (by decide)) rfl) rfl sz42 (by decide) (T1 rfl)) rfl ?_
   refine ng ?_
   refine sr ?_
   refine st (OpT.alias (H rfl) (by decide) (by decide)) rfl ?_
   refine st (OpT.fieldAddrB (H rfl) (Root.self (t := 7) (by decide)) rfl (by decide) fd42_0 sz9 (by decide) sb42_0) rfl ?_
   refine st (OpT.loadP (H rfl) (T1 rfl) (.inl ⟨_, rfl, rfl⟩) ag9 rfl) rfl ?_
   refine st (cb1 (ms := [.bor 3, .flat]) (c_slices_Contains_string_string _ _) (H rfl) (Ab (Root.ali rfl (by decide) (by decide)) rfl <| Af (T1 rfl) rfl rfl <| An) rfl (indC fun _ _ _ _ h => h)) rfl ?_
   refine st (OpT.not (H rfl) (T1 rfl)) rfl ?_
   refine ng ?_
   refine cd rfl (fun hc3 => ?_) fun hc3 => ?_
   ·
    obtain ⟨hc3, hc3'⟩ := pT hc3
    refine AW.region ?_
    refine st (OpT.alias (H rfl) (by decide) (by decide)) rfl ?_
    refine st (OpT.fieldAddrB (H rfl) (Root.self (t := 7) (by decide)) rfl (by decide) fd42_0 sz9 (by decide) sb42_0) rfl ?_
    refine st (OpT.loadP (H rfl) (T1 rfl) (.inl ⟨_, rfl, rfl⟩) ag9 rfl) rfl ?_
    refine st (OpT.buildSlice (H rfl) el45 zr9 sz9 rfl (by decide) zk9 (by decide) (Built.cel (T1 rfl) rfl rfl (sub_arr (by decide) (.empty : ByteArray)) (Built.nil _))) rfl ?_
    refine sg (OpT.append (H rfl) (Root.ali rfl (by decide) (by decide)) rfl (Src.own (Root.self (t := 29) (by decide)) rfl) (by decide) el45 zr9 rfl sz9 by9 (by decide) (by have h70 := nmP_len (ds := ds) (d := z) (i := y) (x := x); simp only [List.length_set, List.length_replicate]; omega)) (ko 30 rfl <| ko 29 rfl <| kc 28 rfl <| Kc 27 (.pel _ _ _ _ _ _ _) rfl <| kc3 25 24 23 rfl <| Kc 22 (.pel _ _ _ _ _ _ _) rfl <| kb 7 rfl <| ka 20 rfl <| kc4 19 18 9 10 rfl <| kc4 11 15 16 17 rfl <| Kn) rfl ?_
    refine sg (OpT.take (.inl rfl) rfl (ok' rfl) (Root.self (by decide)) rfl rfl (by decide)) (ko 3 rfl <| ko 29 rfl <| kc 28 rfl <| Kc 27 (.pel _ _ _ _ _ _ _) rfl <| kc3 25 24 23 rfl <| Kc 22 (.pel _ _ _ _ _ _ _) rfl <| kb 7 rfl <| ka 20 rfl <| kc4 19 18 9 10 rfl <| kc4 11 15 16 17 rfl <| Kn) rfl ?_
    refine nn ?_
    refine AX.normal_block ?_
    refine AX.go ?_
    refine AW.region ?_
    refine st (OpT.add (H rfl) (T1 rfl) (I rfl) (nw (by omega))) rfl ?_
    refine st (mvT rfl) rfl ?_
    refine nn ?_
    exact AX.again (y + 1) (by omega) (by omega) (Kc 3 _ (Ko rfl (by first | exact nm_yes hxo hcc (by simpa using hc3) | exact nm_no hxo hcc (by simpa using hc3))) <| Kc 9 _ (Kv rfl rfl) <| Kc 10 _ (Kv rfl rfl) <| Kc 11 _ (Kv rfl rfl) <| Kc 15 _ (Kv rfl rfl) <| Kc 16 _ (Kv rfl rfl) <| Kc 17 _ (Kv rfl (by omega)) <| Kn)
   ·
    obtain ⟨hc3, hc3'⟩ := pF hc3
    refine AW.skip ?_
    refine AX.normal_block ?_
    refine AX.go ?_
    refine AW.region ?_
    refine st (OpT.add (H rfl) (T1 rfl) (I rfl) (nw (by omega))) rfl ?_
    refine st (mvT rfl) rfl ?_
    refine nn ?_
    exact AX.again (y + 1) (by omega) (by omega) (Kc 3 _ (Ko rfl (by first | exact nm_yes hxo hcc (by simpa using hc3) | exact nm_no hxo hcc (by simpa using hc3))) <| Kc 9 _ (Kv rfl rfl) <| Kc 10 _ (Kv rfl rfl) <| Kc 11 _ (Kv rfl rfl) <| Kc 15 _ (Kv rfl rfl) <| Kc 16 _ (Kv rfl rfl) <| Kc 17 _ (Kv rfl (by omega)) <| Kn)
  ·
   obtain ⟨hc2, hc2'⟩ := pF hc2
   refine AW.exit ?_
   refine xT <| xT <| AX.exit_hit ?_
   refine AX.normal_block ?_
   refine AX.go ?_
   refine AW.region ?_
   refine st (OpT.add (H rfl) (T1 rfl) (I rfl) (nw (by omega))) rfl ?_
   refine st (mvT rfl) rfl ?_
   refine nn ?_
   exact AX.again (z + 1) (by omega) (by omega) (Kc 3 _ (Ko rfl (nmP_end hx (by omega))) <| Kc 9 _ (Kv rfl rfl) <| Kc 10 _ (Kv rfl rfl) <| Kc 11 _ (Kv rfl (by omega)) <| Kn)
 ·
  obtain ⟨hc1, hc1'⟩ := pF hc1
  refine AW.exit ?_
  refine xT <| xT <| AX.exit_hit ?_
  refine AX.go ?_
  refine sr ?_
  refine st (OpT.alias (H rfl) (by decide) (by decide)) rfl ?_
  refine sg (OpT.take (.inl rfl) rfl (ok' rfl) (Root.ali rfl (by decide) (by decide)) rfl rfl (by decide)) (ko 2 rfl <| kc4 12 9 10 11 rfl <| Kn) rfl ?_
  refine ng ?_
  refine AW.ret ?_
  exact AX.rt (rs := [.tmp 2]) (ts := [some 2]) (.inl rfl) rfl (ROs.cons (RO.tmp (At.self (by decide)) (Ko rfl (by rw [List.take_of_length_le (by omega)])) rfl) <| ROs.nil) (by decide) OutsOK.nil
theorem c_impl_namesOf (ds : List (List DCard)) (h : ds.length ≤ 3 ∧ ∀ x ∈ ds, deckOK x) : AC Tryd.prog 74 [.cel (Kd.slice (Kd.slice kCard)) ds] [.cel (Kd.slice Kd.str) (names ds)] [] := (c_impl_namesOf_o ds h).frz rfl

set_option maxHeartbeats 4000000 in
/-- spec.l07Names -/
theorem c_spec_l07Names_o (ds : List (List DCard)) (h : ds.length ≤ 3 ∧ ∀ x ∈ ds, deckOK x) : AC Tryd.prog 77 [.cel (Kd.slice (Kd.slice kCard)) ds] [.own 9 Kd.str (names ds)] [] := by
 refine acI (N := 60) Tryd.func77 (Nat.le_of_ble_eq_true rfl) rfl fun w0 hd s0 ar => ?_
 refine AW.to (kc 0 rfl <| Kn) ?_
 refine sr ?_
 refine st (nilO (E := 9) Kd.str rfl (.inl rfl)) rfl ?_
 refine ng ?_
 refine sr ?_
 refine st (OpT.buildSlice0 (m := 0) (z := .bool false) Kd.str (H rfl) el45 sz9 (by decide)) rfl ?_
 refine sg (OpT.take (.inl rfl) rfl (ok' rfl) (Root.self (by decide)) rfl rfl (by decide)) (ko 3 rfl <| ko 2 rfl <| kc 0 rfl <| Kn) rfl ?_
 refine ng ?_
 refine AW.seq ?_
 refine sr ?_
 refine st (asI rfl) rfl ?_
 refine ng ?_
 refine AW.block ?_
 refine AW.loop (fun z : Nat => z ≤ ds.length) (fun z : Nat => keep [(0, .cel (Kd.slice (Kd.slice kCard)) ds), (3, .own 9 Kd.str (names (ds.take z))), (4, .cel (Kd.int .i64) (z : Int))]) (fun z : Nat => ds.length - z) (0) (Nat.zero_le _) (Kc 0 _ (Kv rfl rfl) <| Kc 3 _ (Ko rfl rfl) <| Kc 4 _ (Kv rfl rfl) <| Kn) ?_
 intro z hI
 have hnl := names_len (ds := ds.take z) (fun x hx => (h.2 x (List.mem_of_mem_take hx)).1)
 rw [List.length_take] at hnl
 refine AW.seq ?_
 refine sr ?_
 refine st (mvT rfl) rfl ?_
 refine st (mvT rfl) rfl ?_
 refine st (OpT.len (H rfl) (T1 rfl) el106) rfl ?_
 refine st (OpT.lss (H rfl) (T1 rfl) (T1 rfl)) rfl ?_
 refine ng ?_
 refine cd rfl (fun hc1 => ?_) fun hc1 => ?_
 ·
  obtain ⟨hc1, hc1'⟩ := pT hc1
  obtain ⟨x, hx⟩ := getI (x := ds) (z := z) (by omega)
  have hxo := h.2 x (mem_getI hx)
  have hxl := hxo.1
  refine AW.skip ?_
  refine AX.go ?_
  refine AW.seq ?_
  refine AW.block ?_
  refine sr ?_
  refine st (asI rfl) rfl ?_
  refine ng ?_
  refine AW.block ?_
  refine AW.loop (fun y : Nat => y ≤ x.length) (fun y : Nat => keep [(0, .cel (Kd.slice (Kd.slice kCard)) ds), (3, .own 9 Kd.str (nmP ds z x y)), (4, .cel (Kd.int .i64) (z : Int)), (5, .cel (Kd.int .i64) (y : Int))]) (fun y : Nat => x.length - y) (0) (Nat.zero_le _) (Kc 0 _ (Kv rfl rfl) <| Kc 3 _ (Ko rfl (nmP_zero ds z x)) <| Kc 4 _ (Kv rfl rfl) <| Kc 5 _ (Kv rfl rfl) <| Kn) ?_
  intro y hI
  refine AW.seq ?_
  refine sr ?_
  refine st (mvT rfl) rfl ?_
  refine st (mvT rfl) rfl ?_
  refine st (mvT rfl) rfl ?_
  refine st (OpT.indexAddr (H rfl) (T1 rfl) (T1 rfl) el106 sz26 (by omega) (by assumption)) rfl ?_
  refine st (OpT.load (H rfl) (T1 rfl) ag26 rfl) rfl ?_
  refine st (OpT.len (H rfl) (T1 rfl) el26) rfl ?_
  refine st (OpT.lss (H rfl) (T1 rfl) (T1 rfl)) rfl ?_
  refine ng ?_
  refine cd rfl (fun hc2 => ?_) fun hc2 => ?_
  ·
   obtain ⟨hc2, hc2'⟩ := pT hc2
   obtain ⟨c, hcc⟩ := getI (x := x) (z := y) (by omega)
   refine AW.skip ?_
   refine AX.go ?_
   refine AW.seq ?_
   refine AW.block ?_
   refine sr ?_
   refine st (asB rfl) rfl ?_
   refine ng ?_
   refine AW.seq ?_
   refine sr ?_
   refine st (asI rfl) rfl ?_
   refine ng ?_
   refine AW.block ?_
   refine AW.loop (fun w : Nat => w ≤ z ∧ z < ds.length ∧ y < x.length) (fun w : Nat => keep [(0, .cel (Kd.slice (Kd.slice kCard)) ds), (3, .own 9 Kd.str (nmP ds z x y)), (4, .cel (Kd.int .i64) (z : Int)), (5, .cel (Kd.int .i64) (y : Int)), (6, .cel Kd.bool (!(isNew (ds.take w) c.1))), (7, .cel (Kd.int .i64) (w : Int))]) (fun w : Nat => z - w) (0) ⟨Nat.zero_le _, by omega, by omega⟩ (Kc 0 _ (Kv rfl rfl) <| Kc 3 _ (Ko rfl rfl) <| Kc 4 _ (Kv rfl rfl) <| Kc 5 _ (Kv rfl rfl) <| Kc 6 _ (Kv rfl (by simp [isNew])) <| Kc 7 _ (Kv rfl rfl) <| Kn) ?_
   intro w hI
   refine AW.seq ?_
   refine sr ?_
   refine st (mvT rfl) rfl ?_
   refine st (mvT rfl) rfl ?_
   refine st (OpT.lss (H rfl) (T1 rfl) (T1 rfl)) rfl ?_
   refine ng ?_
   refine cd rfl (fun hc3 => ?_) fun hc3 => ?_
   ·
    obtain ⟨hc3, hc3'⟩ := pT hc3
    obtain ⟨v, hv⟩ := getI (x := ds) (z := w) (by omega)
    refine AW.skip ?_
    refine AX.go ?_
    refine AW.seq ?_
    refine AW.block ?_
    rcases Bool.eq_false_or_eq_true (!(isNew (ds.take w) c.1)) with hd1 | hd1
    ·
     have hd1' := lT hd1
     refine dh fomo ?_
     refine d1 [6] (fun ve h => OpT.move (A := .cel _ _) (.inl rfl) rfl (ok' rfl) (D1 h rfl) rfl) rfl ?_
     refine d1 [29] (fun ve h => OpT.move (A := .cel _ _) (.inl rfl) rfl (ok' rfl) (D1 h rfl) rfl) rfl ?_
     refine dp hd1 rfl ?_
     refine dp hd1 rfl ?_
     refine dp hd1 rfl ?_
     refine dp hd1 rfl ?_
     refine dp hd1 rfl ?_
     refine dp hd1 rfl ?_
     refine dp hd1 rfl ?_
     refine dp hd1 rfl ?_
     refine dp hd1 rfl ?_
     refine dp hd1 rfl ?_
     refine dp hd1 rfl ?_
     refine dp hd1 rfl ?_
     refine dp hd1 rfl ?_
     refine dp hd1 rfl ?_
     refine d1 [30] (fun ve h => OpT.pickT (A := .cel _ _) (H rfl) (D1 h rfl) hd1 Opd.bool rfl) rfl ?_
     refine d1 [45] (fun ve h => OpT.move (A := .cel _ _) (.inr rfl) rfl (ok' rfl) (D1 h rfl) rfl) rfl ?_
     refine dn ⟨by kernel_rfl, by kernel_rfl, ?_⟩
     refine AX.normal_block ?_
     refine AX.go ?_
     refine AW.region ?_
     refine st (mvT rfl) rfl ?_
     refine st (OpT.add (H rfl) (T1 rfl) (I rfl) (nw (by omega))) rfl ?_
     refine st (asT rfl) rfl ?_
     refine nn ?_
     exact AX.again (w + 1) (by omega) (by omega) (Kc 0 _ (Kv rfl rfl) <| Kc 3 _ (Ko rfl rfl) <| Kc 4 _ (Kv rfl rfl) <| Kc 5 _ (Kv rfl rfl) <| Kc 6 _ (Kv rfl (by first | exact new_run hv hd1 | exact new_old hv hd1)) <| Kc 7 _ (Kv rfl (by omega)) <| Kn)
    ·
     have hd1' := lF hd1
     refine dh fomo ?_
     refine d1 [6] (fun ve h => OpT.move (A := .cel _ _) (.inl rfl) rfl (ok' rfl) (D1 h rfl) rfl) rfl ?_
     refine d1 [29] (fun ve h => OpT.move (A := .cel _ _) (.inl rfl) rfl (ok' rfl) (D1 h rfl) rfl) rfl ?_
     refine dr [0, 30] hd1 (fun ve h => OpT.move (A := .cel _ _) (.inl rfl) rfl (ok' rfl) (D1 h rfl) rfl) rfl ?_
     refine dr [7, 30] hd1 (fun ve h => OpT.move (A := .cel _ _) (.inl rfl) rfl (ok' rfl) (D1 h rfl) rfl) rfl ?_
     refine dr [30, 31, 32] hd1 (fun ve h => OpT.indexAddr (H rfl) (D1 h rfl) (D1 h rfl) el106 sz26 (by omega) (by assumption)) rfl ?_
     refine dr [30, 33] hd1 (fun ve h => OpT.load (H rfl) (D1 h rfl) ag26 rfl) rfl ?_
     refine dr [0, 30] hd1 (fun ve h => OpT.move (A := .cel _ _) (.inl rfl) rfl (ok' rfl) (D1 h rfl) rfl) rfl ?_
     refine dr [4, 30] hd1 (fun ve h => OpT.move (A := .cel _ _) (.inl rfl) rfl (ok' rfl) (D1 h rfl) rfl) rfl ?_
     refine dr [30, 35, 36] hd1 (fun ve h => OpT.indexAddr (H rfl) (D1 h rfl) (D1 h rfl) el106 sz26 (by omega) (by assumption)) rfl ?_
     refine dr [30, 37] hd1 (fun ve h => OpT.load (H rfl) (D1 h rfl) ag26 rfl) rfl ?_
     refine dr [5, 30] hd1 (fun ve h => OpT.move (A := .cel _ _) (.inl rfl) rfl (ok' rfl) (D1 h rfl) rfl) rfl ?_
     refine dr [30, 38, 39] hd1 (fun ve h => OpT.indexAddr (H rfl) (D1 h rfl) (D1 h rfl) el26 sz42 (by omega) (by assumption)) rfl ?_
     refine dr [30, 40] hd1 (fun ve h => OpT.fieldAddr (H rfl) (D1 h rfl) fd42_0 sz9 (by decide) sb42_0) rfl ?_
     refine dr [30, 41] hd1 (fun ve h => OpT.load (H rfl) (D1 h rfl) ag9 rfl) rfl ?_
     refine dr [30, 34, 42] hd1 (fun ve h => OpT.c1 (ms := [.flat, .flat]) (c_spec_l02Find _ _) (H rfl) (Af (D1 h rfl) rfl rfl <| Af (D1 h rfl) rfl rfl <| An) rfl rfl) rfl ?_
     refine dr [30, 43] hd1 (fun ve h => OpT.geq (H rfl) (D1 h rfl) (I rfl)) rfl ?_
     refine d1 [30, 44] (fun ve h => OpT.pickF (A := .cel _ _) (H rfl) (D1 h rfl) hd1 (D1 h rfl) rfl) rfl ?_
     refine d1 [45] (fun ve h => OpT.move (A := .cel _ _) (.inr rfl) rfl (ok' rfl) (D1 h rfl) rfl) rfl ?_
     refine dn ⟨by kernel_rfl, by kernel_rfl, ?_⟩
     refine AX.normal_block ?_
     refine AX.go ?_
     refine AW.region ?_
     refine st (mvT rfl) rfl ?_
     refine st (OpT.add (H rfl) (T1 rfl) (I rfl) (nw (by omega))) rfl ?_
     refine st (asT rfl) rfl ?_
     refine nn ?_
     exact AX.again (w + 1) (by omega) (by omega) (Kc 0 _ (Kv rfl rfl) <| Kc 3 _ (Ko rfl rfl) <| Kc 4 _ (Kv rfl rfl) <| Kc 5 _ (Kv rfl rfl) <| Kc 6 _ (Kv rfl (by first | exact new_run hv hd1 | exact new_old hv hd1)) <| Kc 7 _ (Kv rfl (by omega)) <| Kn)
   ·
    obtain ⟨hc3, hc3'⟩ := pF hc3
    refine AW.exit ?_
    refine xT <| xT <| AX.exit_hit ?_
    refine AX.go ?_
    refine sr ?_
    refine st (mvT rfl) rfl ?_
    refine st (OpT.not (H rfl) (T1 rfl)) rfl ?_
    refine ng ?_
    refine cd rfl (fun hc4 => ?_) fun hc4 => ?_
    ·
     obtain ⟨hc4, hc4'⟩ := pT hc4
     have hnw : isNew (ds.take z) c.1 = true := by rw [← (show w = z by omega)]; simpa using hc4
     refine AW.region ?_
     refine st (OpT.alias (H rfl) (by decide) (by decide)) rfl ?_
     refine st (mvT rfl) rfl ?_
     refine st (mvT rfl) rfl ?_
     refine st (OpT.indexAddr (H rfl) (T1 rfl) (T1 rfl) el106 sz26 (by omega) (by assumption)) rfl ?_
     refine st (OpT.load (H rfl) (T1 rfl) ag26 rfl) rfl ?_
     refine st (mvT rfl) rfl ?_
     refine st (OpT.indexAddr (H rfl) (T1 rfl) (T1 rfl) el26 sz42 (by omega) (by assumption)) rfl ?_
     refine st (OpT.fieldAddr (H rfl) (T1 rfl) fd42_0 sz9 (by decide) sb42_0) rfl ?_
     refine st (OpT.load (H rfl) (T1 rfl) ag9 rfl) rfl ?_
     refine st (OpT.buildSlice (H rfl) el45 zr9 sz9 rfl (by decide) zk9 (by decide) (Built.cel (T1 rfl) rfl rfl (sub_arr (by decide) (.empty : ByteArray)) (Built.nil _))) rfl ?_
     refine sg (OpT.append (H rfl) (Root.ali rfl (by decide) (by decide)) rfl (Src.own (Root.self (t := 57) (by decide)) rfl) (by decide) el45 zr9 rfl sz9 by9 (by decide) (by have h70 := nmP_len (ds := ds) (d := z) (i := y) (x := x); simp only [List.length_set, List.length_replicate]; omega)) (ko 58 rfl <| ko 57 rfl <| kc4 56 55 54 53 rfl <| kc4 52 51 50 49 rfl <| kc4 47 46 26 25 rfl <| kc4 24 0 4 5 rfl <| kc2 6 7 rfl <| Kn) rfl ?_
     refine sg (OpT.take (.inl rfl) rfl (ok' rfl) (Root.self (by decide)) rfl rfl (by decide)) (ko 3 rfl <| ko 57 rfl <| kc4 56 55 54 53 rfl <| kc4 52 51 50 49 rfl <| kc4 47 46 26 25 rfl <| kc4 24 0 4 5 rfl <| kc2 6 7 rfl <| Kn) rfl ?_
     refine nn ?_
     refine AX.normal_block ?_
     refine AX.go ?_
     refine AW.region ?_
     refine st (mvT rfl) rfl ?_
     refine st (OpT.add (H rfl) (T1 rfl) (I rfl) (nw (by omega))) rfl ?_
     refine st (asT rfl) rfl ?_
     refine nn ?_
     exact AX.again (y + 1) (by omega) (by omega) (Kc 0 _ (Kv rfl rfl) <| Kc 3 _ (Ko rfl (by first | exact nmP_yes hcc hnw | exact nmP_no hcc hnw)) <| Kc 4 _ (Kv rfl rfl) <| Kc 5 _ (Kv rfl (by omega)) <| Kn)
    ·
     obtain ⟨hc4, hc4'⟩ := pF hc4
     have hnw : isNew (ds.take z) c.1 = false := by rw [← (show w = z by omega)]; simpa using hc4
     refine AW.skip ?_
     refine AX.normal_block ?_
     refine AX.go ?_
     refine AW.region ?_
     refine st (mvT rfl) rfl ?_
     refine st (OpT.add (H rfl) (T1 rfl) (I rfl) (nw (by omega))) rfl ?_
     refine st (asT rfl) rfl ?_
     refine nn ?_
     exact AX.again (y + 1) (by omega) (by omega) (Kc 0 _ (Kv rfl rfl) <| Kc 3 _ (Ko rfl (by first | exact nmP_yes hcc hnw | exact nmP_no hcc hnw)) <| Kc 4 _ (Kv rfl rfl) <| Kc 5 _ (Kv rfl (by omega)) <| Kn)
  ·
   obtain ⟨hc2, hc2'⟩ := pF hc2
   refine AW.exit ?_
   refine xT <| xT <| AX.exit_hit ?_
   refine AX.normal_block ?_
   refine AX.go ?_
   refine AW.region ?_
   refine st (mvT rfl) rfl ?_
   refine st (OpT.add (H rfl) (T1 rfl) (I rfl) (nw (by omega))) rfl ?_
   refine st (asT rfl) rfl ?_
   refine nn ?_
   exact AX.again (z + 1) (by omega) (by omega) (Kc 0 _ (Kv rfl rfl) <| Kc 3 _ (Ko rfl (nmP_end hx (by omega))) <| Kc 4 _ (Kv rfl (by omega)) <| Kn)
 ·
  obtain ⟨hc1, hc1'⟩ := pF hc1
  refine AW.exit ?_
  refine xT <| xT <| AX.exit_hit ?_
  refine AX.go ?_
  refine sr ?_
  refine st (OpT.alias (H rfl) (by decide) (by decide)) rfl ?_
  refine sg (OpT.take (.inl rfl) rfl (ok' rfl) (Root.ali rfl (by decide) (by decide)) rfl rfl (by decide)) (ko 2 rfl <| kc4 12 11 10 9 rfl <| kc2 0 4 rfl <| Kn) rfl ?_
  refine ng ?_
  refine AW.ret ?_
  exact AX.rt (rs := [.tmp 2]) (ts := [some 2]) (.inl rfl) rfl (ROs.cons (RO.tmp (At.self (by decide)) (Ko rfl (by rw [List.take_of_length_le (by omega)])) rfl) <| ROs.nil) (by decide) OutsOK.nil
theorem c_spec_l07Names (ds : List (List DCard)) (h : ds.length ≤ 3 ∧ ∀ x ∈ ds, deckOK x) : AC Tryd.prog 77 [.cel (Kd.slice (Kd.slice kCard)) ds] [.cel (Kd.slice Kd.str) (names ds)] [] := (c_spec_l07Names_o ds h).frz rfl

/-- spec.l07Of -/
theorem c_spec_l07Of (x : List DCard) (s : ByteArray) : AC Tryd.prog 78 [.cel (Kd.slice kCard) x, .cel Kd.str s] [.agg kState (stOf x s)] [] := by
 refine acI (N := 18) Tryd.func78 (Nat.le_of_ble_eq_true rfl) rfl fun w0 hd s0 ar => ?_
 refine AW.to (kc2 0 1 rfl <| Kn) ?_
 refine AW.fact (fun a w hr => (ok_slice (R_ok (t := 0) rfl hr)).2) (fun hl0 => ?_)
 refine sr ?_
 refine st (OpT.alloc (H rfl) zr108 zk108) rfl ?_
 refine ng ?_
 refine sr ?_
 refine st (mvT rfl) rfl ?_
 refine st (mvT rfl) rfl ?_
 refine st (OpT.c1 (ms := [.flat, .flat]) (c_spec_l02Find _ _) (H rfl) (Af (T1 rfl) rfl rfl <| Af (T1 rfl) rfl rfl <| An) rfl rfl) rfl ?_
 refine st (asT rfl) rfl ?_
 refine ng ?_
 refine AW.seq ?_
 refine sr ?_
 refine st (mvT rfl) rfl ?_
 refine st (OpT.lss (H rfl) (T1 rfl) (I rfl)) rfl ?_
 refine ng ?_
 refine cd rfl (fun hc1 => ?_) fun hc1 => ?_
 ·
  obtain ⟨hc1, hc1'⟩ := pT hc1
  refine sr ?_
  refine st (OpT.build (H rfl) pl108 zr108 zk108 (Built.nil _)) rfl ?_
  refine sk (OpT.storeBA rfl rfl (Opd.whole (Root.self (t := 4) (by decide)) rfl) rfl sz108 (by decide) (T1 rfl)) rfl ?_
  refine ng ?_
  refine AW.ret ?_
  refine rT ?_
  exact AX.rt (rs := [.cell 4 108]) (ts := [none]) (.inl rfl) rfl (ROs.cons (RO.cellA (by decide) (Kb rfl (by first | (rw [st_no (by omega)]; first | done | rfl) | (rw [st_yes (by omega) hdd]; first | done | rfl))) ag108 sz108) <| ROs.nil) (by decide) OutsOK.nil
 ·
  obtain ⟨hc1, hc1'⟩ := pF hc1
  obtain ⟨d, hdd, hdn, hdl⟩ := findC_get (s := s) (y := x) (decide_eq_false (by omega))
  refine AW.skip ?_
  refine AX.go ?_
  refine sr ?_
  refine st (mvT rfl) rfl ?_
  refine st (mvT rfl) rfl ?_
  refine st (OpT.indexAddr (H rfl) (T1 rfl) (T1 rfl) el26 sz42 (by omega) (by assumption)) rfl ?_
  refine st (OpT.fieldAddr (H rfl) (T1 rfl) fd42_1 sz30 (by decide) sb42_1) rfl ?_
  refine st (OpT.loadA (H rfl) (T1 rfl) ag30 sz30) rfl ?_
  refine st (OpT.build (H rfl) pl108 zr108 zk108 (Built.cel Opd.bool rfl rfl sb108_0 (Built.agg (T1 rfl) rfl (by decide) sb108_1 (Built.nil _)))) rfl ?_
  refine sk (OpT.storeBA rfl rfl (Opd.whole (Root.self (t := 4) (by decide)) rfl) rfl sz108 (by decide) (T1 rfl)) rfl ?_
  refine AWl.to (kb 4 rfl <| Kn) ?_
  refine ng ?_
  refine AW.ret ?_
  exact AX.rt (rs := [.cell 4 108]) (ts := [none]) (.inl rfl) rfl (ROs.cons (RO.cellA (by decide) (Kb rfl (by first | (rw [st_no (by omega)]; first | done | rfl) | (rw [st_yes (by omega) hdd]; first | done | rfl))) ag108 sz108) <| ROs.nil) (by decide) OutsOK.nil

/-- impl.stateOf -/
theorem c_impl_stateOf (x : List DCard) (s : ByteArray) : AC Tryd.prog 75 [.cel (Kd.slice kCard) x, .cel Kd.str s] [.agg kState (stOf x s)] [] := by
 refine acI (N := 18) Tryd.func75 (Nat.le_of_ble_eq_true rfl) rfl fun w0 hd s0 ar => ?_
 refine AW.to (kc2 0 1 rfl <| Kn) ?_
 refine AW.fact (fun a w hr => (ok_slice (R_ok (t := 0) rfl hr)).2) (fun hl0 => ?_)
 refine sr ?_
 refine st (OpT.alloc (H rfl) zr102 zk102) rfl ?_
 refine ng ?_
 refine sr ?_
 refine st (mvT rfl) rfl ?_
 refine st (mvT rfl) rfl ?_
 refine st (OpT.c1 (ms := [.flat, .flat]) (c_impl_placeOf _ _) (H rfl) (Af (T1 rfl) rfl rfl <| Af (T1 rfl) rfl rfl <| An) rfl rfl) rfl ?_
 refine st (asT rfl) rfl ?_
 refine ng ?_
 refine AW.seq ?_
 refine sr ?_
 refine st (mvT rfl) rfl ?_
 refine st (OpT.lss (H rfl) (T1 rfl) (I rfl)) rfl ?_
 refine ng ?_
 refine cd rfl (fun hc1 => ?_) fun hc1 => ?_
 ·
  obtain ⟨hc1, hc1'⟩ := pT hc1
  refine sr ?_
  refine st (OpT.build (H rfl) pl102 zr102 zk102 (Built.nil _)) rfl ?_
  refine sk (OpT.storeBA rfl rfl (Opd.whole (Root.self (t := 4) (by decide)) rfl) rfl sz102 (by decide) (T1 rfl)) rfl ?_
  refine ng ?_
  refine AW.ret ?_
  refine rT ?_
  exact AX.rt (rs := [.cell 4 102]) (ts := [none]) (.inl rfl) rfl (ROs.cons (RO.cellA (by decide) (Kb rfl (by first | (rw [st_no (by omega)]; first | done | rfl) | (rw [st_yes (by omega) hdd]; first | done | rfl))) ag102 sz102) <| ROs.nil) (by decide) OutsOK.nil
 ·
  obtain ⟨hc1, hc1'⟩ := pF hc1
  obtain ⟨d, hdd, hdn, hdl⟩ := findC_get (s := s) (y := x) (decide_eq_false (by omega))
  refine AW.skip ?_
  refine AX.go ?_
  refine sr ?_
  refine st (mvT rfl) rfl ?_
  refine st (mvT rfl) rfl ?_
  refine st (OpT.indexAddr (H rfl) (T1 rfl) (T1 rfl) el26 sz42 (by omega) (by assumption)) rfl ?_
  refine st (OpT.fieldAddr (H rfl) (T1 rfl) fd42_1 sz30 (by decide) sb42_1) rfl ?_
  refine st (OpT.loadA (H rfl) (T1 rfl) ag30 sz30) rfl ?_
  refine st (OpT.build (H rfl) pl102 zr102 zk102 (Built.cel Opd.bool rfl rfl sb102_0 (Built.agg (T1 rfl) rfl (by decide) sb102_1 (Built.nil _)))) rfl ?_
  refine sk (OpT.storeBA rfl rfl (Opd.whole (Root.self (t := 4) (by decide)) rfl) rfl sz102 (by decide) (T1 rfl)) rfl ?_
  refine AWl.to (kb 4 rfl <| Kn) ?_
  refine ng ?_
  refine AW.ret ?_
  exact AX.rt (rs := [.cell 4 102]) (ts := [none]) (.inl rfl) rfl (ROs.cons (RO.cellA (by decide) (Kb rfl (by first | (rw [st_no (by omega)]; first | done | rfl) | (rw [st_yes (by omega) hdd]; first | done | rfl))) ag102 sz102) <| ROs.nil) (by decide) OutsOK.nil

/-- spec.l07Conflicts -/
theorem c_spec_l07Conflicts_o (x a b : List DCard) (h : deckOK x ∧ deckOK a ∧ deckOK b) : AC Tryd.prog 73 [.cel (Kd.slice kCard) x, .cel (Kd.slice kCard) a, .cel (Kd.slice kCard) b] [.own 9 Kd.str (confl x a b)] [] := by
 refine acI (N := 63) Tryd.func73 (Nat.le_of_ble_eq_true rfl) rfl fun w0 hd s0 ar => ?_
 refine AW.to (kc3 0 1 2 rfl <| Kn) ?_
 have hds : ([x, a] : List (List DCard)).length ≤ 3 ∧ ∀ v ∈ [x, a], deckOK v := by simp [h]
 have hnl := names_len (ds := [x, a]) (fun v hv => (hds.2 v hv).1)
 simp only [List.length_cons, List.length_nil] at hnl
 refine sr ?_
 refine st (nilO (E := 9) Kd.str rfl (.inl rfl)) rfl ?_
 refine ng ?_
 refine sr ?_
 refine st (mvT rfl) rfl ?_
 refine st (mvT rfl) rfl ?_
 refine st (OpT.frzO (OpT.buildSlice (H rfl) el106 zr26 sz26 rfl (by decide) zk26 (by decide) (Built.cel (T1 rfl) rfl rfl (sub_arr (by decide) ([] : List (ByteArray × (BitVec 64 × BitVec 64)))) (Built.cel (T1 rfl) rfl rfl (sub_arr (by decide) ([] : List (ByteArray × (BitVec 64 × BitVec 64)))) (Built.nil _))))) rfl ?_
 refine st (OpT.c1 (ms := [.flat]) (c_spec_l07Names [x, a] hds) (H rfl) (Af (T1 rfl) rfl rfl <| An) rfl rfl) rfl ?_
 refine st (asT rfl) rfl ?_
 refine ng ?_
 refine sr ?_
 refine st (OpT.buildSlice0 (m := 0) (z := .bool false) Kd.str (H rfl) el45 sz9 (by decide)) rfl ?_
 refine sg (OpT.take (.inl rfl) rfl (ok' rfl) (Root.self (by decide)) rfl rfl (by decide)) (ko 8 rfl <| kc4 7 16 15 14 rfl <| kc 13 rfl <| ko 6 rfl <| kc3 0 1 2 rfl <| Kn) rfl ?_
 refine ng ?_
 refine AW.seq ?_
 refine sr ?_
 refine st (asI rfl) rfl ?_
 refine ng ?_
 refine AW.block ?_
 refine AW.loop (fun z : Nat => z ≤ (names [x, a]).length) (fun z : Nat => keep [(0, .cel (Kd.slice kCard) x), (1, .cel (Kd.slice kCard) a), (2, .cel (Kd.slice kCard) b), (7, .cel (Kd.slice Kd.str) (names [x, a])), (8, .own 9 Kd.str (((names [x, a]).take z).filter (clash x a b))), (9, .cel (Kd.int .i64) (z : Int))]) (fun z : Nat => (names [x, a]).length - z) (0) (Nat.zero_le _) (Kc 0 _ (Kv rfl rfl) <| Kc 1 _ (Kv rfl rfl) <| Kc 2 _ (Kv rfl rfl) <| Kc 7 _ (Kv rfl rfl) <| Kc 8 _ (Ko rfl rfl) <| Kc 9 _ (Kv rfl rfl) <| Kn) ?_
 intro z hI
 refine AW.seq ?_
 refine sr ?_
 refine st (mvT rfl) rfl ?_
 refine st (mvT rfl) rfl ?_
 refine st (OpT.len (H rfl) (T1 rfl) el45) rfl ?_
 refine st (OpT.lss (H rfl) (T1 rfl) (T1 rfl)) rfl ?_
 refine ng ?_
 refine cd rfl (fun hc1 => ?_) fun hc1 => ?_
 ·
  obtain ⟨hc1, hc1'⟩ := pT hc1
  obtain ⟨s, hs⟩ := getI (x := (names [x, a])) (z := z) (by omega)
  refine AW.skip ?_
  refine AX.go ?_
  refine AW.seq ?_
  refine AW.block ?_
  refine sr ?_
  refine st (mvT rfl) rfl ?_
  refine st (mvT rfl) rfl ?_
  refine st (mvT rfl) rfl ?_
  refine st (OpT.indexAddr (H rfl) (T1 rfl) (T1 rfl) el45 sz9 (by omega) (by assumption)) rfl ?_
  refine st (OpT.load (H rfl) (T1 rfl) ag9 rfl) rfl ?_
  refine st (OpT.c1 (ms := [.flat, .flat]) (c_spec_l07Of _ _) (H rfl) (Af (T1 rfl) rfl rfl <| Af (T1 rfl) rfl rfl <| An) rfl rfl) rfl ?_
  refine st (OpT.alloc (H rfl) zr108 zk108) rfl ?_
  refine sk (OpT.storeBA rfl rfl (Opd.whole (Root.self (t := 10) (by decide)) rfl) rfl sz108 (by decide) (T1 rfl)) rfl ?_
  refine ng ?_
  refine sr ?_
  refine st (mvT rfl) rfl ?_
  refine st (mvT rfl) rfl ?_
  refine st (mvT rfl) rfl ?_
  refine st (OpT.indexAddr (H rfl) (T1 rfl) (T1 rfl) el45 sz9 (by omega) (by assumption)) rfl ?_
  refine st (OpT.load (H rfl) (T1 rfl) ag9 rfl) rfl ?_
  refine st (OpT.c1 (ms := [.flat, .flat]) (c_spec_l07Of _ _) (H rfl) (Af (T1 rfl) rfl rfl <| Af (T1 rfl) rfl rfl <| An) rfl rfl) rfl ?_
  refine st (OpT.alloc (H rfl) zr108 zk108) rfl ?_
  refine sk (OpT.storeBA rfl rfl (Opd.whole (Root.self (t := 11) (by decide)) rfl) rfl sz108 (by decide) (T1 rfl)) rfl ?_
  refine ng ?_
  refine sr ?_
  refine st (mvT rfl) rfl ?_
  refine st (mvT rfl) rfl ?_
  refine st (mvT rfl) rfl ?_
  refine st (OpT.indexAddr (H rfl) (T1 rfl) (T1 rfl) el45 sz9 (by omega) (by assumption)) rfl ?_
  refine st (OpT.load (H rfl) (T1 rfl) ag9 rfl) rfl ?_
  refine st (OpT.c1 (ms := [.flat, .flat]) (c_spec_l07Of _ _) (H rfl) (Af (T1 rfl) rfl rfl <| Af (T1 rfl) rfl rfl <| An) rfl rfl) rfl ?_
  refine st (OpT.alloc (H rfl) zr108 zk108) rfl ?_
  refine sk (OpT.storeBA rfl rfl (Opd.whole (Root.self (t := 12) (by decide)) rfl) rfl sz108 (by decide) (T1 rfl)) rfl ?_
  refine ng ?_
  refine sr ?_
  refine st (OpT.loadB (H rfl) (Root.self (t := 10) (by decide)) rfl ag108 sz108) rfl ?_
  refine st (OpT.loadB (H rfl) (Root.self (t := 11) (by decide)) rfl ag108 sz108) rfl ?_
  refine st (OpT.neA (H rfl) (T1 rfl) (T1 rfl) eq108 ag108 rfl eg108) rfl ?_
  refine st (mvT rfl) rfl ?_
  apply AWl.and (d := 49) (t := 45) rfl
  ·
   intro hb1 Q1 k1
   have hb1' := lT hb1
   refine rs hb1 (OpT.loadB (H rfl) (Root.self (t := 10) (by decide)) rfl ag108 sz108) rfl ?_
   refine rs hb1 (OpT.loadB (H rfl) (Root.self (t := 12) (by decide)) rfl ag108 sz108) rfl ?_
   refine rs hb1 (OpT.neA (H rfl) (T1 rfl) (T1 rfl) eq108 ag108 rfl eg108) rfl ?_
   refine st (OpT.pickT (A := .cel _ _) (H rfl) (T1 rfl) hb1 (T1 rfl) rfl) rfl ?_
   exact AWl.to (junk 3 rfl) k1
  ·
   intro hb1 Q1 k1
   refine ps hb1 rfl ?_
   refine ps hb1 rfl ?_
   refine ps hb1 rfl ?_
   refine st (OpT.pickF (A := .cel _ _) (H rfl) (T1 rfl) hb1 Opd.bool rfl) rfl ?_
   exact k1
  refine st (mvT rfl) rfl ?_
  apply AWl.and (d := 54) (t := 50) rfl
  ·
   intro hb2 Q1 k1
   have hb2' := lT hb2
   refine rs hb2 (OpT.loadB (H rfl) (Root.self (t := 11) (by decide)) rfl ag108 sz108) rfl ?_
   refine rs hb2 (OpT.loadB (H rfl) (Root.self (t := 12) (by decide)) rfl ag108 sz108) rfl ?_
   refine rs hb2 (OpT.neA (H rfl) (T1 rfl) (T1 rfl) eq108 ag108 rfl eg108) rfl ?_
   refine st (OpT.pickT (A := .cel _ _) (H rfl) (T1 rfl) hb2 (T1 rfl) rfl) rfl ?_
   exact AWl.to (junk 3 rfl) k1
  ·
   intro hb2 Q1 k1
   refine ps hb2 rfl ?_
   refine ps hb2 rfl ?_
   refine ps hb2 rfl ?_
   refine st (OpT.pickF (A := .cel _ _) (H rfl) (T1 rfl) hb2 Opd.bool rfl) rfl ?_
   exact k1
  refine ng ?_
  refine cd rfl (fun hc2 => ?_) fun hc2 => ?_
  ·
   obtain ⟨hc2, hc2'⟩ := pT hc2
   refine AW.region ?_
   refine st (OpT.alias (H rfl) (by decide) (by decide)) rfl ?_
   refine st (mvT rfl) rfl ?_
   refine st (mvT rfl) rfl ?_
   refine st (OpT.indexAddr (H rfl) (T1 rfl) (T1 rfl) el45 sz9 (by omega) (by assumption)) rfl ?_
   refine st (OpT.load (H rfl) (T1 rfl) ag9 rfl) rfl ?_
   refine st (OpT.buildSlice (H rfl) el45 zr9 sz9 rfl (by decide) zk9 (by decide) (Built.cel (T1 rfl) rfl rfl (sub_arr (by decide) (.empty : ByteArray)) (Built.nil _))) rfl ?_
   refine sg (OpT.append (H rfl) (Root.ali rfl (by decide) (by decide)) rfl (Src.own (Root.self (t := 60) (by decide)) rfl) (by decide) el45 zr9 rfl sz9 by9 (by decide) (by have h70 := List.length_filter_le (clash x a b) ((names [x, a]).take z); rw [List.length_take] at h70; simp only [List.length_set, List.length_replicate]; omega)) (ko 61 rfl <| ko 60 rfl <| kc4 59 58 57 56 rfl <| kc4 54 50 49 45 rfl <| kc 44 rfl <| ka 43 rfl <| ka 42 rfl <| kb 12 rfl <| ka 41 rfl <| kc4 40 39 38 37 rfl <| kc 36 rfl <| kb 11 rfl <| ka 35 rfl <| kc4 34 33 32 31 rfl <| kc 30 rfl <| kb 10 rfl <| ka 29 rfl <| kc4 28 27 26 25 rfl <| kc4 24 21 20 19 rfl <| kc4 18 0 1 2 rfl <| kc2 7 9 rfl <| Kn) rfl ?_
   refine sg (OpT.take (.inl rfl) rfl (ok' rfl) (Root.self (by decide)) rfl rfl (by decide)) (ko 8 rfl <| ko 60 rfl <| kc4 59 58 57 56 rfl <| kc4 54 50 49 45 rfl <| kc 44 rfl <| ka 43 rfl <| ka 42 rfl <| kb 12 rfl <| ka 41 rfl <| kc4 40 39 38 37 rfl <| kc 36 rfl <| kb 11 rfl <| ka 35 rfl <| kc4 34 33 32 31 rfl <| kc 30 rfl <| kb 10 rfl <| ka 29 rfl <| kc4 28 27 26 25 rfl <| kc4 24 21 20 19 rfl <| kc4 18 0 1 2 rfl <| kc2 7 9 rfl <| Kn) rfl ?_
   refine nn ?_
   refine AX.normal_block ?_
   refine AX.go ?_
   refine AW.region ?_
   refine st (mvT rfl) rfl ?_
   refine st (OpT.add (H rfl) (T1 rfl) (I rfl) (nw (by omega))) rfl ?_
   refine st (asT rfl) rfl ?_
   refine nn ?_
   exact AX.again (z + 1) (by omega) (by omega) (Kc 0 _ (Kv rfl rfl) <| Kc 1 _ (Kv rfl rfl) <| Kc 2 _ (Kv rfl rfl) <| Kc 7 _ (Kv rfl rfl) <| Kc 8 _ (Ko rfl (by first | exact filter_yes (q := clash x a b) hs hc2 | exact filter_no (q := clash x a b) hs hc2)) <| Kc 9 _ (Kv rfl (by omega)) <| Kn)
  ·
   obtain ⟨hc2, hc2'⟩ := pF hc2
   refine AW.skip ?_
   refine AX.normal_block ?_
   refine AX.go ?_
   refine AW.region ?_
   refine st (mvT rfl) rfl ?_
   refine st (OpT.add (H rfl) (T1 rfl) (I rfl) (nw (by omega))) rfl ?_
   refine st (asT rfl) rfl ?_
   refine nn ?_
   exact AX.again (z + 1) (by omega) (by omega) (Kc 0 _ (Kv rfl rfl) <| Kc 1 _ (Kv rfl rfl) <| Kc 2 _ (Kv rfl rfl) <| Kc 7 _ (Kv rfl rfl) <| Kc 8 _ (Ko rfl (by first | exact filter_yes (q := clash x a b) hs hc2 | exact filter_no (q := clash x a b) hs hc2)) <| Kc 9 _ (Kv rfl (by omega)) <| Kn)
 ·
  obtain ⟨hc1, hc1'⟩ := pF hc1
  refine AW.exit ?_
  refine xT <| xT <| AX.exit_hit ?_
  refine AX.go ?_
  refine sr ?_
  refine st (OpT.alias (H rfl) (by decide) (by decide)) rfl ?_
  refine sg (OpT.take (.inl rfl) rfl (ok' rfl) (Root.ali rfl (by decide) (by decide)) rfl rfl (by decide)) (ko 6 rfl <| kc4 21 20 19 18 rfl <| kc4 0 1 2 7 rfl <| kc 9 rfl <| Kn) rfl ?_
  refine ng ?_
  refine AW.ret ?_
  exact AX.rt (rs := [.tmp 6]) (ts := [some 6]) (.inl rfl) rfl (ROs.cons (RO.tmp (At.self (by decide)) (Ko rfl (by rw [confl, List.take_of_length_le (by omega)])) rfl) <| ROs.nil) (by decide) OutsOK.nil
theorem c_spec_l07Conflicts (x a b : List DCard) (h : deckOK x ∧ deckOK a ∧ deckOK b) : AC Tryd.prog 73 [.cel (Kd.slice kCard) x, .cel (Kd.slice kCard) a, .cel (Kd.slice kCard) b] [.cel (Kd.slice Kd.str) (confl x a b)] [] := (c_spec_l07Conflicts_o x a b h).frz rfl

/-- impl.conflicts -/
theorem c_impl_conflicts_o (x a b : List DCard) (h : deckOK x ∧ deckOK a ∧ deckOK b) : AC Tryd.prog 72 [.cel (Kd.slice kCard) x, .cel (Kd.slice kCard) a, .cel (Kd.slice kCard) b] [.own 9 Kd.str (confl x a b)] [] := by
 refine acI (N := 51) Tryd.func72 (Nat.le_of_ble_eq_true rfl) rfl fun w0 hd s0 ar => ?_
 refine AW.to (kc3 0 1 2 rfl <| Kn) ?_
 have hds : ([x, a] : List (List DCard)).length ≤ 3 ∧ ∀ v ∈ [x, a], deckOK v := by simp [h]
 have hnl := names_len (ds := [x, a]) (fun v hv => (hds.2 v hv).1)
 simp only [List.length_cons, List.length_nil] at hnl
 refine sr ?_
 refine st (nilO (E := 9) Kd.str rfl (.inl rfl)) rfl ?_
 refine ng ?_
 refine sr ?_
 refine st (OpT.buildSlice0 (m := 0) (z := .bool false) Kd.str (H rfl) el45 sz9 (by decide)) rfl ?_
 refine sg (OpT.take (.inl rfl) rfl (ok' rfl) (Root.self (by decide)) rfl rfl (by decide)) (ko 7 rfl <| ko 6 rfl <| kc3 0 1 2 rfl <| Kn) rfl ?_
 refine ng ?_
 refine AW.seq ?_
 refine sr ?_
 refine st (mvT rfl) rfl ?_
 refine st (mvT rfl) rfl ?_
 refine st (OpT.frzO (OpT.buildSlice (H rfl) el106 zr26 sz26 rfl (by decide) zk26 (by decide) (Built.cel (T1 rfl) rfl rfl (sub_arr (by decide) ([] : List (ByteArray × (BitVec 64 × BitVec 64)))) (Built.cel (T1 rfl) rfl rfl (sub_arr (by decide) ([] : List (ByteArray × (BitVec 64 × BitVec 64)))) (Built.nil _))))) rfl ?_
 refine st (OpT.c1 (ms := [.flat]) (c_impl_namesOf [x, a] hds) (H rfl) (Af (T1 rfl) rfl rfl <| An) rfl rfl) rfl ?_
 refine st (OpT.len (H rfl) (T1 rfl) el45) rfl ?_
 refine st (mvI rfl) rfl ?_
 refine ng ?_
 refine AW.block ?_
 refine AW.loop (fun z : Nat => z ≤ (names [x, a]).length) (fun z : Nat => keep [(0, .cel (Kd.slice kCard) x), (1, .cel (Kd.slice kCard) a), (2, .cel (Kd.slice kCard) b), (7, .own 9 Kd.str (((names [x, a]).take z).filter (clash x a b))), (17, .cel (Kd.slice Kd.str) (names [x, a])), (18, .cel (Kd.int .i64) ((names [x, a]).length : Int)), (19, .cel (Kd.int .i64) (z : Int))]) (fun z : Nat => (names [x, a]).length - z) (0) (Nat.zero_le _) (Kc 0 _ (Kv rfl rfl) <| Kc 1 _ (Kv rfl rfl) <| Kc 2 _ (Kv rfl rfl) <| Kc 7 _ (Ko rfl rfl) <| Kc 17 _ (Kv rfl rfl) <| Kc 18 _ (Kv rfl rfl) <| Kc 19 _ (Kv rfl rfl) <| Kn) ?_
 intro z hI
 refine sr ?_
 refine st (OpT.lss (H rfl) (T1 rfl) (T1 rfl)) rfl ?_
 refine ng ?_
 refine AW.seq ?_
 refine cd rfl (fun hc1 => ?_) fun hc1 => ?_
 ·
  obtain ⟨hc1, hc1'⟩ := pT hc1
  obtain ⟨s, hs⟩ := getI (x := (names [x, a])) (z := z) (by omega)
  refine AW.skip ?_
  refine AX.go ?_
  refine AW.seq ?_
  refine AW.block ?_
  refine sr ?_
  refine st (OpT.indexAddr (H rfl) (T1 rfl) (T1 rfl) el45 sz9 (by omega) (by assumption)) rfl ?_
  refine st (OpT.load (H rfl) (T1 rfl) ag9 rfl) rfl ?_
  refine st (asT rfl) rfl ?_
  refine ng ?_
  refine sr ?_
  refine st (mvT rfl) rfl ?_
  refine st (mvT rfl) rfl ?_
  refine st (OpT.c1 (ms := [.flat, .flat]) (c_impl_stateOf _ _) (H rfl) (Af (T1 rfl) rfl rfl <| Af (T1 rfl) rfl rfl <| An) rfl rfl) rfl ?_
  refine st (mvT rfl) rfl ?_
  refine st (mvT rfl) rfl ?_
  refine st (OpT.c1 (ms := [.flat, .flat]) (c_impl_stateOf _ _) (H rfl) (Af (T1 rfl) rfl rfl <| Af (T1 rfl) rfl rfl <| An) rfl rfl) rfl ?_
  refine st (mvT rfl) rfl ?_
  refine st (mvT rfl) rfl ?_
  refine st (OpT.c1 (ms := [.flat, .flat]) (c_impl_stateOf _ _) (H rfl) (Af (T1 rfl) rfl rfl <| Af (T1 rfl) rfl rfl <| An) rfl rfl) rfl ?_
  refine st (OpT.alloc (H rfl) zr102 zk102) rfl ?_
  refine st (OpT.alloc (H rfl) zr102 zk102) rfl ?_
  refine st (OpT.alloc (H rfl) zr102 zk102) rfl ?_
  refine sk (OpT.storeBA rfl rfl (Opd.whole (Root.self (t := 10) (by decide)) rfl) rfl sz102 (by decide) (T1 rfl)) rfl ?_
  refine sk (OpT.storeBA rfl rfl (Opd.whole (Root.self (t := 11) (by decide)) rfl) rfl sz102 (by decide) (T1 rfl)) rfl ?_
  refine sk (OpT.storeBA rfl rfl (Opd.whole (Root.self (t := 12) (by decide)) rfl) rfl sz102 (by decide) (T1 rfl)) rfl ?_
  refine ng ?_
  refine sr ?_
  refine st (OpT.loadB (H rfl) (Root.self (t := 10) (by decide)) rfl ag102 sz102) rfl ?_
  refine st (OpT.loadB (H rfl) (Root.self (t := 11) (by decide)) rfl ag102 sz102) rfl ?_
  refine st (OpT.neA (H rfl) (T1 rfl) (T1 rfl) eq102 ag102 rfl eg102) rfl ?_
  refine st (mvT rfl) rfl ?_
  apply AWl.and (d := 39) (t := 35) rfl
  ·
   intro hb1 Q1 k1
   have hb1' := lT hb1
   refine rs hb1 (OpT.loadB (H rfl) (Root.self (t := 10) (by decide)) rfl ag102 sz102) rfl ?_
   refine rs hb1 (OpT.loadB (H rfl) (Root.self (t := 12) (by decide)) rfl ag102 sz102) rfl ?_
   refine rs hb1 (OpT.neA (H rfl) (T1 rfl) (T1 rfl) eq102 ag102 rfl eg102) rfl ?_
   refine st (OpT.pickT (A := .cel _ _) (H rfl) (T1 rfl) hb1 (T1 rfl) rfl) rfl ?_
   exact AWl.to (junk 3 rfl) k1
  ·
   intro hb1 Q1 k1
   refine ps hb1 rfl ?_
   refine ps hb1 rfl ?_
   refine ps hb1 rfl ?_
   refine st (OpT.pickF (A := .cel _ _) (H rfl) (T1 rfl) hb1 Opd.bool rfl) rfl ?_
   exact k1
  refine st (mvT rfl) rfl ?_
  apply AWl.and (d := 44) (t := 40) rfl
  ·
   intro hb2 Q1 k1
   have hb2' := lT hb2
   refine rs hb2 (OpT.loadB (H rfl) (Root.self (t := 11) (by decide)) rfl ag102 sz102) rfl ?_
   refine rs hb2 (OpT.loadB (H rfl) (Root.self (t := 12) (by decide)) rfl ag102 sz102) rfl ?_
   refine rs hb2 (OpT.neA (H rfl) (T1 rfl) (T1 rfl) eq102 ag102 rfl eg102) rfl ?_
   refine st (OpT.pickT (A := .cel _ _) (H rfl) (T1 rfl) hb2 (T1 rfl) rfl) rfl ?_
   exact AWl.to (junk 3 rfl) k1
  ·
   intro hb2 Q1 k1
   refine ps hb2 rfl ?_
   refine ps hb2 rfl ?_
   refine ps hb2 rfl ?_
   refine st (OpT.pickF (A := .cel _ _) (H rfl) (T1 rfl) hb2 Opd.bool rfl) rfl ?_
   exact k1
  refine ng ?_
  refine cd rfl (fun hc2 => ?_) fun hc2 => ?_
  ·
   obtain ⟨hc2, hc2'⟩ := pT hc2
   refine AW.region ?_
   refine st (OpT.alias (H rfl) (by decide) (by decide)) rfl ?_
   refine st (mvT rfl) rfl ?_
   refine st (OpT.buildSlice (H rfl) el45 zr9 sz9 rfl (by decide) zk9 (by decide) (Built.cel (T1 rfl) rfl rfl (sub_arr (by decide) (.empty : ByteArray)) (Built.nil _))) rfl ?_
   refine sg (OpT.append (H rfl) (Root.ali rfl (by decide) (by decide)) rfl (Src.own (Root.self (t := 47) (by decide)) rfl) (by decide) el45 zr9 rfl sz9 by9 (by decide) (by have h70 := List.length_filter_le (clash x a b) ((names [x, a]).take z); rw [List.length_take] at h70; simp only [List.length_set, List.length_replicate]; omega)) (ko 48 rfl <| ko 47 rfl <| kc4 46 44 40 39 rfl <| kc2 35 34 rfl <| ka 33 rfl <| ka 32 rfl <| kb 12 rfl <| kb 11 rfl <| kb 10 rfl <| ka 31 rfl <| kc2 30 29 rfl <| ka 28 rfl <| kc2 27 26 rfl <| ka 25 rfl <| kc4 24 23 9 22 rfl <| kc4 21 20 0 1 rfl <| kc4 2 17 18 19 rfl <| Kn) rfl ?_
   refine sg (OpT.take (.inl rfl) rfl (ok' rfl) (Root.self (by decide)) rfl rfl (by decide)) (ko 7 rfl <| ko 47 rfl <| kc4 46 44 40 39 rfl <| kc2 35 34 rfl <| ka 33 rfl <| ka 32 rfl <| kb 12 rfl <| kb 11 rfl <| kb 10 rfl <| ka 31 rfl <| kc2 30 29 rfl <| ka 28 rfl <| kc2 27 26 rfl <| ka 25 rfl <| kc4 24 23 9 22 rfl <| kc4 21 20 0 1 rfl <| kc4 2 17 18 19 rfl <| Kn) rfl ?_
   refine nn ?_
   refine AX.normal_block ?_
   refine AX.go ?_
   refine AW.region ?_
   refine st (OpT.add (H rfl) (T1 rfl) (I rfl) (nw (by omega))) rfl ?_
   refine st (mvT rfl) rfl ?_
   refine nn ?_
   exact AX.again (z + 1) (by omega) (by omega) (Kc 0 _ (Kv rfl rfl) <| Kc 1 _ (Kv rfl rfl) <| Kc 2 _ (Kv rfl rfl) <| Kc 7 _ (Ko rfl (by first | exact filter_yes (q := clash x a b) hs hc2 | exact filter_no (q := clash x a b) hs hc2)) <| Kc 17 _ (Kv rfl rfl) <| Kc 18 _ (Kv rfl rfl) <| Kc 19 _ (Kv rfl (by omega)) <| Kn)
  ·
   obtain ⟨hc2, hc2'⟩ := pF hc2
   refine AW.skip ?_
   refine AX.normal_block ?_
   refine AX.go ?_
   refine AW.region ?_
   refine st (OpT.add (H rfl) (T1 rfl) (I rfl) (nw (by omega))) rfl ?_
   refine st (mvT rfl) rfl ?_
   refine nn ?_
   exact AX.again (z + 1) (by omega) (by omega) (Kc 0 _ (Kv rfl rfl) <| Kc 1 _ (Kv rfl rfl) <| Kc 2 _ (Kv rfl rfl) <| Kc 7 _ (Ko rfl (by first | exact filter_yes (q := clash x a b) hs hc2 | exact filter_no (q := clash x a b) hs hc2)) <| Kc 17 _ (Kv rfl rfl) <| Kc 18 _ (Kv rfl rfl) <| Kc 19 _ (Kv rfl (by omega)) <| Kn)
 ·
  obtain ⟨hc1, hc1'⟩ := pF hc1
  refine AW.exit ?_
  refine xT <| xT <| AX.exit_hit ?_
  refine AX.go ?_
  refine sr ?_
  refine st (OpT.alias (H rfl) (by decide) (by decide)) rfl ?_
  refine sg (OpT.take (.inl rfl) rfl (ok' rfl) (Root.ali rfl (by decide) (by decide)) rfl rfl (by decide)) (ko 6 rfl <| kc4 20 0 1 2 rfl <| kc3 17 18 19 rfl <| Kn) rfl ?_
  refine ng ?_
  refine AW.ret ?_
  exact AX.rt (rs := [.tmp 6]) (ts := [some 6]) (.inl rfl) rfl (ROs.cons (RO.tmp (At.self (by decide)) (Ko rfl (by rw [confl, List.take_of_length_le (by omega)])) rfl) <| ROs.nil) (by decide) OutsOK.nil
theorem c_impl_conflicts (x a b : List DCard) (h : deckOK x ∧ deckOK a ∧ deckOK b) : AC Tryd.prog 72 [.cel (Kd.slice kCard) x, .cel (Kd.slice kCard) a, .cel (Kd.slice kCard) b] [.cel (Kd.slice Kd.str) (confl x a b)] [] := (c_impl_conflicts_o x a b h).frz rfl

/-- spec.ConflictsOf -/
theorem c_spec_ConflictsOf_o (x a b : List DCard) : AC Tryd.prog 22 [.cel (Kd.slice kCard) x, .cel (Kd.slice kCard) a, .cel (Kd.slice kCard) b] [.own 9 Kd.str (conS x a b).1, .cel (Kd.int .i64) (conS x a b).2] [] := by
 refine acI (N := 26) Tryd.func22 (Nat.le_of_ble_eq_true rfl) rfl fun w0 hd s0 ar => ?_
 refine AW.to (kc3 0 1 2 rfl <| Kn) ?_
 refine sr ?_
 refine st (nilO (E := 9) Kd.str rfl (.inl rfl)) rfl ?_
 refine st (asI rfl) rfl ?_
 refine ng ?_
 refine AW.seq ?_
 refine sr ?_
 refine st (mvT rfl) rfl ?_
 refine st (OpT.c1 (ms := [.flat]) (c_spec_l02Ok _) (H rfl) (Af (T1 rfl) rfl rfl <| An) rfl rfl) rfl ?_
 refine st (OpT.not (H rfl) (T1 rfl)) rfl ?_
 refine st (mvT rfl) rfl ?_
 apply AWl.or (d := 15) (t := 11) rfl
 ·
  intro hb1 Q1 k1
  have hb1' := lF hb1
  refine rs hb1 (mvT rfl) rfl ?_
  refine rs hb1 (OpT.c1 (ms := [.flat]) (c_spec_l02Ok _) (H rfl) (Af (T1 rfl) rfl rfl <| An) rfl rfl) rfl ?_
  refine rs hb1 (OpT.not (H rfl) (T1 rfl)) rfl ?_
  refine st (OpT.pickF (A := .cel _ _) (H rfl) (T1 rfl) hb1 (T1 rfl) rfl) rfl ?_
  exact AWl.to (junk 3 rfl) k1
 ·
  intro hb1 Q1 k1
  refine ps hb1 rfl ?_
  refine ps hb1 rfl ?_
  refine ps hb1 rfl ?_
  refine st (OpT.pickT (A := .cel _ _) (H rfl) (T1 rfl) hb1 Opd.bool rfl) rfl ?_
  exact k1
 refine st (mvT rfl) rfl ?_
 apply AWl.or (d := 20) (t := 16) rfl
 ·
  intro hb2 Q1 k1
  have hb2' := lF hb2
  refine rs hb2 (mvT rfl) rfl ?_
  refine rs hb2 (OpT.c1 (ms := [.flat]) (c_spec_l02Ok _) (H rfl) (Af (T1 rfl) rfl rfl <| An) rfl rfl) rfl ?_
  refine rs hb2 (OpT.not (H rfl) (T1 rfl)) rfl ?_
  refine st (OpT.pickF (A := .cel _ _) (H rfl) (T1 rfl) hb2 (T1 rfl) rfl) rfl ?_
  exact AWl.to (junk 3 rfl) k1
 ·
  intro hb2 Q1 k1
  refine ps hb2 rfl ?_
  refine ps hb2 rfl ?_
  refine ps hb2 rfl ?_
  refine st (OpT.pickT (A := .cel _ _) (H rfl) (T1 rfl) hb2 Opd.bool rfl) rfl ?_
  exact k1
 refine ng ?_
 refine cd rfl (fun hc1 => ?_) fun hc1 => ?_
 ·
  obtain ⟨hc1, hc1'⟩ := pT hc1
  refine sr ?_
  refine st (OpT.buildSlice0 (m := 0) (z := .bool false) Kd.str (H rfl) el45 sz9 (by decide)) rfl ?_
  refine sg (OpT.take (.inl rfl) rfl (ok' rfl) (Root.self (by decide)) rfl rfl (by decide)) (ko 6 rfl <| kc4 20 16 15 11 rfl <| kc4 10 9 8 7 rfl <| kc3 0 1 2 rfl <| Kn) rfl ?_
  refine st (asI rfl) rfl ?_
  refine ng ?_
  refine AW.ret ?_
  refine rT ?_
  exact AX.rt (rs := [.tmp 6, .tmp 7]) (ts := [some 6, some 7]) (.inl rfl) rfl (ROs.cons (RO.tmp (At.self (by decide)) (Ko rfl (by first | (rw [con_bad hc1]; done) | (rw [con_ok hc1]; done))) rfl) <| ROs.cons (RO.tmp (At.self (by decide)) (Kv rfl (by first | (rw [con_bad hc1]; done) | (rw [con_ok hc1]; done))) rfl) <| ROs.nil) (by decide) OutsOK.nil
 ·
  obtain ⟨hc1, hc1'⟩ := pF hc1
  have hds := decks_three hc1
  refine AW.skip ?_
  refine AX.go ?_
  refine sr ?_
  refine st (mvT rfl) rfl ?_
  refine st (mvT rfl) rfl ?_
  refine st (mvT rfl) rfl ?_
  refine st (OpT.c1 (ms := [.flat, .flat, .flat]) (c_spec_l07Conflicts_o _ _ _ hds.2.2.2) (H rfl) (Af (T1 rfl) rfl rfl <| Af (T1 rfl) rfl rfl <| Af (T1 rfl) rfl rfl <| An) rfl rfl) rfl ?_
  refine sg (OpT.take (.inl rfl) rfl (ok' rfl) (Root.self (by decide)) rfl rfl (by decide)) (ko 6 rfl <| kc4 24 23 22 20 rfl <| kc4 16 15 11 10 rfl <| kc4 9 8 7 0 rfl <| kc2 1 2 rfl <| Kn) rfl ?_
  refine st (asI rfl) rfl ?_
  refine AWl.to (kc 7 rfl <| ko 6 rfl <| Kn) ?_
  refine ng ?_
  refine AW.ret ?_
  exact AX.rt (rs := [.tmp 6, .tmp 7]) (ts := [some 6, some 7]) (.inl rfl) rfl (ROs.cons (RO.tmp (At.self (by decide)) (Ko rfl (by first | (rw [con_bad hc1]; done) | (rw [con_ok hc1]; done))) rfl) <| ROs.cons (RO.tmp (At.self (by decide)) (Kv rfl (by first | (rw [con_bad hc1]; done) | (rw [con_ok hc1]; done))) rfl) <| ROs.nil) (by decide) OutsOK.nil
theorem c_spec_ConflictsOf (x a b : List DCard) : AC Tryd.prog 22 [.cel (Kd.slice kCard) x, .cel (Kd.slice kCard) a, .cel (Kd.slice kCard) b] [.cel (Kd.slice Kd.str) (conS x a b).1, .cel (Kd.int .i64) (conS x a b).2] [] := (c_spec_ConflictsOf_o x a b).frz rfl

/-- impl.ConflictsOf -/
theorem c_impl_ConflictsOf_o (x a b : List DCard) : AC Tryd.prog 21 [.cel (Kd.slice kCard) x, .cel (Kd.slice kCard) a, .cel (Kd.slice kCard) b] [.own 9 Kd.str (conS x a b).1, .cel (Kd.int .i64) (conS x a b).2] [] := by
 refine acI (N := 25) Tryd.func21 (Nat.le_of_ble_eq_true rfl) rfl fun w0 hd s0 ar => ?_
 refine AW.to (kc3 0 1 2 rfl <| Kn) ?_
 refine sr ?_
 refine st (nilO (E := 9) Kd.str rfl (.inl rfl)) rfl ?_
 refine st (asI rfl) rfl ?_
 refine ng ?_
 refine AW.seq ?_
 refine sr ?_
 refine st (mvT rfl) rfl ?_
 refine st (OpT.c1 (ms := [.flat]) (c_impl_isDeck _) (H rfl) (Af (T1 rfl) rfl rfl <| An) rfl rfl) rfl ?_
 refine st (OpT.not (H rfl) (T1 rfl)) rfl ?_
 refine st (mvT rfl) rfl ?_
 apply AWl.or (d := 15) (t := 11) rfl
 ·
  intro hb1 Q1 k1
  have hb1' := lF hb1
  refine rs hb1 (mvT rfl) rfl ?_
  refine rs hb1 (OpT.c1 (ms := [.flat]) (c_impl_isDeck _) (H rfl) (Af (T1 rfl) rfl rfl <| An) rfl rfl) rfl ?_
  refine rs hb1 (OpT.not (H rfl) (T1 rfl)) rfl ?_
  refine st (OpT.pickF (A := .cel _ _) (H rfl) (T1 rfl) hb1 (T1 rfl) rfl) rfl ?_
  exact AWl.to (junk 3 rfl) k1
 ·
  intro hb1 Q1 k1
  refine ps hb1 rfl ?_
  refine ps hb1 rfl ?_
  refine ps hb1 rfl ?_
  refine st (OpT.pickT (A := .cel _ _) (H rfl) (T1 rfl) hb1 Opd.bool rfl) rfl ?_
  exact k1
 refine st (mvT rfl) rfl ?_
 apply AWl.or (d := 20) (t := 16) rfl
 ·
  intro hb2 Q1 k1
  have hb2' := lF hb2
  refine rs hb2 (mvT rfl) rfl ?_
  refine rs hb2 (OpT.c1 (ms := [.flat]) (c_impl_isDeck _) (H rfl) (Af (T1 rfl) rfl rfl <| An) rfl rfl) rfl ?_
  refine rs hb2 (OpT.not (H rfl) (T1 rfl)) rfl ?_
  refine st (OpT.pickF (A := .cel _ _) (H rfl) (T1 rfl) hb2 (T1 rfl) rfl) rfl ?_
  exact AWl.to (junk 3 rfl) k1
 ·
  intro hb2 Q1 k1
  refine ps hb2 rfl ?_
  refine ps hb2 rfl ?_
  refine ps hb2 rfl ?_
  refine st (OpT.pickT (A := .cel _ _) (H rfl) (T1 rfl) hb2 Opd.bool rfl) rfl ?_
  exact k1
 refine ng ?_
 refine cd rfl (fun hc1 => ?_) fun hc1 => ?_
 ·
  obtain ⟨hc1, hc1'⟩ := pT hc1
  refine sr ?_
  refine st (nilO (E := 9) Kd.str rfl (.inl rfl)) rfl ?_
  refine st (asI rfl) rfl ?_
  refine ng ?_
  refine AW.ret ?_
  refine rT ?_
  exact AX.rt (rs := [.tmp 6, .tmp 7]) (ts := [some 6, some 7]) (.inl rfl) rfl (ROs.cons (RO.tmp (At.self (by decide)) (Ko rfl (by first | (rw [con_bad hc1]; done) | (rw [con_ok hc1]; done))) rfl) <| ROs.cons (RO.tmp (At.self (by decide)) (Kv rfl (by first | (rw [con_bad hc1]; done) | (rw [con_ok hc1]; done))) rfl) <| ROs.nil) (by decide) OutsOK.nil
 ·
  obtain ⟨hc1, hc1'⟩ := pF hc1
  have hds := decks_three hc1
  refine AW.skip ?_
  refine AX.go ?_
  refine sr ?_
  refine st (mvT rfl) rfl ?_
  refine st (mvT rfl) rfl ?_
  refine st (mvT rfl) rfl ?_
  refine st (OpT.c1 (ms := [.flat, .flat, .flat]) (c_impl_conflicts_o _ _ _ hds.2.2.2) (H rfl) (Af (T1 rfl) rfl rfl <| Af (T1 rfl) rfl rfl <| Af (T1 rfl) rfl rfl <| An) rfl rfl) rfl ?_
  refine sg (OpT.take (.inl rfl) rfl (ok' rfl) (Root.self (by decide)) rfl rfl (by decide)) (ko 6 rfl <| kc4 23 22 21 20 rfl <| kc4 16 15 11 10 rfl <| kc4 9 8 7 0 rfl <| kc2 1 2 rfl <| Kn) rfl ?_
  refine st (asI rfl) rfl ?_
  refine AWl.to (kc 7 rfl <| ko 6 rfl <| Kn) ?_
  refine ng ?_
  refine AW.ret ?_
  exact AX.rt (rs := [.tmp 6, .tmp 7]) (ts := [some 6, some 7]) (.inl rfl) rfl (ROs.cons (RO.tmp (At.self (by decide)) (Ko rfl (by first | (rw [con_bad hc1]; done) | (rw [con_ok hc1]; done))) rfl) <| ROs.cons (RO.tmp (At.self (by decide)) (Kv rfl (by first | (rw [con_bad hc1]; done) | (rw [con_ok hc1]; done))) rfl) <| ROs.nil) (by decide) OutsOK.nil
theorem c_impl_ConflictsOf (x a b : List DCard) : AC Tryd.prog 21 [.cel (Kd.slice kCard) x, .cel (Kd.slice kCard) a, .cel (Kd.slice kCard) b] [.cel (Kd.slice Kd.str) (conS x a b).1, .cel (Kd.int .i64) (conS x a b).2] [] := (c_impl_ConflictsOf_o x a b).frz rfl

set_option maxHeartbeats 4000000 in
/-- impl.MergeThree -/
theorem c_impl_MergeThree_o (x a b : List DCard) : AC Tryd.prog 23 [.cel (Kd.slice kCard) x, .cel (Kd.slice kCard) a, .cel (Kd.slice kCard) b] [.own 42 kCard (mrgS x a b).1, .cel (Kd.int .i64) (mrgS x a b).2] [] := by
 refine acI (N := 69) Tryd.func23 (Nat.le_of_ble_eq_true rfl) rfl fun w0 hd s0 ar => ?_
 refine AW.to (kc3 0 1 2 rfl <| Kn) ?_
 refine sr ?_
 refine st (nilO (E := 42) kCard rfl (.inl rfl)) rfl ?_
 refine st (asI rfl) rfl ?_
 refine ng ?_
 refine AW.seq ?_
 refine sr ?_
 refine st (mvT rfl) rfl ?_
 refine st (OpT.c1 (ms := [.flat]) (c_impl_isDeck _) (H rfl) (Af (T1 rfl) rfl rfl <| An) rfl rfl) rfl ?_
 refine st (OpT.not (H rfl) (T1 rfl)) rfl ?_
 refine st (mvT rfl) rfl ?_
 apply AWl.or (d := 20) (t := 16) rfl
 ·
  intro hb1 Q1 k1
  have hb1' := lF hb1
  refine rs hb1 (mvT rfl) rfl ?_
  refine rs hb1 (OpT.c1 (ms := [.flat]) (c_impl_isDeck _) (H rfl) (Af (T1 rfl) rfl rfl <| An) rfl rfl) rfl ?_
  refine rs hb1 (OpT.not (H rfl) (T1 rfl)) rfl ?_
  refine st (OpT.pickF (A := .cel _ _) (H rfl) (T1 rfl) hb1 (T1 rfl) rfl) rfl ?_
  exact AWl.to (junk 3 rfl) k1
 ·
  intro hb1 Q1 k1
  refine ps hb1 rfl ?_
  refine ps hb1 rfl ?_
  refine ps hb1 rfl ?_
  refine st (OpT.pickT (A := .cel _ _) (H rfl) (T1 rfl) hb1 Opd.bool rfl) rfl ?_
  exact k1
 refine st (mvT rfl) rfl ?_
 apply AWl.or (d := 25) (t := 21) rfl
 ·
  intro hb2 Q1 k1
  have hb2' := lF hb2
  refine rs hb2 (mvT rfl) rfl ?_
  refine rs hb2 (OpT.c1 (ms := [.flat]) (c_impl_isDeck _) (H rfl) (Af (T1 rfl) rfl rfl <| An) rfl rfl) rfl ?_
  refine rs hb2 (OpT.not (H rfl) (T1 rfl)) rfl ?_
  refine st (OpT.pickF (A := .cel _ _) (H rfl) (T1 rfl) hb2 (T1 rfl) rfl) rfl ?_
  exact AWl.to (junk 3 rfl) k1
 ·
  intro hb2 Q1 k1
  refine ps hb2 rfl ?_
  refine ps hb2 rfl ?_
  refine ps hb2 rfl ?_
  refine st (OpT.pickT (A := .cel _ _) (H rfl) (T1 rfl) hb2 Opd.bool rfl) rfl ?_
  exact k1
 refine ng ?_
 refine cd rfl (fun hc1 => ?_) fun hc1 => ?_
 ·
  obtain ⟨hc1, hc1'⟩ := pT hc1
  refine sr ?_
  refine st (nilO (E := 42) kCard rfl (.inl rfl)) rfl ?_
  refine st (asI rfl) rfl ?_
  refine ng ?_
  refine AW.ret ?_
  refine rT ?_
  exact AX.rt (rs := [.tmp 6, .tmp 7]) (ts := [some 6, some 7]) (.inl rfl) rfl (ROs.cons (RO.tmp (At.self (by decide)) (Ko rfl (by first | (rw [mrg_bad hc1]; done) | (rw [mrg_con hc1 (by omega)]; done) | (rw [mrg_long hc1 (by omega) (by omega)]; done) | (rw [mrg_ok hc1 (by omega) (by omega)]; first | done | exact hme))) rfl) <| ROs.cons (RO.tmp (At.self (by decide)) (Kv rfl (by first | (rw [mrg_bad hc1]; done) | (rw [mrg_con hc1 (by omega)]; done) | (rw [mrg_long hc1 (by omega) (by omega)]; done) | (rw [mrg_ok hc1 (by omega) (by omega)]; first | done | exact hme))) rfl) <| ROs.nil) (by decide) OutsOK.nil
 ·
  obtain ⟨hc1, hc1'⟩ := pF hc1
  have hds := decks_three hc1
  have hcl := confl_len (base := x) (a := a) (b := b) ⟨hds.1, hds.2.1⟩
  have hdz : ([x, a, b] : List (List DCard)).length ≤ 3 ∧ ∀ v ∈ [x, a, b], deckOK v := by simp [hds]
  have hnz := names_len (ds := [x, a, b]) (fun v hv => (hdz.2 v hv).1)
  simp only [List.length_cons, List.length_nil] at hnz
  refine AW.skip ?_
  refine AX.go ?_
  refine AW.seq ?_
  refine sr ?_
  refine st (mvT rfl) rfl ?_
  refine st (mvT rfl) rfl ?_
  refine st (mvT rfl) rfl ?_
  refine st (OpT.c1 (ms := [.flat, .flat, .flat]) (c_impl_conflicts _ _ _ hds.2.2.2) (H rfl) (Af (T1 rfl) rfl rfl <| Af (T1 rfl) rfl rfl <| Af (T1 rfl) rfl rfl <| An) rfl rfl) rfl ?_
  refine st (OpT.len (H rfl) (T1 rfl) el45) rfl ?_
  refine st (OpT.gtr (H rfl) (T1 rfl) (I rfl)) rfl ?_
  refine AWl.to (kc2 31 7 rfl <| ko 6 rfl <| kc3 0 1 2 rfl <| Kn) ?_
  refine ng ?_
  refine cd rfl (fun hc2 => ?_) fun hc2 => ?_
  ·
   obtain ⟨hc2, hc2'⟩ := pT hc2
   refine sr ?_
   refine st (nilO (E := 42) kCard rfl (.inl rfl)) rfl ?_
   refine st (asI rfl) rfl ?_
   refine ng ?_
   refine AW.ret ?_
   refine rT ?_
   exact AX.rt (rs := [.tmp 6, .tmp 7]) (ts := [some 6, some 7]) (.inl rfl) rfl (ROs.cons (RO.tmp (At.self (by decide)) (Ko rfl (by first | (rw [mrg_bad hc1]; done) | (rw [mrg_con hc1 (by omega)]; done) | (rw [mrg_long hc1 (by omega) (by omega)]; done) | (rw [mrg_ok hc1 (by omega) (by omega)]; first | done | exact hme))) rfl) <| ROs.cons (RO.tmp (At.self (by decide)) (Kv rfl (by first | (rw [mrg_bad hc1]; done) | (rw [mrg_con hc1 (by omega)]; done) | (rw [mrg_long hc1 (by omega) (by omega)]; done) | (rw [mrg_ok hc1 (by omega) (by omega)]; first | done | exact hme))) rfl) <| ROs.nil) (by decide) OutsOK.nil
  ·
   obtain ⟨hc2, hc2'⟩ := pF hc2
   refine AW.skip ?_
   refine AX.go ?_
   refine sr ?_
   refine st (OpT.buildSlice0 (m := 0) (z := .bool false) kCard (H rfl) el26 sz42 (by decide)) rfl ?_
   refine sg (OpT.take (.inl rfl) rfl (ok' rfl) (Root.self (by decide)) rfl rfl (by decide)) (ko 8 rfl <| kc2 31 7 rfl <| ko 6 rfl <| kc3 0 1 2 rfl <| Kn) rfl ?_
   refine ng ?_
   refine AW.seq ?_
   refine sr ?_
   refine st (mvT rfl) rfl ?_
   refine st (mvT rfl) rfl ?_
   refine st (mvT rfl) rfl ?_
   refine st (OpT.frzO (OpT.buildSlice (H rfl) el106 zr26 sz26 rfl (by decide) zk26 (by decide) (Built.cel (T1 rfl) rfl rfl (sub_arr (by decide) ([] : List (ByteArray × (BitVec 64 × BitVec 64)))) (Built.cel (T1 rfl) rfl rfl (sub_arr (by decide) ([] : List (ByteArray × (BitVec 64 × BitVec 64)))) (Built.cel (T1 rfl) rfl rfl (sub_arr (by decide) ([] : List (ByteArray × (BitVec 64 × BitVec 64)))) (Built.nil _)))))) rfl ?_
   refine st (OpT.c1 (ms := [.flat]) (c_impl_namesOf [x, a, b] hdz) (H rfl) (Af (T1 rfl) rfl rfl <| An) rfl rfl) rfl ?_
   refine st (OpT.len (H rfl) (T1 rfl) el45) rfl ?_
   refine st (mvI rfl) rfl ?_
   refine ng ?_
   refine AW.block ?_
   refine AW.loop (fun z : Nat => z ≤ (names [x, a, b]).length) (fun z : Nat => keep [(0, .cel (Kd.slice kCard) x), (1, .cel (Kd.slice kCard) a), (2, .cel (Kd.slice kCard) b), (8, .own 42 kCard (((names [x, a, b]).take z).flatMap (pickC x a b))), (37, .cel (Kd.slice Kd.str) (names [x, a, b])), (38, .cel (Kd.int .i64) ((names [x, a, b]).length : Int)), (39, .cel (Kd.int .i64) (z : Int))]) (fun z : Nat => (names [x, a, b]).length - z) (0) (Nat.zero_le _) (Kc 0 _ (Kv rfl rfl) <| Kc 1 _ (Kv rfl rfl) <| Kc 2 _ (Kv rfl rfl) <| Kc 8 _ (Ko rfl rfl) <| Kc 37 _ (Kv rfl rfl) <| Kc 38 _ (Kv rfl rfl) <| Kc 39 _ (Kv rfl rfl) <| Kn) ?_
   intro z hI
   refine sr ?_
   refine st (OpT.lss (H rfl) (T1 rfl) (T1 rfl)) rfl ?_
   refine ng ?_
   refine AW.seq ?_
   refine cd rfl (fun hc3 => ?_) fun hc3 => ?_
   ·
    obtain ⟨hc3, hc3'⟩ := pT hc3
    obtain ⟨s, hs⟩ := getI (x := (names [x, a, b])) (z := z) (by omega)
    refine AW.skip ?_
    refine AX.go ?_
    refine AW.seq ?_
    refine AW.block ?_
    refine sr ?_
    refine st (OpT.indexAddr (H rfl) (T1 rfl) (T1 rfl) el45 sz9 (by omega) (by assumption)) rfl ?_
    refine st (OpT.load (H rfl) (T1 rfl) ag9 rfl) rfl ?_
    refine st (asT rfl) rfl ?_
    refine ng ?_
    refine sr ?_
    refine st (mvT rfl) rfl ?_
    refine st (asT rfl) rfl ?_
    refine ng ?_
    refine AW.seq ?_
    refine sr ?_
    refine st (mvT rfl) rfl ?_
    refine st (mvT rfl) rfl ?_
    refine st (OpT.c1 (ms := [.flat, .flat]) (c_impl_stateOf _ _) (H rfl) (Af (T1 rfl) rfl rfl <| Af (T1 rfl) rfl rfl <| An) rfl rfl) rfl ?_
    refine st (mvT rfl) rfl ?_
    refine st (mvT rfl) rfl ?_
    refine st (OpT.c1 (ms := [.flat, .flat]) (c_impl_stateOf _ _) (H rfl) (Af (T1 rfl) rfl rfl <| Af (T1 rfl) rfl rfl <| An) rfl rfl) rfl ?_
    refine st (OpT.eqA (H rfl) (T1 rfl) (T1 rfl) eq102 ag102 rfl eg102) rfl ?_
    refine ng ?_
    refine cd rfl (fun hc4 => ?_) fun hc4 => ?_
    ·
     obtain ⟨hc4, hc4'⟩ := pT hc4
     have hpk := pick_same (a := a) hc4
     refine AW.region ?_
     refine st (mvT rfl) rfl ?_
     refine st (asT rfl) rfl ?_
     refine ng ?_
     refine sr ?_
     refine st (mvT rfl) rfl ?_
     refine st (mvT rfl) rfl ?_
     refine st (OpT.c1 (ms := [.flat, .flat]) (c_impl_placeOf _ _) (H rfl) (Af (T1 rfl) rfl rfl <| Af (T1 rfl) rfl rfl <| An) rfl rfl) rfl ?_
     refine st (asT rfl) rfl ?_
     refine ng ?_
     refine sr ?_
     refine st (mvT rfl) rfl ?_
     refine st (OpT.geq (H rfl) (T1 rfl) (I rfl)) rfl ?_
     refine ng ?_
     refine cd rfl (fun hc5 => ?_) fun hc5 => ?_
     ·
      obtain ⟨hc5, hc5'⟩ := pT hc5
      obtain ⟨cd, hcd, hcn, hcl⟩ := findC_of hc5
      refine AW.region ?_
      refine st (OpT.alias (H rfl) (by decide) (by decide)) rfl ?_
      refine st (mvT rfl) rfl ?_
      refine st (mvT rfl) rfl ?_
      refine st (OpT.indexAddr (H rfl) (T1 rfl) (T1 rfl) el26 sz42 (by omega) (by assumption)) rfl ?_
      refine st (OpT.loadA (H rfl) (T1 rfl) ag42 sz42) rfl ?_
      refine st (OpT.buildSlice (H rfl) el26 zr42 sz42 rfl (by decide) zk42 (by decide) (Built.agg (T1 rfl) rfl (by decide) (sub_arr (by decide) ((.empty, (0, 0)) : ByteArray × (BitVec 64 × BitVec 64))) (Built.nil _))) rfl ?_
      refine sg (OpT.append (H rfl) (Root.ali rfl (by decide) (by decide)) rfl (Src.own (Root.self (t := 62) (by decide)) rfl) (by decide) el26 zr42 rfl sz42 by42 (by decide) (by have h70 := flat_len (pickC_len x a b) ((names [x, a, b]).take z); rw [List.length_take] at h70; simp only [List.length_set, List.length_replicate]; omega)) (ko 63 rfl <| ko 62 rfl <| ka 61 rfl <| kc4 60 59 58 56 rfl <| kc4 55 12 54 53 rfl <| kc4 52 11 51 50 rfl <| ka 49 rfl <| kc2 48 47 rfl <| ka 46 rfl <| kc4 45 44 43 10 rfl <| kc4 42 41 40 0 rfl <| kc4 1 2 37 38 rfl <| kc 39 rfl <| Kn) rfl ?_
      refine sg (OpT.take (.inl rfl) rfl (ok' rfl) (Root.self (by decide)) rfl rfl (by decide)) (ko 8 rfl <| ko 62 rfl <| ka 61 rfl <| kc4 60 59 58 56 rfl <| kc4 55 12 54 53 rfl <| kc4 52 11 51 50 rfl <| ka 49 rfl <| kc2 48 47 rfl <| ka 46 rfl <| kc4 45 44 43 10 rfl <| kc4 42 41 40 0 rfl <| kc4 1 2 37 38 rfl <| kc 39 rfl <| Kn) rfl ?_
      refine nn ?_
      refine AX.normal_block ?_
      refine AX.go ?_
      refine AW.region ?_
      refine st (OpT.add (H rfl) (T1 rfl) (I rfl) (nw (by omega))) rfl ?_
      refine st (mvT rfl) rfl ?_
      refine nn ?_
      exact AX.again (z + 1) (by omega) (by omega) (Kc 0 _ (Kv rfl rfl) <| Kc 1 _ (Kv rfl rfl) <| Kc 2 _ (Kv rfl rfl) <| Kc 8 _ (Ko rfl (by first | (rw [← flat_next (f := pickC x a b) hs, pickC_card hpk (by omega) hcd hcn]; first | done | rfl) | (rw [← flat_next (f := pickC x a b) hs, pickC_gone hpk (by omega), List.append_nil]))) <| Kc 37 _ (Kv rfl rfl) <| Kc 38 _ (Kv rfl rfl) <| Kc 39 _ (Kv rfl (by omega)) <| Kn)
     ·
      obtain ⟨hc5, hc5'⟩ := pF hc5
      refine AW.skip ?_
      refine AX.normal_block ?_
      refine AX.go ?_
      refine AW.region ?_
      refine st (OpT.add (H rfl) (T1 rfl) (I rfl) (nw (by omega))) rfl ?_
      refine st (mvT rfl) rfl ?_
      refine nn ?_
      exact AX.again (z + 1) (by omega) (by omega) (Kc 0 _ (Kv rfl rfl) <| Kc 1 _ (Kv rfl rfl) <| Kc 2 _ (Kv rfl rfl) <| Kc 8 _ (Ko rfl (by first | (rw [← flat_next (f := pickC x a b) hs, pickC_card hpk (by omega) hcd hcn]; first | done | rfl) | (rw [← flat_next (f := pickC x a b) hs, pickC_gone hpk (by omega), List.append_nil]))) <| Kc 37 _ (Kv rfl rfl) <| Kc 38 _ (Kv rfl rfl) <| Kc 39 _ (Kv rfl (by omega)) <| Kn)
    ·
     obtain ⟨hc4, hc4'⟩ := pF hc4
     have hpk := pick_diff (a := a) hc4
     refine AW.skip ?_
     refine AX.go ?_
     refine sr ?_
     refine st (mvT rfl) rfl ?_
     refine st (mvT rfl) rfl ?_
     refine st (OpT.c1 (ms := [.flat, .flat]) (c_impl_placeOf _ _) (H rfl) (Af (T1 rfl) rfl rfl <| Af (T1 rfl) rfl rfl <| An) rfl rfl) rfl ?_
     refine st (asT rfl) rfl ?_
     refine ng ?_
     refine sr ?_
     refine st (mvT rfl) rfl ?_
     refine st (OpT.geq (H rfl) (T1 rfl) (I rfl)) rfl ?_
     refine ng ?_
     refine cd rfl (fun hc6 => ?_) fun hc6 => ?_
     ·
      obtain ⟨hc6, hc6'⟩ := pT hc6
      obtain ⟨cd, hcd, hcn, hcl⟩ := findC_of hc6
      refine AW.region ?_
      refine st (OpT.alias (H rfl) (by decide) (by decide)) rfl ?_
      refine st (mvT rfl) rfl ?_
      refine st (mvT rfl) rfl ?_
      refine st (OpT.indexAddr (H rfl) (T1 rfl) (T1 rfl) el26 sz42 (by omega) (by assumption)) rfl ?_
      refine st (OpT.loadA (H rfl) (T1 rfl) ag42 sz42) rfl ?_
      refine st (OpT.buildSlice (H rfl) el26 zr42 sz42 rfl (by decide) zk42 (by decide) (Built.agg (T1 rfl) rfl (by decide) (sub_arr (by decide) ((.empty, (0, 0)) : ByteArray × (BitVec 64 × BitVec 64))) (Built.nil _))) rfl ?_
      refine sg (OpT.append (H rfl) (Root.ali rfl (by decide) (by decide)) rfl (Src.own (Root.self (t := 62) (by decide)) rfl) (by decide) el26 zr42 rfl sz42 by42 (by decide) (by have h70 := flat_len (pickC_len x a b) ((names [x, a, b]).take z); rw [List.length_take] at h70; simp only [List.length_set, List.length_replicate]; omega)) (ko 63 rfl <| ko 62 rfl <| ka 61 rfl <| kc4 60 59 58 56 rfl <| kc4 55 12 54 53 rfl <| kc2 52 50 rfl <| ka 49 rfl <| kc2 48 47 rfl <| ka 46 rfl <| kc4 45 44 11 43 rfl <| kc4 10 42 41 40 rfl <| kc4 0 1 2 37 rfl <| kc2 38 39 rfl <| Kn) rfl ?_
      refine sg (OpT.take (.inl rfl) rfl (ok' rfl) (Root.self (by decide)) rfl rfl (by decide)) (ko 8 rfl <| ko 62 rfl <| ka 61 rfl <| kc4 60 59 58 56 rfl <| kc4 55 12 54 53 rfl <| kc2 52 50 rfl <| ka 49 rfl <| kc2 48 47 rfl <| ka 46 rfl <| kc4 45 44 11 43 rfl <| kc4 10 42 41 40 rfl <| kc4 0 1 2 37 rfl <| kc2 38 39 rfl <| Kn) rfl ?_
      refine nn ?_
      refine AX.normal_block ?_
      refine AX.go ?_
      refine AW.region ?_
      refine st (OpT.add (H rfl) (T1 rfl) (I rfl) (nw (by omega))) rfl ?_
      refine st (mvT rfl) rfl ?_
      refine nn ?_
      exact AX.again (z + 1) (by omega) (by omega) (Kc 0 _ (Kv rfl rfl) <| Kc 1 _ (Kv rfl rfl) <| Kc 2 _ (Kv rfl rfl) <| Kc 8 _ (Ko rfl (by first | (rw [← flat_next (f := pickC x a b) hs, pickC_card hpk (by omega) hcd hcn]; first | done | rfl) | (rw [← flat_next (f := pickC x a b) hs, pickC_gone hpk (by omega), List.append_nil]))) <| Kc 37 _ (Kv rfl rfl) <| Kc 38 _ (Kv rfl rfl) <| Kc 39 _ (Kv rfl (by omega)) <| Kn)
     ·
      obtain ⟨hc6, hc6'⟩ := pF hc6
      refine AW.skip ?_
      refine AX.normal_block ?_
      refine AX.go ?_
      refine AW.region ?_
      refine st (OpT.add (H rfl) (T1 rfl) (I rfl) (nw (by omega))) rfl ?_
      refine st (mvT rfl) rfl ?_
      refine nn ?_
      exact AX.again (z + 1) (by omega) (by omega) (Kc 0 _ (Kv rfl rfl) <| Kc 1 _ (Kv rfl rfl) <| Kc 2 _ (Kv rfl rfl) <| Kc 8 _ (Ko rfl (by first | (rw [← flat_next (f := pickC x a b) hs, pickC_card hpk (by omega) hcd hcn]; first | done | rfl) | (rw [← flat_next (f := pickC x a b) hs, pickC_gone hpk (by omega), List.append_nil]))) <| Kc 37 _ (Kv rfl rfl) <| Kc 38 _ (Kv rfl rfl) <| Kc 39 _ (Kv rfl (by omega)) <| Kn)
   ·
    obtain ⟨hc3, hc3'⟩ := pF hc3
    refine AW.exit ?_
    refine xT <| xT <| AX.exit_hit ?_
    refine AX.go ?_
    refine AW.seq ?_
    refine sr ?_
    refine st (OpT.alias (H rfl) (by decide) (by decide)) rfl ?_
    refine st (OpT.lenO (H rfl) (Root.ali rfl (by decide) (by decide)) rfl el26) rfl ?_
    refine st (OpT.gtr (H rfl) (T1 rfl) (I rfl)) rfl ?_
    refine ng ?_
    refine cd rfl (fun hc7 => ?_) fun hc7 => ?_
    ·
     obtain ⟨hc7, hc7'⟩ := pT hc7
     have hme : (((names [x, a, b]).take z).flatMap (pickC x a b)) = merged x a b := by rw [merged, List.take_of_length_le (by omega)]
     rw [hme] at hc7'
     refine sr ?_
     refine st (nilO (E := 42) kCard rfl (.inl rfl)) rfl ?_
     refine st (asI rfl) rfl ?_
     refine ng ?_
     refine AW.ret ?_
     refine rT ?_
     exact AX.rt (rs := [.tmp 6, .tmp 7]) (ts := [some 6, some 7]) (.inl rfl) rfl (ROs.cons (RO.tmp (At.self (by decide)) (Ko rfl (by first | (rw [mrg_bad hc1]; done) | (rw [mrg_con hc1 (by omega)]; done) | (rw [mrg_long hc1 (by omega) (by omega)]; done) | (rw [mrg_ok hc1 (by omega) (by omega)]; first | done | exact hme))) rfl) <| ROs.cons (RO.tmp (At.self (by decide)) (Kv rfl (by first | (rw [mrg_bad hc1]; done) | (rw [mrg_con hc1 (by omega)]; done) | (rw [mrg_long hc1 (by omega) (by omega)]; done) | (rw [mrg_ok hc1 (by omega) (by omega)]; first | done | exact hme))) rfl) <| ROs.nil) (by decide) OutsOK.nil
    ·
     obtain ⟨hc7, hc7'⟩ := pF hc7
     have hme : (((names [x, a, b]).take z).flatMap (pickC x a b)) = merged x a b := by rw [merged, List.take_of_length_le (by omega)]
     rw [hme] at hc7'
     refine AW.skip ?_
     refine AX.go ?_
     refine sr ?_
     refine st (OpT.alias (H rfl) (by decide) (by decide)) rfl ?_
     refine sg (OpT.take (.inl rfl) rfl (ok' rfl) (Root.ali rfl (by decide) (by decide)) rfl rfl (by decide)) (ko 6 rfl <| kc4 67 66 40 0 rfl <| kc4 1 2 37 38 rfl <| kc 39 rfl <| Kn) rfl ?_
     refine st (asI rfl) rfl ?_
     refine ng ?_
     refine AW.ret ?_
     exact AX.rt (rs := [.tmp 6, .tmp 7]) (ts := [some 6, some 7]) (.inl rfl) rfl (ROs.cons (RO.tmp (At.self (by decide)) (Ko rfl (by first | (rw [mrg_bad hc1]; done) | (rw [mrg_con hc1 (by omega)]; done) | (rw [mrg_long hc1 (by omega) (by omega)]; done) | (rw [mrg_ok hc1 (by omega) (by omega)]; first | done | exact hme))) rfl) <| ROs.cons (RO.tmp (At.self (by decide)) (Kv rfl (by first | (rw [mrg_bad hc1]; done) | (rw [mrg_con hc1 (by omega)]; done) | (rw [mrg_long hc1 (by omega) (by omega)]; done) | (rw [mrg_ok hc1 (by omega) (by omega)]; first | done | exact hme))) rfl) <| ROs.nil) (by decide) OutsOK.nil
theorem c_impl_MergeThree (x a b : List DCard) : AC Tryd.prog 23 [.cel (Kd.slice kCard) x, .cel (Kd.slice kCard) a, .cel (Kd.slice kCard) b] [.cel (Kd.slice kCard) (mrgS x a b).1, .cel (Kd.int .i64) (mrgS x a b).2] [] := (c_impl_MergeThree_o x a b).frz rfl

set_option maxHeartbeats 4000000 in
/-- spec.MergeThree -/
theorem c_spec_MergeThree_o (x a b : List DCard) : AC Tryd.prog 24 [.cel (Kd.slice kCard) x, .cel (Kd.slice kCard) a, .cel (Kd.slice kCard) b] [.own 42 kCard (mrgS x a b).1, .cel (Kd.int .i64) (mrgS x a b).2] [] := by
 refine acI (N := 82) Tryd.func24 (Nat.le_of_ble_eq_true rfl) rfl fun w0 hd s0 ar => ?_
 refine AW.to (kc3 0 1 2 rfl <| Kn) ?_
 refine sr ?_
 refine st (nilO (E := 42) kCard rfl (.inl rfl)) rfl ?_
 refine st (asI rfl) rfl ?_
 refine ng ?_
 refine AW.seq ?_
 refine sr ?_
 refine st (mvT rfl) rfl ?_
 refine st (OpT.c1 (ms := [.flat]) (c_spec_l02Ok _) (H rfl) (Af (T1 rfl) rfl rfl <| An) rfl rfl) rfl ?_
 refine st (OpT.not (H rfl) (T1 rfl)) rfl ?_
 refine st (mvT rfl) rfl ?_
 apply AWl.or (d := 19) (t := 15) rfl
 ·
  intro hb1 Q1 k1
  have hb1' := lF hb1
  refine rs hb1 (mvT rfl) rfl ?_
  refine rs hb1 (OpT.c1 (ms := [.flat]) (c_spec_l02Ok _) (H rfl) (Af (T1 rfl) rfl rfl <| An) rfl rfl) rfl ?_
  refine rs hb1 (OpT.not (H rfl) (T1 rfl)) rfl ?_
  refine st (OpT.pickF (A := .cel _ _) (H rfl) (T1 rfl) hb1 (T1 rfl) rfl) rfl ?_
  exact AWl.to (junk 3 rfl) k1
 ·
  intro hb1 Q1 k1
  refine ps hb1 rfl ?_
  refine ps hb1 rfl ?_
  refine ps hb1 rfl ?_
  refine st (OpT.pickT (A := .cel _ _) (H rfl) (T1 rfl) hb1 Opd.bool rfl) rfl ?_
  exact k1
 refine st (mvT rfl) rfl ?_
 apply AWl.or (d := 24) (t := 20) rfl
 ·
  intro hb2 Q1 k1
  have hb2' := lF hb2
  refine rs hb2 (mvT rfl) rfl ?_
  refine rs hb2 (OpT.c1 (ms := [.flat]) (c_spec_l02Ok _) (H rfl) (Af (T1 rfl) rfl rfl <| An) rfl rfl) rfl ?_
  refine rs hb2 (OpT.not (H rfl) (T1 rfl)) rfl ?_
  refine st (OpT.pickF (A := .cel _ _) (H rfl) (T1 rfl) hb2 (T1 rfl) rfl) rfl ?_
  exact AWl.to (junk 3 rfl) k1
 ·
  intro hb2 Q1 k1
  refine ps hb2 rfl ?_
  refine ps hb2 rfl ?_
  refine ps hb2 rfl ?_
  refine st (OpT.pickT (A := .cel _ _) (H rfl) (T1 rfl) hb2 Opd.bool rfl) rfl ?_
  exact k1
 refine ng ?_
 refine cd rfl (fun hc1 => ?_) fun hc1 => ?_
 ·
  obtain ⟨hc1, hc1'⟩ := pT hc1
  refine sr ?_
  refine st (OpT.buildSlice0 (m := 0) (z := .bool false) kCard (H rfl) el26 sz42 (by decide)) rfl ?_
  refine sg (OpT.take (.inl rfl) rfl (ok' rfl) (Root.self (by decide)) rfl rfl (by decide)) (ko 6 rfl <| kc4 24 20 19 15 rfl <| kc4 14 13 12 7 rfl <| kc3 0 1 2 rfl <| Kn) rfl ?_
  refine st (asI rfl) rfl ?_
  refine ng ?_
  refine AW.ret ?_
  refine rT ?_
  exact AX.rt (rs := [.tmp 6, .tmp 7]) (ts := [some 6, some 7]) (.inl rfl) rfl (ROs.cons (RO.tmp (At.self (by decide)) (Ko rfl (by first | (rw [mrg_bad hc1]; done) | (rw [mrg_con hc1 (by omega)]; done) | (rw [mrg_long hc1 (by omega) (by omega)]; done) | (rw [mrg_ok hc1 (by omega) (by omega)]; first | done | exact hme))) rfl) <| ROs.cons (RO.tmp (At.self (by decide)) (Kv rfl (by first | (rw [mrg_bad hc1]; done) | (rw [mrg_con hc1 (by omega)]; done) | (rw [mrg_long hc1 (by omega) (by omega)]; done) | (rw [mrg_ok hc1 (by omega) (by omega)]; first | done | exact hme))) rfl) <| ROs.nil) (by decide) OutsOK.nil
 ·
  obtain ⟨hc1, hc1'⟩ := pF hc1
  have hds := decks_three hc1
  have hcl := confl_len (base := x) (a := a) (b := b) ⟨hds.1, hds.2.1⟩
  have hdz : ([x, a, b] : List (List DCard)).length ≤ 3 ∧ ∀ v ∈ [x, a, b], deckOK v := by simp [hds]
  have hnz := names_len (ds := [x, a, b]) (fun v hv => (hdz.2 v hv).1)
  simp only [List.length_cons, List.length_nil] at hnz
  refine AW.skip ?_
  refine AX.go ?_
  refine AW.seq ?_
  refine sr ?_
  refine st (mvT rfl) rfl ?_
  refine st (mvT rfl) rfl ?_
  refine st (mvT rfl) rfl ?_
  refine st (OpT.c1 (ms := [.flat, .flat, .flat]) (c_spec_l07Conflicts _ _ _ hds.2.2.2) (H rfl) (Af (T1 rfl) rfl rfl <| Af (T1 rfl) rfl rfl <| Af (T1 rfl) rfl rfl <| An) rfl rfl) rfl ?_
  refine st (OpT.len (H rfl) (T1 rfl) el45) rfl ?_
  refine st (OpT.gtr (H rfl) (T1 rfl) (I rfl)) rfl ?_
  refine AWl.to (kc2 31 7 rfl <| ko 6 rfl <| kc3 0 1 2 rfl <| Kn) ?_
  refine ng ?_
  refine cd rfl (fun hc2 => ?_) fun hc2 => ?_
  ·
   obtain ⟨hc2, hc2'⟩ := pT hc2
   refine sr ?_
   refine st (OpT.buildSlice0 (m := 0) (z := .bool false) kCard (H rfl) el26 sz42 (by decide)) rfl ?_
   refine sg (OpT.take (.inl rfl) rfl (ok' rfl) (Root.self (by decide)) rfl rfl (by decide)) (ko 6 rfl <| kc4 31 7 0 1 rfl <| kc 2 rfl <| Kn) rfl ?_
   refine st (asI rfl) rfl ?_
   refine ng ?_
   refine AW.ret ?_
   refine rT ?_
   exact AX.rt (rs := [.tmp 6, .tmp 7]) (ts := [some 6, some 7]) (.inl rfl) rfl (ROs.cons (RO.tmp (At.self (by decide)) (Ko rfl (by first | (rw [mrg_bad hc1]; done) | (rw [mrg_con hc1 (by omega)]; done) | (rw [mrg_long hc1 (by omega) (by omega)]; done) | (rw [mrg_ok hc1 (by omega) (by omega)]; first | done | exact hme))) rfl) <| ROs.cons (RO.tmp (At.self (by decide)) (Kv rfl (by first | (rw [mrg_bad hc1]; done) | (rw [mrg_con hc1 (by omega)]; done) | (rw [mrg_long hc1 (by omega) (by omega)]; done) | (rw [mrg_ok hc1 (by omega) (by omega)]; first | done | exact hme))) rfl) <| ROs.nil) (by decide) OutsOK.nil
  ·
   obtain ⟨hc2, hc2'⟩ := pF hc2
   refine AW.skip ?_
   refine AX.go ?_
   refine sr ?_
   refine st (mvT rfl) rfl ?_
   refine st (mvT rfl) rfl ?_
   refine st (mvT rfl) rfl ?_
   refine st (OpT.frzO (OpT.buildSlice (H rfl) el106 zr26 sz26 rfl (by decide) zk26 (by decide) (Built.cel (T1 rfl) rfl rfl (sub_arr (by decide) ([] : List (ByteArray × (BitVec 64 × BitVec 64)))) (Built.cel (T1 rfl) rfl rfl (sub_arr (by decide) ([] : List (ByteArray × (BitVec 64 × BitVec 64)))) (Built.cel (T1 rfl) rfl rfl (sub_arr (by decide) ([] : List (ByteArray × (BitVec 64 × BitVec 64)))) (Built.nil _)))))) rfl ?_
   refine st (OpT.c1 (ms := [.flat]) (c_spec_l07Names [x, a, b] hdz) (H rfl) (Af (T1 rfl) rfl rfl <| An) rfl rfl) rfl ?_
   refine st (asT rfl) rfl ?_
   refine ng ?_
   refine sr ?_
   refine st (OpT.buildSlice0 (m := 0) (z := .bool false) kCard (H rfl) el26 sz42 (by decide)) rfl ?_
   refine sg (OpT.take (.inl rfl) rfl (ok' rfl) (Root.self (by decide)) rfl rfl (by decide)) (ko 9 rfl <| kc4 8 37 36 35 rfl <| kc4 34 33 31 7 rfl <| ko 6 rfl <| kc3 0 1 2 rfl <| Kn) rfl ?_
   refine ng ?_
   refine AW.seq ?_
   refine sr ?_
   refine st (asI rfl) rfl ?_
   refine ng ?_
   refine AW.block ?_
   refine AW.loop (fun z : Nat => z ≤ (names [x, a, b]).length) (fun z : Nat => keep [(0, .cel (Kd.slice kCard) x), (1, .cel (Kd.slice kCard) a), (2, .cel (Kd.slice kCard) b), (8, .cel (Kd.slice Kd.str) (names [x, a, b])), (9, .own 42 kCard (((names [x, a, b]).take z).flatMap (pickC x a b))), (10, .cel (Kd.int .i64) (z : Int))]) (fun z : Nat => (names [x, a, b]).length - z) (0) (Nat.zero_le _) (Kc 0 _ (Kv rfl rfl) <| Kc 1 _ (Kv rfl rfl) <| Kc 2 _ (Kv rfl rfl) <| Kc 8 _ (Kv rfl rfl) <| Kc 9 _ (Ko rfl rfl) <| Kc 10 _ (Kv rfl rfl) <| Kn) ?_
   intro z hI
   refine AW.seq ?_
   refine sr ?_
   refine st (mvT rfl) rfl ?_
   refine st (mvT rfl) rfl ?_
   refine st (OpT.len (H rfl) (T1 rfl) el45) rfl ?_
   refine st (OpT.lss (H rfl) (T1 rfl) (T1 rfl)) rfl ?_
   refine ng ?_
   refine cd rfl (fun hc3 => ?_) fun hc3 => ?_
   ·
    obtain ⟨hc3, hc3'⟩ := pT hc3
    obtain ⟨s, hs⟩ := getI (x := (names [x, a, b])) (z := z) (by omega)
    refine AW.skip ?_
    refine AX.go ?_
    refine AW.seq ?_
    refine AW.block ?_
    refine sr ?_
    refine st (mvT rfl) rfl ?_
    refine st (mvT rfl) rfl ?_
    refine st (mvT rfl) rfl ?_
    refine st (OpT.indexAddr (H rfl) (T1 rfl) (T1 rfl) el45 sz9 (by omega) (by assumption)) rfl ?_
    refine st (OpT.load (H rfl) (T1 rfl) ag9 rfl) rfl ?_
    refine st (OpT.c1 (ms := [.flat, .flat]) (c_spec_l07Of _ _) (H rfl) (Af (T1 rfl) rfl rfl <| Af (T1 rfl) rfl rfl <| An) rfl rfl) rfl ?_
    refine st (OpT.alloc (H rfl) zr108 zk108) rfl ?_
    refine sk (OpT.storeBA rfl rfl (Opd.whole (Root.self (t := 11) (by decide)) rfl) rfl sz108 (by decide) (T1 rfl)) rfl ?_
    refine AWl.to (kb 11 rfl <| ka 50 rfl <| kc4 49 48 47 46 rfl <| kc4 45 42 41 40 rfl <| kc4 39 0 1 2 rfl <| kc 8 rfl <| ko 9 rfl <| kc 10 rfl <| Kn) ?_
    refine ng ?_
    refine AW.seq ?_
    refine AW.seq ?_
    refine dh fomo ?_
    refine d1 [11] (fun ve h => OpT.loadB (H rfl) (Root.self (t := 11) (by decide)) ((h _ (List.elem_iff.1 rfl)).trans rfl) ag108 sz108) rfl ?_
    refine d1 [0] (fun ve h => OpT.move (A := .cel _ _) (.inl rfl) rfl (ok' rfl) (D1 h rfl) rfl) rfl ?_
    refine d1 [8] (fun ve h => OpT.move (A := .cel _ _) (.inl rfl) rfl (ok' rfl) (D1 h rfl) rfl) rfl ?_
    refine d1 [10] (fun ve h => OpT.move (A := .cel _ _) (.inl rfl) rfl (ok' rfl) (D1 h rfl) rfl) rfl ?_
    refine d1 [53, 54] (fun ve h => OpT.indexAddr (H rfl) (D1 h rfl) (D1 h rfl) el45 sz9 (by omega) (by assumption)) rfl ?_
    refine d1 [55] (fun ve h => OpT.load (H rfl) (D1 h rfl) ag9 rfl) rfl ?_
    refine d1 [52, 56] (fun ve h => OpT.c1 (ms := [.flat, .flat]) (c_spec_l07Of _ _) (H rfl) (Af (D1 h rfl) rfl rfl <| Af (D1 h rfl) rfl rfl <| An) rfl rfl) rfl ?_
    refine d1 [51, 57] (fun ve h => OpT.eqA (H rfl) (D1 h rfl) (D1 h rfl) eq108 ag108 rfl eg108) rfl ?_
    refine dn ⟨by kernel_rfl, by kernel_rfl, ?_⟩
    refine AX.go ?_
    refine cd rfl (fun hc4 => ?_) fun hc4 => ?_
    ·
     obtain ⟨hc4, hc4'⟩ := pT hc4
     have hpk := pick_same (a := a) hc4
     refine AW.region ?_
     refine st (mvT rfl) rfl ?_
     refine st (mvT rfl) rfl ?_
     refine st (mvT rfl) rfl ?_
     refine st (OpT.indexAddr (H rfl) (T1 rfl) (T1 rfl) el45 sz9 (by omega) (by assumption)) rfl ?_
     refine st (OpT.load (H rfl) (T1 rfl) ag9 rfl) rfl ?_
     refine st (OpT.c1 (ms := [.flat, .flat]) (c_spec_l07Of _ _) (H rfl) (Af (T1 rfl) rfl rfl <| Af (T1 rfl) rfl rfl <| An) rfl rfl) rfl ?_
     refine sk (OpT.storeBA rfl rfl (Opd.whole (Root.self (t := 11) (by decide)) rfl) rfl sz108 (by decide) (T1 rfl)) rfl ?_
     refine ng ?_
     refine sr ?_
     refine st (OpT.fieldAddrB (H rfl) (Root.self (t := 11) (by decide)) rfl (by decide) fd108_0 sz4 (by decide) sb108_0) rfl ?_
     refine st (OpT.loadP (H rfl) (T1 rfl) (.inl ⟨_, rfl, rfl⟩) ag4 rfl) rfl ?_
     refine AWl.to (kc 66 rfl <| Kc 65 (.pel _ _ _ _ _ _ _) rfl <| kb 11 rfl <| ka 64 rfl <| kc4 63 62 61 60 rfl <| kc2 59 58 rfl <| ka 57 rfl <| kc4 56 55 54 53 rfl <| kc 52 rfl <| ka 51 rfl <| ka 50 rfl <| kc4 49 48 47 46 rfl <| kc4 45 42 41 40 rfl <| kc4 39 0 1 2 rfl <| kc 8 rfl <| ko 9 rfl <| kc 10 rfl <| Kn) ?_
     refine ng ?_
     refine cd rfl (fun hc5 => ?_) fun hc5 => ?_
     ·
      obtain ⟨hc5, hc5'⟩ := pT hc5
      have hst := hc5
      refine dh fomo ?_
      refine d1 [] (fun ve h => OpT.alias (H rfl) (by decide) (by decide)) rfl ?_
      refine d1 [8] (fun ve h => OpT.move (A := .cel _ _) (.inl rfl) rfl (ok' rfl) (D1 h rfl) rfl) rfl ?_
      refine d1 [10] (fun ve h => OpT.move (A := .cel _ _) (.inl rfl) rfl (ok' rfl) (D1 h rfl) rfl) rfl ?_
      refine d1 [68, 69] (fun ve h => OpT.indexAddr (H rfl) (D1 h rfl) (D1 h rfl) el45 sz9 (by omega) (by assumption)) rfl ?_
      refine d1 [70] (fun ve h => OpT.load (H rfl) (D1 h rfl) ag9 rfl) rfl ?_
      refine d1 [11] (fun ve h => OpT.fieldAddrB (H rfl) (Root.self (t := 11) (by decide)) ((h _ (List.elem_iff.1 rfl)).trans rfl) (by decide) fd108_1 sz30 (by decide) sb108_1) rfl ?_
      refine d1 [11, 72] (fun ve h => OpT.loadPA (H rfl) (D1 h rfl) (.inl ⟨_, ((h _ (List.elem_iff.1 rfl)).trans rfl), rfl⟩) ag30 sz30) rfl ?_
      refine d1 [71, 73] (fun ve h => OpT.build (H rfl) pl42 zr42 zk42 (Built.cel (D1 h rfl) rfl rfl sb42_0 (Built.agg (D1 h rfl) rfl (by decide) sb42_1 (Built.nil _)))) rfl ?_
      refine d1 [74] (fun ve h => OpT.buildSlice (H rfl) el26 zr42 sz42 rfl (by decide) zk42 (by decide) (Built.agg (D1 h rfl) rfl (by decide) (sub_arr (by decide) ((.empty, (0, 0)) : ByteArray × (BitVec 64 × BitVec 64))) (Built.nil _))) rfl ?_
      refine dt (t := 9) [9, 67, 75] (fun ve h => OpT.append (H rfl) (Root.ali ((h _ (List.elem_iff.1 rfl)).trans rfl) (by decide) (by decide)) ((h _ (List.elem_iff.1 rfl)).trans rfl) (Src.own (Root.self (t := 75) (by decide)) ((h _ (List.elem_iff.1 rfl)).trans rfl)) (by decide) el26 zr42 rfl sz42 by42 (by decide) (by have h70 := flat_len (pickC_len x a b) ((names [x, a, b]).take z); rw [List.length_take] at h70; simp only [List.length_set, List.length_replicate]; omega)) rfl ?_
      refine dt (t := 76) [76] (fun ve h => OpT.take (.inl rfl) rfl (ok' rfl) (Root.self (by decide)) ((h _ (List.elem_iff.1 rfl)).trans rfl) rfl (by decide)) rfl ?_
      refine dn ⟨by kernel_rfl, by kernel_rfl, ?_⟩
      refine AX.normal_block ?_
      refine AX.go ?_
      refine AW.region ?_
      refine st (mvT rfl) rfl ?_
      refine st (OpT.add (H rfl) (T1 rfl) (I rfl) (nw (by omega))) rfl ?_
      refine st (asT rfl) rfl ?_
      refine nn ?_
      exact AX.again (z + 1) (by omega) (by omega) (Kc 0 _ (Kv rfl rfl) <| Kc 1 _ (Kv rfl rfl) <| Kc 2 _ (Kv rfl rfl) <| Kc 8 _ (Kv rfl rfl) <| Kc 9 _ (Ko rfl (by first | (rw [← flat_next (f := pickC x a b) hs, pickC_yes hpk hst]; first | done | rfl) | (rw [← flat_next (f := pickC x a b) hs, pickC_no hpk hst, List.append_nil]))) <| Kc 10 _ (Kv rfl (by omega)) <| Kn)
     ·
      obtain ⟨hc5, hc5'⟩ := pF hc5
      have hst := hc5
      refine AW.skip ?_
      refine AX.normal_block ?_
      refine AX.go ?_
      refine AW.region ?_
      refine st (mvT rfl) rfl ?_
      refine st (OpT.add (H rfl) (T1 rfl) (I rfl) (nw (by omega))) rfl ?_
      refine st (asT rfl) rfl ?_
      refine nn ?_
      exact AX.again (z + 1) (by omega) (by omega) (Kc 0 _ (Kv rfl rfl) <| Kc 1 _ (Kv rfl rfl) <| Kc 2 _ (Kv rfl rfl) <| Kc 8 _ (Kv rfl rfl) <| Kc 9 _ (Ko rfl (by first | (rw [← flat_next (f := pickC x a b) hs, pickC_yes hpk hst]; first | done | rfl) | (rw [← flat_next (f := pickC x a b) hs, pickC_no hpk hst, List.append_nil]))) <| Kc 10 _ (Kv rfl (by omega)) <| Kn)
    ·
     obtain ⟨hc4, hc4'⟩ := pF hc4
     have hpk := pick_diff (a := a) hc4
     refine AW.skip ?_
     refine AX.go ?_
     refine sr ?_
     refine st (OpT.fieldAddrB (H rfl) (Root.self (t := 11) (by decide)) rfl (by decide) fd108_0 sz4 (by decide) sb108_0) rfl ?_
     refine st (OpT.loadP (H rfl) (T1 rfl) (.inl ⟨_, rfl, rfl⟩) ag4 rfl) rfl ?_
     refine ng ?_
     refine cd rfl (fun hc6 => ?_) fun hc6 => ?_
     ·
      obtain ⟨hc6, hc6'⟩ := pT hc6
      have hst := hc6
      refine dh fomo ?_
      refine d1 [] (fun ve h => OpT.alias (H rfl) (by decide) (by decide)) rfl ?_
      refine d1 [8] (fun ve h => OpT.move (A := .cel _ _) (.inl rfl) rfl (ok' rfl) (D1 h rfl) rfl) rfl ?_
      refine d1 [10] (fun ve h => OpT.move (A := .cel _ _) (.inl rfl) rfl (ok' rfl) (D1 h rfl) rfl) rfl ?_
      refine d1 [68, 69] (fun ve h => OpT.indexAddr (H rfl) (D1 h rfl) (D1 h rfl) el45 sz9 (by omega) (by assumption)) rfl ?_
      refine d1 [70] (fun ve h => OpT.load (H rfl) (D1 h rfl) ag9 rfl) rfl ?_
      refine d1 [11] (fun ve h => OpT.fieldAddrB (H rfl) (Root.self (t := 11) (by decide)) ((h _ (List.elem_iff.1 rfl)).trans rfl) (by decide) fd108_1 sz30 (by decide) sb108_1) rfl ?_
      refine d1 [11, 72] (fun ve h => OpT.loadPA (H rfl) (D1 h rfl) (.inl ⟨_, ((h _ (List.elem_iff.1 rfl)).trans rfl), rfl⟩) ag30 sz30) rfl ?_
      refine d1 [71, 73] (fun ve h => OpT.build (H rfl) pl42 zr42 zk42 (Built.cel (D1 h rfl) rfl rfl sb42_0 (Built.agg (D1 h rfl) rfl (by decide) sb42_1 (Built.nil _)))) rfl ?_
      refine d1 [74] (fun ve h => OpT.buildSlice (H rfl) el26 zr42 sz42 rfl (by decide) zk42 (by decide) (Built.agg (D1 h rfl) rfl (by decide) (sub_arr (by decide) ((.empty, (0, 0)) : ByteArray × (BitVec 64 × BitVec 64))) (Built.nil _))) rfl ?_
      refine dt (t := 9) [9, 67, 75] (fun ve h => OpT.append (H rfl) (Root.ali ((h _ (List.elem_iff.1 rfl)).trans rfl) (by decide) (by decide)) ((h _ (List.elem_iff.1 rfl)).trans rfl) (Src.own (Root.self (t := 75) (by decide)) ((h _ (List.elem_iff.1 rfl)).trans rfl)) (by decide) el26 zr42 rfl sz42 by42 (by decide) (by have h70 := flat_len (pickC_len x a b) ((names [x, a, b]).take z); rw [List.length_take] at h70; simp only [List.length_set, List.length_replicate]; omega)) rfl ?_
      refine dt (t := 76) [76] (fun ve h => OpT.take (.inl rfl) rfl (ok' rfl) (Root.self (by decide)) ((h _ (List.elem_iff.1 rfl)).trans rfl) rfl (by decide)) rfl ?_
      refine dn ⟨by kernel_rfl, by kernel_rfl, ?_⟩
      refine AX.normal_block ?_
      refine AX.go ?_
      refine AW.region ?_
      refine st (mvT rfl) rfl ?_
      refine st (OpT.add (H rfl) (T1 rfl) (I rfl) (nw (by omega))) rfl ?_
      refine st (asT rfl) rfl ?_
      refine nn ?_
      exact AX.again (z + 1) (by omega) (by omega) (Kc 0 _ (Kv rfl rfl) <| Kc 1 _ (Kv rfl rfl) <| Kc 2 _ (Kv rfl rfl) <| Kc 8 _ (Kv rfl rfl) <| Kc 9 _ (Ko rfl (by first | (rw [← flat_next (f := pickC x a b) hs, pickC_yes hpk hst]; first | done | rfl) | (rw [← flat_next (f := pickC x a b) hs, pickC_no hpk hst, List.append_nil]))) <| Kc 10 _ (Kv rfl (by omega)) <| Kn)
     ·
      obtain ⟨hc6, hc6'⟩ := pF hc6
      have hst := hc6
      refine AW.skip ?_
      refine AX.normal_block ?_
      refine AX.go ?_
      refine AW.region ?_
      refine st (mvT rfl) rfl ?_
      refine st (OpT.add (H rfl) (T1 rfl) (I rfl) (nw (by omega))) rfl ?_
      refine st (asT rfl) rfl ?_
      refine nn ?_
      exact AX.again (z + 1) (by omega) (by omega) (Kc 0 _ (Kv rfl rfl) <| Kc 1 _ (Kv rfl rfl) <| Kc 2 _ (Kv rfl rfl) <| Kc 8 _ (Kv rfl rfl) <| Kc 9 _ (Ko rfl (by first | (rw [← flat_next (f := pickC x a b) hs, pickC_yes hpk hst]; first | done | rfl) | (rw [← flat_next (f := pickC x a b) hs, pickC_no hpk hst, List.append_nil]))) <| Kc 10 _ (Kv rfl (by omega)) <| Kn)
   ·
    obtain ⟨hc3, hc3'⟩ := pF hc3
    refine AW.exit ?_
    refine xT <| xT <| AX.exit_hit ?_
    refine AX.go ?_
    refine AW.seq ?_
    refine sr ?_
    refine st (OpT.alias (H rfl) (by decide) (by decide)) rfl ?_
    refine st (OpT.lenO (H rfl) (Root.ali rfl (by decide) (by decide)) rfl el26) rfl ?_
    refine st (OpT.gtr (H rfl) (T1 rfl) (I rfl)) rfl ?_
    refine AWl.to (kc 79 rfl <| ko 9 rfl <| Kn) ?_
    refine ng ?_
    refine cd rfl (fun hc7 => ?_) fun hc7 => ?_
    ·
     obtain ⟨hc7, hc7'⟩ := pT hc7
     have hme : (((names [x, a, b]).take z).flatMap (pickC x a b)) = merged x a b := by rw [merged, List.take_of_length_le (by omega)]
     rw [hme] at hc7'
     refine sr ?_
     refine st (OpT.buildSlice0 (m := 0) (z := .bool false) kCard (H rfl) el26 sz42 (by decide)) rfl ?_
     refine sg (OpT.take (.inl rfl) rfl (ok' rfl) (Root.self (by decide)) rfl rfl (by decide)) (ko 6 rfl <| kc 79 rfl <| ko 9 rfl <| Kn) rfl ?_
     refine st (asI rfl) rfl ?_
     refine ng ?_
     refine AW.ret ?_
     refine rT ?_
     exact AX.rt (rs := [.tmp 6, .tmp 7]) (ts := [some 6, some 7]) (.inl rfl) rfl (ROs.cons (RO.tmp (At.self (by decide)) (Ko rfl (by first | (rw [mrg_bad hc1]; done) | (rw [mrg_con hc1 (by omega)]; done) | (rw [mrg_long hc1 (by omega) (by omega)]; done) | (rw [mrg_ok hc1 (by omega) (by omega)]; first | done | exact hme))) rfl) <| ROs.cons (RO.tmp (At.self (by decide)) (Kv rfl (by first | (rw [mrg_bad hc1]; done) | (rw [mrg_con hc1 (by omega)]; done) | (rw [mrg_long hc1 (by omega) (by omega)]; done) | (rw [mrg_ok hc1 (by omega) (by omega)]; first | done | exact hme))) rfl) <| ROs.nil) (by decide) OutsOK.nil
    ·
     obtain ⟨hc7, hc7'⟩ := pF hc7
     have hme : (((names [x, a, b]).take z).flatMap (pickC x a b)) = merged x a b := by rw [merged, List.take_of_length_le (by omega)]
     rw [hme] at hc7'
     refine AW.skip ?_
     refine AX.go ?_
     refine sr ?_
     refine st (OpT.alias (H rfl) (by decide) (by decide)) rfl ?_
     refine sg (OpT.take (.inl rfl) rfl (ok' rfl) (Root.ali rfl (by decide) (by decide)) rfl rfl (by decide)) (ko 6 rfl <| kc 79 rfl <| Kn) rfl ?_
     refine st (asI rfl) rfl ?_
     refine ng ?_
     refine AW.ret ?_
     exact AX.rt (rs := [.tmp 6, .tmp 7]) (ts := [some 6, some 7]) (.inl rfl) rfl (ROs.cons (RO.tmp (At.self (by decide)) (Ko rfl (by first | (rw [mrg_bad hc1]; done) | (rw [mrg_con hc1 (by omega)]; done) | (rw [mrg_long hc1 (by omega) (by omega)]; done) | (rw [mrg_ok hc1 (by omega) (by omega)]; first | done | exact hme))) rfl) <| ROs.cons (RO.tmp (At.self (by decide)) (Kv rfl (by first | (rw [mrg_bad hc1]; done) | (rw [mrg_con hc1 (by omega)]; done) | (rw [mrg_long hc1 (by omega) (by omega)]; done) | (rw [mrg_ok hc1 (by omega) (by omega)]; first | done | exact hme))) rfl) <| ROs.nil) (by decide) OutsOK.nil
theorem c_spec_MergeThree (x a b : List DCard) : AC Tryd.prog 24 [.cel (Kd.slice kCard) x, .cel (Kd.slice kCard) a, .cel (Kd.slice kCard) b] [.cel (Kd.slice kCard) (mrgS x a b).1, .cel (Kd.int .i64) (mrgS x a b).2] [] := (c_spec_MergeThree_o x a b).frz rfl
end Go.Proofs.YtohcpnobmknglaaDoor.VL
