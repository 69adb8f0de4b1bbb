/- Proved here: what some functions of the program take and give: walks with the words of VA..VQ. Printed by program. -/
import Derived.Test.YtfnkphllkbkfaaaDoorWT
import Derived.Test.YtfnkphllkbkfaaaDoorPYT
import Derived.Test.YtfnkphllkbkfaaaDoorVLS
import Derived.Test.YtfnkphllkbkfaaaDoorLST
import Derived.Test.YtfnkphllkbkfaaaDoorWE1
import Derived.Test.YtfnkphllkbkfaaaDoorWG
import Derived.Test.YtfnkphllkbkfaaaDoorWH
import Derived.Test.YtfnkphllkbkfaaaDoorWE
set_option linter.unusedVariables false
set_option linter.unusedSimpArgs false
set_option maxRecDepth 4000
namespace Go.Proofs.YtfnkphllkbkfaaaDoor.VL
open Go
theorem c_fmt (n : Int) : AC Tryd.prog 144 [.cel (Kd.int .i64) n, .cel (Kd.int .i64) 10] [.cel Kd.str (fmtB n)] [] := AC.fmt trivial Tryd.fmtL rfl (g := 0) (by kernel_rfl) n Tryd.func144 rfl
theorem c_itoa (n : Int) : AC Tryd.prog 132 [.cel (Kd.int .i64) n] [.cel Kd.str (fmtB n)] [] := AC.itoa trivial Tryd.itoaL rfl (g := 0) (by kernel_rfl) n Tryd.func132 rfl
theorem c_join (xs : List ByteArray) (sep : ByteArray) (hn : xs.length ≤ 140737488355328) (hl : (joinB xs sep).size ≤ 140737488355328) : AC Tryd.prog 146 [.cel (Kd.slice Kd.str) xs, .cel Kd.str sep] [.cel Kd.str (joinB xs sep)] [] := AC.join Tryd.joinL Tryd.joinX rfl xs sep hn hl Tryd.func146 rfl


/-- impl.valueWord -/
theorem c_impl_valueWord (v : Int) (h : -2 ≤ v) : AC Tryd.prog 145 [.cel (Kd.int .i64) v] [.cel Kd.str (valW v)] [] := by
 refine acI (N := 10) Tryd.func145 (Nat.le_of_ble_eq_true rfl) rfl fun w0 hd s0 ar => ?_
 refine AW.to (kc 0 rfl <| Kn) ?_
 refine sr ?_
 refine st (OpT.move (A := .cel _ _) (.inr rfl) rfl (ok' rfl) (Opd.str (by decide)) rfl) rfl ?_
 refine ng ?_
 refine AW.seq ?_
 refine sr ?_
 refine st (mvT rfl) rfl ?_
 refine ng ?_
 refine AW.block ?_
 refine sr ?_
 refine st (OpT.eql (H rfl) (T1 rfl) (I rfl)) rfl ?_
 refine st (asT rfl) rfl ?_
 refine ng ?_
 refine cd rfl (fun hc1 => ?_) fun hc1 => ?_
 ·
  obtain ⟨hc1, hc1'⟩ := pT hc1
  refine sr ?_
  refine st (OpT.move (A := .cel _ _) (.inr rfl) rfl (ok' rfl) (Opd.str (by decide)) rfl) rfl ?_
  refine ng ?_
  refine AW.ret ?_
  refine rK <| rT ?_
  exact rt1 rfl (.inl rfl) (by first | (rw [valW, if_pos (by omega)]; first | done | rfl) | (rw [valW, if_neg (by omega), if_pos (by omega)]; first | done | rfl) | exact valW_fmt (by omega) (by omega) (by omega) | (rw [valW, if_neg (by omega), if_neg (by omega)]; first | done | rfl | (congr 1; omega)))
 ·
  obtain ⟨hc1, hc1'⟩ := pF hc1
  refine sr ?_
  refine st (OpT.eql (H rfl) (T1 rfl) (I rfl)) rfl ?_
  refine st (asT rfl) rfl ?_
  refine ng ?_
  refine cd rfl (fun hc2 => ?_) fun hc2 => ?_
  ·
   obtain ⟨hc2, hc2'⟩ := pT hc2
   refine sr ?_
   refine st (OpT.move (A := .cel _ _) (.inr rfl) rfl (ok' rfl) (Opd.str (by decide)) rfl) rfl ?_
   refine ng ?_
   refine AW.ret ?_
   refine rK <| rT ?_
   exact rt1 rfl (.inl rfl) (by first | (rw [valW, if_pos (by omega)]; first | done | rfl) | (rw [valW, if_neg (by omega), if_pos (by omega)]; first | done | rfl) | exact valW_fmt (by omega) (by omega) (by omega) | (rw [valW, if_neg (by omega), if_neg (by omega)]; first | done | rfl | (congr 1; omega)))
  ·
   obtain ⟨hc2, hc2'⟩ := pF hc2
   refine AW.skip ?_
   refine AX.normal_block ?_
   refine AX.go ?_
   refine sr ?_
   refine st (mvT rfl) rfl ?_
   refine st (OpT.c1 (ms := [.flat, .flat]) (c_fmt v) (H rfl) (Af (T1 rfl) rfl rfl <| Af (I rfl) rfl rfl <| An) rfl rfl) rfl ?_
   refine st (asT rfl) rfl ?_
   refine ng ?_
   refine AW.ret ?_
   exact rt1 rfl (.inl rfl) (by first | (rw [valW, if_pos (by omega)]; first | done | rfl) | (rw [valW, if_neg (by omega), if_pos (by omega)]; first | done | rfl) | exact valW_fmt (by omega) (by omega) (by omega) | (rw [valW, if_neg (by omega), if_neg (by omega)]; first | done | rfl | (congr 1; omega)))

/-- spec.l06ValueText -/
theorem c_spec_l06ValueText (v : Int) (h : -2 ≤ v) : AC Tryd.prog 138 [.cel (Kd.int .i64) v] [.cel Kd.str (valW v)] [] := by
 refine acI (N := 10) Tryd.func138 (Nat.le_of_ble_eq_true rfl) rfl fun w0 hd s0 ar => ?_
 refine AW.to (kc 0 rfl <| Kn) ?_
 refine sr ?_
 refine st (OpT.move (A := .cel _ _) (.inr rfl) rfl (ok' rfl) (Opd.str (by decide)) rfl) rfl ?_
 refine ng ?_
 refine AW.seq ?_
 refine sr ?_
 refine st (mvT rfl) rfl ?_
 refine ng ?_
 refine AW.block ?_
 refine sr ?_
 refine st (OpT.eql (H rfl) (T1 rfl) (I rfl)) rfl ?_
 refine st (asT rfl) rfl ?_
 refine ng ?_
 refine cd rfl (fun hc1 => ?_) fun hc1 => ?_
 ·
  obtain ⟨hc1, hc1'⟩ := pT hc1
  refine sr ?_
  refine st (OpT.move (A := .cel _ _) (.inr rfl) rfl (ok' rfl) (Opd.str (by decide)) rfl) rfl ?_
  refine ng ?_
  refine AW.ret ?_
  refine rK <| rT ?_
  exact rt1 rfl (.inl rfl) (by first | (rw [valW, if_pos (by omega)]; first | done | rfl) | (rw [valW, if_neg (by omega), if_pos (by omega)]; first | done | rfl) | exact valW_fmt (by omega) (by omega) (by omega) | (rw [valW, if_neg (by omega), if_neg (by omega)]; first | done | rfl | (congr 1; omega)))
 ·
  obtain ⟨hc1, hc1'⟩ := pF hc1
  refine sr ?_
  refine st (OpT.eql (H rfl) (T1 rfl) (I rfl)) rfl ?_
  refine st (asT rfl) rfl ?_
  refine ng ?_
  refine cd rfl (fun hc2 => ?_) fun hc2 => ?_
  ·
   obtain ⟨hc2, hc2'⟩ := pT hc2
   refine sr ?_
   refine st (OpT.move (A := .cel _ _) (.inr rfl) rfl (ok' rfl) (Opd.str (by decide)) rfl) rfl ?_
   refine ng ?_
   refine AW.ret ?_
   refine rK <| rT ?_
   exact rt1 rfl (.inl rfl) (by first | (rw [valW, if_pos (by omega)]; first | done | rfl) | (rw [valW, if_neg (by omega), if_pos (by omega)]; first | done | rfl) | exact valW_fmt (by omega) (by omega) (by omega) | (rw [valW, if_neg (by omega), if_neg (by omega)]; first | done | rfl | (congr 1; omega)))
  ·
   obtain ⟨hc2, hc2'⟩ := pF hc2
   refine AW.skip ?_
   refine AX.normal_block ?_
   refine AX.go ?_
   refine sr ?_
   refine st (mvT rfl) rfl ?_
   refine st (OpT.c1 (ms := [.flat]) (by rw [show v = ((v.toNat : Nat) : Int) by omega]; exact c_spec_Decimal v.toNat) (H rfl) (Af (T1 rfl) rfl rfl <| An) rfl rfl) rfl ?_
   refine st (asT rfl) rfl ?_
   refine ng ?_
   refine AW.ret ?_
   exact rt1 rfl (.inl rfl) (by first | (rw [valW, if_pos (by omega)]; first | done | rfl) | (rw [valW, if_neg (by omega), if_pos (by omega)]; first | done | rfl) | exact valW_fmt (by omega) (by omega) (by omega) | (rw [valW, if_neg (by omega), if_neg (by omega)]; first | done | rfl | (congr 1; omega)))

set_option maxHeartbeats 4000000 in
/-- impl.treeText -/
theorem c_impl_treeText (x : List DKnot) (ht : treeOK x) (hx : okKS x) : AC Tryd.prog 89 [.cel (Kd.slice kKnot) x] [.cel Kd.str (trT x)] [] := by
 refine acI (N := 67) Tryd.func89 (Nat.le_of_ble_eq_true rfl) rfl fun w0 hd s0 ar => ?_
 refine AW.to (kc 0 rfl <| Kn) ?_
 refine AW.fact (fun a w hr => fun k hk => ok_num ((ok_slice (R_ok (t := 0) rfl hr)).1 k hk)) (fun (hnum : ∀ k ∈ x, numK k) => ?_)
 refine AW.fact (fun a w hr => (ok_slice (R_ok (t := 0) rfl hr)).2) (fun hl0 => ?_)
 refine sr ?_
 refine st (OpT.move (A := .cel _ _) (.inr rfl) rfl (ok' rfl) (Opd.str (by decide)) rfl) rfl ?_
 refine ng ?_
 refine sr ?_
 refine st (OpT.move (A := .cel _ _) (.inr rfl) rfl (ok' rfl) (Opd.str (by decide)) rfl) rfl ?_
 refine ng ?_
 refine AW.seq ?_
 refine sr ?_
 refine st (mvT rfl) rfl ?_
 refine st (OpT.len (H rfl) (T1 rfl) el67) rfl ?_
 refine st (mvI rfl) rfl ?_
 refine ng ?_
 refine AW.block ?_
 refine AW.loop (fun z : Nat => z ≤ x.length) (fun z : Nat => keep [(11, .cel (Kd.slice kKnot) x), (12, .cel (Kd.int .i64) (x.length : Int)), (13, .cel (Kd.int .i64) (z : Int)), (3, .cel Kd.str ((x.take z).foldl trF .empty))]) (fun z : Nat => x.length - z) (0) (Nat.zero_le _) (Kc 11 _ (Kv rfl rfl) <| Kc 12 _ (Kv rfl rfl) <| Kc 13 _ (Kv rfl rfl) <| Kc 3 _ (Kv rfl rfl) <| Kn) ?_
 intro z hI
 refine sr ?_
 refine st (OpT.lss (H rfl) (T1 rfl) (T1 rfl)) rfl ?_
 refine ng ?_
 refine AW.seq ?_
 refine cd rfl (fun hc1 => ?_) fun hc1 => ?_
 ·
  obtain ⟨hc1, hc1'⟩ := pT hc1
  obtain ⟨k, hk⟩ := getI (x := x) (z := z) (by omega)
  have hko := (knotI_iff hk).1 (ht.2.2.1 z (by omega))
  have hok := hx.2 k (mem_getI hk)
  have hoq : k.2.1.length ≤ 1099511627776 ∧ k.2.2.1.length ≤ 1099511627776 ∧ k.2.2.2.length ≤ 1099511627776 := hok
  have hnk := hnum k (mem_getI hk)
  have hnl := knot_nlen hko
  have hkt := knT_size hok hnk
  have hkl := knW_len hok
  have htz := trT_at hx hnum ht.2.1 z (by omega)
  have hkb : -32768 ≤ k.1 ∧ k.1 ≤ 32767 := hnk.1
  have hxl := ht.2.1
  have hkj : (joinB (knW k) ⟨#[32]⟩).size ≤ 70368744177664 := (show (joinB (knW k) bsp).size ≤ _ by rw [knW_join hko]; exact hkt)
  refine AW.skip ?_
  refine AX.go ?_
  refine AW.seq ?_
  refine AW.block ?_
  refine sr ?_
  refine st (OpT.indexAddr (H rfl) (T1 rfl) (T1 rfl) el67 sz128 (by omega) (by assumption)) rfl ?_
  refine st (OpT.loadA (H rfl) (T1 rfl) ag128 sz128) rfl ?_
  refine st (OpT.alloc (H rfl) zr128 zk128) rfl ?_
  refine sk (OpT.storeBA rfl rfl (Opd.whole (Root.self (t := 5) (by decide)) rfl) rfl sz128 (by decide) (T1 rfl)) rfl ?_
  refine ng ?_
  refine sr ?_
  refine st (OpT.buildSlice (H rfl) el33 zr9 sz9 rfl (by decide) zk9 (by decide) (Built.cel (Opd.str (by decide)) rfl rfl (sub_arr (by decide) (.empty : ByteArray)) (Built.nil _))) rfl ?_
  refine sg (OpT.take (.inl rfl) rfl (ok' rfl) (Root.self (by decide)) rfl rfl (by decide)) (ko 6 rfl <| kb 5 rfl <| ka 16 rfl <| kc4 15 14 11 12 rfl <| kc2 13 3 rfl <| Kn) rfl ?_
  refine ng ?_
  refine AW.seq ?_
  refine sr ?_
  refine st (OpT.fieldAddrB (H rfl) (Root.self (t := 5) (by decide)) rfl (by decide) fd128_3 sz75 (by decide) sb128_3) rfl ?_
  refine st (OpT.loadP (H rfl) (T1 rfl) (.inl ⟨_, rfl, rfl⟩) ag75 rfl) rfl ?_
  refine st (OpT.len (H rfl) (T1 rfl) el75) rfl ?_
  refine st (mvI rfl) rfl ?_
  refine ng ?_
  refine AW.block ?_
  refine AW.loop (fun y : Nat => y ≤ k.2.2.2.length) (fun y : Nat => keep [(11, .cel (Kd.slice kKnot) x), (12, .cel (Kd.int .i64) (x.length : Int)), (13, .cel (Kd.int .i64) (z : Int)), (3, .cel Kd.str ((x.take z).foldl trF .empty)), (5, .box 128 kKnot k), (6, .own 9 Kd.str (bLeaf :: cardW (k.2.2.2.take y))), (19, .cel (Kd.slice (Kd.int .i64)) k.2.2.2), (20, .cel (Kd.int .i64) (k.2.2.2.length : Int)), (21, .cel (Kd.int .i64) (y : Int))]) (fun y : Nat => k.2.2.2.length - y) (0) (Nat.zero_le _) (Kc 11 _ (Kv rfl rfl) <| Kc 12 _ (Kv rfl rfl) <| Kc 13 _ (Kv rfl rfl) <| Kc 3 _ (Kv rfl rfl) <| Kc 5 _ (Kb rfl rfl) <| Kc 6 _ (Ko rfl rfl) <| Kc 19 _ (Kv rfl rfl) <| Kc 20 _ (Kv rfl rfl) <| Kc 21 _ (Kv rfl rfl) <| Kn) ?_
  intro y hI
  refine sr ?_
  refine st (OpT.lss (H rfl) (T1 rfl) (T1 rfl)) rfl ?_
  refine ng ?_
  refine AW.seq ?_
  refine cd rfl (fun hc2 => ?_) fun hc2 => ?_
  ·
   obtain ⟨hc2, hc2'⟩ := pT hc2
   obtain ⟨v, hv⟩ := getI (x := k.2.2.2) (z := y) (by omega)
   have hvb := knot_card hko (mem_getI hv)
   refine AW.skip ?_
   refine AX.go ?_
   refine AW.seq ?_
   refine AW.block ?_
   refine sr ?_
   refine st (OpT.indexAddr (H rfl) (T1 rfl) (T1 rfl) el75 sz2 (by omega) (by assumption)) rfl ?_
   refine st (OpT.load (H rfl) (T1 rfl) ag2 rfl) rfl ?_
   refine st (asT rfl) rfl ?_
   refine ng ?_
   refine AW.region ?_
   refine st (OpT.alias (H rfl) (by decide) (by decide)) rfl ?_
   refine st (mvT rfl) rfl ?_
   refine st (OpT.c1 (ms := [.flat, .flat]) (c_fmt _) (H rfl) (Af (T1 rfl) rfl rfl <| Af (I rfl) rfl rfl <| An) rfl rfl) rfl ?_
   refine st (OpT.buildSlice (H rfl) el33 zr9 sz9 rfl (by decide) zk9 (by decide) (Built.cel (T1 rfl) rfl rfl (sub_arr (by decide) (.empty : ByteArray)) (Built.nil _))) rfl ?_
   refine sg (OpT.append (H rfl) (Root.ali rfl (by decide) (by decide)) rfl (Src.own (Root.self (t := 28) (by decide)) rfl) (by decide) el33 zr9 rfl sz9 by9 (by decide) (by have h70 := cardW_len (k.2.2.2.take y); rw [List.length_take] at h70; simp only [List.length_append, List.length_cons, List.length_nil, List.length_set, List.length_replicate]; omega)) (ko 29 rfl <| ko 28 rfl <| kc4 27 26 8 24 rfl <| kc4 23 22 11 12 rfl <| kc2 13 3 rfl <| kb 5 rfl <| kc3 19 20 21 rfl <| Kn) rfl ?_
   refine sg (OpT.take (.inl rfl) rfl (ok' rfl) (Root.self (by decide)) rfl rfl (by decide)) (ko 6 rfl <| ko 28 rfl <| kc4 27 26 8 24 rfl <| kc4 23 22 11 12 rfl <| kc2 13 3 rfl <| kb 5 rfl <| kc3 19 20 21 rfl <| Kn) rfl ?_
   refine nn ?_
   refine AX.normal_block ?_
   refine AX.go ?_
   refine AW.region ?_
   refine st (OpT.add (H rfl) (T1 rfl) (I rfl) (nw (by omega))) rfl ?_
   refine st (mvT rfl) rfl ?_
   refine nn ?_
   exact AX.again (y + 1) (by omega) (by omega) (Kc 11 _ (Kv rfl rfl) <| Kc 12 _ (Kv rfl rfl) <| Kc 13 _ (Kv rfl rfl) <| Kc 3 _ (Kv rfl rfl) <| Kc 5 _ (Kb rfl rfl) <| Kc 6 _ (Ko rfl (by rw [fmtB_pos hvb.1]; exact congrArg (bLeaf :: ·) (cardW_next hv))) <| Kc 19 _ (Kv rfl rfl) <| Kc 20 _ (Kv rfl rfl) <| Kc 21 _ (Kv rfl (by omega)) <| Kn)
  ·
   obtain ⟨hc2, hc2'⟩ := pF hc2
   refine AW.exit ?_
   refine xT <| xT <| AX.exit_hit ?_
   refine AX.go ?_
   refine AW.seq ?_
   refine sr ?_
   refine st (OpT.fieldAddrB (H rfl) (Root.self (t := 5) (by decide)) rfl (by decide) fd128_0 sz48 (by decide) sb128_0) rfl ?_
   refine st (OpT.loadP (H rfl) (T1 rfl) (.inl ⟨_, rfl, rfl⟩) ag48 rfl) rfl ?_
   refine st (OpT.geq (H rfl) (T1 rfl) (I rfl)) rfl ?_
   refine ng ?_
   refine cd rfl (fun hc3 => ?_) fun hc3 => ?_
   ·
    obtain ⟨hc3, hc3'⟩ := pT hc3
    refine AW.region ?_
    refine st (OpT.fieldAddrB (H rfl) (Root.self (t := 5) (by decide)) rfl (by decide) fd128_0 sz48 (by decide) sb128_0) rfl ?_
    refine st (OpT.loadP (H rfl) (T1 rfl) (.inl ⟨_, rfl, rfl⟩) ag48 rfl) rfl ?_
    refine st (OpT.conv (H rfl) us48 Tryd.underlying3 (T1 rfl) (nw (by omega))) rfl ?_
    refine st (OpT.c1 (ms := [.flat]) (c_itoa _) (H rfl) (Af (T1 rfl) rfl rfl <| An) rfl rfl) rfl ?_
    refine st (OpT.buildSlice (H rfl) el33 zr9 sz9 rfl (by decide) zk9 (by decide) (Built.cel (Opd.str (by decide)) rfl rfl (sub_arr (by decide) (.empty : ByteArray)) (Built.cel (T1 rfl) rfl rfl (sub_arr (by decide) (.empty : ByteArray)) (Built.nil _)))) rfl ?_
    refine sg (OpT.take (.inl rfl) rfl (ok' rfl) (Root.self (by decide)) rfl rfl (by decide)) (ko 6 rfl <| kc3 37 36 35 rfl <| Kc 34 (.pel _ _ _ _ _ _ _) rfl <| kc2 33 32 rfl <| Kc 31 (.pel _ _ _ _ _ _ _) rfl <| kc4 22 11 12 13 rfl <| kc 3 rfl <| kb 5 rfl <| kc3 19 20 21 rfl <| Kn) rfl ?_
    refine ng ?_
    refine AW.seq ?_
    refine sr ?_
    refine st (OpT.fieldAddrB (H rfl) (Root.self (t := 5) (by decide)) rfl (by decide) fd128_1 sz75 (by decide) sb128_1) rfl ?_
    refine st (OpT.loadP (H rfl) (T1 rfl) (.inl ⟨_, rfl, rfl⟩) ag75 rfl) rfl ?_
    refine st (OpT.len (H rfl) (T1 rfl) el75) rfl ?_
    refine st (mvI rfl) rfl ?_
    refine ng ?_
    refine AW.block ?_
    refine AW.loop (fun u : Nat => u ≤ k.2.1.length) (fun u : Nat => keep [(11, .cel (Kd.slice kKnot) x), (12, .cel (Kd.int .i64) (x.length : Int)), (13, .cel (Kd.int .i64) (z : Int)), (3, .cel Kd.str ((x.take z).foldl trF .empty)), (5, .box 128 kKnot k), (6, .own 9 Kd.str (knW0 k ++ nextW (k.2.1.take u) (k.2.2.1.take u))), (40, .cel (Kd.slice (Kd.int .i64)) k.2.1), (41, .cel (Kd.int .i64) (k.2.1.length : Int)), (42, .cel (Kd.int .i64) (u : Int))]) (fun u : Nat => k.2.1.length - u) (0) (Nat.zero_le _) (Kc 11 _ (Kv rfl rfl) <| Kc 12 _ (Kv rfl rfl) <| Kc 13 _ (Kv rfl rfl) <| Kc 3 _ (Kv rfl rfl) <| Kc 5 _ (Kb rfl rfl) <| Kc 6 _ (Ko rfl (by rw [List.take_zero, knW0]; first | (rw [if_pos (by omega), fmtB_pos (by omega)]; rfl) | (rw [if_neg (by omega), List.take_of_length_le (by omega)]; exact (List.append_nil _).symm))) <| Kc 40 _ (Kv rfl rfl) <| Kc 41 _ (Kv rfl rfl) <| Kc 42 _ (Kv rfl rfl) <| Kn) ?_
    intro u hI
    refine sr ?_
    refine st (OpT.lss (H rfl) (T1 rfl) (T1 rfl)) rfl ?_
    refine ng ?_
    refine AW.seq ?_
    refine cd rfl (fun hc4 => ?_) fun hc4 => ?_
    ·
     obtain ⟨hc4, hc4'⟩ := pT hc4
     obtain ⟨v, hv⟩ := getI (x := k.2.1) (z := u) (by omega)
     obtain ⟨n, hn⟩ := getI (x := k.2.2.1) (z := u) (by omega)
     have hnb := knot_next hko hn
     refine AW.skip ?_
     refine AX.go ?_
     refine AW.seq ?_
     refine AW.block ?_
     refine sr ?_
     refine st (mvT rfl) rfl ?_
     refine st (OpT.indexAddr (H rfl) (T1 rfl) (T1 rfl) el75 sz2 (by omega) (by assumption)) rfl ?_
     refine st (OpT.load (H rfl) (T1 rfl) ag2 rfl) rfl ?_
     refine st (asT rfl) rfl ?_
     refine st (asT rfl) rfl ?_
     refine ng ?_
     refine dh fomo ?_
     refine d1 [] (fun ve h => OpT.alias (H rfl) (by decide) (by decide)) rfl ?_
     refine d1 [10] (fun ve h => OpT.move (A := .cel _ _) (.inl rfl) rfl (ok' rfl) (D1 h rfl) rfl) rfl ?_
     refine d1 [48] (fun ve h => OpT.c1 (ms := [.flat]) (c_impl_valueWord _ (knot_val hko (mem_getI hv))) (H rfl) (Af (D1 h rfl) rfl rfl <| An) rfl rfl) rfl ?_
     refine d1 [5] (fun ve h => OpT.fieldAddrB (H rfl) (Root.self (t := 5) (by decide)) ((h _ (List.elem_iff.1 rfl)).trans rfl) (by decide) fd128_2 sz124 (by decide) sb128_2) rfl ?_
     refine d1 [5, 50] (fun ve h => OpT.loadP (H rfl) (D1 h rfl) (.inl ⟨_, ((h _ (List.elem_iff.1 rfl)).trans rfl), rfl⟩) ag124 rfl) rfl ?_
     refine d1 [9] (fun ve h => OpT.move (A := .cel _ _) (.inl rfl) rfl (ok' rfl) (D1 h rfl) rfl) rfl ?_
     refine d1 [51, 52] (fun ve h => OpT.indexAddr (H rfl) (D1 h rfl) (D1 h rfl) el124 sz48 (by omega) (by assumption)) rfl ?_
     refine d1 [53] (fun ve h => OpT.load (H rfl) (D1 h rfl) ag48 rfl) rfl ?_
     refine d1 [54] (fun ve h => OpT.conv (H rfl) us48 Tryd.underlying3 (D1 h rfl) (nw (by omega))) rfl ?_
     refine d1 [55] (fun ve h => OpT.c1 (ms := [.flat]) (c_itoa _) (H rfl) (Af (D1 h rfl) rfl rfl <| An) rfl rfl) rfl ?_
     refine d1 [49, 56] (fun ve h => OpT.buildSlice (H rfl) el33 zr9 sz9 rfl (by decide) zk9 (by decide) (Built.cel (D1 h rfl) rfl rfl (sub_arr (by decide) (.empty : ByteArray)) (Built.cel (D1 h rfl) rfl rfl (sub_arr (by decide) (.empty : ByteArray)) (Built.nil _)))) rfl ?_
     refine dt (t := 6) [6, 47, 57] (fun ve h => OpT.append (H rfl) (Root.ali ((h _ (List.elem_iff.1 rfl)).trans rfl) (by decide) (by decide)) ((h _ (List.elem_iff.1 rfl)).trans rfl) (Src.own (Root.self (t := 57) (by decide)) ((h _ (List.elem_iff.1 rfl)).trans rfl)) (by decide) el33 zr9 rfl sz9 by9 (by decide) (by have h71 := nextW_len (k.2.1.take u) (k.2.2.1.take u); have h72 := knW0_len k; rw [List.length_take] at h71; simp only [List.length_append, List.length_cons, List.length_nil, List.length_set, List.length_replicate]; omega)) rfl ?_
     refine dt (t := 58) [58] (fun ve h => OpT.take (.inl rfl) rfl (ok' rfl) (Root.self (by decide)) ((h _ (List.elem_iff.1 rfl)).trans rfl) rfl (by decide)) rfl ?_
     refine dn ⟨by kernel_rfl, by kernel_rfl, ?_⟩
     refine AX.normal_block ?_
     refine AX.go ?_
     refine AW.region ?_
     refine st (OpT.add (H rfl) (T1 rfl) (I rfl) (nw (by omega))) rfl ?_
     refine st (mvT rfl) rfl ?_
     refine nn ?_
     exact AX.again (u + 1) (by omega) (by omega) (Kc 11 _ (Kv rfl rfl) <| Kc 12 _ (Kv rfl rfl) <| Kc 13 _ (Kv rfl rfl) <| Kc 3 _ (Kv rfl rfl) <| Kc 5 _ (Kb rfl rfl) <| Kc 6 _ (Ko rfl (by rw [fmtB_pos (by omega), List.append_assoc]; exact congrArg (knW0 k ++ ·) (zip_next hv hn))) <| Kc 40 _ (Kv rfl rfl) <| Kc 41 _ (Kv rfl rfl) <| Kc 42 _ (Kv rfl (by omega)) <| Kn)
    ·
     obtain ⟨hc4, hc4'⟩ := pF hc4
     refine AW.exit ?_
     refine xT <| xT <| AX.exit_hit ?_
     refine AX.go ?_
     refine AW.region ?_
     refine st (mvT rfl) rfl ?_
     refine st (OpT.alias (H rfl) (by decide) (by decide)) rfl ?_
     refine st (cb1 (ms := [.bor 6, .flat]) (c_join _ _ (by rw [knW0_all (by omega) hnl]; omega) (by rw [knW0_all (by omega) hnl]; omega)) (H rfl) (Ab (Root.ali rfl (by decide) (by decide)) rfl <| Af (Opd.str (by decide)) rfl rfl <| An) rfl (indC fun _ _ _ _ h => h)) rfl ?_
     refine st (OpT.sadd (H rfl) (T1 rfl) (Opd.str (by decide)) (by have h9 : bnl.size = 1 := rfl; rw [knW0_all (by omega) hnl]; simp only [ByteArray.size_append, bsz, List.size_toArray, List.length_cons, List.length_nil]; omega)) rfl ?_
     refine st (OpT.sadd (H rfl) (T1 rfl) (T1 rfl) (by have h9 : bnl.size = 1 := rfl; rw [knW0_all (by omega) hnl]; simp only [ByteArray.size_append, bsz, List.size_toArray, List.length_cons, List.length_nil]; omega)) rfl ?_
     refine st (asT rfl) rfl ?_
     refine nn ?_
     refine AX.normal_block ?_
     refine AX.go ?_
     refine AW.region ?_
     refine st (OpT.add (H rfl) (T1 rfl) (I rfl) (nw (by omega))) rfl ?_
     refine st (mvT rfl) rfl ?_
     refine nn ?_
     exact AX.again (z + 1) (by omega) (by omega) (Kc 11 _ (Kv rfl rfl) <| Kc 12 _ (Kv rfl rfl) <| Kc 13 _ (Kv rfl (by omega)) <| Kc 3 _ (Kv rfl (by rw [← foldl_more (f := trF) hk, knW0_all (by omega) hnl]; exact trF_impl hko _)) <| Kn)
   ·
    obtain ⟨hc3, hc3'⟩ := pF hc3
    refine AW.skip ?_
    refine AX.go ?_
    refine AW.seq ?_
    refine sr ?_
    refine st (OpT.fieldAddrB (H rfl) (Root.self (t := 5) (by decide)) rfl (by decide) fd128_1 sz75 (by decide) sb128_1) rfl ?_
    refine st (OpT.loadP (H rfl) (T1 rfl) (.inl ⟨_, rfl, rfl⟩) ag75 rfl) rfl ?_
    refine st (OpT.len (H rfl) (T1 rfl) el75) rfl ?_
    refine st (mvI rfl) rfl ?_
    refine ng ?_
    refine AW.block ?_
    refine AW.loop (fun u : Nat => u ≤ k.2.1.length) (fun u : Nat => keep [(11, .cel (Kd.slice kKnot) x), (12, .cel (Kd.int .i64) (x.length : Int)), (13, .cel (Kd.int .i64) (z : Int)), (3, .cel Kd.str ((x.take z).foldl trF .empty)), (5, .box 128 kKnot k), (6, .own 9 Kd.str (knW0 k ++ nextW (k.2.1.take u) (k.2.2.1.take u))), (40, .cel (Kd.slice (Kd.int .i64)) k.2.1), (41, .cel (Kd.int .i64) (k.2.1.length : Int)), (42, .cel (Kd.int .i64) (u : Int))]) (fun u : Nat => k.2.1.length - u) (0) (Nat.zero_le _) (Kc 11 _ (Kv rfl rfl) <| Kc 12 _ (Kv rfl rfl) <| Kc 13 _ (Kv rfl rfl) <| Kc 3 _ (Kv rfl rfl) <| Kc 5 _ (Kb rfl rfl) <| Kc 6 _ (Ko rfl (by rw [List.take_zero, knW0]; first | (rw [if_pos (by omega), fmtB_pos (by omega)]; rfl) | (rw [if_neg (by omega), List.take_of_length_le (by omega)]; exact (List.append_nil _).symm))) <| Kc 40 _ (Kv rfl rfl) <| Kc 41 _ (Kv rfl rfl) <| Kc 42 _ (Kv rfl rfl) <| Kn) ?_
    intro u hI
    refine sr ?_
    refine st (OpT.lss (H rfl) (T1 rfl) (T1 rfl)) rfl ?_
    refine ng ?_
    refine AW.seq ?_
    refine cd rfl (fun hc5 => ?_) fun hc5 => ?_
    ·
     obtain ⟨hc5, hc5'⟩ := pT hc5
     obtain ⟨v, hv⟩ := getI (x := k.2.1) (z := u) (by omega)
     obtain ⟨n, hn⟩ := getI (x := k.2.2.1) (z := u) (by omega)
     have hnb := knot_next hko hn
     refine AW.skip ?_
     refine AX.go ?_
     refine AW.seq ?_
     refine AW.block ?_
     refine sr ?_
     refine st (mvT rfl) rfl ?_
     refine st (OpT.indexAddr (H rfl) (T1 rfl) (T1 rfl) el75 sz2 (by omega) (by assumption)) rfl ?_
     refine st (OpT.load (H rfl) (T1 rfl) ag2 rfl) rfl ?_
     refine st (asT rfl) rfl ?_
     refine st (asT rfl) rfl ?_
     refine ng ?_
     refine dh fomo ?_
     refine d1 [] (fun ve h => OpT.alias (H rfl) (by decide) (by decide)) rfl ?_
     refine d1 [10] (fun ve h => OpT.move (A := .cel _ _) (.inl rfl) rfl (ok' rfl) (D1 h rfl) rfl) rfl ?_
     refine d1 [48] (fun ve h => OpT.c1 (ms := [.flat]) (c_impl_valueWord _ (knot_val hko (mem_getI hv))) (H rfl) (Af (D1 h rfl) rfl rfl <| An) rfl rfl) rfl ?_
     refine d1 [5] (fun ve h => OpT.fieldAddrB (H rfl) (Root.self (t := 5) (by decide)) ((h _ (List.elem_iff.1 rfl)).trans rfl) (by decide) fd128_2 sz124 (by decide) sb128_2) rfl ?_
     refine d1 [5, 50] (fun ve h => OpT.loadP (H rfl) (D1 h rfl) (.inl ⟨_, ((h _ (List.elem_iff.1 rfl)).trans rfl), rfl⟩) ag124 rfl) rfl ?_
     refine d1 [9] (fun ve h => OpT.move (A := .cel _ _) (.inl rfl) rfl (ok' rfl) (D1 h rfl) rfl) rfl ?_
     refine d1 [51, 52] (fun ve h => OpT.indexAddr (H rfl) (D1 h rfl) (D1 h rfl) el124 sz48 (by omega) (by assumption)) rfl ?_
     refine d1 [53] (fun ve h => OpT.load (H rfl) (D1 h rfl) ag48 rfl) rfl ?_
     refine d1 [54] (fun ve h => OpT.conv (H rfl) us48 Tryd.underlying3 (D1 h rfl) (nw (by omega))) rfl ?_
     refine d1 [55] (fun ve h => OpT.c1 (ms := [.flat]) (c_itoa _) (H rfl) (Af (D1 h rfl) rfl rfl <| An) rfl rfl) rfl ?_
     refine d1 [49, 56] (fun ve h => OpT.buildSlice (H rfl) el33 zr9 sz9 rfl (by decide) zk9 (by decide) (Built.cel (D1 h rfl) rfl rfl (sub_arr (by decide) (.empty : ByteArray)) (Built.cel (D1 h rfl) rfl rfl (sub_arr (by decide) (.empty : ByteArray)) (Built.nil _)))) rfl ?_
     refine dt (t := 6) [6, 47, 57] (fun ve h => OpT.append (H rfl) (Root.ali ((h _ (List.elem_iff.1 rfl)).trans rfl) (by decide) (by decide)) ((h _ (List.elem_iff.1 rfl)).trans rfl) (Src.own (Root.self (t := 57) (by decide)) ((h _ (List.elem_iff.1 rfl)).trans rfl)) (by decide) el33 zr9 rfl sz9 by9 (by decide) (by have h71 := nextW_len (k.2.1.take u) (k.2.2.1.take u); have h72 := knW0_len k; rw [List.length_take] at h71; simp only [List.length_append, List.length_cons, List.length_nil, List.length_set, List.length_replicate]; omega)) rfl ?_
     refine dt (t := 58) [58] (fun ve h => OpT.take (.inl rfl) rfl (ok' rfl) (Root.self (by decide)) ((h _ (List.elem_iff.1 rfl)).trans rfl) rfl (by decide)) rfl ?_
     refine dn ⟨by kernel_rfl, by kernel_rfl, ?_⟩
     refine AX.normal_block ?_
     refine AX.go ?_
     refine AW.region ?_
     refine st (OpT.add (H rfl) (T1 rfl) (I rfl) (nw (by omega))) rfl ?_
     refine st (mvT rfl) rfl ?_
     refine nn ?_
     exact AX.again (u + 1) (by omega) (by omega) (Kc 11 _ (Kv rfl rfl) <| Kc 12 _ (Kv rfl rfl) <| Kc 13 _ (Kv rfl rfl) <| Kc 3 _ (Kv rfl rfl) <| Kc 5 _ (Kb rfl rfl) <| Kc 6 _ (Ko rfl (by rw [fmtB_pos (by omega), List.append_assoc]; exact congrArg (knW0 k ++ ·) (zip_next hv hn))) <| Kc 40 _ (Kv rfl rfl) <| Kc 41 _ (Kv rfl rfl) <| Kc 42 _ (Kv rfl (by omega)) <| Kn)
    ·
     obtain ⟨hc5, hc5'⟩ := pF hc5
     refine AW.exit ?_
     refine xT <| xT <| AX.exit_hit ?_
     refine AX.go ?_
     refine AW.region ?_
     refine st (mvT rfl) rfl ?_
     refine st (OpT.alias (H rfl) (by decide) (by decide)) rfl ?_
     refine st (cb1 (ms := [.bor 6, .flat]) (c_join _ _ (by rw [knW0_all (by omega) hnl]; omega) (by rw [knW0_all (by omega) hnl]; omega)) (H rfl) (Ab (Root.ali rfl (by decide) (by decide)) rfl <| Af (Opd.str (by decide)) rfl rfl <| An) rfl (indC fun _ _ _ _ h => h)) rfl ?_
     refine st (OpT.sadd (H rfl) (T1 rfl) (Opd.str (by decide)) (by have h9 : bnl.size = 1 := rfl; rw [knW0_all (by omega) hnl]; simp only [ByteArray.size_append, bsz, List.size_toArray, List.length_cons, List.length_nil]; omega)) rfl ?_
     refine st (OpT.sadd (H rfl) (T1 rfl) (T1 rfl) (by have h9 : bnl.size = 1 := rfl; rw [knW0_all (by omega) hnl]; simp only [ByteArray.size_append, bsz, List.size_toArray, List.length_cons, List.length_nil]; omega)) rfl ?_
     refine st (asT rfl) rfl ?_
     refine nn ?_
     refine AX.normal_block ?_
     refine AX.go ?_
     refine AW.region ?_
     refine st (OpT.add (H rfl) (T1 rfl) (I rfl) (nw (by omega))) rfl ?_
     refine st (mvT rfl) rfl ?_
     refine nn ?_
     exact AX.again (z + 1) (by omega) (by omega) (Kc 11 _ (Kv rfl rfl) <| Kc 12 _ (Kv rfl rfl) <| Kc 13 _ (Kv rfl (by omega)) <| Kc 3 _ (Kv rfl (by rw [← foldl_more (f := trF) hk, knW0_all (by omega) hnl]; exact trF_impl hko _)) <| Kn)
 ·
  obtain ⟨hc1, hc1'⟩ := pF hc1
  refine AW.exit ?_
  refine xT <| xT <| AX.exit_hit ?_
  refine AX.go ?_
  refine sr ?_
  refine st (mvT rfl) rfl ?_
  refine st (asT rfl) rfl ?_
  refine ng ?_
  refine AW.ret ?_
  exact rt1 rfl (.inl rfl) (by rw [trT, List.take_of_length_le (by omega)])

set_option maxHeartbeats 4000000 in
/-- spec.l06Text -/
theorem c_spec_l06Text (x : List DKnot) (ht : treeOK x) (hx : okKS x) : AC Tryd.prog 86 [.cel (Kd.slice kKnot) x] [.cel Kd.str (trT x)] [] := by
 refine acI (N := 87) Tryd.func86 (Nat.le_of_ble_eq_true rfl) rfl fun w0 hd s0 ar => ?_
 refine AW.to (kc 0 rfl <| Kn) ?_
 refine AW.fact (fun a w hr => fun k hk => ok_num ((ok_slice (R_ok (t := 0) rfl hr)).1 k hk)) (fun (hnum : ∀ k ∈ x, numK k) => ?_)
 refine AW.fact (fun a w hr => (ok_slice (R_ok (t := 0) rfl hr)).2) (fun hl0 => ?_)
 refine sr ?_
 refine st (OpT.move (A := .cel _ _) (.inr rfl) rfl (ok' rfl) (Opd.str (by decide)) rfl) rfl ?_
 refine ng ?_
 refine sr ?_
 refine st (OpT.move (A := .cel _ _) (.inr rfl) rfl (ok' rfl) (Opd.str (by decide)) rfl) rfl ?_
 refine ng ?_
 refine AW.seq ?_
 refine sr ?_
 refine st (asI rfl) rfl ?_
 refine ng ?_
 refine AW.block ?_
 refine AW.loop (fun z : Nat => z ≤ x.length) (fun z : Nat => keep [(0, .cel (Kd.slice kKnot) x), (4, .cel (Kd.int .i64) (z : Int)), (3, .cel Kd.str ((x.take z).foldl trF .empty))]) (fun z : Nat => x.length - z) (0) (Nat.zero_le _) (Kc 0 _ (Kv rfl rfl) <| Kc 4 _ (Kv rfl rfl) <| Kc 3 _ (Kv rfl rfl) <| Kn) ?_
 intro z hI
 refine AW.seq ?_
 refine sr ?_
 refine st (mvT rfl) rfl ?_
 refine st (mvT rfl) rfl ?_
 refine st (OpT.len (H rfl) (T1 rfl) el67) rfl ?_
 refine st (OpT.lss (H rfl) (T1 rfl) (T1 rfl)) rfl ?_
 refine ng ?_
 refine cd rfl (fun hc1 => ?_) fun hc1 => ?_
 ·
  obtain ⟨hc1, hc1'⟩ := pT hc1
  obtain ⟨k, hk⟩ := getI (x := x) (z := z) (by omega)
  have hko := (knotI_iff hk).1 (ht.2.2.1 z (by omega))
  have hok := hx.2 k (mem_getI hk)
  have hoq : k.2.1.length ≤ 1099511627776 ∧ k.2.2.1.length ≤ 1099511627776 ∧ k.2.2.2.length ≤ 1099511627776 := hok
  have hnk := hnum k (mem_getI hk)
  have hnl := knot_nlen hko
  have hkt := knT_size hok hnk
  have hkl := knW_len hok
  have htz := trT_at hx hnum ht.2.1 z (by omega)
  have hkb : -32768 ≤ k.1 ∧ k.1 ≤ 32767 := hnk.1
  have hxl := ht.2.1
  have hkj : (joinB (knW k) ⟨#[32]⟩).size ≤ 70368744177664 := (show (joinB (knW k) bsp).size ≤ _ by rw [knW_join hko]; exact hkt)
  refine AW.skip ?_
  refine AX.go ?_
  refine AW.seq ?_
  refine AW.block ?_
  refine sr ?_
  refine st (mvT rfl) rfl ?_
  refine st (mvT rfl) rfl ?_
  refine st (OpT.indexAddr (H rfl) (T1 rfl) (T1 rfl) el67 sz128 (by omega) (by assumption)) rfl ?_
  refine st (asT rfl) rfl ?_
  refine ng ?_
  refine AW.seq ?_
  refine sr ?_
  refine st (mvT rfl) rfl ?_
  refine st (OpT.nilCheck (H rfl) (T1 rfl)) rfl ?_
  refine st (OpT.fieldAddr (H rfl) (T1 rfl) fd128_0 sz48 (by decide) sb128_0) rfl ?_
  refine st (OpT.load (H rfl) (T1 rfl) ag48 rfl) rfl ?_
  refine st (OpT.lss (H rfl) (T1 rfl) (I rfl)) rfl ?_
  refine ng ?_
  refine cd rfl (fun hc2 => ?_) fun hc2 => ?_
  ·
   obtain ⟨hc2, hc2'⟩ := pT hc2
   have hsl1 := cardT_size (c := k.2.2.2) (t := ((x.take z).foldl trF .empty) ++ bLeaf) hnk.2.2.2 hok.2.2
   have hob : (((x.take z).foldl trF .empty) ++ bLeaf).size = ((x.take z).foldl trF .empty).size + 4 := ByteArray.size_append
   refine sr ?_
   refine st (mvT rfl) rfl ?_
   refine st (OpT.sadd (H rfl) (T1 rfl) (Opd.str (by decide)) (by have h9 : bnl.size = 1 := rfl; have h8 : bsp.size = 1 := rfl; have h7 : bLeaf.size = 4 := rfl; simp only [ByteArray.size_append, bsz, List.size_toArray, List.length_cons, List.length_nil]; omega)) rfl ?_
   refine st (asT rfl) rfl ?_
   refine ng ?_
   refine sr ?_
   refine st (asI rfl) rfl ?_
   refine ng ?_
   refine AW.block ?_
   refine AW.loop (fun y : Nat => y ≤ k.2.2.2.length) (fun y : Nat => keep [(0, .cel (Kd.slice kKnot) x), (4, .cel (Kd.int .i64) (z : Int)), (5, .cel (Kd.ptr kKnot) k), (3, .cel Kd.str ((cardW (k.2.2.2.take y)).foldl addW (((x.take z).foldl trF .empty) ++ bLeaf))), (6, .cel (Kd.int .i64) (y : Int))]) (fun y : Nat => k.2.2.2.length - y) (0) (Nat.zero_le _) (Kc 0 _ (Kv rfl rfl) <| Kc 4 _ (Kv rfl rfl) <| Kc 5 _ (Kv rfl rfl) <| Kc 3 _ (Kv rfl rfl) <| Kc 6 _ (Kv rfl rfl) <| Kn) ?_
   intro y hI
   refine AW.seq ?_
   refine sr ?_
   refine st (mvT rfl) rfl ?_
   refine st (mvT rfl) rfl ?_
   refine st (OpT.nilCheck (H rfl) (T1 rfl)) rfl ?_
   refine st (OpT.fieldAddr (H rfl) (T1 rfl) fd128_3 sz75 (by decide) sb128_3) rfl ?_
   refine st (OpT.load (H rfl) (T1 rfl) ag75 rfl) rfl ?_
   refine st (OpT.len (H rfl) (T1 rfl) el75) rfl ?_
   refine st (OpT.lss (H rfl) (T1 rfl) (T1 rfl)) rfl ?_
   refine ng ?_
   refine cd rfl (fun hc3 => ?_) fun hc3 => ?_
   ·
    obtain ⟨hc3, hc3'⟩ := pT hc3
    obtain ⟨v, hv⟩ := getI (x := k.2.2.2) (z := y) (by omega)
    have hvb := knot_card hko (mem_getI hv)
    have hvd := decB_19 (n := v.toNat) (by omega)
    have hsy := hsl1 y
    refine AW.skip ?_
    refine AX.go ?_
    refine AW.seq ?_
    refine AW.block ?_
    refine AW.region ?_
    refine st (mvT rfl) rfl ?_
    refine st (mvT rfl) rfl ?_
    refine st (OpT.nilCheck (H rfl) (T1 rfl)) rfl ?_
    refine st (OpT.fieldAddr (H rfl) (T1 rfl) fd128_3 sz75 (by decide) sb128_3) rfl ?_
    refine st (OpT.load (H rfl) (T1 rfl) ag75 rfl) rfl ?_
    refine st (mvT rfl) rfl ?_
    refine st (OpT.indexAddr (H rfl) (T1 rfl) (T1 rfl) el75 sz2 (by omega) (by assumption)) rfl ?_
    refine st (OpT.load (H rfl) (T1 rfl) ag2 rfl) rfl ?_
    refine st (OpT.c1 (ms := [.flat]) (by rw [show v = ((v.toNat : Nat) : Int) by omega]; exact c_spec_Decimal v.toNat) (H rfl) (Af (T1 rfl) rfl rfl <| An) rfl rfl) rfl ?_
    refine st (OpT.sadd (H rfl) (Opd.str (by decide)) (T1 rfl) (by have h9 : bnl.size = 1 := rfl; have h8 : bsp.size = 1 := rfl; have h7 : bLeaf.size = 4 := rfl; simp only [ByteArray.size_append, bsz, List.size_toArray, List.length_cons, List.length_nil]; omega)) rfl ?_
    refine st (OpT.sadd (H rfl) (T1 rfl) (T1 rfl) (by have h9 : bnl.size = 1 := rfl; have h8 : bsp.size = 1 := rfl; have h7 : bLeaf.size = 4 := rfl; simp only [ByteArray.size_append, bsz, List.size_toArray, List.length_cons, List.length_nil]; omega)) rfl ?_
    refine st (asT rfl) rfl ?_
    refine nn ?_
    refine AX.normal_block ?_
    refine AX.go ?_
    refine AW.region ?_
    refine st (mvT rfl) rfl ?_
    refine st (OpT.add (H rfl) (T1 rfl) (I rfl) (nw (by omega))) rfl ?_
    refine st (asT rfl) rfl ?_
    refine nn ?_
    exact AX.again (y + 1) (by omega) (by omega) (Kc 0 _ (Kv rfl rfl) <| Kc 4 _ (Kv rfl rfl) <| Kc 5 _ (Kv rfl rfl) <| Kc 3 _ (Kv rfl (cardT_next hv)) <| Kc 6 _ (Kv rfl (by omega)) <| Kn)
   ·
    obtain ⟨hc3, hc3'⟩ := pF hc3
    have hsy := hsl1 y
    refine AW.exit ?_
    refine xT <| xT <| AX.exit_hit ?_
    refine AX.go ?_
    refine AW.region ?_
    refine st (mvT rfl) rfl ?_
    refine st (OpT.sadd (H rfl) (T1 rfl) (Opd.str (by decide)) (by have h9 : bnl.size = 1 := rfl; have h8 : bsp.size = 1 := rfl; have h7 : bLeaf.size = 4 := rfl; simp only [ByteArray.size_append, bsz, List.size_toArray, List.length_cons, List.length_nil]; omega)) rfl ?_
    refine st (asT rfl) rfl ?_
    refine nn ?_
    refine AX.normal_block ?_
    refine AX.go ?_
    refine AW.region ?_
    refine st (mvT rfl) rfl ?_
    refine st (OpT.add (H rfl) (T1 rfl) (I rfl) (nw (by omega))) rfl ?_
    refine st (asT rfl) rfl ?_
    refine nn ?_
    exact AX.again (z + 1) (by omega) (by omega) (Kc 0 _ (Kv rfl rfl) <| Kc 4 _ (Kv rfl (by omega)) <| Kc 3 _ (Kv rfl (by rw [← foldl_more (f := trF) hk]; first | exact trF_leaf (by omega) (by omega) _ | exact trF_ask (by omega) (by omega) hnl _)) <| Kn)
  ·
   obtain ⟨hc2, hc2'⟩ := pF hc2
   have hkd := decB_19 (n := k.1.toNat) (by have := hnk.1; omega)
   have hsl2 := nextT_size (vs := k.2.1) (ns := k.2.2.1) (t := ((x.take z).foldl trF .empty) ++ addW bAsk (decB k.1.toNat)) hnk.2.1 hnk.2.2.1 hok.1
   have hob : (((x.take z).foldl trF .empty) ++ addW bAsk (decB k.1.toNat)).size = ((x.take z).foldl trF .empty).size + (3 + (1 + (decB k.1.toNat).size)) := (by rw [ByteArray.size_append, addW, ByteArray.size_append, ByteArray.size_append]; rfl)
   refine sr ?_
   refine st (mvT rfl) rfl ?_
   refine st (mvT rfl) rfl ?_
   refine st (OpT.nilCheck (H rfl) (T1 rfl)) rfl ?_
   refine st (OpT.fieldAddr (H rfl) (T1 rfl) fd128_0 sz48 (by decide) sb128_0) rfl ?_
   refine st (OpT.load (H rfl) (T1 rfl) ag48 rfl) rfl ?_
   refine st (OpT.conv (H rfl) us48 Tryd.underlying2 (T1 rfl) (nw (by omega))) rfl ?_
   refine st (OpT.c1 (ms := [.flat]) (by rw [show k.1 = ((k.1.toNat : Nat) : Int) by omega]; exact c_spec_Decimal k.1.toNat) (H rfl) (Af (T1 rfl) rfl rfl <| An) rfl rfl) rfl ?_
   refine st (OpT.sadd (H rfl) (Opd.str (by decide)) (T1 rfl) (by have h9 : bnl.size = 1 := rfl; have h8 : bsp.size = 1 := rfl; have h7 : bLeaf.size = 4 := rfl; simp only [ByteArray.size_append, bsz, List.size_toArray, List.length_cons, List.length_nil]; omega)) rfl ?_
   refine st (OpT.sadd (H rfl) (T1 rfl) (T1 rfl) (by have h9 : bnl.size = 1 := rfl; have h8 : bsp.size = 1 := rfl; have h7 : bLeaf.size = 4 := rfl; simp only [ByteArray.size_append, bsz, List.size_toArray, List.length_cons, List.length_nil]; omega)) rfl ?_
   refine st (asT rfl) rfl ?_
   refine ng ?_
   refine sr ?_
   refine st (asI rfl) rfl ?_
   refine ng ?_
   refine AW.block ?_
   refine AW.loop (fun u : Nat => u ≤ k.2.1.length) (fun u : Nat => keep [(0, .cel (Kd.slice kKnot) x), (4, .cel (Kd.int .i64) (z : Int)), (5, .cel (Kd.ptr kKnot) k), (3, .cel Kd.str ((nextW (k.2.1.take u) (k.2.2.1.take u)).foldl addW (((x.take z).foldl trF .empty) ++ addW bAsk (decB k.1.toNat)))), (7, .cel (Kd.int .i64) (u : Int))]) (fun u : Nat => k.2.1.length - u) (0) (Nat.zero_le _) (Kc 0 _ (Kv rfl rfl) <| Kc 4 _ (Kv rfl rfl) <| Kc 5 _ (Kv rfl rfl) <| Kc 3 _ (Kv rfl (congrArg (fun d => ((x.take z).foldl trF .empty) ++ d) (askW _))) <| Kc 7 _ (Kv rfl rfl) <| Kn) ?_
   intro u hI
   refine AW.seq ?_
   refine sr ?_
   refine st (mvT rfl) rfl ?_
   refine st (mvT rfl) rfl ?_
   refine st (OpT.nilCheck (H rfl) (T1 rfl)) rfl ?_
   refine st (OpT.fieldAddr (H rfl) (T1 rfl) fd128_1 sz75 (by decide) sb128_1) rfl ?_
   refine st (OpT.load (H rfl) (T1 rfl) ag75 rfl) rfl ?_
   refine st (OpT.len (H rfl) (T1 rfl) el75) rfl ?_
   refine st (OpT.lss (H rfl) (T1 rfl) (T1 rfl)) rfl ?_
   refine ng ?_
   refine cd rfl (fun hc4 => ?_) fun hc4 => ?_
   ·
    obtain ⟨hc4, hc4'⟩ := pT hc4
    obtain ⟨v, hv⟩ := getI (x := k.2.1) (z := u) (by omega)
    obtain ⟨n, hn⟩ := getI (x := k.2.2.1) (z := u) (by omega)
    have hnb := knot_next hko hn
    have hvd := valW_size (hnk.2.1 v (mem_getI hv))
    have hnd := decB_19 (n := n.toNat) (by have := hnk.2.2.1 n (mem_getI hn); omega)
    have hsu := hsl2 u
    refine AW.skip ?_
    refine AX.go ?_
    refine AW.seq ?_
    refine AW.block ?_
    refine dh fomo ?_
    refine d1 [3] (fun ve h => OpT.move (A := .cel _ _) (.inl rfl) rfl (ok' rfl) (D1 h rfl) rfl) rfl ?_
    refine d1 [5] (fun ve h => OpT.move (A := .cel _ _) (.inl rfl) rfl (ok' rfl) (D1 h rfl) rfl) rfl ?_
    refine d1 [63] (fun ve h => OpT.nilCheck (H rfl) (D1 h rfl)) rfl ?_
    refine d1 [64] (fun ve h => OpT.fieldAddr (H rfl) (D1 h rfl) fd128_1 sz75 (by decide) sb128_1) rfl ?_
    refine d1 [65] (fun ve h => OpT.load (H rfl) (D1 h rfl) ag75 rfl) rfl ?_
    refine d1 [7] (fun ve h => OpT.move (A := .cel _ _) (.inl rfl) rfl (ok' rfl) (D1 h rfl) rfl) rfl ?_
    refine d1 [66, 67] (fun ve h => OpT.indexAddr (H rfl) (D1 h rfl) (D1 h rfl) el75 sz2 (by omega) (by assumption)) rfl ?_
    refine d1 [68] (fun ve h => OpT.load (H rfl) (D1 h rfl) ag2 rfl) rfl ?_
    refine d1 [69] (fun ve h => OpT.c1 (ms := [.flat]) (c_spec_l06ValueText _ (knot_val hko (mem_getI hv))) (H rfl) (Af (D1 h rfl) rfl rfl <| An) rfl rfl) rfl ?_
    refine d1 [70] (fun ve h => OpT.sadd (H rfl) (Opd.str (by decide)) (D1 h rfl) (by have h9 : bnl.size = 1 := rfl; have h8 : bsp.size = 1 := rfl; have h7 : bLeaf.size = 4 := rfl; simp only [ByteArray.size_append, bsz, List.size_toArray, List.length_cons, List.length_nil]; omega)) rfl ?_
    refine d1 [71] (fun ve h => OpT.sadd (H rfl) (D1 h rfl) (Opd.str (by decide)) (by have h9 : bnl.size = 1 := rfl; have h8 : bsp.size = 1 := rfl; have h7 : bLeaf.size = 4 := rfl; simp only [ByteArray.size_append, bsz, List.size_toArray, List.length_cons, List.length_nil]; omega)) rfl ?_
    refine d1 [5] (fun ve h => OpT.move (A := .cel _ _) (.inl rfl) rfl (ok' rfl) (D1 h rfl) rfl) rfl ?_
    refine d1 [73] (fun ve h => OpT.nilCheck (H rfl) (D1 h rfl)) rfl ?_
    refine d1 [74] (fun ve h => OpT.fieldAddr (H rfl) (D1 h rfl) fd128_2 sz124 (by decide) sb128_2) rfl ?_
    refine d1 [75] (fun ve h => OpT.load (H rfl) (D1 h rfl) ag124 rfl) rfl ?_
    refine d1 [7] (fun ve h => OpT.move (A := .cel _ _) (.inl rfl) rfl (ok' rfl) (D1 h rfl) rfl) rfl ?_
    refine d1 [76, 77] (fun ve h => OpT.indexAddr (H rfl) (D1 h rfl) (D1 h rfl) el124 sz48 (by omega) (by assumption)) rfl ?_
    refine d1 [78] (fun ve h => OpT.load (H rfl) (D1 h rfl) ag48 rfl) rfl ?_
    refine d1 [79] (fun ve h => OpT.conv (H rfl) us48 Tryd.underlying2 (D1 h rfl) (nw (by omega))) rfl ?_
    refine d1 [80] (fun ve h => OpT.c1 (ms := [.flat]) (by rw [show n = ((n.toNat : Nat) : Int) by omega]; exact c_spec_Decimal n.toNat) (H rfl) (Af (D1 h rfl) rfl rfl <| An) rfl rfl) rfl ?_
    refine d1 [72, 81] (fun ve h => OpT.sadd (H rfl) (D1 h rfl) (D1 h rfl) (by have h9 : bnl.size = 1 := rfl; have h8 : bsp.size = 1 := rfl; have h7 : bLeaf.size = 4 := rfl; simp only [ByteArray.size_append, bsz, List.size_toArray, List.length_cons, List.length_nil]; omega)) rfl ?_
    refine d1 [62, 82] (fun ve h => OpT.sadd (H rfl) (D1 h rfl) (D1 h rfl) (by have h9 : bnl.size = 1 := rfl; have h8 : bsp.size = 1 := rfl; have h7 : bLeaf.size = 4 := rfl; simp only [ByteArray.size_append, bsz, List.size_toArray, List.length_cons, List.length_nil]; omega)) rfl ?_
    refine d1 [83] (fun ve h => OpT.move (A := .cel _ _) (.inr rfl) rfl (ok' rfl) (D1 h rfl) rfl) rfl ?_
    refine dn ⟨by kernel_rfl, by kernel_rfl, ?_⟩
    refine AX.normal_block ?_
    refine AX.go ?_
    refine AW.region ?_
    refine st (mvT rfl) rfl ?_
    refine st (OpT.add (H rfl) (T1 rfl) (I rfl) (nw (by omega))) rfl ?_
    refine st (asT rfl) rfl ?_
    refine nn ?_
    exact AX.again (u + 1) (by omega) (by omega) (Kc 0 _ (Kv rfl rfl) <| Kc 4 _ (Kv rfl rfl) <| Kc 5 _ (Kv rfl rfl) <| Kc 3 _ (Kv rfl (nextT_next hv hn)) <| Kc 7 _ (Kv rfl (by omega)) <| Kn)
   ·
    obtain ⟨hc4, hc4'⟩ := pF hc4
    have hsu := hsl2 u
    refine AW.exit ?_
    refine xT <| xT <| AX.exit_hit ?_
    refine AX.go ?_
    refine AW.region ?_
    refine st (mvT rfl) rfl ?_
    refine st (OpT.sadd (H rfl) (T1 rfl) (Opd.str (by decide)) (by have h9 : bnl.size = 1 := rfl; have h8 : bsp.size = 1 := rfl; have h7 : bLeaf.size = 4 := rfl; simp only [ByteArray.size_append, bsz, List.size_toArray, List.length_cons, List.length_nil]; omega)) rfl ?_
    refine st (asT rfl) rfl ?_
    refine nn ?_
    refine AX.normal_block ?_
    refine AX.go ?_
    refine AW.region ?_
    refine st (mvT rfl) rfl ?_
    refine st (OpT.add (H rfl) (T1 rfl) (I rfl) (nw (by omega))) rfl ?_
    refine st (asT rfl) rfl ?_
    refine nn ?_
    exact AX.again (z + 1) (by omega) (by omega) (Kc 0 _ (Kv rfl rfl) <| Kc 4 _ (Kv rfl (by omega)) <| Kc 3 _ (Kv rfl (by rw [← foldl_more (f := trF) hk]; first | exact trF_leaf (by omega) (by omega) _ | exact trF_ask (by omega) (by omega) hnl _)) <| Kn)
 ·
  obtain ⟨hc1, hc1'⟩ := pF hc1
  refine AW.exit ?_
  refine xT <| xT <| AX.exit_hit ?_
  refine AX.go ?_
  refine sr ?_
  refine st (mvT rfl) rfl ?_
  refine st (asT rfl) rfl ?_
  refine ng ?_
  refine AW.ret ?_
  exact rt1 rfl (.inl rfl) (by rw [trT, List.take_of_length_le (by omega)])

/-- spec.TreeText -/
theorem c_spec_TreeText (x : List DKnot) (hx : okKS x) : AC Tryd.prog 43 [.cel (Kd.slice kKnot) x] [.cel Kd.str (treeTS x)] [] := by
 refine acI (N := 8) Tryd.func43 (Nat.le_of_ble_eq_true rfl) rfl fun w0 hd s0 ar => ?_
 refine AW.to (kc 0 rfl <| Kn) ?_
 refine sr ?_
 refine st (OpT.move (A := .cel _ _) (.inr rfl) rfl (ok' rfl) (Opd.str (by decide)) rfl) rfl ?_
 refine ng ?_
 refine AW.seq ?_
 refine sr ?_
 refine st (mvT rfl) rfl ?_
 refine st (OpT.c1 (ms := [.flat]) (c_spec_l06Ok _ hx) (H rfl) (Af (T1 rfl) rfl rfl <| An) rfl rfl) rfl ?_
 refine st (OpT.not (H rfl) (T1 rfl)) rfl ?_
 refine ng ?_
 refine cd rfl (fun hc1 => ?_) fun hc1 => ?_
 ·
  obtain ⟨hc1, hc1'⟩ := pT hc1
  have hto : tt (treeOK x) = false := by simpa using hc1
  refine sr ?_
  refine st (OpT.move (A := .cel _ _) (.inr rfl) rfl (ok' rfl) (Opd.str (by decide)) rfl) rfl ?_
  refine ng ?_
  refine AW.ret ?_
  refine rT ?_
  exact rt1 rfl (.inl rfl) (by first | (rw [trT_no hto]; first | done | rfl) | (rw [trT_yes htr]; done))
 ·
  obtain ⟨hc1, hc1'⟩ := pF hc1
  have hto : tt (treeOK x) = true := by simpa using hc1
  have htr := tt_iff.1 hto
  refine AW.skip ?_
  refine AX.go ?_
  refine sr ?_
  refine st (mvT rfl) rfl ?_
  refine st (OpT.c1 (ms := [.flat]) (c_spec_l06Text _ htr hx) (H rfl) (Af (T1 rfl) rfl rfl <| An) rfl rfl) rfl ?_
  refine st (asT rfl) rfl ?_
  refine ng ?_
  refine AW.ret ?_
  exact rt1 rfl (.inl rfl) (by first | (rw [trT_no hto]; first | done | rfl) | (rw [trT_yes htr]; done))

/-- impl.TreeText -/
theorem c_impl_TreeText (x : List DKnot) (hx : okKS x) : AC Tryd.prog 45 [.cel (Kd.slice kKnot) x] [.cel Kd.str (treeTS x)] [] := by
 refine acI (N := 8) Tryd.func45 (Nat.le_of_ble_eq_true rfl) rfl fun w0 hd s0 ar => ?_
 refine AW.to (kc 0 rfl <| Kn) ?_
 refine sr ?_
 refine st (OpT.move (A := .cel _ _) (.inr rfl) rfl (ok' rfl) (Opd.str (by decide)) rfl) rfl ?_
 refine ng ?_
 refine AW.seq ?_
 refine sr ?_
 refine st (mvT rfl) rfl ?_
 refine st (OpT.c1 (ms := [.flat]) (c_impl_isTree _ hx) (H rfl) (Af (T1 rfl) rfl rfl <| An) rfl rfl) rfl ?_
 refine st (OpT.not (H rfl) (T1 rfl)) rfl ?_
 refine ng ?_
 refine cd rfl (fun hc1 => ?_) fun hc1 => ?_
 ·
  obtain ⟨hc1, hc1'⟩ := pT hc1
  have hto : tt (treeOK x) = false := by simpa using hc1
  refine sr ?_
  refine st (OpT.move (A := .cel _ _) (.inr rfl) rfl (ok' rfl) (Opd.str (by decide)) rfl) rfl ?_
  refine ng ?_
  refine AW.ret ?_
  refine rT ?_
  exact rt1 rfl (.inl rfl) (by first | (rw [trT_no hto]; first | done | rfl) | (rw [trT_yes htr]; done))
 ·
  obtain ⟨hc1, hc1'⟩ := pF hc1
  have hto : tt (treeOK x) = true := by simpa using hc1
  have htr := tt_iff.1 hto
  refine AW.skip ?_
  refine AX.go ?_
  refine sr ?_
  refine st (mvT rfl) rfl ?_
  refine st (OpT.c1 (ms := [.flat]) (c_impl_treeText _ htr hx) (H rfl) (Af (T1 rfl) rfl rfl <| An) rfl rfl) rfl ?_
  refine st (asT rfl) rfl ?_
  refine ng ?_
  refine AW.ret ?_
  exact rt1 rfl (.inl rfl) (by first | (rw [trT_no hto]; first | done | rfl) | (rw [trT_yes htr]; done))

/-- laws.FnExactTreeText -/
theorem c_laws_FnExactTreeText (x : List DKnot) : AC Tryd.prog 10 [.cel (Kd.slice kKnot) x] [.cel Kd.bool true] [] := by
 refine acI (N := 27) Tryd.func10 (Nat.le_of_ble_eq_true rfl) rfl fun w0 hd s0 ar => ?_
 refine AW.to (kc 0 rfl <| Kn) ?_
 refine sr ?_
 refine st (asB rfl) rfl ?_
 refine ng ?_
 refine sr ?_
 refine st (asI rfl) rfl ?_
 refine ng ?_
 refine sr ?_
 refine st (mvT rfl) rfl ?_
 refine st (mvT rfl) rfl ?_
 refine st (OpT.c1 (ms := [.flat, .flat]) (c_laws_szKnotS _ _ (by omega)) (H rfl) (Af (T1 rfl) rfl rfl <| Af (T1 rfl) rfl rfl <| An) rfl rfl) rfl ?_
 refine st (asT rfl) rfl ?_
 refine ng ?_
 refine AW.seq ?_
 refine sr ?_
 refine st (mvT rfl) rfl ?_
 refine st (OpT.lss (H rfl) (T1 rfl) (I rfl)) rfl ?_
 refine ng ?_
 refine cd rfl (fun hc1 => ?_) fun hc1 => ?_
 ·
  replace hc1 := oT hc1
  refine sr ?_
  refine st (asB rfl) rfl ?_
  refine ng ?_
  refine AW.ret ?_
  refine rT ?_
  exact rt1 rfl (.inl rfl) (by simp_all [eqv_self])
 ·
  replace hc1 := oF hc1
  have k0 := szKS_in x (l := 1048576) (by omega)
  have k1 := k0.2.2 (by omega)
  refine AW.skip ?_
  refine AX.go ?_
  refine sr ?_
  refine st (mvT rfl) rfl ?_
  refine st (OpT.c1 (ms := [.flat]) (c_laws_toKnotS x k1) (H rfl) (Af (T1 rfl) rfl rfl <| An) rfl rfl) rfl ?_
  refine st (OpT.c1 (ms := [.flat]) (c_spec_TreeText x k1) (H rfl) (Af (T1 rfl) rfl rfl <| An) rfl rfl) rfl ?_
  refine st (asT rfl) rfl ?_
  refine ng ?_
  refine sr ?_
  refine st (mvT rfl) rfl ?_
  refine st (OpT.c1 (ms := [.flat]) (c_laws_toKnotS x k1) (H rfl) (Af (T1 rfl) rfl rfl <| An) rfl rfl) rfl ?_
  refine st (asT rfl) rfl ?_
  refine AWl.to (kc4 5 4 2 0 rfl <| Kn) ?_
  refine ng ?_
  refine sr ?_
  refine st (mvT rfl) rfl ?_
  refine st (OpT.c1 (ms := [.flat]) (c_impl_TreeText x k1) (H rfl) (Af (T1 rfl) rfl rfl <| An) rfl rfl) rfl ?_
  refine st (asT rfl) rfl ?_
  refine ng ?_
  refine AW.seq ?_
  refine sr ?_
  refine st (mvT rfl) rfl ?_
  refine st (mvT rfl) rfl ?_
  refine st (OpT.snev (H rfl) (T1 rfl) (T1 rfl)) rfl ?_
  refine ng ?_
  refine cd rfl (fun hc2 => ?_) fun hc2 => ?_
  ·
   replace hc2 := oT hc2
   refine sr ?_
   refine st (asB rfl) rfl ?_
   refine ng ?_
   refine AW.ret ?_
   refine rT ?_
   exact rt1 rfl (.inl rfl) (by simp_all [eqv_self])
  ·
   replace hc2 := oF hc2
   refine AW.skip ?_
   refine AX.go ?_
   refine AW.seq ?_
   refine sr ?_
   refine st (mvT rfl) rfl ?_
   refine st (mvT rfl) rfl ?_
   refine st (OpT.c1 (ms := [.flat]) (c_laws_toKnotS x k1) (H rfl) (Af (T1 rfl) rfl rfl <| An) rfl rfl) rfl ?_
   refine st (OpT.c1 (ms := [.flat, .flat]) (c_laws_eqKnotS _ _) (H rfl) (Af (T1 rfl) rfl rfl <| Af (T1 rfl) rfl rfl <| An) rfl rfl) rfl ?_
   refine st (OpT.not (H rfl) (T1 rfl)) rfl ?_
   refine AWl.to (kc2 26 2 rfl <| Kn) ?_
   refine ng ?_
   refine cd rfl (fun hc3 => ?_) fun hc3 => ?_
   ·
    replace hc3 := oT hc3
    refine sr ?_
    refine st (asB rfl) rfl ?_
    refine ng ?_
    refine AW.ret ?_
    refine rT ?_
    exact rt1 rfl (.inl rfl) (by simp_all [eqv_self])
   ·
    replace hc3 := oF hc3
    refine AW.skip ?_
    refine AX.go ?_
    refine sr ?_
    refine st (asB rfl) rfl ?_
    refine ng ?_
    refine AW.ret ?_
    exact rt1 rfl (.inl rfl) (by simp_all [eqv_self])
end Go.Proofs.YtfnkphllkbkfaaaDoor.VL
