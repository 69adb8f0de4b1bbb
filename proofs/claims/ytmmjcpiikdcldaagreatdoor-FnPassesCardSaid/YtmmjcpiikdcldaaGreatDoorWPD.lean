/- Proved here: what some functions of the program take and give: walks with the words of VA..VQ. Printed by program. -/
import Derived.Test.YtmmjcpiikdcldaaGreatDoorWT
import Derived.Test.YtmmjcpiikdcldaaGreatDoorPXD
import Derived.Test.YtmmjcpiikdcldaaGreatDoorPZQ
import Derived.Test.YtmmjcpiikdcldaaGreatDoorBpa
import Derived.Test.YtmmjcpiikdcldaaGreatDoorWL
import Derived.Test.YtmmjcpiikdcldaaGreatDoorWE1
import Derived.Test.YtmmjcpiikdcldaaGreatDoorWRD
import Derived.Test.YtmmjcpiikdcldaaGreatDoorWSP
import Derived.Test.YtmmjcpiikdcldaaGreatDoorWN
import Derived.Test.YtmmjcpiikdcldaaGreatDoorWPA
set_option linter.unusedVariables false
set_option linter.unusedSimpArgs false
set_option maxRecDepth 4000
namespace Go.Proofs.YtmmjcpiikdcldaaGreatDoor.VL
open Go
/-- impl.Card] -/
theorem c_slices_Equal_impl_Card_impl_Card (x y : List (ByteArray × (BitVec 64 × BitVec 64))) : AC Tryz.prog 58 [.cel (Kd.slice kCard) x, .cel (Kd.slice kCard) y] [.cel Kd.bool (eqv x y)] [] := by
 refine acI (N := 26) Tryz.func58 (Nat.le_of_ble_eq_true rfl) rfl fun w0 hd s0 ar => ?_
 refine AW.to (kc2 0 1 rfl <| Kn) ?_
 refine AW.fact (fun a w hr => (ok_slice (R_ok (t := 0) rfl hr)).2) (fun hl0 => ?_)
 refine AW.fact (fun a w hr => (ok_slice (R_ok (t := 1) rfl hr)).2) (fun hl1 => ?_)
 refine sr ?_
 refine st (asB rfl) rfl ?_
 refine ng ?_
 refine AW.seq ?_
 refine sr ?_
 refine st (mvT rfl) rfl ?_
 refine st (OpT.len (H rfl) (T1 rfl) el26) rfl ?_
 refine st (mvT rfl) rfl ?_
 refine st (OpT.len (H rfl) (T1 rfl) el26) rfl ?_
 refine st (OpT.neq (H rfl) (T1 rfl) (T1 rfl)) rfl ?_
 refine ng ?_
 refine cd rfl (fun hc1 => ?_) fun hc1 => ?_
 ·
  replace hc1 := oT hc1
  try simp only [bne_iff_ne, ne_eq, bne_eq_false_iff_eq] at hc1
  refine sr ?_
  refine st (asB rfl) rfl ?_
  refine ng ?_
  refine AW.ret ?_
  refine rT ?_
  exact rt1 rfl (.inl rfl) (by first | exact eqs_len (by omega) | exact eqs_ne ha hb (by simpa [eqv_iff, eqv_false_iff] using hc3) | exact eqs_all hI.2 (by omega) (by omega))
 ·
  replace hc1 := oF hc1
  try simp only [bne_iff_ne, ne_eq, bne_eq_false_iff_eq] at hc1
  refine AW.skip ?_
  refine AX.go ?_
  refine AW.seq ?_
  refine sr ?_
  refine st (mvT rfl) rfl ?_
  refine st (OpT.len (H rfl) (T1 rfl) el26) rfl ?_
  refine st (mvI rfl) rfl ?_
  refine ng ?_
  refine AW.block ?_
  refine AW.loop (fun z : Nat => z ≤ x.length ∧ x.take z = y.take z) (fun z : Nat => keep [(0, .cel (Kd.slice kCard) x), (1, .cel (Kd.slice kCard) y), (12, .cel (Kd.int .i64) ((x.length : Nat) : Int)), (13, .cel (Kd.int .i64) (z : Int))]) (fun z : Nat => x.length - z) (0) ⟨Nat.zero_le _, rfl⟩ (Kc 0 _ (Kv rfl rfl) <| Kc 1 _ (Kv rfl rfl) <| Kc 12 _ (Kv rfl rfl) <| Kc 13 _ (Kv rfl rfl) <| Kn) ?_
  intro z hI
  refine sr ?_
  refine st (OpT.lss (H rfl) (T1 rfl) (T1 rfl)) rfl ?_
  refine ng ?_
  refine AW.seq ?_
  refine cd rfl (fun hc2 => ?_) fun hc2 => ?_
  ·
   replace hc2 := oT hc2
   obtain ⟨a, ha⟩ := getI (x := x) (z := z) (by omega); obtain ⟨b, hb⟩ := getI (x := y) (z := z) (by omega)
   refine AW.skip ?_
   refine AX.go ?_
   refine AW.seq ?_
   refine AW.block ?_
   refine sr ?_
   refine st (mvT rfl) rfl ?_
   refine st (asT rfl) rfl ?_
   refine ng ?_
   refine AW.seq ?_
   refine dh fomo ?_
   refine d1 [0] (fun ve h => OpT.move (A := .cel _ _) (.inl rfl) rfl (ok' rfl) (D1 h rfl) rfl) rfl ?_
   refine d1 [5] (fun ve h => OpT.move (A := .cel _ _) (.inl rfl) rfl (ok' rfl) (D1 h rfl) rfl) rfl ?_
   refine d1 [16, 17] (fun ve h => OpT.indexAddr (H rfl) (D1 h rfl) (D1 h rfl) el26 sz40 (by omega) (by assumption)) rfl ?_
   refine d1 [18] (fun ve h => OpT.loadA (H rfl) (D1 h rfl) ag40 sz40) rfl ?_
   refine d1 [1] (fun ve h => OpT.move (A := .cel _ _) (.inl rfl) rfl (ok' rfl) (D1 h rfl) rfl) rfl ?_
   refine d1 [5] (fun ve h => OpT.move (A := .cel _ _) (.inl rfl) rfl (ok' rfl) (D1 h rfl) rfl) rfl ?_
   refine d1 [20, 21] (fun ve h => OpT.indexAddr (H rfl) (D1 h rfl) (D1 h rfl) el26 sz40 (by omega) (by assumption)) rfl ?_
   refine d1 [22] (fun ve h => OpT.loadA (H rfl) (D1 h rfl) ag40 sz40) rfl ?_
   refine d1 [19, 23] (fun ve h => OpT.neA (H rfl) (D1 h rfl) (D1 h rfl) eq40 ag40 rfl eg40) rfl ?_
   refine dn ⟨by kernel_rfl, by kernel_rfl, ?_⟩
   refine AX.go ?_
   refine cd rfl (fun hc3 => ?_) fun hc3 => ?_
   ·
    replace hc3 := oT hc3
    refine sr ?_
    refine st (asB rfl) rfl ?_
    refine ng ?_
    refine AW.ret ?_
    refine rK <| rT <| rT <| rK <| rT ?_
    exact rt1 rfl (.inl rfl) (by first | exact eqs_len (by omega) | exact eqs_ne ha hb (by simpa [eqv_iff, eqv_false_iff] using hc3) | exact eqs_all hI.2 (by omega) (by omega))
   ·
    replace hc3 := oF hc3
    refine AW.skip ?_
    refine AX.normal_block ?_
    refine AX.go ?_
    refine AW.region ?_
    refine st (OpT.add (H rfl) (T1 rfl) (I rfl) (nw (by omega))) rfl ?_
    refine st (mvT rfl) rfl ?_
    refine nn ?_
    exact AX.again (z + 1) ⟨by omega, eqs_step hI.2 ha hb (by simpa [eqv_iff, eqv_false_iff] using hc3)⟩ (by omega) (Kc 0 _ (Kv rfl rfl) <| Kc 1 _ (Kv rfl rfl) <| Kc 12 _ (Kv rfl rfl) <| Kc 13 _ (Kv rfl (by omega)) <| Kn)
  ·
   replace hc2 := oF hc2
   refine AW.exit ?_
   refine xT <| xT <| AX.exit_hit ?_
   refine AX.go ?_
   refine sr ?_
   refine st (asB rfl) rfl ?_
   refine ng ?_
   refine AW.ret ?_
   exact rt1 rfl (.inl rfl) (by first | exact eqs_len (by omega) | exact eqs_ne ha hb (by simpa [eqv_iff, eqv_false_iff] using hc3) | exact eqs_all hI.2 (by omega) (by omega))

/-- impl.SameDeck -/
theorem c_impl_SameDeck (x y : List DCard) : AC Tryz.prog 19 [.cel (Kd.slice kCard) x, .cel (Kd.slice kCard) y] [.cel Kd.bool (eqv x y)] [] := by
 refine acI (N := 8) Tryz.func19 (Nat.le_of_ble_eq_true rfl) rfl fun w0 hd s0 ar => ?_
 refine AW.to (kc2 0 1 rfl <| Kn) ?_
 refine sr ?_
 refine st (asB rfl) rfl ?_
 refine ng ?_
 refine sr ?_
 refine st (mvT rfl) rfl ?_
 refine st (mvT rfl) rfl ?_
 refine st (OpT.c1 (ms := [.flat, .flat]) (c_slices_Equal_impl_Card_impl_Card x y) (H rfl) (Af (T1 rfl) rfl rfl <| Af (T1 rfl) rfl rfl <| An) rfl rfl) rfl ?_
 refine st (asT rfl) rfl ?_
 refine ng ?_
 refine AW.ret ?_
 exact rt1 rfl (.inl rfl) rfl

/-- impl.ValidDeck -/
theorem c_impl_ValidDeck (x : List DCard) : AC Tryz.prog 20 [.cel (Kd.slice kCard) x] [.cel Kd.bool (tt (deckOK x))] [] := by
 refine acI (N := 5) Tryz.func20 (Nat.le_of_ble_eq_true rfl) rfl fun w0 hd s0 ar => ?_
 refine AW.to (kc 0 rfl <| Kn) ?_
 refine sr ?_
 refine st (asB rfl) rfl ?_
 refine ng ?_
 refine sr ?_
 refine st (mvT rfl) rfl ?_
 refine st (OpT.c1 (ms := [.flat]) (c_impl_isDeck _) (H rfl) (Af (T1 rfl) rfl rfl <| An) rfl rfl) rfl ?_
 refine st (asT rfl) rfl ?_
 refine ng ?_
 refine AW.ret ?_
 exact rt1 rfl (.inl rfl) rfl

/-- impl.DeckText -/
theorem c_impl_DeckText (x : List DCard) : AC Tryz.prog 18 [.cel (Kd.slice kCard) x] [.cel Kd.str (dkT x)] [] := by
 refine acI (N := 22) Tryz.func18 (Nat.le_of_ble_eq_true rfl) rfl fun w0 hd s0 ar => ?_
 refine AW.to (kc 0 rfl <| Kn) ?_
 refine AW.fact (fun a w hr => (ok_slice (R_ok (t := 0) rfl hr)).2) (fun hl0 => ?_)
 refine sr ?_
 refine st (OpT.move (A := .cel _ _) (.inr rfl) rfl (ok' rfl) (Opd.str (by decide)) rfl) rfl ?_
 refine ng ?_
 refine AW.seq ?_
 refine sr ?_
 refine st (mvT rfl) rfl ?_
 refine st (OpT.c1 (ms := [.flat]) (c_impl_isDeck _) (H rfl) (Af (T1 rfl) rfl rfl <| An) rfl rfl) rfl ?_
 refine st (OpT.not (H rfl) (T1 rfl)) rfl ?_
 refine ng ?_
 refine cd rfl (fun hc1 => ?_) fun hc1 => ?_
 ·
  obtain ⟨hc1, hc1'⟩ := pT hc1
  refine sr ?_
  refine st (OpT.move (A := .cel _ _) (.inr rfl) rfl (ok' rfl) (Opd.str (by decide)) rfl) rfl ?_
  refine ng ?_
  refine AW.ret ?_
  refine rT ?_
  exact rt1 rfl (.inl rfl) (by first | (rw [dkT_no (by simpa using hc1)]; done) | (rw [dkT_no (by simpa using hc1)]; rfl) | (rw [dkT_yes (tt_iff.2 hdk), dkX, List.take_of_length_le (by omega)]))
 ·
  obtain ⟨hc1, hc1'⟩ := pF hc1
  have hdk := tt_iff.1 (show tt (deckOK x) = true by simpa using hc1)
  refine AW.skip ?_
  refine AX.go ?_
  refine sr ?_
  refine st (OpT.move (A := .cel _ _) (.inr rfl) rfl (ok' rfl) (Opd.str (by decide)) rfl) rfl ?_
  refine ng ?_
  refine AW.seq ?_
  refine sr ?_
  refine st (mvT rfl) rfl ?_
  refine st (OpT.len (H rfl) (T1 rfl) el26) rfl ?_
  refine st (mvI rfl) rfl ?_
  refine ng ?_
  refine AW.block ?_
  refine AW.loop (fun z : Nat => z ≤ x.length) (fun z : Nat => keep [(3, .cel Kd.str ((x.take z).foldl dkF .empty)), (9, .cel (Kd.slice kCard) x), (10, .cel (Kd.int .i64) (x.length : Int)), (11, .cel (Kd.int .i64) (z : Int))]) (fun z : Nat => x.length - z) (0) (Nat.zero_le _) (Kc 3 _ (Kv rfl rfl) <| Kc 9 _ (Kv rfl rfl) <| Kc 10 _ (Kv rfl rfl) <| Kc 11 _ (Kv rfl rfl) <| Kn) ?_
  intro z hI
  refine sr ?_
  refine st (OpT.lss (H rfl) (T1 rfl) (T1 rfl)) rfl ?_
  refine ng ?_
  refine AW.seq ?_
  refine cd rfl (fun hc2 => ?_) fun hc2 => ?_
  ·
   obtain ⟨hc2, hc2'⟩ := pT hc2
   obtain ⟨cd, hcd⟩ := getI (x := x) (z := z) (by omega)
   have hnm := (deck_card hdk (mem_getI hcd)).1.2.2
   have hcs := cdT_size cd
   have hts := dkX_at hdk z
   refine AW.skip ?_
   refine AX.go ?_
   refine AW.seq ?_
   refine AW.block ?_
   refine sr ?_
   refine st (OpT.indexAddr (H rfl) (T1 rfl) (T1 rfl) el26 sz40 (by omega) hcd) rfl ?_
   refine st (OpT.loadA (H rfl) (T1 rfl) ag40 sz40) rfl ?_
   refine st (OpT.alloc (H rfl) zr40 zk40) rfl ?_
   refine sk (OpT.storeBA rfl rfl (Opd.whole (Root.self (t := 5) (by decide)) rfl) rfl sz40 (by decide) (T1 rfl)) rfl ?_
   refine ng ?_
   refine AW.region ?_
   refine st (mvT rfl) rfl ?_
   refine st (OpT.loadB (H rfl) (Root.self (t := 5) (by decide)) rfl ag40 sz40) rfl ?_
   refine st (OpT.c1 (ms := [.flat]) (c_impl_cardText _ hnm) (H rfl) (Af (T1 rfl) rfl rfl <| An) rfl rfl) rfl ?_
   refine st (OpT.sadd (H rfl) (T1 rfl) (Opd.str (by decide)) (by have : bsp.size = 1 := rfl; simp only [ByteArray.size_append, bsz, List.size_toArray, List.length_cons, List.length_nil]; omega)) rfl ?_
   refine st (OpT.sadd (H rfl) (T1 rfl) (T1 rfl) (by have : bsp.size = 1 := rfl; simp only [ByteArray.size_append, bsz, List.size_toArray, List.length_cons, List.length_nil]; omega)) rfl ?_
   refine st (asT rfl) rfl ?_
   refine nn ?_
   refine AX.normal_block ?_
   refine AX.go ?_
   refine AW.region ?_
   refine st (OpT.add (H rfl) (T1 rfl) (I rfl) (nw (by omega))) rfl ?_
   refine st (mvT rfl) rfl ?_
   refine nn ?_
   exact AX.again (z + 1) (by omega) (by omega) (Kc 3 _ (Kv rfl (by rw [← foldl_more (f := dkF) hcd]; rfl)) <| Kc 9 _ (Kv rfl rfl) <| Kc 10 _ (Kv rfl rfl) <| Kc 11 _ (Kv rfl (by omega)) <| Kn)
  ·
   obtain ⟨hc2, hc2'⟩ := pF hc2
   refine AW.exit ?_
   refine xT <| xT <| AX.exit_hit ?_
   refine AX.go ?_
   refine sr ?_
   refine st (mvT rfl) rfl ?_
   refine st (asT rfl) rfl ?_
   refine ng ?_
   refine AW.ret ?_
   exact rt1 rfl (.inl rfl) (by first | (rw [dkT_no (by simpa using hc1)]; done) | (rw [dkT_no (by simpa using hc1)]; rfl) | (rw [dkT_yes (tt_iff.2 hdk), dkX, List.take_of_length_le (by omega)]))

/-- impl.ReadDeck -/
theorem c_impl_ReadDeck_o (x : ByteArray) (hx : x.size ≤ 100000000) (hr : ∀ l ∈ (linS x).1, ∀ w ∈ wrdT l, RdN w) : AC Tryz.prog 17 [.cel Kd.str x] [.own 40 kCard (rdS x).1, .cel (Kd.int .i64) (rdS x).2] [] := by
 refine acI (N := 41) Tryz.func17 (Nat.le_of_ble_eq_true rfl) rfl fun w0 hd s0 ar => ?_
 refine AW.to (kc 0 rfl <| Kn) ?_
 have hll := lin_len x
 refine sr ?_
 refine st (nilO (E := 40) kCard rfl (.inl rfl)) rfl ?_
 refine st (asI rfl) rfl ?_
 refine ng ?_
 refine sr ?_
 refine st (mvT rfl) rfl ?_
 refine s2 (OpT.c2 (ms := [.flat]) (c_impl_linesOf x (by omega)) (H rfl) (Af (T1 rfl) rfl rfl <| An) rfl rfl rfl) rfl ?_
 refine st (OpT.alias (H rfl) (by decide) (by decide)) rfl ?_
 refine st (OpT.extractV (m := 10013) (H rfl) rfl rfl rfl rfl rfl rfl rfl) rfl ?_
 refine st (OpT.extractV (m := 20013) (H rfl) rfl rfl rfl rfl rfl rfl rfl) rfl ?_
 refine st (asT rfl) rfl ?_
 refine st (asT rfl) rfl ?_
 refine ng ?_
 refine AW.seq ?_
 refine sr ?_
 refine st (mvT rfl) rfl ?_
 refine st (OpT.not (H rfl) (T1 rfl)) rfl ?_
 refine ng ?_
 refine cd rfl (fun hc1 => ?_) fun hc1 => ?_
 ·
  obtain ⟨hc1, hc1'⟩ := pT hc1
  have hl0 : (linS x).2 = false := by simpa using hc1
  refine sr ?_
  refine st (nilO (E := 40) kCard rfl (.inl rfl)) rfl ?_
  refine st (asI rfl) rfl ?_
  refine AWl.to (kc 3 rfl <| ko 2 rfl <| kc 4 rfl <| Kn) ?_
  refine ng ?_
  refine AW.ret ?_
  refine rT ?_
  exact AX.rt (rs := [.tmp 2, .tmp 3]) (ts := [some 2, some 3]) (.inl rfl) rfl (ROs.cons (RO.tmp (At.self (by decide)) (Ko rfl (by first | (rw [rd_no hl0]; done) | (rw [rd_bad hl1 hl hg0]; done) | (rw [rd_end hl1 hal hd0]; done) | (rw [rd_yes hl1 hal hd1]; first | done | rfl | rw [htk]))) rfl) <| ROs.cons (RO.tmp (At.self (by decide)) (Kv rfl (by first | (rw [rd_no hl0]; done) | (rw [rd_bad hl1 hl hg0]; done) | (rw [rd_end hl1 hal hd0]; done) | (rw [rd_yes hl1 hal hd1]; first | done | rfl | rw [htk]))) rfl) <| ROs.nil) (by decide) OutsOK.nil
 ·
  obtain ⟨hc1, hc1'⟩ := pF hc1
  have hl1 : (linS x).2 = true := by simpa using hc1
  refine AW.skip ?_
  refine AX.go ?_
  refine sr ?_
  refine st (OpT.buildSlice0 (m := 0) (z := .bool false) kCard (H rfl) el26 sz40 (by decide)) rfl ?_
  refine sg (OpT.take (.inl rfl) rfl (ok' rfl) (Root.self (by decide)) rfl rfl (by decide)) (ko 6 rfl <| kc4 17 16 5 4 rfl <| kc2 15 14 rfl <| Kc 11 (.ali _) rfl <| kc4 10013 20013 12 3 rfl <| ko 2 rfl <| kc 0 rfl <| Kn) rfl ?_
  refine ng ?_
  refine AW.seq ?_
  refine sr ?_
  refine st (mvT rfl) rfl ?_
  refine st (OpT.len (H rfl) (T1 rfl) el81) rfl ?_
  refine st (mvI rfl) rfl ?_
  refine AWl.to (kc3 21 20 19 rfl <| ko 6 rfl <| kc 3 rfl <| ko 2 rfl <| Kn) ?_
  refine ng ?_
  refine AW.block ?_
  refine AW.loop (fun z : Nat => z ≤ (linS x).1.length ∧ ((linS x).1.take z).all gdL = true) (fun z : Nat => keep [(6, .own 40 kCard (((linS x).1.take z).map rcC)), (19, .cel (Kd.slice Kd.str) (linS x).1), (20, .cel (Kd.int .i64) ((linS x).1.length : Int)), (21, .cel (Kd.int .i64) (z : Int))]) (fun z : Nat => (linS x).1.length - z) (0) ⟨Nat.zero_le _, by simp⟩ (Kc 6 _ (Ko rfl (by simp)) <| Kc 19 _ (Kv rfl rfl) <| Kc 20 _ (Kv rfl rfl) <| Kc 21 _ (Kv rfl rfl) <| Kn) ?_
  intro z hI
  refine sr ?_
  refine st (OpT.lss (H rfl) (T1 rfl) (T1 rfl)) rfl ?_
  refine ng ?_
  refine AW.seq ?_
  refine cd rfl (fun hc2 => ?_) fun hc2 => ?_
  ·
   obtain ⟨hc2, hc2'⟩ := pT hc2
   obtain ⟨l, hl⟩ := getI (x := (linS x).1) (z := z) (by omega)
   refine AW.skip ?_
   refine AX.go ?_
   refine AW.seq ?_
   refine AW.block ?_
   refine sr ?_
   refine st (OpT.indexAddr (H rfl) (T1 rfl) (T1 rfl) el81 sz9 (by omega) hl) rfl ?_
   refine st (OpT.load (H rfl) (T1 rfl) ag9 rfl) rfl ?_
   refine st (asT rfl) rfl ?_
   refine ng ?_
   refine sr ?_
   refine st (mvT rfl) rfl ?_
   refine s2 (OpT.c2 (ms := [.flat]) (c_impl_readCard l (by have h9 := lin_size (mem_getI hl); omega) (hr l (mem_getI hl))) (H rfl) (Af (T1 rfl) rfl rfl <| An) rfl rfl rfl) rfl ?_
   refine st (OpT.alias (H rfl) (by decide) (by decide)) rfl ?_
   refine st (OpT.extractV (m := 10027) (H rfl) rfl rfl rfl rfl rfl rfl rfl) rfl ?_
   refine st (OpT.extractV (m := 20027) (H rfl) rfl rfl rfl rfl rfl rfl rfl) rfl ?_
   refine st (OpT.alloc (H rfl) zr40 zk40) rfl ?_
   refine sk (OpT.storeBA rfl rfl (Opd.whole (Root.self (t := 9) (by decide)) rfl) rfl sz40 (by decide) (T1 rfl)) rfl ?_
   refine st (asT rfl) rfl ?_
   refine ng ?_
   refine AW.seq ?_
   refine sr ?_
   refine st (mvT rfl) rfl ?_
   refine st (OpT.not (H rfl) (T1 rfl)) rfl ?_
   refine ng ?_
   refine cd rfl (fun hc3 => ?_) fun hc3 => ?_
   ·
    obtain ⟨hc3, hc3'⟩ := pT hc3
    have hg0 : (rcS l).2 = false := by simpa using hc3
    refine sr ?_
    refine st (nilO (E := 40) kCard rfl (.inl rfl)) rfl ?_
    refine st (asI rfl) rfl ?_
    refine ng ?_
    refine AW.ret ?_
    refine rT <| rK <| rT <| rT <| rK <| rT ?_
    exact AX.rt (rs := [.tmp 2, .tmp 3]) (ts := [some 2, some 3]) (.inl rfl) rfl (ROs.cons (RO.tmp (At.self (by decide)) (Ko rfl (by first | (rw [rd_no hl0]; done) | (rw [rd_bad hl1 hl hg0]; done) | (rw [rd_end hl1 hal hd0]; done) | (rw [rd_yes hl1 hal hd1]; first | done | rfl | rw [htk]))) rfl) <| ROs.cons (RO.tmp (At.self (by decide)) (Kv rfl (by first | (rw [rd_no hl0]; done) | (rw [rd_bad hl1 hl hg0]; done) | (rw [rd_end hl1 hal hd0]; done) | (rw [rd_yes hl1 hal hd1]; first | done | rfl | rw [htk]))) rfl) <| ROs.nil) (by decide) OutsOK.nil
   ·
    obtain ⟨hc3, hc3'⟩ := pF hc3
    have hg1 : gdL l = true := by (unfold gdL; simpa using hc3)
    refine AW.skip ?_
    refine AX.go ?_
    refine AW.region ?_
    refine st (OpT.alias (H rfl) (by decide) (by decide)) rfl ?_
    refine st (OpT.loadB (H rfl) (Root.self (t := 9) (by decide)) rfl ag40 sz40) rfl ?_
    refine st (OpT.buildSlice (H rfl) el26 zr40 sz40 rfl (by decide) zk40 (by decide) (Built.agg (T1 rfl) rfl (by decide) (sub_arr (by decide) ((.empty, (0, 0)) : ByteArray × (BitVec 64 × BitVec 64))) (Built.nil _))) rfl ?_
    refine sg (OpT.append (H rfl) (Root.ali rfl (by decide) (by decide)) rfl (Src.own (Root.self (t := 34) (by decide)) rfl) (by decide) el26 zr40 rfl sz40 by40 (by decide) (by simp only [List.length_map, List.length_take, List.length_set, List.length_replicate]; omega)) (ko 35 rfl <| ko 34 rfl <| ka 33 rfl <| kc3 31 30 10 rfl <| kb 9 rfl <| kc 29 rfl <| ka 28 rfl <| Kc 25 (.ali _) rfl <| ka 10027 rfl <| kc4 20027 26 8 24 rfl <| kc4 23 22 19 20 rfl <| kc 21 rfl <| Kn) rfl ?_
    refine sg (OpT.take (.inl rfl) rfl (ok' rfl) (Root.self (by decide)) rfl rfl (by decide)) (ko 6 rfl <| ko 34 rfl <| ka 33 rfl <| kc3 31 30 10 rfl <| kb 9 rfl <| kc 29 rfl <| ka 28 rfl <| Kc 25 (.ali _) rfl <| ka 10027 rfl <| kc4 20027 26 8 24 rfl <| kc4 23 22 19 20 rfl <| kc 21 rfl <| Kn) rfl ?_
    refine nn ?_
    refine AX.normal_block ?_
    refine AX.go ?_
    refine AW.region ?_
    refine st (OpT.add (H rfl) (T1 rfl) (I rfl) (nw (by omega))) rfl ?_
    refine st (mvT rfl) rfl ?_
    refine nn ?_
    exact AX.again (z + 1) ⟨by omega, all_take hl hg1 hI.2⟩ (by omega) (Kc 6 _ (Ko rfl (by rw [take_more hl, List.map_append]; rfl)) <| Kc 19 _ (Kv rfl rfl) <| Kc 20 _ (Kv rfl rfl) <| Kc 21 _ (Kv rfl (by omega)) <| Kn)
  ·
   obtain ⟨hc2, hc2'⟩ := pF hc2
   have htk : (linS x).1.take z = (linS x).1 := List.take_of_length_le (by omega)
   have hal : (linS x).1.all gdL = true := by (have h9 := hI.2; rwa [htk] at h9)
   refine AW.exit ?_
   refine xT <| xT <| AX.exit_hit ?_
   refine AX.go ?_
   refine AW.seq ?_
   refine sr ?_
   refine st (OpT.alias (H rfl) (by decide) (by decide)) rfl ?_
   refine st (cb1 (ms := [.bor 6]) (c_impl_isDeck _) (H rfl) (Ab (Root.ali rfl (by decide) (by decide)) rfl <| An) rfl (indC fun _ _ _ _ h => h)) rfl ?_
   refine st (OpT.not (H rfl) (T1 rfl)) rfl ?_
   refine ng ?_
   refine cd rfl (fun hc4 => ?_) fun hc4 => ?_
   ·
    obtain ⟨hc4, hc4'⟩ := pT hc4
    have hd0 : tt (deckOK ((linS x).1.map rcC)) = false := by (rw [htk] at hc4; simpa using hc4)
    refine sr ?_
    refine st (nilO (E := 40) kCard rfl (.inl rfl)) rfl ?_
    refine st (asI rfl) rfl ?_
    refine ng ?_
    refine AW.ret ?_
    refine rT ?_
    exact AX.rt (rs := [.tmp 2, .tmp 3]) (ts := [some 2, some 3]) (.inl rfl) rfl (ROs.cons (RO.tmp (At.self (by decide)) (Ko rfl (by first | (rw [rd_no hl0]; done) | (rw [rd_bad hl1 hl hg0]; done) | (rw [rd_end hl1 hal hd0]; done) | (rw [rd_yes hl1 hal hd1]; first | done | rfl | rw [htk]))) rfl) <| ROs.cons (RO.tmp (At.self (by decide)) (Kv rfl (by first | (rw [rd_no hl0]; done) | (rw [rd_bad hl1 hl hg0]; done) | (rw [rd_end hl1 hal hd0]; done) | (rw [rd_yes hl1 hal hd1]; first | done | rfl | rw [htk]))) rfl) <| ROs.nil) (by decide) OutsOK.nil
   ·
    obtain ⟨hc4, hc4'⟩ := pF hc4
    have hd1 : tt (deckOK ((linS x).1.map rcC)) = true := by (rw [htk] at hc4; simpa using hc4)
    refine AW.skip ?_
    refine AX.go ?_
    refine sr ?_
    refine st (OpT.alias (H rfl) (by decide) (by decide)) rfl ?_
    refine sg (OpT.take (.inl rfl) rfl (ok' rfl) (Root.ali rfl (by decide) (by decide)) rfl rfl (by decide)) (ko 2 rfl <| kc4 39 38 22 19 rfl <| kc2 20 21 rfl <| Kn) rfl ?_
    refine st (asI rfl) rfl ?_
    refine ng ?_
    refine AW.ret ?_
    exact AX.rt (rs := [.tmp 2, .tmp 3]) (ts := [some 2, some 3]) (.inl rfl) rfl (ROs.cons (RO.tmp (At.self (by decide)) (Ko rfl (by first | (rw [rd_no hl0]; done) | (rw [rd_bad hl1 hl hg0]; done) | (rw [rd_end hl1 hal hd0]; done) | (rw [rd_yes hl1 hal hd1]; first | done | rfl | rw [htk]))) rfl) <| ROs.cons (RO.tmp (At.self (by decide)) (Kv rfl (by first | (rw [rd_no hl0]; done) | (rw [rd_bad hl1 hl hg0]; done) | (rw [rd_end hl1 hal hd0]; done) | (rw [rd_yes hl1 hal hd1]; first | done | rfl | rw [htk]))) rfl) <| ROs.nil) (by decide) OutsOK.nil
theorem c_impl_ReadDeck (x : ByteArray) (hx : x.size ≤ 100000000) (hr : ∀ l ∈ (linS x).1, ∀ w ∈ wrdT l, RdN w) : AC Tryz.prog 17 [.cel Kd.str x] [.cel (Kd.slice kCard) (rdS x).1, .cel (Kd.int .i64) (rdS x).2] [] := (c_impl_ReadDeck_o x hx hr).frz rfl

/-- spec.l02Asked -/
theorem c_spec_l02Asked (x : List DCard) (h : Int) : AC Tryz.prog 44 [.cel (Kd.slice kCard) x, .cel (Kd.int .i64) h] [.cel (Kd.int .i64) (askD x h)] [] := by
 refine acI (N := 11) Tryz.func44 (Nat.le_of_ble_eq_true rfl) rfl fun w0 hd s0 ar => ?_
 refine AW.to (kc2 0 1 rfl <| Kn) ?_
 refine sr ?_
 refine st (asI rfl) rfl ?_
 refine ng ?_
 refine AW.seq ?_
 refine sr ?_
 refine st (mvT rfl) rfl ?_
 refine st (OpT.c1 (ms := [.flat]) (c_spec_l02Ok _) (H rfl) (Af (T1 rfl) rfl rfl <| An) rfl rfl) rfl ?_
 refine st (OpT.not (H rfl) (T1 rfl)) rfl ?_
 refine ng ?_
 refine cd rfl (fun hc1 => ?_) fun hc1 => ?_
 ·
  obtain ⟨hc1, hc1'⟩ := pT hc1
  have h1 : tt (deckOK x) = false := by simpa using hc1
  refine sr ?_
  refine st (asI rfl) rfl ?_
  refine ng ?_
  refine AW.ret ?_
  refine rT ?_
  exact rt1 rfl (.inl rfl) (by first | exact (askd_bad h1).symm | exact (askd_rng h1 h2).symm | exact (askd_ok h1 h2).symm)
 ·
  obtain ⟨hc1, hc1'⟩ := pF hc1
  have h1 : tt (deckOK x) = true := by simpa using hc1
  refine AW.skip ?_
  refine AX.go ?_
  refine AW.seq ?_
  refine sr ?_
  refine st (mvT rfl) rfl ?_
  refine st (OpT.c1 (ms := [.flat]) (c_spec_l01Hole _) (H rfl) (Af (T1 rfl) rfl rfl <| An) rfl rfl) rfl ?_
  refine st (OpT.not (H rfl) (T1 rfl)) rfl ?_
  refine ng ?_
  refine cd rfl (fun hc2 => ?_) fun hc2 => ?_
  ·
   obtain ⟨hc2, hc2'⟩ := pT hc2
   have h2 : inb h 0 95 = false := by simpa using hc2
   refine sr ?_
   refine st (asI rfl) rfl ?_
   refine ng ?_
   refine AW.ret ?_
   refine rT ?_
   exact rt1 rfl (.inl rfl) (by first | exact (askd_bad h1).symm | exact (askd_rng h1 h2).symm | exact (askd_ok h1 h2).symm)
  ·
   obtain ⟨hc2, hc2'⟩ := pF hc2
   have h2 : inb h 0 95 = true := by simpa using hc2
   refine AW.skip ?_
   refine AX.go ?_
   refine sr ?_
   refine st (asI rfl) rfl ?_
   refine ng ?_
   refine AW.ret ?_
   exact rt1 rfl (.inl rfl) (by first | exact (askd_bad h1).symm | exact (askd_rng h1 h2).symm | exact (askd_ok h1 h2).symm)

/-- impl.PassNeedle -/
theorem c_impl_PassNeedle_o (x : List DCard) (h : Int) : AC Tryz.prog 10 [.cel (Kd.slice kCard) x, .cel (Kd.int .i64) h] [.own 40 kCard (pasS x h).1, .cel (Kd.int .i64) (pasS x h).2.1, .cel (Kd.int .i64) (pasS x h).2.2] [] := by
 refine acI (N := 26) Tryz.func10 (Nat.le_of_ble_eq_true rfl) rfl fun w0 hd s0 ar => ?_
 refine AW.to (kc2 0 1 rfl <| Kn) ?_
 refine sr ?_
 refine st (nilO (E := 40) kCard rfl (.inl rfl)) rfl ?_
 refine st (asI rfl) rfl ?_
 refine st (asI rfl) rfl ?_
 refine ng ?_
 refine AW.seq ?_
 refine sr ?_
 refine st (mvT rfl) rfl ?_
 refine st (OpT.c1 (ms := [.flat]) (c_impl_isDeck _) (H rfl) (Af (T1 rfl) rfl rfl <| An) rfl rfl) rfl ?_
 refine st (OpT.not (H rfl) (T1 rfl)) rfl ?_
 refine ng ?_
 refine cd rfl (fun hc1 => ?_) fun hc1 => ?_
 ·
  obtain ⟨hc1, hc1'⟩ := pT hc1
  have h1 : tt (deckOK x) = false := by simpa using hc1
  refine sr ?_
  refine st (nilO (E := 40) kCard rfl (.inl rfl)) rfl ?_
  refine st (asI rfl) rfl ?_
  refine st (asI rfl) rfl ?_
  refine ng ?_
  refine AW.ret ?_
  refine rT ?_
  exact AX.rt (rs := [.tmp 4, .tmp 5, .tmp 6]) (ts := [some 4, some 5, some 6]) (.inl rfl) rfl (ROs.cons (RO.tmp (At.self (by decide)) (Ko rfl (by first | (rw [pas_no (askd_bad h1) (by decide)]; done) | (rw [pas_no (askd_rng h1 h2) (by decide)]; done) | (rw [pas_yes ha]; first | done | rfl))) rfl) <| ROs.cons (RO.tmp (At.self (by decide)) (Kv rfl (by first | (rw [pas_no (askd_bad h1) (by decide)]; done) | (rw [pas_no (askd_rng h1 h2) (by decide)]; done) | (rw [pas_yes ha]; first | done | rfl))) rfl) <| ROs.cons (RO.tmp (At.self (by decide)) (Kv rfl (by first | (rw [pas_no (askd_bad h1) (by decide)]; done) | (rw [pas_no (askd_rng h1 h2) (by decide)]; done) | (rw [pas_yes ha]; first | done | rfl))) rfl) <| ROs.nil) (by decide) OutsOK.nil
 ·
  obtain ⟨hc1, hc1'⟩ := pF hc1
  have h1 : tt (deckOK x) = true := by simpa using hc1
  have hdl := (tt_iff.1 h1).1
  refine AW.skip ?_
  refine AX.go ?_
  refine AW.seq ?_
  refine sr ?_
  refine st (mvT rfl) rfl ?_
  refine st (OpT.c1 (ms := [.flat]) (c_impl_isHole _) (H rfl) (Af (T1 rfl) rfl rfl <| An) rfl rfl) rfl ?_
  refine st (OpT.not (H rfl) (T1 rfl)) rfl ?_
  refine ng ?_
  refine cd rfl (fun hc2 => ?_) fun hc2 => ?_
  ·
   obtain ⟨hc2, hc2'⟩ := pT hc2
   have h2 : inb h 0 95 = false := by simpa using hc2
   refine sr ?_
   refine st (nilO (E := 40) kCard rfl (.inl rfl)) rfl ?_
   refine st (asI rfl) rfl ?_
   refine st (asI rfl) rfl ?_
   refine ng ?_
   refine AW.ret ?_
   refine rT ?_
   exact AX.rt (rs := [.tmp 4, .tmp 5, .tmp 6]) (ts := [some 4, some 5, some 6]) (.inl rfl) rfl (ROs.cons (RO.tmp (At.self (by decide)) (Ko rfl (by first | (rw [pas_no (askd_bad h1) (by decide)]; done) | (rw [pas_no (askd_rng h1 h2) (by decide)]; done) | (rw [pas_yes ha]; first | done | rfl))) rfl) <| ROs.cons (RO.tmp (At.self (by decide)) (Kv rfl (by first | (rw [pas_no (askd_bad h1) (by decide)]; done) | (rw [pas_no (askd_rng h1 h2) (by decide)]; done) | (rw [pas_yes ha]; first | done | rfl))) rfl) <| ROs.cons (RO.tmp (At.self (by decide)) (Kv rfl (by first | (rw [pas_no (askd_bad h1) (by decide)]; done) | (rw [pas_no (askd_rng h1 h2) (by decide)]; done) | (rw [pas_yes ha]; first | done | rfl))) rfl) <| ROs.nil) (by decide) OutsOK.nil
  ·
   obtain ⟨hc2, hc2'⟩ := pF hc2
   have h2 : inb h 0 95 = true := by simpa using hc2
   have ha := askd_ok h1 h2
   have hr := (askd_zero ha).2
   refine AW.skip ?_
   refine AX.go ?_
   refine sr ?_
   refine st (mvT rfl) rfl ?_
   refine st (mvT rfl) rfl ?_
   refine s2 (OpT.c2 (ms := [.flat, .flat]) (c_impl_split_o _ _ (by omega) (by omega)) (H rfl) (Af (T1 rfl) rfl rfl <| Af (T1 rfl) rfl rfl <| An) rfl rfl rfl) rfl ?_
   refine st (OpT.alias (H rfl) (by decide) (by decide)) rfl ?_
   refine sg (OpT.extractVO (m := 10018) (H rfl) rfl rfl rfl rfl rfl rfl) (ko 19 rfl <| Kc 15 (.ali _) rfl <| ko 20018 rfl <| kc4 17 16 14 13 rfl <| kc4 12 11 10 9 rfl <| kc2 6 5 rfl <| ko 4 rfl <| kc2 0 1 rfl <| Kn) rfl ?_
   refine sg (OpT.extractVO (m := 20018) (H rfl) rfl rfl rfl rfl rfl rfl) (ko 20 rfl <| ko 19 rfl <| Kc 15 (.ali _) rfl <| kc4 17 16 14 13 rfl <| kc4 12 11 10 9 rfl <| kc2 6 5 rfl <| ko 4 rfl <| kc2 0 1 rfl <| Kn) rfl ?_
   refine sg (OpT.take (.inl rfl) rfl (ok' rfl) (Root.self (by decide)) rfl rfl (by decide)) (ko 7 rfl <| ko 20 rfl <| Kc 15 (.ali _) rfl <| kc4 17 16 14 13 rfl <| kc4 12 11 10 9 rfl <| kc2 6 5 rfl <| ko 4 rfl <| kc2 0 1 rfl <| Kn) rfl ?_
   refine sg (OpT.take (.inl rfl) rfl (ok' rfl) (Root.self (by decide)) rfl rfl (by decide)) (ko 8 rfl <| ko 7 rfl <| Kc 15 (.ali _) rfl <| kc4 17 16 14 13 rfl <| kc4 12 11 10 9 rfl <| kc2 6 5 rfl <| ko 4 rfl <| kc2 0 1 rfl <| Kn) rfl ?_
   refine AWl.to (ko 8 rfl <| ko 7 rfl <| kc2 6 5 rfl <| ko 4 rfl <| Kn) ?_
   refine ng ?_
   refine sr ?_
   refine st (OpT.alias (H rfl) (by decide) (by decide)) rfl ?_
   refine st (OpT.alias (H rfl) (by decide) (by decide)) rfl ?_
   refine sg (OpT.append (H rfl) (Root.ali rfl (by decide) (by decide)) rfl (Src.own (Root.ali rfl (by decide) (by decide)) rfl) (by decide) el26 zr40 rfl sz40 by40 (by decide) (by have h70 := split_len x h; omega)) (ko 23 rfl <| Kc 22 (.ali _) rfl <| ko 8 rfl <| kc2 6 5 rfl <| ko 4 rfl <| Kn) rfl ?_
   refine st (OpT.alias (H rfl) (by decide) (by decide)) rfl ?_
   refine st (OpT.lenO (H rfl) (Root.ali rfl (by decide) (by decide)) rfl el26) rfl ?_
   refine sg (OpT.take (.inl rfl) rfl (ok' rfl) (Root.self (by decide)) rfl rfl (by decide)) (ko 4 rfl <| kc 25 rfl <| Kc 24 (.ali _) rfl <| Kc 22 (.ali _) rfl <| ko 8 rfl <| kc2 6 5 rfl <| Kn) rfl ?_
   refine st (asT rfl) rfl ?_
   refine st (asI rfl) rfl ?_
   refine ng ?_
   refine AW.ret ?_
   exact AX.rt (rs := [.tmp 4, .tmp 5, .tmp 6]) (ts := [some 4, some 5, some 6]) (.inl rfl) rfl (ROs.cons (RO.tmp (At.self (by decide)) (Ko rfl (by first | (rw [pas_no (askd_bad h1) (by decide)]; done) | (rw [pas_no (askd_rng h1 h2) (by decide)]; done) | (rw [pas_yes ha]; first | done | rfl))) rfl) <| ROs.cons (RO.tmp (At.self (by decide)) (Kv rfl (by first | (rw [pas_no (askd_bad h1) (by decide)]; done) | (rw [pas_no (askd_rng h1 h2) (by decide)]; done) | (rw [pas_yes ha]; first | done | rfl))) rfl) <| ROs.cons (RO.tmp (At.self (by decide)) (Kv rfl (by first | (rw [pas_no (askd_bad h1) (by decide)]; done) | (rw [pas_no (askd_rng h1 h2) (by decide)]; done) | (rw [pas_yes ha]; first | done | rfl))) rfl) <| ROs.nil) (by decide) OutsOK.nil
theorem c_impl_PassNeedle (x : List DCard) (h : Int) : AC Tryz.prog 10 [.cel (Kd.slice kCard) x, .cel (Kd.int .i64) h] [.cel (Kd.slice kCard) (pasS x h).1, .cel (Kd.int .i64) (pasS x h).2.1, .cel (Kd.int .i64) (pasS x h).2.2] [] := (c_impl_PassNeedle_o x h).frz rfl

/-- impl.SplitDeck -/
theorem c_impl_SplitDeck_o (x : List DCard) (h : Int) : AC Tryz.prog 12 [.cel (Kd.slice kCard) x, .cel (Kd.int .i64) h] [.own 40 kCard (spdS x h).1, .own 40 kCard (spdS x h).2.1, .cel (Kd.int .i64) (spdS x h).2.2] [] := by
 refine acI (N := 23) Tryz.func12 (Nat.le_of_ble_eq_true rfl) rfl fun w0 hd s0 ar => ?_
 refine AW.to (kc2 0 1 rfl <| Kn) ?_
 refine sr ?_
 refine st (nilO (E := 40) kCard rfl (.inl rfl)) rfl ?_
 refine st (nilO (E := 40) kCard rfl (.inl rfl)) rfl ?_
 refine st (asI rfl) rfl ?_
 refine ng ?_
 refine AW.seq ?_
 refine sr ?_
 refine st (mvT rfl) rfl ?_
 refine st (OpT.c1 (ms := [.flat]) (c_impl_isDeck _) (H rfl) (Af (T1 rfl) rfl rfl <| An) rfl rfl) rfl ?_
 refine st (OpT.not (H rfl) (T1 rfl)) rfl ?_
 refine ng ?_
 refine cd rfl (fun hc1 => ?_) fun hc1 => ?_
 ·
  obtain ⟨hc1, hc1'⟩ := pT hc1
  have h1 : tt (deckOK x) = false := by simpa using hc1
  refine sr ?_
  refine st (nilO (E := 40) kCard rfl (.inl rfl)) rfl ?_
  refine st (nilO (E := 40) kCard rfl (.inl rfl)) rfl ?_
  refine st (asI rfl) rfl ?_
  refine ng ?_
  refine AW.ret ?_
  refine rT ?_
  exact AX.rt (rs := [.tmp 4, .tmp 5, .tmp 6]) (ts := [some 4, some 5, some 6]) (.inl rfl) rfl (ROs.cons (RO.tmp (At.self (by decide)) (Ko rfl (by first | (rw [spd_no (askd_bad h1) (by decide)]; done) | (rw [spd_no (askd_rng h1 h2) (by decide)]; done) | (rw [spd_yes ha]; first | done | rfl))) rfl) <| ROs.cons (RO.tmp (At.self (by decide)) (Ko rfl (by first | (rw [spd_no (askd_bad h1) (by decide)]; done) | (rw [spd_no (askd_rng h1 h2) (by decide)]; done) | (rw [spd_yes ha]; first | done | rfl))) rfl) <| ROs.cons (RO.tmp (At.self (by decide)) (Kv rfl (by first | (rw [spd_no (askd_bad h1) (by decide)]; done) | (rw [spd_no (askd_rng h1 h2) (by decide)]; done) | (rw [spd_yes ha]; first | done | rfl))) rfl) <| ROs.nil) (by decide) OutsOK.nil
 ·
  obtain ⟨hc1, hc1'⟩ := pF hc1
  have h1 : tt (deckOK x) = true := by simpa using hc1
  have hdl := (tt_iff.1 h1).1
  refine AW.skip ?_
  refine AX.go ?_
  refine AW.seq ?_
  refine sr ?_
  refine st (mvT rfl) rfl ?_
  refine st (OpT.c1 (ms := [.flat]) (c_impl_isHole _) (H rfl) (Af (T1 rfl) rfl rfl <| An) rfl rfl) rfl ?_
  refine st (OpT.not (H rfl) (T1 rfl)) rfl ?_
  refine ng ?_
  refine cd rfl (fun hc2 => ?_) fun hc2 => ?_
  ·
   obtain ⟨hc2, hc2'⟩ := pT hc2
   have h2 : inb h 0 95 = false := by simpa using hc2
   refine sr ?_
   refine st (nilO (E := 40) kCard rfl (.inl rfl)) rfl ?_
   refine st (nilO (E := 40) kCard rfl (.inl rfl)) rfl ?_
   refine st (asI rfl) rfl ?_
   refine ng ?_
   refine AW.ret ?_
   refine rT ?_
   exact AX.rt (rs := [.tmp 4, .tmp 5, .tmp 6]) (ts := [some 4, some 5, some 6]) (.inl rfl) rfl (ROs.cons (RO.tmp (At.self (by decide)) (Ko rfl (by first | (rw [spd_no (askd_bad h1) (by decide)]; done) | (rw [spd_no (askd_rng h1 h2) (by decide)]; done) | (rw [spd_yes ha]; first | done | rfl))) rfl) <| ROs.cons (RO.tmp (At.self (by decide)) (Ko rfl (by first | (rw [spd_no (askd_bad h1) (by decide)]; done) | (rw [spd_no (askd_rng h1 h2) (by decide)]; done) | (rw [spd_yes ha]; first | done | rfl))) rfl) <| ROs.cons (RO.tmp (At.self (by decide)) (Kv rfl (by first | (rw [spd_no (askd_bad h1) (by decide)]; done) | (rw [spd_no (askd_rng h1 h2) (by decide)]; done) | (rw [spd_yes ha]; first | done | rfl))) rfl) <| ROs.nil) (by decide) OutsOK.nil
  ·
   obtain ⟨hc2, hc2'⟩ := pF hc2
   have h2 : inb h 0 95 = true := by simpa using hc2
   have ha := askd_ok h1 h2
   have hr := (askd_zero ha).2
   refine AW.skip ?_
   refine AX.go ?_
   refine sr ?_
   refine st (mvT rfl) rfl ?_
   refine st (mvT rfl) rfl ?_
   refine s2 (OpT.c2 (ms := [.flat, .flat]) (c_impl_split_o _ _ (by omega) (by omega)) (H rfl) (Af (T1 rfl) rfl rfl <| Af (T1 rfl) rfl rfl <| An) rfl rfl rfl) rfl ?_
   refine st (OpT.alias (H rfl) (by decide) (by decide)) rfl ?_
   refine sg (OpT.extractVO (m := 10018) (H rfl) rfl rfl rfl rfl rfl rfl) (ko 19 rfl <| Kc 15 (.ali _) rfl <| ko 20018 rfl <| kc4 17 16 14 13 rfl <| kc4 12 11 10 9 rfl <| kc 6 rfl <| ko 5 rfl <| ko 4 rfl <| kc2 0 1 rfl <| Kn) rfl ?_
   refine sg (OpT.extractVO (m := 20018) (H rfl) rfl rfl rfl rfl rfl rfl) (ko 20 rfl <| ko 19 rfl <| Kc 15 (.ali _) rfl <| kc4 17 16 14 13 rfl <| kc4 12 11 10 9 rfl <| kc 6 rfl <| ko 5 rfl <| ko 4 rfl <| kc2 0 1 rfl <| Kn) rfl ?_
   refine sg (OpT.take (.inl rfl) rfl (ok' rfl) (Root.self (by decide)) rfl rfl (by decide)) (ko 7 rfl <| ko 20 rfl <| Kc 15 (.ali _) rfl <| kc4 17 16 14 13 rfl <| kc4 12 11 10 9 rfl <| kc 6 rfl <| ko 5 rfl <| ko 4 rfl <| kc2 0 1 rfl <| Kn) rfl ?_
   refine sg (OpT.take (.inl rfl) rfl (ok' rfl) (Root.self (by decide)) rfl rfl (by decide)) (ko 8 rfl <| ko 7 rfl <| Kc 15 (.ali _) rfl <| kc4 17 16 14 13 rfl <| kc4 12 11 10 9 rfl <| kc 6 rfl <| ko 5 rfl <| ko 4 rfl <| kc2 0 1 rfl <| Kn) rfl ?_
   refine AWl.to (ko 8 rfl <| ko 7 rfl <| kc 6 rfl <| ko 5 rfl <| ko 4 rfl <| Kn) ?_
   refine ng ?_
   refine sr ?_
   refine st (OpT.alias (H rfl) (by decide) (by decide)) rfl ?_
   refine st (OpT.alias (H rfl) (by decide) (by decide)) rfl ?_
   refine sg (OpT.take (.inl rfl) rfl (ok' rfl) (Root.ali rfl (by decide) (by decide)) rfl rfl (by decide)) (ko 4 rfl <| Kc 22 (.ali _) rfl <| ko 8 rfl <| kc 6 rfl <| ko 5 rfl <| Kn) rfl ?_
   refine sg (OpT.take (.inl rfl) rfl (ok' rfl) (Root.ali rfl (by decide) (by decide)) rfl rfl (by decide)) (ko 5 rfl <| ko 4 rfl <| kc 6 rfl <| Kn) rfl ?_
   refine st (asI rfl) rfl ?_
   refine ng ?_
   refine AW.ret ?_
   exact AX.rt (rs := [.tmp 4, .tmp 5, .tmp 6]) (ts := [some 4, some 5, some 6]) (.inl rfl) rfl (ROs.cons (RO.tmp (At.self (by decide)) (Ko rfl (by first | (rw [spd_no (askd_bad h1) (by decide)]; done) | (rw [spd_no (askd_rng h1 h2) (by decide)]; done) | (rw [spd_yes ha]; first | done | rfl))) rfl) <| ROs.cons (RO.tmp (At.self (by decide)) (Ko rfl (by first | (rw [spd_no (askd_bad h1) (by decide)]; done) | (rw [spd_no (askd_rng h1 h2) (by decide)]; done) | (rw [spd_yes ha]; first | done | rfl))) rfl) <| ROs.cons (RO.tmp (At.self (by decide)) (Kv rfl (by first | (rw [spd_no (askd_bad h1) (by decide)]; done) | (rw [spd_no (askd_rng h1 h2) (by decide)]; done) | (rw [spd_yes ha]; first | done | rfl))) rfl) <| ROs.nil) (by decide) OutsOK.nil
theorem c_impl_SplitDeck (x : List DCard) (h : Int) : AC Tryz.prog 12 [.cel (Kd.slice kCard) x, .cel (Kd.int .i64) h] [.cel (Kd.slice kCard) (spdS x h).1, .cel (Kd.slice kCard) (spdS x h).2.1, .cel (Kd.int .i64) (spdS x h).2.2] [] := (c_impl_SplitDeck_o x h).frz rfl

/-- spec.PassNeedle -/
theorem c_spec_PassNeedle_o (x : List DCard) (h : Int) : AC Tryz.prog 11 [.cel (Kd.slice kCard) x, .cel (Kd.int .i64) h] [.own 40 kCard (pasS x h).1, .cel (Kd.int .i64) (pasS x h).2.1, .cel (Kd.int .i64) (pasS x h).2.2] [] := by
 refine acI (N := 28) Tryz.func11 (Nat.le_of_ble_eq_true rfl) rfl fun w0 hd s0 ar => ?_
 refine AW.to (kc2 0 1 rfl <| Kn) ?_
 refine sr ?_
 refine st (nilO (E := 40) kCard rfl (.inl rfl)) rfl ?_
 refine st (asI rfl) rfl ?_
 refine st (asI rfl) rfl ?_
 refine ng ?_
 refine AW.seq ?_
 refine sr ?_
 refine st (mvT rfl) rfl ?_
 refine st (mvT rfl) rfl ?_
 refine st (OpT.c1 (ms := [.flat, .flat]) (c_spec_l02Asked _ _) (H rfl) (Af (T1 rfl) rfl rfl <| Af (T1 rfl) rfl rfl <| An) rfl rfl) rfl ?_
 refine st (asT rfl) rfl ?_
 refine ng ?_
 refine sr ?_
 refine st (mvT rfl) rfl ?_
 refine st (OpT.neq (H rfl) (T1 rfl) (I rfl)) rfl ?_
 refine ng ?_
 refine cd rfl (fun hc1 => ?_) fun hc1 => ?_
 ·
  obtain ⟨hc1, hc1'⟩ := pT hc1
  have hn : askD x h ≠ 0 := by omega
  refine sr ?_
  refine st (OpT.buildSlice0 (m := 0) (z := .bool false) kCard (H rfl) el26 sz40 (by decide)) rfl ?_
  refine st (mvT rfl) rfl ?_
  refine sg (OpT.take (.inl rfl) rfl (ok' rfl) (Root.self (by decide)) rfl rfl (by decide)) (ko 4 rfl <| kc4 16 14 13 7 rfl <| kc4 12 11 10 6 rfl <| kc3 5 0 1 rfl <| Kn) rfl ?_
  refine st (asI rfl) rfl ?_
  refine st (asT rfl) rfl ?_
  refine ng ?_
  refine AW.ret ?_
  refine rT ?_
  exact AX.rt (rs := [.tmp 4, .tmp 5, .tmp 6]) (ts := [some 4, some 5, some 6]) (.inl rfl) rfl (ROs.cons (RO.tmp (At.self (by decide)) (Ko rfl (by first | (rw [pas_no rfl hn]; done) | (rw [pas_yes ha]; first | done | rfl))) rfl) <| ROs.cons (RO.tmp (At.self (by decide)) (Kv rfl (by first | (rw [pas_no rfl hn]; done) | (rw [pas_yes ha]; first | done | rfl))) rfl) <| ROs.cons (RO.tmp (At.self (by decide)) (Kv rfl (by first | (rw [pas_no rfl hn]; done) | (rw [pas_yes ha]; first | done | rfl))) rfl) <| ROs.nil) (by decide) OutsOK.nil
 ·
  obtain ⟨hc1, hc1'⟩ := pF hc1
  have ha : askD x h = 0 := by omega
  have hr := (askd_zero ha).2
  have hdl := (askd_zero ha).1.1
  refine AW.skip ?_
  refine AX.go ?_
  refine sr ?_
  refine st (mvT rfl) rfl ?_
  refine st (mvT rfl) rfl ?_
  refine s2 (OpT.c2 (ms := [.flat, .flat]) (c_spec_l02Split_o _ _ (by omega) (by omega)) (H rfl) (Af (T1 rfl) rfl rfl <| Af (T1 rfl) rfl rfl <| An) rfl rfl rfl) rfl ?_
  refine st (OpT.alias (H rfl) (by decide) (by decide)) rfl ?_
  refine sg (OpT.extractVO (m := 10020) (H rfl) rfl rfl rfl rfl rfl rfl) (ko 21 rfl <| Kc 17 (.ali _) rfl <| ko 20020 rfl <| kc4 19 18 14 13 rfl <| kc4 7 12 11 10 rfl <| kc2 6 5 rfl <| ko 4 rfl <| kc2 0 1 rfl <| Kn) rfl ?_
  refine sg (OpT.extractVO (m := 20020) (H rfl) rfl rfl rfl rfl rfl rfl) (ko 22 rfl <| ko 21 rfl <| Kc 17 (.ali _) rfl <| kc4 19 18 14 13 rfl <| kc4 7 12 11 10 rfl <| kc2 6 5 rfl <| ko 4 rfl <| kc2 0 1 rfl <| Kn) rfl ?_
  refine sg (OpT.take (.inl rfl) rfl (ok' rfl) (Root.self (by decide)) rfl rfl (by decide)) (ko 8 rfl <| ko 22 rfl <| Kc 17 (.ali _) rfl <| kc4 19 18 14 13 rfl <| kc4 7 12 11 10 rfl <| kc2 6 5 rfl <| ko 4 rfl <| kc2 0 1 rfl <| Kn) rfl ?_
  refine sg (OpT.take (.inl rfl) rfl (ok' rfl) (Root.self (by decide)) rfl rfl (by decide)) (ko 9 rfl <| ko 8 rfl <| Kc 17 (.ali _) rfl <| kc4 19 18 14 13 rfl <| kc4 7 12 11 10 rfl <| kc2 6 5 rfl <| ko 4 rfl <| kc2 0 1 rfl <| Kn) rfl ?_
  refine AWl.to (ko 9 rfl <| ko 8 rfl <| kc2 6 5 rfl <| ko 4 rfl <| Kn) ?_
  refine ng ?_
  refine sr ?_
  refine st (OpT.alias (H rfl) (by decide) (by decide)) rfl ?_
  refine st (OpT.alias (H rfl) (by decide) (by decide)) rfl ?_
  refine sg (OpT.append (H rfl) (Root.ali rfl (by decide) (by decide)) rfl (Src.own (Root.ali rfl (by decide) (by decide)) rfl) (by decide) el26 zr40 rfl sz40 by40 (by decide) (by have h70 := split_len x h; omega)) (ko 25 rfl <| Kc 24 (.ali _) rfl <| ko 9 rfl <| kc2 6 5 rfl <| ko 4 rfl <| Kn) rfl ?_
  refine st (OpT.alias (H rfl) (by decide) (by decide)) rfl ?_
  refine st (OpT.lenO (H rfl) (Root.ali rfl (by decide) (by decide)) rfl el26) rfl ?_
  refine sg (OpT.take (.inl rfl) rfl (ok' rfl) (Root.self (by decide)) rfl rfl (by decide)) (ko 4 rfl <| kc 27 rfl <| Kc 26 (.ali _) rfl <| Kc 24 (.ali _) rfl <| ko 9 rfl <| kc2 6 5 rfl <| Kn) rfl ?_
  refine st (asT rfl) rfl ?_
  refine st (asI rfl) rfl ?_
  refine ng ?_
  refine AW.ret ?_
  exact AX.rt (rs := [.tmp 4, .tmp 5, .tmp 6]) (ts := [some 4, some 5, some 6]) (.inl rfl) rfl (ROs.cons (RO.tmp (At.self (by decide)) (Ko rfl (by first | (rw [pas_no rfl hn]; done) | (rw [pas_yes ha]; first | done | rfl))) rfl) <| ROs.cons (RO.tmp (At.self (by decide)) (Kv rfl (by first | (rw [pas_no rfl hn]; done) | (rw [pas_yes ha]; first | done | rfl))) rfl) <| ROs.cons (RO.tmp (At.self (by decide)) (Kv rfl (by first | (rw [pas_no rfl hn]; done) | (rw [pas_yes ha]; first | done | rfl))) rfl) <| ROs.nil) (by decide) OutsOK.nil
theorem c_spec_PassNeedle (x : List DCard) (h : Int) : AC Tryz.prog 11 [.cel (Kd.slice kCard) x, .cel (Kd.int .i64) h] [.cel (Kd.slice kCard) (pasS x h).1, .cel (Kd.int .i64) (pasS x h).2.1, .cel (Kd.int .i64) (pasS x h).2.2] [] := (c_spec_PassNeedle_o x h).frz rfl

/-- slices.IndexFunc[[]int64,int64] -/
theorem c_slices_IndexFunc_int64_int64 {γ : Type} {g : FuncId} {kg : Kd γ} {y : γ} {cs : List As} (q : Int → Bool) (hcs : CloArgs kg y cs) (hg : ∀ a, AC Tryz.prog g ([.cel (Kd.int .i64) a] ++ cs) [.cel Kd.bool (q a)] []) (x : List (Int)) : AC Tryz.prog 91 [.cel (Kd.slice (Kd.int .i64)) x, .clo g kg y] [.cel (Kd.int .i64) (idxQ q x)] [] := by
 refine acI (N := 19) Tryz.func91 (Nat.le_of_ble_eq_true rfl) rfl fun w0 hd s0 ar => ?_
 refine AW.to (kc 0 rfl <| Kc 1 (.clo _ _ _) rfl <| Kn) ?_
 refine AW.fact (fun a w hr => (ok_slice (R_ok (t := 0) rfl hr)).2) (fun hl0 => ?_)
 refine sr ?_
 refine st (asI rfl) rfl ?_
 refine ng ?_
 refine AW.seq ?_
 refine sr ?_
 refine st (mvT rfl) rfl ?_
 refine st (OpT.len (H rfl) (T1 rfl) el43) rfl ?_
 refine st (mvI rfl) rfl ?_
 refine ng ?_
 refine AW.block ?_
 refine AW.loop (fun z : Nat => z ≤ x.length ∧ ∀ i, i < z → nI q x i) (fun z : Nat => keep [(0, .cel (Kd.slice (Kd.int .i64)) x), (1, .clo g kg y), (7, .cel (Kd.int .i64) ((x.length : Nat) : Int)), (8, .cel (Kd.int .i64) (z : Int))]) (fun z : Nat => x.length - z) (0) ⟨Nat.zero_le _, all_none⟩ (Kc 0 _ (Kv rfl rfl) <| Kc 1 _ (rfl) <| Kc 7 _ (Kv rfl rfl) <| Kc 8 _ (Kv rfl rfl) <| Kn) ?_
 intro z hI
 refine sr ?_
 refine st (OpT.lss (H rfl) (T1 rfl) (T1 rfl)) rfl ?_
 refine ng ?_
 refine AW.seq ?_
 refine cd rfl (fun hc1 => ?_) fun hc1 => ?_
 ·
  replace hc1 := oT hc1
  obtain ⟨a, ha⟩ := getI (x := x) (z := z) (by omega)
  refine AW.skip ?_
  refine AX.go ?_
  refine AW.seq ?_
  refine AW.block ?_
  refine sr ?_
  refine st (mvT rfl) rfl ?_
  refine st (asT rfl) rfl ?_
  refine ng ?_
  refine sr ?_
  refine st (OpT.move (A := .clo _ _ _) (.inl rfl) rfl (ok' rfl) (T1 rfl) rfl) rfl ?_
  refine st (mvT rfl) rfl ?_
  refine st (mvT rfl) rfl ?_
  refine st (OpT.indexAddr (H rfl) (T1 rfl) (T1 rfl) el43 sz2 (by omega) (by assumption)) rfl ?_
  refine st (OpT.load (H rfl) (T1 rfl) ag2 rfl) rfl ?_
  refine st (OpT.vg (ms := [.flat]) (T1 rfl) hcs ((hg _)) (H rfl) (Af (T1 rfl) rfl rfl <| An) rfl rfl) rfl ?_
  refine ng ?_
  refine cd rfl (fun hc2 => ?_) fun hc2 => ?_
  ·
   replace hc2 := oT hc2
   refine sr ?_
   refine st (mvT rfl) rfl ?_
   refine st (asT rfl) rfl ?_
   refine ng ?_
   refine AW.ret ?_
   refine rK <| rT <| rT <| rK <| rT ?_
   exact rt1 rfl (.inl rfl) (by first | exact idxQ_at hI.2 ha hc2 | exact idxQ_end hI.2 (by omega))
  ·
   replace hc2 := oF hc2
   refine AW.skip ?_
   refine AX.normal_block ?_
   refine AX.go ?_
   refine AW.region ?_
   refine st (OpT.add (H rfl) (T1 rfl) (I rfl) (nw (by omega))) rfl ?_
   refine st (mvT rfl) rfl ?_
   refine nn ?_
   exact AX.again (z + 1) ⟨by omega, all_step hI.2 ((nI_iff ha).2 (by simpa using hc2))⟩ (by omega) (Kc 0 _ (Kv rfl rfl) <| Kc 1 _ (rfl) <| Kc 7 _ (Kv rfl rfl) <| Kc 8 _ (Kv rfl (by omega)) <| Kn)
 ·
  replace hc1 := oF hc1
  refine AW.exit ?_
  refine xT <| xT <| AX.exit_hit ?_
  refine AX.go ?_
  refine sr ?_
  refine st (asI rfl) rfl ?_
  refine ng ?_
  refine AW.ret ?_
  exact rt1 rfl (.inl rfl) (by first | exact idxQ_at hI.2 ha hc2 | exact idxQ_end hI.2 (by omega))

/-- slices.ContainsFunc[[]int64,int64] -/
theorem c_slices_ContainsFunc_int64_int64 {γ : Type} {g : FuncId} {kg : Kd γ} {y : γ} {cs : List As} (q : Int → Bool) (hcs : CloArgs kg y cs) (hg : ∀ a, AC Tryz.prog g ([.cel (Kd.int .i64) a] ++ cs) [.cel Kd.bool (q a)] []) (x : List (Int)) : AC Tryz.prog 49 [.cel (Kd.slice (Kd.int .i64)) x, .clo g kg y] [.cel Kd.bool (x.any q)] [] := by
 refine acI (N := 9) Tryz.func49 (Nat.le_of_ble_eq_true rfl) rfl fun w0 hd s0 ar => ?_
 refine AW.to (kc 0 rfl <| Kc 1 (.clo _ _ _) rfl <| Kn) ?_
 refine sr ?_
 refine st (asB rfl) rfl ?_
 refine ng ?_
 refine sr ?_
 refine st (mvT rfl) rfl ?_
 refine st (OpT.move (A := .clo _ _ _) (.inl rfl) rfl (ok' rfl) (T1 rfl) rfl) rfl ?_
 refine st (OpT.c1 (ms := [.flat, .flat]) (c_slices_IndexFunc_int64_int64 q hcs hg x) (H rfl) (Af (T1 rfl) rfl rfl <| Af (T1 rfl) rfl rfl <| An) rfl rfl) rfl ?_
 refine st (OpT.geq (H rfl) (T1 rfl) (I rfl)) rfl ?_
 refine st (asT rfl) rfl ?_
 refine ng ?_
 refine AW.ret ?_
 exact rt1 rfl (.inl rfl) idxQ_any

/-- impl.PassMany$1 -/
theorem c_impl_PassMany_1 (h : Int) : AC Tryz.prog 50 [.cel (Kd.int .i64) h] [.cel Kd.bool (!(inb h 0 95))] [] := by
 refine acI (N := 6) Tryz.func50 (Nat.le_of_ble_eq_true rfl) rfl fun w0 hd s0 ar => ?_
 refine AW.to (kc 0 rfl <| Kn) ?_
 refine sr ?_
 refine st (asB rfl) rfl ?_
 refine ng ?_
 refine sr ?_
 refine st (mvT rfl) rfl ?_
 refine st (OpT.c1 (ms := [.flat]) (c_impl_isHole _) (H rfl) (Af (T1 rfl) rfl rfl <| An) rfl rfl) rfl ?_
 refine st (OpT.not (H rfl) (T1 rfl)) rfl ?_
 refine st (asT rfl) rfl ?_
 refine ng ?_
 refine AW.ret ?_
 exact rt1 rfl (.inl rfl) rfl

/-- impl.PassMany -/
theorem c_impl_PassMany_o (x : List DCard) (l : List Int) : AC Tryz.prog 15 [.cel (Kd.slice kCard) x, .cel (Kd.slice (Kd.int .i64)) l] [.own 40 kCard (pmsS x l).1, .cel (Kd.int .i64) (pmsS x l).2] [] := by
 refine acI (N := 17) Tryz.func15 (Nat.le_of_ble_eq_true rfl) rfl fun w0 hd s0 ar => ?_
 refine AW.to (kc2 0 1 rfl <| Kn) ?_
 refine sr ?_
 refine st (nilO (E := 40) kCard rfl (.inl rfl)) rfl ?_
 refine st (asI rfl) rfl ?_
 refine ng ?_
 refine AW.seq ?_
 refine sr ?_
 refine st (mvT rfl) rfl ?_
 refine st (OpT.c1 (ms := [.flat]) (c_impl_isDeck _) (H rfl) (Af (T1 rfl) rfl rfl <| An) rfl rfl) rfl ?_
 refine st (OpT.not (H rfl) (T1 rfl)) rfl ?_
 refine ng ?_
 refine cd rfl (fun hc1 => ?_) fun hc1 => ?_
 ·
  obtain ⟨hc1, hc1'⟩ := pT hc1
  have h1 : tt (deckOK x) = false := by simpa using hc1
  refine sr ?_
  refine st (nilO (E := 40) kCard rfl (.inl rfl)) rfl ?_
  refine st (asI rfl) rfl ?_
  refine ng ?_
  refine AW.ret ?_
  refine rT ?_
  exact AX.rt (rs := [.tmp 4, .tmp 5]) (ts := [some 4, some 5]) (.inl rfl) rfl (ROs.cons (RO.tmp (At.self (by decide)) (Ko rfl (by first | (rw [pms_bad h1]; done) | (rw [pms_rng h1 h2]; done) | (rw [pms_long h1 h2 (by omega)]; done) | (rw [pms_yes h1 h2 (by omega)]; first | done | rfl))) rfl) <| ROs.cons (RO.tmp (At.self (by decide)) (Kv rfl (by first | (rw [pms_bad h1]; done) | (rw [pms_rng h1 h2]; done) | (rw [pms_long h1 h2 (by omega)]; done) | (rw [pms_yes h1 h2 (by omega)]; first | done | rfl))) rfl) <| ROs.nil) (by decide) OutsOK.nil
 ·
  obtain ⟨hc1, hc1'⟩ := pF hc1
  have h1 : tt (deckOK x) = true := by simpa using hc1
  have hdl := (tt_iff.1 h1).1
  refine AW.skip ?_
  refine AX.go ?_
  refine AW.seq ?_
  refine sr ?_
  refine st (mvT rfl) rfl ?_
  refine st (OpT.c1 (ms := [.flat, .flat]) (c_slices_ContainsFunc_int64_int64 (fun h => !(inb h 0 95)) CloArgs.unit (fun h => c_impl_PassMany_1 h) _) (H rfl) (Af (T1 rfl) rfl rfl <| Af Opd.func rfl rfl <| An) rfl rfl) rfl ?_
  refine ng ?_
  refine cd rfl (fun hc2 => ?_) fun hc2 => ?_
  ·
   obtain ⟨hc2, hc2'⟩ := pT hc2
   have h2 := hc2
   refine sr ?_
   refine st (nilO (E := 40) kCard rfl (.inl rfl)) rfl ?_
   refine st (asI rfl) rfl ?_
   refine ng ?_
   refine AW.ret ?_
   refine rT ?_
   exact AX.rt (rs := [.tmp 4, .tmp 5]) (ts := [some 4, some 5]) (.inl rfl) rfl (ROs.cons (RO.tmp (At.self (by decide)) (Ko rfl (by first | (rw [pms_bad h1]; done) | (rw [pms_rng h1 h2]; done) | (rw [pms_long h1 h2 (by omega)]; done) | (rw [pms_yes h1 h2 (by omega)]; first | done | rfl))) rfl) <| ROs.cons (RO.tmp (At.self (by decide)) (Kv rfl (by first | (rw [pms_bad h1]; done) | (rw [pms_rng h1 h2]; done) | (rw [pms_long h1 h2 (by omega)]; done) | (rw [pms_yes h1 h2 (by omega)]; first | done | rfl))) rfl) <| ROs.nil) (by decide) OutsOK.nil
  ·
   obtain ⟨hc2, hc2'⟩ := pF hc2
   have h2 := hc2
   refine AW.skip ?_
   refine AX.go ?_
   refine AW.seq ?_
   refine sr ?_
   refine st (mvT rfl) rfl ?_
   refine st (OpT.len (H rfl) (T1 rfl) el43) rfl ?_
   refine st (OpT.gtr (H rfl) (T1 rfl) (I rfl)) rfl ?_
   refine ng ?_
   refine cd rfl (fun hc3 => ?_) fun hc3 => ?_
   ·
    obtain ⟨hc3, hc3'⟩ := pT hc3
    refine sr ?_
    refine st (nilO (E := 40) kCard rfl (.inl rfl)) rfl ?_
    refine st (asI rfl) rfl ?_
    refine ng ?_
    refine AW.ret ?_
    refine rT ?_
    exact AX.rt (rs := [.tmp 4, .tmp 5]) (ts := [some 4, some 5]) (.inl rfl) rfl (ROs.cons (RO.tmp (At.self (by decide)) (Ko rfl (by first | (rw [pms_bad h1]; done) | (rw [pms_rng h1 h2]; done) | (rw [pms_long h1 h2 (by omega)]; done) | (rw [pms_yes h1 h2 (by omega)]; first | done | rfl))) rfl) <| ROs.cons (RO.tmp (At.self (by decide)) (Kv rfl (by first | (rw [pms_bad h1]; done) | (rw [pms_rng h1 h2]; done) | (rw [pms_long h1 h2 (by omega)]; done) | (rw [pms_yes h1 h2 (by omega)]; first | done | rfl))) rfl) <| ROs.nil) (by decide) OutsOK.nil
   ·
    obtain ⟨hc3, hc3'⟩ := pF hc3
    refine AW.skip ?_
    refine AX.go ?_
    refine sr ?_
    refine st (mvT rfl) rfl ?_
    refine st (mvT rfl) rfl ?_
    refine st (OpT.c1 (ms := [.flat, .flat]) (c_impl_passMany_o _ _ (any_in h2) (by omega)) (H rfl) (Af (T1 rfl) rfl rfl <| Af (T1 rfl) rfl rfl <| An) rfl rfl) rfl ?_
    refine sg (OpT.take (.inl rfl) rfl (ok' rfl) (Root.self (by decide)) rfl rfl (by decide)) (ko 4 rfl <| kc4 15 14 13 12 rfl <| kc4 11 10 9 8 rfl <| kc4 7 6 5 0 rfl <| kc 1 rfl <| Kn) rfl ?_
    refine st (asI rfl) rfl ?_
    refine AWl.to (kc 5 rfl <| ko 4 rfl <| Kn) ?_
    refine ng ?_
    refine AW.ret ?_
    exact AX.rt (rs := [.tmp 4, .tmp 5]) (ts := [some 4, some 5]) (.inl rfl) rfl (ROs.cons (RO.tmp (At.self (by decide)) (Ko rfl (by first | (rw [pms_bad h1]; done) | (rw [pms_rng h1 h2]; done) | (rw [pms_long h1 h2 (by omega)]; done) | (rw [pms_yes h1 h2 (by omega)]; first | done | rfl))) rfl) <| ROs.cons (RO.tmp (At.self (by decide)) (Kv rfl (by first | (rw [pms_bad h1]; done) | (rw [pms_rng h1 h2]; done) | (rw [pms_long h1 h2 (by omega)]; done) | (rw [pms_yes h1 h2 (by omega)]; first | done | rfl))) rfl) <| ROs.nil) (by decide) OutsOK.nil
theorem c_impl_PassMany (x : List DCard) (l : List Int) : AC Tryz.prog 15 [.cel (Kd.slice kCard) x, .cel (Kd.slice (Kd.int .i64)) l] [.cel (Kd.slice kCard) (pmsS x l).1, .cel (Kd.int .i64) (pmsS x l).2] [] := (c_impl_PassMany_o x l).frz rfl
end Go.Proofs.YtmmjcpiikdcldaaGreatDoor.VL
