/- Proved here: what some functions of the program take and give: walks with the words of VA..VQ. Printed by program. -/
import Derived.Test.YtlhfmcbmlmhgaaaGreatDoorWT
import Derived.Test.YtlhfmcbmlmhgaaaGreatDoorPZK
import Derived.Test.YtlhfmcbmlmhgaaaGreatDoorWC
import Derived.Test.YtlhfmcbmlmhgaaaGreatDoorWPA
import Derived.Test.YtlhfmcbmlmhgaaaGreatDoorWL
import Derived.Test.YtlhfmcbmlmhgaaaGreatDoorWP
import Derived.Test.YtlhfmcbmlmhgaaaGreatDoorWV
import Derived.Test.YtlhfmcbmlmhgaaaGreatDoorWB
import Derived.Test.YtlhfmcbmlmhgaaaGreatDoorWK
set_option linter.unusedVariables false
set_option linter.unusedSimpArgs false
set_option maxRecDepth 4000
namespace Go.Proofs.YtlhfmcbmlmhgaaaGreatDoor.VL
open Go
theorem c_encS (f : DField) (v : Int) (hok : fieldOK f) (hv : 0 ≤ v ∧ v ≤ topF f) : AC Tryz.prog 31 [.agg kField f, .cel (Kd.int .i64) v] [.agg kMask (codeF f v)] [] := by
 have h := c_impl_Field_encode f v.toNat hok (by omega)
 rwa [Int.toNat_of_nonneg hv.1] at h

theorem c_impl_isSorted_1 (a b : DCard) (f : DField) (hok : fieldOK f) : AC Tryz.prog 99 [.agg kCard a, .agg kCard b, .cel (Kd.ptr kField) f] [.cel (Kd.int .i64) (cmpI (keyF f a.2) (keyF f b.2))] [] := by
 refine acI (N := 15) Tryz.func99 (Nat.le_of_ble_eq_true rfl) rfl fun w0 hd s0 ar => ?_
 refine AW.to (ka 0 rfl <| ka 1 rfl <| kc 2 rfl <| Kn) ?_
 refine sr ?_
 refine st (OpT.frz (OpT.boxA (E := 33) (H rfl) (T1 rfl))) rfl ?_
 refine st (OpT.frz (OpT.boxA (E := 33) (H rfl) (T1 rfl))) rfl ?_
 refine st (asI rfl) rfl ?_
 refine AWl.to (kc4 5 4 3 2 rfl <| Kn) ?_
 refine ng ?_
 refine AW.seq ?_
 refine dh fomo ?_
 refine d1 [2] (fun ve h => OpT.loadA (H rfl) (D1 h rfl) ag28 sz28) rfl ?_
 refine d1 [3] (fun ve h => OpT.fieldAddr (H rfl) (D1 h rfl) fd33_1 sz31 (by decide) sb33_1) rfl ?_
 refine d1 [7] (fun ve h => OpT.loadA (H rfl) (D1 h rfl) ag31 sz31) rfl ?_
 refine d1 [6, 8] (fun ve h => OpT.c1 (ms := [.flat, .flat]) (c_impl_Field_key _ _ hok) (H rfl) (Af (D1 h rfl) rfl rfl <| Af (D1 h rfl) rfl rfl <| An) rfl rfl) rfl ?_
 refine d1 [2] (fun ve h => OpT.loadA (H rfl) (D1 h rfl) ag28 sz28) rfl ?_
 refine d1 [4] (fun ve h => OpT.fieldAddr (H rfl) (D1 h rfl) fd33_1 sz31 (by decide) sb33_1) rfl ?_
 refine d1 [11] (fun ve h => OpT.loadA (H rfl) (D1 h rfl) ag31 sz31) rfl ?_
 refine d1 [10, 12] (fun ve h => OpT.c1 (ms := [.flat, .flat]) (c_impl_Field_key _ _ hok) (H rfl) (Af (D1 h rfl) rfl rfl <| Af (D1 h rfl) rfl rfl <| An) rfl rfl) rfl ?_
 refine d1 [9, 13] (fun ve h => OpT.c1 (ms := [.flat, .flat]) (c_cmp_Compare_int64 _ _) (H rfl) (Af (D1 h rfl) rfl rfl <| Af (D1 h rfl) rfl rfl <| An) rfl rfl) rfl ?_
 refine d1 [14] (fun ve h => OpT.move (A := .cel _ _) (.inr rfl) rfl (ok' rfl) (D1 h rfl) rfl) rfl ?_
 refine dn ⟨by kernel_rfl, by kernel_rfl, ?_⟩
 refine AX.pr (kc 5 rfl <| Kn) ?_
 refine AX.go ?_
 refine AW.ret ?_
 exact rt1 rfl (.inl rfl) rfl

theorem c_slices_IsSortedFunc_impl_Card_impl_Card {γ : Type} {g : FuncId} {kg : Kd γ} {y : γ} {cs : List As} (q : DCard → DCard → Int) (hcs : CloArgs kg y cs) (hg : ∀ a b, AC Tryz.prog g ([.agg kCard a, .agg kCard b] ++ cs) [.cel (Kd.int .i64) (q a b)] []) (x : List DCard) : AC Tryz.prog 98 [.cel (Kd.slice kCard) x, .clo g kg y] [.cel Kd.bool (tt (∀ i, i + 1 < x.length → oqI q x i))] [] := by
 refine acI (N := 25) Tryz.func98 (Nat.le_of_ble_eq_true rfl) rfl fun w0 hd s0 ar => ?_
 refine AW.to (kc 0 rfl <| Kc 1 (.clo _ _ _) rfl <| Kn) ?_
 refine AW.fact (fun a w hr => (ok_slice (R_ok (t := 0) rfl hr)).2) (fun hl0 => ?_)
 refine sr ?_
 refine st (asB rfl) rfl ?_
 refine ng ?_
 refine AW.seq ?_
 refine sr ?_
 refine st (mvT rfl) rfl ?_
 refine st (OpT.len (H rfl) (T1 rfl) el24) rfl ?_
 refine st (OpT.sub (H rfl) (T1 rfl) (I rfl) (nw (by omega))) rfl ?_
 refine st (asT rfl) rfl ?_
 refine ng ?_
 refine AW.block ?_
 refine AW.loop (fun z : Nat => z ≤ x.length ∧ ∀ i, x.length ≤ i + 1 + z → i + 1 < x.length → oqI q x i) (fun z : Nat => keep [(0, .cel (Kd.slice kCard) x), (1, .clo g kg y), (5, .cel (Kd.int .i64) ((x.length : Int) - 1 - (z : Int)))]) (fun z : Nat => x.length - z) (0) ⟨Nat.zero_le _, fun i h1 h2 => by omega⟩ (Kc 0 _ (Kv rfl rfl) <| Kc 1 _ (rfl) <| Kc 5 _ (Kv rfl (by omega)) <| Kn) ?_
 intro z hI
 refine AW.seq ?_
 refine sr ?_
 refine st (mvT rfl) rfl ?_
 refine st (OpT.gtr (H rfl) (T1 rfl) (I rfl)) rfl ?_
 refine ng ?_
 refine cd rfl (fun hc1 => ?_) fun hc1 => ?_
 ·
  obtain ⟨hc1, hc1'⟩ := pT hc1
  obtain ⟨a, b, ha, hb, hoq⟩ := oq_get (x := x) (z := z) (by omega)
  refine AW.skip ?_
  refine AX.go ?_
  refine AW.seq ?_
  refine AW.block ?_
  refine AW.seq ?_
  refine dh fomo ?_
  refine d1 [1] (fun ve h => OpT.move (A := .clo _ _ _) (.inl rfl) rfl (ok' rfl) (D1 h rfl) rfl) rfl ?_
  refine d1 [0] (fun ve h => OpT.move (A := .cel _ _) (.inl rfl) rfl (ok' rfl) (D1 h rfl) rfl) rfl ?_
  refine d1 [5] (fun ve h => OpT.move (A := .cel _ _) (.inl rfl) rfl (ok' rfl) (D1 h rfl) rfl) rfl ?_
  refine d1 [14, 15] (fun ve h => OpT.indexAddr (H rfl) (D1 h rfl) (D1 h rfl) el24 sz33 (by omega) hb) rfl ?_
  refine d1 [16] (fun ve h => OpT.loadA (H rfl) (D1 h rfl) ag33 sz33) rfl ?_
  refine d1 [0] (fun ve h => OpT.move (A := .cel _ _) (.inl rfl) rfl (ok' rfl) (D1 h rfl) rfl) rfl ?_
  refine d1 [5] (fun ve h => OpT.move (A := .cel _ _) (.inl rfl) rfl (ok' rfl) (D1 h rfl) rfl) rfl ?_
  refine d1 [19] (fun ve h => OpT.sub (H rfl) (D1 h rfl) (I rfl) (nw (by omega))) rfl ?_
  refine d1 [18, 20] (fun ve h => OpT.indexAddr (H rfl) (D1 h rfl) (D1 h rfl) el24 sz33 (by omega) ha) rfl ?_
  refine d1 [21] (fun ve h => OpT.loadA (H rfl) (D1 h rfl) ag33 sz33) rfl ?_
  refine d1 [13, 17, 22] (fun ve h => OpT.vg (ms := [.flat, .flat]) (D1 h rfl) hcs ((hg _ _)) (H rfl) (Af (D1 h rfl) rfl rfl <| Af (D1 h rfl) rfl rfl <| An) rfl rfl) rfl ?_
  refine d1 [23] (fun ve h => OpT.lss (H rfl) (D1 h rfl) (I rfl)) rfl ?_
  refine dn ⟨by kernel_rfl, by kernel_rfl, ?_⟩
  refine AX.go ?_
  refine cd rfl (fun hc2 => ?_) fun hc2 => ?_
  ·
   obtain ⟨hc2, hc2'⟩ := pT hc2
   have hno : ¬ oqI q x (x.length - 2 - z) := fun h9 => (hoq q).1 h9 (by omega)
   refine sr ?_
   refine st (asB rfl) rfl ?_
   refine ng ?_
   refine AW.ret ?_
   refine rK <| rT <| rT <| rK <| rT ?_
   exact rt1 rfl (.inl rfl) (by first | exact tt_no (fun h9 => hno (h9 _ (by omega))) | exact tt_yes (fun i h2 => hI.2 i (by omega) h2))
  ·
   obtain ⟨hc2, hc2'⟩ := pF hc2
   have hyo : oqI q x (x.length - 2 - z) := (hoq q).2 (by omega)
   refine AW.skip ?_
   refine AX.normal_block ?_
   refine AX.go ?_
   refine AW.region ?_
   refine st (mvT rfl) rfl ?_
   refine st (OpT.sub (H rfl) (T1 rfl) (I rfl) (nw (by omega))) rfl ?_
   refine st (asT rfl) rfl ?_
   refine nn ?_
   exact AX.again (z + 1) ⟨by omega, fun i h1 h2 => by by_cases h3 : x.length ≤ i + 1 + z; exact hI.2 i h3 h2; rw [show i = x.length - 2 - z by omega]; exact hyo⟩ (by omega) (Kc 0 _ (Kv rfl rfl) <| Kc 1 _ (rfl) <| Kc 5 _ (Kv rfl (by omega)) <| Kn)
 ·
  obtain ⟨hc1, hc1'⟩ := pF hc1
  refine AW.exit ?_
  refine xT <| xT <| AX.exit_hit ?_
  refine AX.go ?_
  refine sr ?_
  refine st (asB rfl) rfl ?_
  refine ng ?_
  refine AW.ret ?_
  exact rt1 rfl (.inl rfl) (by first | exact tt_no (fun h9 => hno (h9 _ (by omega))) | exact tt_yes (fun i h2 => hI.2 i (by omega) h2))

theorem c_impl_isSorted (x : List DCard) (f : DField) (hok : fieldOK f) : AC Tryz.prog 50 [.cel (Kd.slice kCard) x, .agg kField f] [.cel Kd.bool (tt (ordA f x))] [] := by
 refine acI (N := 8) Tryz.func50 (Nat.le_of_ble_eq_true rfl) rfl fun w0 hd s0 ar => ?_
 refine AW.to (kc 0 rfl <| ka 1 rfl <| Kn) ?_
 refine sr ?_
 refine st (OpT.frz (OpT.boxA (E := 28) (H rfl) (T1 rfl))) rfl ?_
 refine st (asB rfl) rfl ?_
 refine ng ?_
 refine sr ?_
 refine st (mvT rfl) rfl ?_
 refine st (OpT.mkF1 (H rfl) (T1 rfl)) rfl ?_
 refine st (OpT.c1 (ms := [.flat, .flat]) (c_slices_IsSortedFunc_impl_Card_impl_Card (fun a b => cmpI (keyF f a.2) (keyF f b.2)) (CloArgs.ptr _ _) (fun a b => c_impl_isSorted_1 a b f hok) _) (H rfl) (Af (T1 rfl) rfl rfl <| Af (T1 rfl) rfl rfl <| An) rfl rfl) rfl ?_
 refine st (asT rfl) rfl ?_
 refine ng ?_
 refine AW.ret ?_
 exact rt1 rfl (.inl rfl) (ord_same fun a b => cmp_neg _ _)

theorem c_impl_IsSorted (x : List DCard) (f : DField) : AC Tryz.prog 11 [.cel (Kd.slice kCard) x, .agg kField f] [.cel Kd.bool (isoS x f).1, .cel (Kd.int .i64) (isoS x f).2] [] := by
 refine acI (N := 17) Tryz.func11 (Nat.le_of_ble_eq_true rfl) rfl fun w0 hd s0 ar => ?_
 refine AW.to (kc 0 rfl <| ka 1 rfl <| Kn) ?_
 refine sr ?_
 refine st (OpT.frz (OpT.boxA (E := 28) (H rfl) (T1 rfl))) rfl ?_
 refine st (asB rfl) rfl ?_
 refine st (asI rfl) rfl ?_
 refine ng ?_
 refine AW.seq ?_
 refine sr ?_
 refine st (mvT rfl) rfl ?_
 refine st (OpT.c1 (ms := [.flat]) (c_impl_isDeck _) (H rfl) (Af (T1 rfl) rfl rfl <| An) rfl rfl) rfl ?_
 refine st (OpT.not (H rfl) (T1 rfl)) rfl ?_
 refine st (mvT rfl) rfl ?_
 apply AWl.or (d := 13) (t := 9) rfl
 ·
  intro hb1 Q1 k1
  have hb1' := lF hb1
  refine rs hb1 (OpT.loadA (H rfl) (T1 rfl) ag28 sz28) rfl ?_
  refine rs hb1 (OpT.c1 (ms := [.flat]) (c_impl_isField _) (H rfl) (Af (T1 rfl) rfl rfl <| An) rfl rfl) rfl ?_
  refine rs hb1 (OpT.not (H rfl) (T1 rfl)) rfl ?_
  refine st (OpT.pickF (A := .cel _ _) (H rfl) (T1 rfl) hb1 (T1 rfl) rfl) rfl ?_
  exact AWl.to (junk 3 rfl) k1
 ·
  intro hb1 Q1 k1
  refine ps hb1 rfl ?_
  refine ps hb1 rfl ?_
  refine ps hb1 rfl ?_
  refine st (OpT.pickT (A := .cel _ _) (H rfl) (T1 rfl) hb1 Opd.bool rfl) rfl ?_
  exact k1
 refine ng ?_
 refine cd rfl (fun hc1 => ?_) fun hc1 => ?_
 ·
  obtain ⟨hc1, hc1'⟩ := pT hc1
  refine sr ?_
  refine st (asB rfl) rfl ?_
  refine st (asI rfl) rfl ?_
  refine ng ?_
  refine AW.ret ?_
  refine rT ?_
  exact rt2 rfl (.inl rfl) (by first | (rw [isoS_no hc1]; done) | (rw [isoS_yes hc1]; done)) (by first | (rw [isoS_no hc1]; done) | (rw [isoS_yes hc1]; done))
 ·
  obtain ⟨hc1, hc1'⟩ := pF hc1
  have hdf := df_ok hc1
  have hxl := hdf.1.1
  refine AW.skip ?_
  refine AX.go ?_
  refine sr ?_
  refine st (mvT rfl) rfl ?_
  refine st (OpT.loadA (H rfl) (T1 rfl) ag28 sz28) rfl ?_
  refine st (OpT.c1 (ms := [.flat, .flat]) (c_impl_isSorted _ _ hdf.2) (H rfl) (Af (T1 rfl) rfl rfl <| Af (T1 rfl) rfl rfl <| An) rfl rfl) rfl ?_
  refine st (asT rfl) rfl ?_
  refine st (asI rfl) rfl ?_
  refine AWl.to (kc2 5 4 rfl <| Kn) ?_
  refine ng ?_
  refine AW.ret ?_
  exact rt2 rfl (.inl rfl) (by first | (rw [isoS_no hc1]; done) | (rw [isoS_yes hc1]; done)) (by first | (rw [isoS_no hc1]; done) | (rw [isoS_yes hc1]; done))

theorem c_impl_FindCard (x : List DCard) (s : ByteArray) : AC Tryz.prog 14 [.cel (Kd.slice kCard) x, .cel Kd.str s] [.cel (Kd.int .i64) (findS x s).1, .cel (Kd.int .i64) (findS x s).2] [] := by
 refine acI (N := 24) Tryz.func14 (Nat.le_of_ble_eq_true rfl) rfl fun w0 hd s0 ar => ?_
 refine AW.to (kc2 0 1 rfl <| Kn) ?_
 refine AW.fact (fun a w hr => (ok_slice (R_ok (t := 0) rfl hr)).2) (fun hl0 => ?_)
 refine sr ?_
 refine st (asI rfl) rfl ?_
 refine st (asI rfl) rfl ?_
 refine ng ?_
 refine AW.seq ?_
 refine sr ?_
 refine st (mvT rfl) rfl ?_
 refine st (OpT.c1 (ms := [.flat]) (c_impl_isDeck _) (H rfl) (Af (T1 rfl) rfl rfl <| An) rfl rfl) rfl ?_
 refine st (OpT.not (H rfl) (T1 rfl)) rfl ?_
 refine ng ?_
 refine cd rfl (fun hc1 => ?_) fun hc1 => ?_
 ·
  obtain ⟨hc1, hc1'⟩ := pT hc1
  have hdk : tt (deckOK x) = false := by simpa using hc1
  refine sr ?_
  refine st (asI rfl) rfl ?_
  refine st (asI rfl) rfl ?_
  refine ng ?_
  refine AW.ret ?_
  refine rT ?_
  exact rt2 rfl (.inl rfl) (by first | (rw [findS_bad hdk]; done) | (rw [findS_no hdk (by omega)]; done) | (rw [findS_yes hdk (by omega), ← hfi]; done)) (by first | (rw [findS_bad hdk]; done) | (rw [findS_no hdk (by omega)]; done) | (rw [findS_yes hdk (by omega), ← hfi]; done))
 ·
  obtain ⟨hc1, hc1'⟩ := pF hc1
  have hdk : tt (deckOK x) = true := by simpa using hc1
  refine AW.skip ?_
  refine AX.go ?_
  refine AW.seq ?_
  refine sr ?_
  refine st (mvT rfl) rfl ?_
  refine st (OpT.len (H rfl) (T1 rfl) el24) rfl ?_
  refine st (mvI rfl) rfl ?_
  refine ng ?_
  refine AW.block ?_
  refine AW.loop (fun z : Nat => z ≤ x.length ∧ ∀ i, i < z → nI (fun b => eqv b.1 s) x i) (fun z : Nat => keep [(1, .cel Kd.str s), (11, .cel (Kd.slice kCard) x), (12, .cel (Kd.int .i64) (x.length : Int)), (13, .cel (Kd.int .i64) (z : Int))]) (fun z : Nat => x.length - z) (0) ⟨Nat.zero_le _, all_none⟩ (Kc 1 _ (Kv rfl rfl) <| Kc 11 _ (Kv rfl rfl) <| Kc 12 _ (Kv rfl rfl) <| Kc 13 _ (Kv rfl rfl) <| Kn) ?_
  intro z hI
  refine sr ?_
  refine st (OpT.lss (H rfl) (T1 rfl) (T1 rfl)) rfl ?_
  refine ng ?_
  refine AW.seq ?_
  refine cd rfl (fun hc2 => ?_) fun hc2 => ?_
  ·
   obtain ⟨hc2, hc2'⟩ := pT hc2
   obtain ⟨a, ha⟩ := getI (x := x) (z := z) (by omega)
   refine AW.skip ?_
   refine AX.go ?_
   refine AW.seq ?_
   refine AW.block ?_
   refine sr ?_
   refine st (mvT rfl) rfl ?_
   refine st (OpT.indexAddr (H rfl) (T1 rfl) (T1 rfl) el24 sz33 (by omega) (by assumption)) rfl ?_
   refine st (OpT.loadA (H rfl) (T1 rfl) ag33 sz33) rfl ?_
   refine st (OpT.alloc (H rfl) zr33 zk33) rfl ?_
   refine st (asT rfl) rfl ?_
   refine sk (OpT.storeBA rfl rfl (Opd.whole (Root.self (t := 7) (by decide)) rfl) rfl sz33 (by decide) (T1 rfl)) rfl ?_
   refine ng ?_
   refine sr ?_
   refine st (OpT.fieldAddrB (H rfl) (Root.self (t := 7) (by decide)) rfl (by decide) fd33_0 sz9 (by decide) sb33_0) rfl ?_
   refine st (OpT.loadP (H rfl) (T1 rfl) (.inl ⟨_, rfl, rfl⟩) ag9 rfl) rfl ?_
   refine st (mvT rfl) rfl ?_
   refine st (OpT.seqv (H rfl) (T1 rfl) (T1 rfl)) rfl ?_
   refine ng ?_
   refine cd rfl (fun hc3 => ?_) fun hc3 => ?_
   ·
    obtain ⟨hc3, hc3'⟩ := pT hc3
    have hfi : ((z : Nat) : Int) = findC s x := idxQ_at hI.2 ha (by simpa using hc3)
    refine sr ?_
    refine st (mvT rfl) rfl ?_
    refine st (asT rfl) rfl ?_
    refine st (asI rfl) rfl ?_
    refine ng ?_
    refine AW.ret ?_
    refine rK <| rT <| rT <| rK <| rT ?_
    exact rt2 rfl (.inl rfl) (by first | (rw [findS_bad hdk]; done) | (rw [findS_no hdk (by omega)]; done) | (rw [findS_yes hdk (by omega), ← hfi]; done)) (by first | (rw [findS_bad hdk]; done) | (rw [findS_no hdk (by omega)]; done) | (rw [findS_yes hdk (by omega), ← hfi]; done))
   ·
    obtain ⟨hc3, hc3'⟩ := pF hc3
    have hne : eqv a.1 s = false := by simpa using hc3
    refine AW.skip ?_
    refine AX.normal_block ?_
    refine AX.go ?_
    refine AW.region ?_
    refine st (OpT.add (H rfl) (T1 rfl) (I rfl) (nw (by omega))) rfl ?_
    refine st (mvT rfl) rfl ?_
    refine nn ?_
    exact AX.again (z + 1) ⟨by omega, all_step hI.2 ((nI_iff ha).2 hne)⟩ (by omega) (Kc 1 _ (Kv rfl rfl) <| Kc 11 _ (Kv rfl rfl) <| Kc 12 _ (Kv rfl rfl) <| Kc 13 _ (Kv rfl (by omega)) <| Kn)
  ·
   obtain ⟨hc2, hc2'⟩ := pF hc2
   have hfi : -1 = findC s x := idxQ_end hI.2 (by omega)
   refine AW.exit ?_
   refine xT <| xT <| AX.exit_hit ?_
   refine AX.go ?_
   refine sr ?_
   refine st (asI rfl) rfl ?_
   refine st (asI rfl) rfl ?_
   refine ng ?_
   refine AW.ret ?_
   exact rt2 rfl (.inl rfl) (by first | (rw [findS_bad hdk]; done) | (rw [findS_no hdk (by omega)]; done) | (rw [findS_yes hdk (by omega), ← hfi]; done)) (by first | (rw [findS_bad hdk]; done) | (rw [findS_no hdk (by omega)]; done) | (rw [findS_yes hdk (by omega), ← hfi]; done))

theorem c_impl_EncodeField (f : DField) (v : Int) : AC Tryz.prog 56 [.agg kField f, .cel (Kd.int .i64) v] [.agg kMask (encS f v).1, .cel (Kd.int .i64) (encS f v).2] [] := by
 refine acI (N := 22) Tryz.func56 (Nat.le_of_ble_eq_true rfl) rfl fun w0 hd s0 ar => ?_
 refine AW.to (ka 0 rfl <| kc 1 rfl <| Kn) ?_
 refine sr ?_
 refine st (OpT.frz (OpT.boxA (E := 28) (H rfl) (T1 rfl))) rfl ?_
 refine st (OpT.alloc (H rfl) zr31 zk31) rfl ?_
 refine st (asI rfl) rfl ?_
 refine ng ?_
 refine AW.seq ?_
 refine sr ?_
 refine st (OpT.loadA (H rfl) (T1 rfl) ag28 sz28) rfl ?_
 refine st (OpT.c1 (ms := [.flat]) (c_impl_isField _) (H rfl) (Af (T1 rfl) rfl rfl <| An) rfl rfl) rfl ?_
 refine st (OpT.not (H rfl) (T1 rfl)) rfl ?_
 refine ng ?_
 refine cd rfl (fun hc1 => ?_) fun hc1 => ?_
 ·
  obtain ⟨hc1, hc1'⟩ := pT hc1
  have hfk : tt (fieldOK f) = false := by simpa using hc1
  refine sr ?_
  refine st (OpT.buildA (H rfl) ar31 sz29 zr31 zk31 (Built.nil _)) rfl ?_
  refine sk (OpT.storeBA rfl rfl (Opd.whole (Root.self (t := 4) (by decide)) rfl) rfl sz31 (by decide) (T1 rfl)) rfl ?_
  refine st (asI rfl) rfl ?_
  refine ng ?_
  refine AW.ret ?_
  refine rT ?_
  exact AX.rt (rs := [.cell 4 31, .tmp 5]) (ts := [none, some 5]) (.inl rfl) rfl (ROs.cons (RO.cellA (by decide) (Kb rfl (by first | (rw [encS_bad hfk]; first | done | rfl) | (rw [encS_no hfk hin]; first | done | rfl) | (rw [encS_yes hfk hin]; first | done | rfl))) ag31 sz31) <| ROs.cons (RO.tmp (At.self (by decide)) (Kv rfl (by first | (rw [encS_bad hfk]; first | done | rfl) | (rw [encS_no hfk hin]; first | done | rfl) | (rw [encS_yes hfk hin]; first | done | rfl))) rfl) <| ROs.nil) (by decide) OutsOK.nil
 ·
  obtain ⟨hc1, hc1'⟩ := pF hc1
  have hfk : tt (fieldOK f) = true := by simpa using hc1
  have hok := tt_iff.1 hfk
  refine AW.skip ?_
  refine AX.go ?_
  refine AW.seq ?_
  refine sr ?_
  refine st (mvT rfl) rfl ?_
  refine st (OpT.lss (H rfl) (T1 rfl) (I rfl)) rfl ?_
  refine st (mvT rfl) rfl ?_
  apply AWl.or (d := 17) (t := 12) rfl
  ·
   intro hb1 Q1 k1
   have hb1' := lF hb1
   refine rs hb1 (mvT rfl) rfl ?_
   refine rs hb1 (OpT.loadA (H rfl) (T1 rfl) ag28 sz28) rfl ?_
   refine rs hb1 (OpT.c1 (ms := [.flat]) (c_impl_Field_most _ hok) (H rfl) (Af (T1 rfl) rfl rfl <| An) rfl rfl) rfl ?_
   refine rs hb1 (OpT.gtr (H rfl) (T1 rfl) (T1 rfl)) rfl ?_
   refine st (OpT.pickF (A := .cel _ _) (H rfl) (T1 rfl) hb1 (T1 rfl) rfl) rfl ?_
   exact AWl.to (junk 4 rfl) k1
  ·
   intro hb1 Q1 k1
   refine ps hb1 rfl ?_
   refine ps hb1 rfl ?_
   refine ps hb1 rfl ?_
   refine ps hb1 rfl ?_
   refine st (OpT.pickT (A := .cel _ _) (H rfl) (T1 rfl) hb1 Opd.bool rfl) rfl ?_
   exact k1
  refine ng ?_
  refine cd rfl (fun hc2 => ?_) fun hc2 => ?_
  ·
   obtain ⟨hc2, hc2'⟩ := pT hc2
   have hin : inb v 0 (topF f) = false := by (rw [inb, Bool.and_eq_false_iff, decide_eq_false_iff_not, decide_eq_false_iff_not]; (try simp at hc2); omega)
   refine sr ?_
   refine st (OpT.buildA (H rfl) ar31 sz29 zr31 zk31 (Built.nil _)) rfl ?_
   refine sk (OpT.storeBA rfl rfl (Opd.whole (Root.self (t := 4) (by decide)) rfl) rfl sz31 (by decide) (T1 rfl)) rfl ?_
   refine st (asI rfl) rfl ?_
   refine AWl.to (kc 5 rfl <| kb 4 rfl <| kc2 2 1 rfl <| Kn) ?_
   refine ng ?_
   refine AW.ret ?_
   refine rT ?_
   exact AX.rt (rs := [.cell 4 31, .tmp 5]) (ts := [none, some 5]) (.inl rfl) rfl (ROs.cons (RO.cellA (by decide) (Kb rfl (by first | (rw [encS_bad hfk]; first | done | rfl) | (rw [encS_no hfk hin]; first | done | rfl) | (rw [encS_yes hfk hin]; first | done | rfl))) ag31 sz31) <| ROs.cons (RO.tmp (At.self (by decide)) (Kv rfl (by first | (rw [encS_bad hfk]; first | done | rfl) | (rw [encS_no hfk hin]; first | done | rfl) | (rw [encS_yes hfk hin]; first | done | rfl))) rfl) <| ROs.nil) (by decide) OutsOK.nil
  ·
   obtain ⟨hc2, hc2'⟩ := pF hc2
   have hir : 0 ≤ v ∧ v ≤ topF f := by (try simp at hc2); omega
   have hin : inb v 0 (topF f) = true := by (rw [inb, Bool.and_eq_true, decide_eq_true_eq, decide_eq_true_eq]; exact hir)
   refine AW.skip ?_
   refine AX.go ?_
   refine sr ?_
   refine st (OpT.loadA (H rfl) (T1 rfl) ag28 sz28) rfl ?_
   refine st (mvT rfl) rfl ?_
   refine st (OpT.c1 (ms := [.flat, .flat]) (c_encS _ _ hok hir) (H rfl) (Af (T1 rfl) rfl rfl <| Af (T1 rfl) rfl rfl <| An) rfl rfl) rfl ?_
   refine sk (OpT.storeBA rfl rfl (Opd.whole (Root.self (t := 4) (by decide)) rfl) rfl sz31 (by decide) (T1 rfl)) rfl ?_
   refine st (asI rfl) rfl ?_
   refine AWl.to (kc 5 rfl <| kb 4 rfl <| Kn) ?_
   refine ng ?_
   refine AW.ret ?_
   exact AX.rt (rs := [.cell 4 31, .tmp 5]) (ts := [none, some 5]) (.inl rfl) rfl (ROs.cons (RO.cellA (by decide) (Kb rfl (by first | (rw [encS_bad hfk]; first | done | rfl) | (rw [encS_no hfk hin]; first | done | rfl) | (rw [encS_yes hfk hin]; first | done | rfl))) ag31 sz31) <| ROs.cons (RO.tmp (At.self (by decide)) (Kv rfl (by first | (rw [encS_bad hfk]; first | done | rfl) | (rw [encS_no hfk hin]; first | done | rfl) | (rw [encS_yes hfk hin]; first | done | rfl))) rfl) <| ROs.nil) (by decide) OutsOK.nil

theorem c_impl_QueryFor (f : DField) (v : Int) : AC Tryz.prog 15 [.agg kField f, .cel (Kd.int .i64) v] [.agg kQuery (qfS f v).1, .cel (Kd.int .i64) (qfS f v).2] [] := by
 refine acI (N := 24) Tryz.func15 (Nat.le_of_ble_eq_true rfl) rfl fun w0 hd s0 ar => ?_
 refine AW.to (ka 0 rfl <| kc 1 rfl <| Kn) ?_
 refine sr ?_
 refine st (OpT.frz (OpT.boxA (E := 28) (H rfl) (T1 rfl))) rfl ?_
 refine st (OpT.alloc (H rfl) zr49 zk49) rfl ?_
 refine st (asI rfl) rfl ?_
 refine ng ?_
 refine sr ?_
 refine st (OpT.loadA (H rfl) (T1 rfl) ag28 sz28) rfl ?_
 refine st (mvT rfl) rfl ?_
 refine s2 (OpT.c2 (ms := [.flat, .flat]) (c_impl_EncodeField _ _) (H rfl) (Af (T1 rfl) rfl rfl <| Af (T1 rfl) rfl rfl <| An) rfl rfl rfl) rfl ?_
 refine st (OpT.alias (H rfl) (by decide) (by decide)) rfl ?_
 refine st (OpT.extractV (m := 10011) (H rfl) rfl rfl rfl rfl rfl rfl rfl) rfl ?_
 refine st (OpT.extractV (m := 20011) (H rfl) rfl rfl rfl rfl rfl rfl rfl) rfl ?_
 refine st (OpT.alloc (H rfl) zr31 zk31) rfl ?_
 refine sk (OpT.storeBA rfl rfl (Opd.whole (Root.self (t := 6) (by decide)) rfl) rfl sz31 (by decide) (T1 rfl)) rfl ?_
 refine st (asT rfl) rfl ?_
 refine ng ?_
 refine AW.seq ?_
 refine sr ?_
 refine st (mvT rfl) rfl ?_
 refine st (OpT.neq (H rfl) (T1 rfl) (I rfl)) rfl ?_
 refine AWl.to (kc2 15 7 rfl <| kb 6 rfl <| kc 5 rfl <| kb 4 rfl <| kc 2 rfl <| Kn) ?_
 refine ng ?_
 refine cd rfl (fun hc1 => ?_) fun hc1 => ?_
 ·
  obtain ⟨hc1, hc1'⟩ := pT hc1
  have hec : ¬ (encS f v).2 = 0 := by omega
  refine sr ?_
  refine st (OpT.build (H rfl) pl49 zr49 zk49 (Built.nil _)) rfl ?_
  refine st (mvT rfl) rfl ?_
  refine sk (OpT.storeBA rfl rfl (Opd.whole (Root.self (t := 4) (by decide)) rfl) rfl sz49 (by decide) (T1 rfl)) rfl ?_
  refine st (asT rfl) rfl ?_
  refine ng ?_
  refine AW.ret ?_
  refine rT ?_
  exact AX.rt (rs := [.cell 4 49, .tmp 5]) (ts := [none, some 5]) (.inl rfl) rfl (ROs.cons (RO.cellA (by decide) (Kb rfl (by first | (rw [qfS_no hec]; first | done | rfl) | (rw [qfS_yes hec]; first | done | rfl))) ag49 sz49) <| ROs.cons (RO.tmp (At.self (by decide)) (Kv rfl (by first | (rw [qfS_no hec]; first | done | rfl) | (rw [qfS_yes hec]; first | done | rfl))) rfl) <| ROs.nil) (by decide) OutsOK.nil
 ·
  obtain ⟨hc1, hc1'⟩ := pF hc1
  have hec : (encS f v).2 = 0 := by omega
  have hok := (encS_ok hec).1
  refine AW.skip ?_
  refine AX.pr (kb 6 rfl <| kc 5 rfl <| kb 4 rfl <| kc 2 rfl <| Kn) ?_
  refine AX.go ?_
  refine AW.seq ?_
  refine dh fomo ?_
  refine d1 [6] (fun ve h => OpT.loadB (H rfl) (Root.self (t := 6) (by decide)) ((h _ (List.elem_iff.1 rfl)).trans rfl) ag31 sz31) rfl ?_
  refine d1 [2] (fun ve h => OpT.loadA (H rfl) (D1 h rfl) ag28 sz28) rfl ?_
  refine d1 [19] (fun ve h => OpT.c1 (ms := [.flat]) (c_impl_Field_part _ hok) (H rfl) (Af (D1 h rfl) rfl rfl <| An) rfl rfl) rfl ?_
  refine d1 [6] (fun ve h => OpT.loadB (H rfl) (Root.self (t := 6) (by decide)) ((h _ (List.elem_iff.1 rfl)).trans rfl) ag31 sz31) rfl ?_
  refine d1 [20, 21] (fun ve h => OpT.c1 (ms := [.flat, .flat]) (c_impl_LessMask _ _) (H rfl) (Af (D1 h rfl) rfl rfl <| Af (D1 h rfl) rfl rfl <| An) rfl rfl) rfl ?_
  refine d1 [18, 22] (fun ve h => OpT.build (H rfl) pl49 zr49 zk49 (Built.agg (D1 h rfl) rfl (by decide) sb49_0 (Built.agg (D1 h rfl) rfl (by decide) sb49_1 (Built.nil _)))) rfl ?_
  refine dm (t := 4) [4, 23] (fun ve h => OpT.storeBA rfl rfl (Opd.whole (Root.self (t := 4) (by decide)) ((h _ (List.elem_iff.1 rfl)).trans rfl)) ((h _ (List.elem_iff.1 rfl)).trans rfl) sz49 (by decide) (D1 h rfl)) rfl ?_
  refine d1 [] (fun ve h => asI rfl) rfl ?_
  refine dn ⟨by kernel_rfl, by kernel_rfl, ?_⟩
  refine AX.go ?_
  refine AW.ret ?_
  exact AX.rt (rs := [.cell 4 49, .tmp 5]) (ts := [none, some 5]) (.inl rfl) rfl (ROs.cons (RO.cellA (by decide) (Kb rfl (by first | (rw [qfS_no hec]; first | done | rfl) | (rw [qfS_yes hec]; first | done | rfl))) ag49 sz49) <| ROs.cons (RO.tmp (At.self (by decide)) (Kv rfl (by first | (rw [qfS_no hec]; first | done | rfl) | (rw [qfS_yes hec]; first | done | rfl))) rfl) <| ROs.nil) (by decide) OutsOK.nil

set_option maxHeartbeats 4000000 in
theorem c_impl_MakeCard (s : List DField) (n : ByteArray) (vs : List Int) : AC Tryz.prog 4 [.cel (Kd.slice kField) s, .cel Kd.str n, .cel (Kd.slice (Kd.int .i64)) vs] [.agg kCard (makeS s n vs).1, .cel (Kd.int .i64) (makeS s n vs).2] [] := by
 refine acI (N := 67) Tryz.func4 (Nat.le_of_ble_eq_true rfl) rfl fun w0 hd s0 ar => ?_
 refine AW.to (kc3 0 1 2 rfl <| Kn) ?_
 refine AW.fact (fun a w hr => (ok_slice (R_ok (t := 0) rfl hr)).2) (fun hl0 => ?_)
 refine AW.fact (fun a w hr => (ok_slice (R_ok (t := 2) rfl hr)).2) (fun hl2 => ?_)
 refine sr ?_
 refine st (OpT.alloc (H rfl) zr33 zk33) rfl ?_
 refine st (asI rfl) rfl ?_
 refine ng ?_
 refine AW.seq ?_
 refine sr ?_
 refine st (mvT rfl) rfl ?_
 refine st (OpT.c1 (ms := [.flat]) (c_impl_isScheme _) (H rfl) (Af (T1 rfl) rfl rfl <| An) rfl rfl) rfl ?_
 refine st (OpT.not (H rfl) (T1 rfl)) rfl ?_
 refine ng ?_
 refine cd rfl (fun hc1 => ?_) fun hc1 => ?_
 ·
  obtain ⟨hc1, hc1'⟩ := pT hc1
  have hss : tt (schemeOK s) = false := by simpa using hc1
  refine sr ?_
  refine st (OpT.build (H rfl) pl33 zr33 zk33 (Built.nil _)) rfl ?_
  refine sk (OpT.storeBA rfl rfl (Opd.whole (Root.self (t := 6) (by decide)) rfl) rfl sz33 (by decide) (T1 rfl)) rfl ?_
  refine st (asI rfl) rfl ?_
  refine ng ?_
  refine AW.ret ?_
  refine rT ?_
  exact AX.rt (rs := [.cell 6 33, .tmp 7]) (ts := [none, some 7]) (.inl rfl) rfl (ROs.cons (RO.cellA (by decide) (Kb rfl (by first | (rw [make_bad hss]; first | done | rfl) | (rw [make_name hss hnm]; first | done | rfl) | (rw [make_out hss hnm (by omega) hni]; first | done | rfl) | (rw [make_yes hss hnm hI.2 (by omega) (by omega)]; first | done | rfl))) ag33 sz33) <| ROs.cons (RO.tmp (At.self (by decide)) (Kv rfl (by first | (rw [make_bad hss]; first | done | rfl) | (rw [make_name hss hnm]; first | done | rfl) | (rw [make_out hss hnm (by omega) hni]; first | done | rfl) | (rw [make_yes hss hnm hI.2 (by omega) (by omega)]; first | done | rfl))) rfl) <| ROs.nil) (by decide) OutsOK.nil
 ·
  obtain ⟨hc1, hc1'⟩ := pF hc1
  have hss : tt (schemeOK s) = true := by simpa using hc1
  refine AW.skip ?_
  refine AX.go ?_
  refine AW.seq ?_
  refine sr ?_
  refine st (mvT rfl) rfl ?_
  refine st (OpT.c1 (ms := [.flat]) (c_impl_isName _) (H rfl) (Af (T1 rfl) rfl rfl <| An) rfl rfl) rfl ?_
  refine st (OpT.not (H rfl) (T1 rfl)) rfl ?_
  refine st (mvT rfl) rfl ?_
  apply AWl.or (d := 24) (t := 18) rfl
  ·
   intro hb1 Q1 k1
   have hb1' := lF hb1
   refine rs hb1 (mvT rfl) rfl ?_
   refine rs hb1 (OpT.len (H rfl) (T1 rfl) el23) rfl ?_
   refine rs hb1 (mvT rfl) rfl ?_
   refine rs hb1 (OpT.len (H rfl) (T1 rfl) el22) rfl ?_
   refine rs hb1 (OpT.neq (H rfl) (T1 rfl) (T1 rfl)) rfl ?_
   refine st (OpT.pickF (A := .cel _ _) (H rfl) (T1 rfl) hb1 (T1 rfl) rfl) rfl ?_
   exact AWl.to (junk 5 rfl) k1
  ·
   intro hb1 Q1 k1
   refine ps hb1 rfl ?_
   refine ps hb1 rfl ?_
   refine ps hb1 rfl ?_
   refine ps hb1 rfl ?_
   refine ps hb1 rfl ?_
   refine st (OpT.pickT (A := .cel _ _) (H rfl) (T1 rfl) hb1 Opd.bool rfl) rfl ?_
   exact k1
  refine ng ?_
  refine cd rfl (fun hc2 => ?_) fun hc2 => ?_
  ·
   obtain ⟨hc2, hc2'⟩ := pT hc2
   have hnm : (!(tt (nameOK n)) || decide (¬ (vs.length : Int) = s.length)) = true := by simpa using hc2
   refine sr ?_
   refine st (OpT.build (H rfl) pl33 zr33 zk33 (Built.nil _)) rfl ?_
   refine sk (OpT.storeBA rfl rfl (Opd.whole (Root.self (t := 6) (by decide)) rfl) rfl sz33 (by decide) (T1 rfl)) rfl ?_
   refine st (asI rfl) rfl ?_
   refine AWl.to (kc 7 rfl <| kb 6 rfl <| kc3 0 1 2 rfl <| Kn) ?_
   refine ng ?_
   refine AW.ret ?_
   refine rT ?_
   exact AX.rt (rs := [.cell 6 33, .tmp 7]) (ts := [none, some 7]) (.inl rfl) rfl (ROs.cons (RO.cellA (by decide) (Kb rfl (by first | (rw [make_bad hss]; first | done | rfl) | (rw [make_name hss hnm]; first | done | rfl) | (rw [make_out hss hnm (by omega) hni]; first | done | rfl) | (rw [make_yes hss hnm hI.2 (by omega) (by omega)]; first | done | rfl))) ag33 sz33) <| ROs.cons (RO.tmp (At.self (by decide)) (Kv rfl (by first | (rw [make_bad hss]; first | done | rfl) | (rw [make_name hss hnm]; first | done | rfl) | (rw [make_out hss hnm (by omega) hni]; first | done | rfl) | (rw [make_yes hss hnm hI.2 (by omega) (by omega)]; first | done | rfl))) rfl) <| ROs.nil) (by decide) OutsOK.nil
  ·
   obtain ⟨hc2, hc2'⟩ := pF hc2
   have hnm : (!(tt (nameOK n)) || decide (¬ (vs.length : Int) = s.length)) = false := by simpa using hc2
   have hvl := (make_len hnm).2
   refine AW.skip ?_
   refine AX.go ?_
   refine sr ?_
   refine st (mvT rfl) rfl ?_
   refine st (OpT.build (H rfl) pl33 zr33 zk33 (Built.cel (T1 rfl) rfl rfl sb33_0 (Built.nil _))) rfl ?_
   refine st (OpT.alloc (H rfl) zr33 zk33) rfl ?_
   refine sk (OpT.storeBA rfl rfl (Opd.whole (Root.self (t := 8) (by decide)) rfl) rfl sz33 (by decide) (T1 rfl)) rfl ?_
   refine AWl.to (kb 8 rfl <| kc 7 rfl <| kb 6 rfl <| kc2 0 2 rfl <| Kn) ?_
   refine ng ?_
   refine AW.seq ?_
   refine sr ?_
   refine st (mvT rfl) rfl ?_
   refine st (OpT.len (H rfl) (T1 rfl) el22) rfl ?_
   refine st (mvI rfl) rfl ?_
   refine ng ?_
   refine AW.block ?_
   refine AW.loop (fun z : Nat => z ≤ s.length ∧ ∀ i, i < z → inVI s vs i) (fun z : Nat => keep [(2, .cel (Kd.slice (Kd.int .i64)) vs), (6, .box 33 kCard (ByteArray.empty, (0#64, 0#64))), (8, .box 33 kCard (n, mkM s vs z)), (28, .cel (Kd.slice kField) s), (29, .cel (Kd.int .i64) (s.length : Int)), (30, .cel (Kd.int .i64) (z : Int))]) (fun z : Nat => s.length - z) (0) ⟨Nat.zero_le _, all_none⟩ (Kc 2 _ (Kv rfl rfl) <| Kc 6 _ (Kb rfl rfl) <| Kc 8 _ (Kb rfl rfl) <| Kc 28 _ (Kv rfl rfl) <| Kc 29 _ (Kv rfl rfl) <| Kc 30 _ (Kv rfl rfl) <| Kn) ?_
   intro z hI
   refine sr ?_
   refine st (OpT.lss (H rfl) (T1 rfl) (T1 rfl)) rfl ?_
   refine ng ?_
   refine AW.seq ?_
   refine cd rfl (fun hc3 => ?_) fun hc3 => ?_
   ·
    obtain ⟨hc3, hc3'⟩ := pT hc3
    obtain ⟨f, hf⟩ := getI (x := s) (z := z) (by omega)
    obtain ⟨v, hv⟩ := getI (x := vs) (z := z) (by omega)
    have hfo := sch_field (tt_iff.1 hss) hf
    refine AW.skip ?_
    refine AX.go ?_
    refine AW.seq ?_
    refine AW.block ?_
    refine sr ?_
    refine st (mvT rfl) rfl ?_
    refine st (OpT.indexAddr (H rfl) (T1 rfl) (T1 rfl) el22 sz28 (by omega) hf) rfl ?_
    refine st (OpT.loadA (H rfl) (T1 rfl) ag28 sz28) rfl ?_
    refine st (OpT.alloc (H rfl) zr28 zk28) rfl ?_
    refine st (asT rfl) rfl ?_
    refine sk (OpT.storeBA rfl rfl (Opd.whole (Root.self (t := 10) (by decide)) rfl) rfl sz28 (by decide) (T1 rfl)) rfl ?_
    refine AWl.to (kb 10 rfl <| kc 9 rfl <| ka 34 rfl <| kc4 33 32 31 2 rfl <| kb 6 rfl <| kb 8 rfl <| kc3 28 29 30 rfl <| Kn) ?_
    refine ng ?_
    refine AW.seq ?_
    refine AW.seq ?_
    rcases Bool.eq_false_or_eq_true (decide (v < (-1 : Int))) with hd1 | hd1
    ·
     have hd1' := lT hd1
     refine dh fomo ?_
     refine d1 [2] (fun ve h => OpT.move (A := .cel _ _) (.inl rfl) rfl (ok' rfl) (D1 h rfl) rfl) rfl ?_
     refine d1 [9] (fun ve h => OpT.move (A := .cel _ _) (.inl rfl) rfl (ok' rfl) (D1 h rfl) rfl) rfl ?_
     refine d1 [35, 36] (fun ve h => OpT.indexAddr (H rfl) (D1 h rfl) (D1 h rfl) el23 sz2 (by omega) hv) rfl ?_
     refine d1 [37] (fun ve h => OpT.load (H rfl) (D1 h rfl) ag2 rfl) rfl ?_
     refine d1 [38] (fun ve h => OpT.lss (H rfl) (D1 h rfl) (I rfl)) rfl ?_
     refine d1 [39] (fun ve h => OpT.move (A := .cel _ _) (.inl rfl) rfl (ok' rfl) (D1 h rfl) rfl) rfl ?_
     refine dp hd1 rfl ?_
     refine dp hd1 rfl ?_
     refine dp hd1 rfl ?_
     refine dp hd1 rfl ?_
     refine dp hd1 rfl ?_
     refine dp hd1 rfl ?_
     refine dp hd1 rfl ?_
     refine d1 [40] (fun ve h => OpT.pickT (A := .cel _ _) (H rfl) (D1 h rfl) hd1 Opd.bool rfl) rfl ?_
     refine dn ⟨by kernel_rfl, by kernel_rfl, ?_⟩
     refine AX.go ?_
     refine cd rfl (fun hc4 => ?_) fun hc4 => ?_
     ·
      obtain ⟨hc4, hc4'⟩ := pT hc4
      have hni : ¬ inVI s vs z := fun h9 => by have h8 := (inVI_iff hf hv).1 h9; unfold inV at h8; (try simp at hc4); omega
      refine sr ?_
      refine st (OpT.build (H rfl) pl33 zr33 zk33 (Built.nil _)) rfl ?_
      refine sk (OpT.storeBA rfl rfl (Opd.whole (Root.self (t := 6) (by decide)) rfl) rfl sz33 (by decide) (T1 rfl)) rfl ?_
      refine st (asI rfl) rfl ?_
      refine ng ?_
      refine AW.ret ?_
      refine rT <| rK <| rT <| rT <| rK <| rT ?_
      exact AX.rt (rs := [.cell 6 33, .tmp 7]) (ts := [none, some 7]) (.inl rfl) rfl (ROs.cons (RO.cellA (by decide) (Kb rfl (by first | (rw [make_bad hss]; first | done | rfl) | (rw [make_name hss hnm]; first | done | rfl) | (rw [make_out hss hnm (by omega) hni]; first | done | rfl) | (rw [make_yes hss hnm hI.2 (by omega) (by omega)]; first | done | rfl))) ag33 sz33) <| ROs.cons (RO.tmp (At.self (by decide)) (Kv rfl (by first | (rw [make_bad hss]; first | done | rfl) | (rw [make_name hss hnm]; first | done | rfl) | (rw [make_out hss hnm (by omega) hni]; first | done | rfl) | (rw [make_yes hss hnm hI.2 (by omega) (by omega)]; first | done | rfl))) rfl) <| ROs.nil) (by decide) OutsOK.nil
     ·
      obtain ⟨hc4, hc4'⟩ := pF hc4
      exact absurd hc4 (by decide)
    ·
     have hd1' := lF hd1
     refine dh fomo ?_
     refine d1 [2] (fun ve h => OpT.move (A := .cel _ _) (.inl rfl) rfl (ok' rfl) (D1 h rfl) rfl) rfl ?_
     refine d1 [9] (fun ve h => OpT.move (A := .cel _ _) (.inl rfl) rfl (ok' rfl) (D1 h rfl) rfl) rfl ?_
     refine d1 [35, 36] (fun ve h => OpT.indexAddr (H rfl) (D1 h rfl) (D1 h rfl) el23 sz2 (by omega) hv) rfl ?_
     refine d1 [37] (fun ve h => OpT.load (H rfl) (D1 h rfl) ag2 rfl) rfl ?_
     refine d1 [38] (fun ve h => OpT.lss (H rfl) (D1 h rfl) (I rfl)) rfl ?_
     refine d1 [39] (fun ve h => OpT.move (A := .cel _ _) (.inl rfl) rfl (ok' rfl) (D1 h rfl) rfl) rfl ?_
     refine dr [2, 40] hd1 (fun ve h => OpT.move (A := .cel _ _) (.inl rfl) rfl (ok' rfl) (D1 h rfl) rfl) rfl ?_
     refine dr [9, 40] hd1 (fun ve h => OpT.move (A := .cel _ _) (.inl rfl) rfl (ok' rfl) (D1 h rfl) rfl) rfl ?_
     refine dr [40, 41, 42] hd1 (fun ve h => OpT.indexAddr (H rfl) (D1 h rfl) (D1 h rfl) el23 sz2 (by omega) hv) rfl ?_
     refine dr [40, 43] hd1 (fun ve h => OpT.load (H rfl) (D1 h rfl) ag2 rfl) rfl ?_
     refine dr [10, 40] hd1 (fun ve h => OpT.loadB (H rfl) (Root.self (t := 10) (by decide)) ((h _ (List.elem_iff.1 rfl)).trans rfl) ag28 sz28) rfl ?_
     refine dr [40, 45] hd1 (fun ve h => OpT.c1 (ms := [.flat]) (c_impl_Field_most _ hfo) (H rfl) (Af (D1 h rfl) rfl rfl <| An) rfl rfl) rfl ?_
     refine dr [40, 44, 46] hd1 (fun ve h => OpT.gtr (H rfl) (D1 h rfl) (D1 h rfl)) rfl ?_
     refine d1 [40, 47] (fun ve h => OpT.pickF (A := .cel _ _) (H rfl) (D1 h rfl) hd1 (D1 h rfl) rfl) rfl ?_
     refine dn ⟨by kernel_rfl, by kernel_rfl, ?_⟩
     refine AX.go ?_
     refine cd rfl (fun hc5 => ?_) fun hc5 => ?_
     ·
      obtain ⟨hc5, hc5'⟩ := pT hc5
      have hni : ¬ inVI s vs z := fun h9 => by have h8 := (inVI_iff hf hv).1 h9; unfold inV at h8; (try simp at hc5); omega
      refine sr ?_
      refine st (OpT.build (H rfl) pl33 zr33 zk33 (Built.nil _)) rfl ?_
      refine sk (OpT.storeBA rfl rfl (Opd.whole (Root.self (t := 6) (by decide)) rfl) rfl sz33 (by decide) (T1 rfl)) rfl ?_
      refine st (asI rfl) rfl ?_
      refine ng ?_
      refine AW.ret ?_
      refine rT <| rK <| rT <| rT <| rK <| rT ?_
      exact AX.rt (rs := [.cell 6 33, .tmp 7]) (ts := [none, some 7]) (.inl rfl) rfl (ROs.cons (RO.cellA (by decide) (Kb rfl (by first | (rw [make_bad hss]; first | done | rfl) | (rw [make_name hss hnm]; first | done | rfl) | (rw [make_out hss hnm (by omega) hni]; first | done | rfl) | (rw [make_yes hss hnm hI.2 (by omega) (by omega)]; first | done | rfl))) ag33 sz33) <| ROs.cons (RO.tmp (At.self (by decide)) (Kv rfl (by first | (rw [make_bad hss]; first | done | rfl) | (rw [make_name hss hnm]; first | done | rfl) | (rw [make_out hss hnm (by omega) hni]; first | done | rfl) | (rw [make_yes hss hnm hI.2 (by omega) (by omega)]; first | done | rfl))) rfl) <| ROs.nil) (by decide) OutsOK.nil
     ·
      obtain ⟨hc5, hc5'⟩ := pF hc5
      have hvi : inV f v := by unfold inV; (try simp at hc5); omega
      have hyi := (inVI_iff hf hv).2 hvi
      have hvi2 := hvi
      unfold inV at hvi2
      refine AW.skip ?_
      refine AX.go ?_
      refine sr ?_
      refine st (mvT rfl) rfl ?_
      refine st (mvT rfl) rfl ?_
      refine st (OpT.indexAddr (H rfl) (T1 rfl) (T1 rfl) el23 sz2 (by omega) hv) rfl ?_
      refine st (OpT.load (H rfl) (T1 rfl) ag2 rfl) rfl ?_
      refine st (OpT.geq (H rfl) (T1 rfl) (I rfl)) rfl ?_
      refine ng ?_
      refine cd rfl (fun hc6 => ?_) fun hc6 => ?_
      ·
       obtain ⟨hc6, hc6'⟩ := pT hc6
       refine dh fomo ?_
       refine d1 [8] (fun ve h => OpT.fieldAddrB (H rfl) (Root.self (t := 8) (by decide)) ((h _ (List.elem_iff.1 rfl)).trans rfl) (by decide) fd33_1 sz31 (by decide) sb33_1) rfl ?_
       refine d1 [8, 55] (fun ve h => OpT.loadPA (H rfl) (D1 h rfl) (.inl ⟨_, ((h _ (List.elem_iff.1 rfl)).trans rfl), rfl⟩) ag31 sz31) rfl ?_
       refine d1 [10] (fun ve h => OpT.loadB (H rfl) (Root.self (t := 10) (by decide)) ((h _ (List.elem_iff.1 rfl)).trans rfl) ag28 sz28) rfl ?_
       refine d1 [2] (fun ve h => OpT.move (A := .cel _ _) (.inl rfl) rfl (ok' rfl) (D1 h rfl) rfl) rfl ?_
       refine d1 [9] (fun ve h => OpT.move (A := .cel _ _) (.inl rfl) rfl (ok' rfl) (D1 h rfl) rfl) rfl ?_
       refine d1 [58, 59] (fun ve h => OpT.indexAddr (H rfl) (D1 h rfl) (D1 h rfl) el23 sz2 (by omega) hv) rfl ?_
       refine d1 [60] (fun ve h => OpT.load (H rfl) (D1 h rfl) ag2 rfl) rfl ?_
       refine d1 [57, 61] (fun ve h => OpT.c1 (ms := [.flat, .flat]) (c_encS _ _ hfo (by omega)) (H rfl) (Af (D1 h rfl) rfl rfl <| Af (D1 h rfl) rfl rfl <| An) rfl rfl) rfl ?_
       refine d1 [56, 62] (fun ve h => OpT.c1 (ms := [.flat, .flat]) (c_impl_JoinMasks _ _) (H rfl) (Af (D1 h rfl) rfl rfl <| Af (D1 h rfl) rfl rfl <| An) rfl rfl) rfl ?_
       refine d1 [8] (fun ve h => OpT.fieldAddrB (H rfl) (Root.self (t := 8) (by decide)) ((h _ (List.elem_iff.1 rfl)).trans rfl) (by decide) fd33_1 sz31 (by decide) sb33_1) rfl ?_
       refine dm (t := 8) [8, 63, 64] (fun ve h => OpT.storeBA rfl rfl (D1 h rfl) ((h _ (List.elem_iff.1 rfl)).trans rfl) sz31 (by decide) (D1 h rfl)) rfl ?_
       refine dn ⟨by kernel_rfl, by kernel_rfl, ?_⟩
       refine AX.normal_block ?_
       refine AX.go ?_
       refine AW.region ?_
       refine st (OpT.add (H rfl) (T1 rfl) (I rfl) (nw (by omega))) rfl ?_
       refine st (mvT rfl) rfl ?_
       refine nn ?_
       exact AX.again (z + 1) ⟨by omega, all_step hI.2 hyi⟩ (by omega) (Kc 2 _ (Kv rfl rfl) <| Kc 6 _ (Kb rfl rfl) <| Kc 8 _ (Kb rfl (by first | exact congrArg (fun m => (n, m)) (mkM_yes hf hv (by omega)) | exact congrArg (fun m => (n, m)) (mkM_no hf hv (by omega)))) <| Kc 28 _ (Kv rfl rfl) <| Kc 29 _ (Kv rfl rfl) <| Kc 30 _ (Kv rfl (by omega)) <| Kn)
      ·
       obtain ⟨hc6, hc6'⟩ := pF hc6
       refine AW.skip ?_
       refine AX.normal_block ?_
       refine AX.go ?_
       refine AW.region ?_
       refine st (OpT.add (H rfl) (T1 rfl) (I rfl) (nw (by omega))) rfl ?_
       refine st (mvT rfl) rfl ?_
       refine nn ?_
       exact AX.again (z + 1) ⟨by omega, all_step hI.2 hyi⟩ (by omega) (Kc 2 _ (Kv rfl rfl) <| Kc 6 _ (Kb rfl rfl) <| Kc 8 _ (Kb rfl (by first | exact congrArg (fun m => (n, m)) (mkM_yes hf hv (by omega)) | exact congrArg (fun m => (n, m)) (mkM_no hf hv (by omega)))) <| Kc 28 _ (Kv rfl rfl) <| Kc 29 _ (Kv rfl rfl) <| Kc 30 _ (Kv rfl (by omega)) <| Kn)
   ·
    obtain ⟨hc3, hc3'⟩ := pF hc3
    refine AW.exit ?_
    refine xT <| xT <| AX.exit_hit ?_
    refine AX.go ?_
    refine sr ?_
    refine st (OpT.loadB (H rfl) (Root.self (t := 8) (by decide)) rfl ag33 sz33) rfl ?_
    refine sk (OpT.storeBA rfl rfl (Opd.whole (Root.self (t := 6) (by decide)) rfl) rfl sz33 (by decide) (T1 rfl)) rfl ?_
    refine st (asI rfl) rfl ?_
    refine ng ?_
    refine AW.ret ?_
    exact AX.rt (rs := [.cell 6 33, .tmp 7]) (ts := [none, some 7]) (.inl rfl) rfl (ROs.cons (RO.cellA (by decide) (Kb rfl (by first | (rw [make_bad hss]; first | done | rfl) | (rw [make_name hss hnm]; first | done | rfl) | (rw [make_out hss hnm (by omega) hni]; first | done | rfl) | (rw [make_yes hss hnm hI.2 (by omega) (by omega)]; first | done | rfl))) ag33 sz33) <| ROs.cons (RO.tmp (At.self (by decide)) (Kv rfl (by first | (rw [make_bad hss]; first | done | rfl) | (rw [make_name hss hnm]; first | done | rfl) | (rw [make_out hss hnm (by omega) hni]; first | done | rfl) | (rw [make_yes hss hnm hI.2 (by omega) (by omega)]; first | done | rfl))) rfl) <| ROs.nil) (by decide) OutsOK.nil

theorem c_impl_ValuesOf_o (s : List DField) (e : DCard) : AC Tryz.prog 6 [.cel (Kd.slice kField) s, .agg kCard e] [.own 2 (Kd.int .i64) (vlsS s e).1, .cel (Kd.int .i64) (vlsS s e).2] [] := by
 refine acI (N := 44) Tryz.func6 (Nat.le_of_ble_eq_true rfl) rfl fun w0 hd s0 ar => ?_
 refine AW.to (kc 0 rfl <| ka 1 rfl <| Kn) ?_
 refine AW.fact (fun a w hr => (ok_slice (R_ok (t := 0) rfl hr)).2) (fun hl0 => ?_)
 refine sr ?_
 refine st (OpT.frz (OpT.boxA (E := 33) (H rfl) (T1 rfl))) rfl ?_
 refine st (nilO (E := 2) (Kd.int .i64) rfl (.inl rfl)) rfl ?_
 refine st (asI rfl) rfl ?_
 refine ng ?_
 refine AW.seq ?_
 refine sr ?_
 refine st (mvT rfl) rfl ?_
 refine st (OpT.c1 (ms := [.flat]) (c_impl_isScheme _) (H rfl) (Af (T1 rfl) rfl rfl <| An) rfl rfl) rfl ?_
 refine st (OpT.not (H rfl) (T1 rfl)) rfl ?_
 refine st (mvT rfl) rfl ?_
 apply AWl.or (d := 18) (t := 14) rfl
 ·
  intro hb1 Q1 k1
  have hb1' := lF hb1
  refine rs hb1 (OpT.loadA (H rfl) (T1 rfl) ag33 sz33) rfl ?_
  refine rs hb1 (OpT.c1 (ms := [.flat]) (c_impl_isCard _) (H rfl) (Af (T1 rfl) rfl rfl <| An) rfl rfl) rfl ?_
  refine rs hb1 (OpT.not (H rfl) (T1 rfl)) rfl ?_
  refine st (OpT.pickF (A := .cel _ _) (H rfl) (T1 rfl) hb1 (T1 rfl) rfl) rfl ?_
  exact AWl.to (junk 3 rfl) k1
 ·
  intro hb1 Q1 k1
  refine ps hb1 rfl ?_
  refine ps hb1 rfl ?_
  refine ps hb1 rfl ?_
  refine st (OpT.pickT (A := .cel _ _) (H rfl) (T1 rfl) hb1 Opd.bool rfl) rfl ?_
  exact k1
 refine ng ?_
 refine cd rfl (fun hc1 => ?_) fun hc1 => ?_
 ·
  obtain ⟨hc1, hc1'⟩ := pT hc1
  refine sr ?_
  refine st (nilO (E := 2) (Kd.int .i64) rfl (.inl rfl)) rfl ?_
  refine st (asI rfl) rfl ?_
  refine ng ?_
  refine AW.ret ?_
  refine rT ?_
  exact AX.rt (rs := [.tmp 4, .tmp 5]) (ts := [some 4, some 5]) (.inl rfl) rfl (ROs.cons (RO.tmp (At.self (by decide)) (Ko rfl (by first | (rw [vls_bad hc1]; done) | (rw [vls_torn hc1 hf h8]; done) | (rw [vls_yes hc1 hI.2 (by omega)]; done))) rfl) <| ROs.cons (RO.tmp (At.self (by decide)) (Kv rfl (by first | (rw [vls_bad hc1]; done) | (rw [vls_torn hc1 hf h8]; done) | (rw [vls_yes hc1 hI.2 (by omega)]; done))) rfl) <| ROs.nil) (by decide) OutsOK.nil
 ·
  obtain ⟨hc1, hc1'⟩ := pF hc1
  have hsc : schemeOK s := by (rw [Bool.or_eq_false_iff, Bool.not_eq_false', tt_iff] at hc1; exact hc1.1)
  have hsl : s.length ≤ 12 := hsc.1
  refine AW.skip ?_
  refine AX.go ?_
  refine sr ?_
  refine st (OpT.buildSlice0 (m := 0) (z := .bool false) (Kd.int .i64) (H rfl) el23 sz2 (by decide)) rfl ?_
  refine sg (OpT.take (.inl rfl) rfl (ok' rfl) (Root.self (by decide)) rfl rfl (by decide)) (ko 6 rfl <| kc4 18 14 13 12 rfl <| kc2 11 5 rfl <| ko 4 rfl <| kc2 3 0 rfl <| ka 1 rfl <| Kn) rfl ?_
  refine ng ?_
  refine AW.seq ?_
  refine sr ?_
  refine st (mvT rfl) rfl ?_
  refine st (OpT.len (H rfl) (T1 rfl) el22) rfl ?_
  refine st (mvI rfl) rfl ?_
  refine ng ?_
  refine AW.block ?_
  refine AW.loop (fun z : Nat => z ≤ s.length ∧ ∀ i, i < z → tornI s e.2 i) (fun z : Nat => keep [(3, .cel (Kd.ptr kCard) e), (6, .own 2 (Kd.int .i64) (valsF (s.take z) e.2)), (20, .cel (Kd.slice kField) s), (21, .cel (Kd.int .i64) (s.length : Int)), (22, .cel (Kd.int .i64) (z : Int))]) (fun z : Nat => s.length - z) (0) ⟨Nat.zero_le _, all_none⟩ (Kc 3 _ (Kv rfl rfl) <| Kc 6 _ (Ko rfl rfl) <| Kc 20 _ (Kv rfl rfl) <| Kc 21 _ (Kv rfl rfl) <| Kc 22 _ (Kv rfl rfl) <| Kn) ?_
  intro z hI
  refine sr ?_
  refine st (OpT.lss (H rfl) (T1 rfl) (T1 rfl)) rfl ?_
  refine ng ?_
  refine AW.seq ?_
  refine cd rfl (fun hc2 => ?_) fun hc2 => ?_
  ·
   obtain ⟨hc2, hc2'⟩ := pT hc2
   obtain ⟨f, hf⟩ := getI (x := s) (z := z) (by omega)
   have hfo := sch_field hsc hf
   refine AW.skip ?_
   refine AX.go ?_
   refine AW.seq ?_
   refine AW.block ?_
   refine sr ?_
   refine st (OpT.indexAddr (H rfl) (T1 rfl) (T1 rfl) el22 sz28 (by omega) (by assumption)) rfl ?_
   refine st (OpT.loadA (H rfl) (T1 rfl) ag28 sz28) rfl ?_
   refine st (OpT.alloc (H rfl) zr28 zk28) rfl ?_
   refine sk (OpT.storeBA rfl rfl (Opd.whole (Root.self (t := 8) (by decide)) rfl) rfl sz28 (by decide) (T1 rfl)) rfl ?_
   refine ng ?_
   refine sr ?_
   refine st (OpT.loadB (H rfl) (Root.self (t := 8) (by decide)) rfl ag28 sz28) rfl ?_
   refine st (OpT.fieldAddr (H rfl) (T1 rfl) fd33_1 sz31 (by decide) sb33_1) rfl ?_
   refine st (OpT.loadA (H rfl) (T1 rfl) ag31 sz31) rfl ?_
   refine s2 (OpT.c2 (ms := [.flat, .flat]) (c_impl_Field_decode _ _ hfo) (H rfl) (Af (T1 rfl) rfl rfl <| Af (T1 rfl) rfl rfl <| An) rfl rfl rfl) rfl ?_
   refine st (OpT.alias (H rfl) (by decide) (by decide)) rfl ?_
   refine st (OpT.extractV (m := 10030) (H rfl) rfl rfl rfl rfl rfl rfl rfl) rfl ?_
   refine st (OpT.extractV (m := 20030) (H rfl) rfl rfl rfl rfl rfl rfl rfl) rfl ?_
   refine st (asT rfl) rfl ?_
   refine st (asT rfl) rfl ?_
   refine ng ?_
   refine AW.seq ?_
   refine sr ?_
   refine st (mvT rfl) rfl ?_
   refine ng ?_
   refine AW.block ?_
   refine sr ?_
   refine st (OpT.eql (H rfl) (T1 rfl) (I rfl)) rfl ?_
   refine st (asT rfl) rfl ?_
   refine ng ?_
   refine cd rfl (fun hc3 => ?_) fun hc3 => ?_
   ·
    obtain ⟨hc3, hc3'⟩ := pT hc3
    have hvf := vls_none (f := f) (m := e.2) (by omega)
    have hty := (tornI_iff (m := e.2) hf).2 (by omega)
    refine AW.region ?_
    refine st (asI rfl) rfl ?_
    refine nn ?_
    refine AX.normal_block ?_
    refine AX.go ?_
    refine AW.region ?_
    refine st (OpT.alias (H rfl) (by decide) (by decide)) rfl ?_
    refine st (mvT rfl) rfl ?_
    refine st (OpT.buildSlice (H rfl) el23 zr2 sz2 rfl (by decide) zk2 (by decide) (Built.cel (T1 rfl) rfl rfl (sub_arr (by decide) (0 : Int)) (Built.nil _))) rfl ?_
    refine sg (OpT.append (H rfl) (Root.ali rfl (by decide) (by decide)) rfl (Src.own (Root.self (t := 40) (by decide)) rfl) (by decide) el23 zr2 rfl sz2 by2 (by decide) (by have h70 := valsF_len (s.take z) e.2; rw [List.length_take] at h70; simp only [List.length_set, List.length_replicate]; omega)) (ko 41 rfl <| ko 40 rfl <| kc4 39 9 34 35 rfl <| kc4 33 10 32 31 rfl <| Kc 26 (.ali _) rfl <| kc2 10030 20030 rfl <| ka 29 rfl <| kc 28 rfl <| ka 27 rfl <| kb 8 rfl <| ka 25 rfl <| kc4 24 23 3 20 rfl <| kc2 21 22 rfl <| Kn) rfl ?_
    refine sg (OpT.take (.inl rfl) rfl (ok' rfl) (Root.self (by decide)) rfl rfl (by decide)) (ko 6 rfl <| ko 40 rfl <| kc4 39 9 34 35 rfl <| kc4 33 10 32 31 rfl <| Kc 26 (.ali _) rfl <| kc2 10030 20030 rfl <| ka 29 rfl <| kc 28 rfl <| ka 27 rfl <| kb 8 rfl <| ka 25 rfl <| kc4 24 23 3 20 rfl <| kc2 21 22 rfl <| Kn) rfl ?_
    refine nn ?_
    refine AX.normal_block ?_
    refine AX.go ?_
    refine AW.region ?_
    refine st (OpT.add (H rfl) (T1 rfl) (I rfl) (nw (by omega))) rfl ?_
    refine st (mvT rfl) rfl ?_
    refine nn ?_
    exact AX.again (z + 1) ⟨by omega, all_step hI.2 hty⟩ (by omega) (Kc 3 _ (Kv rfl rfl) <| Kc 6 _ (Ko rfl (by exact (congrArg (fun v => valsF (s.take z) e.2 ++ [v]) hvf).trans (valsF_next hf))) <| Kc 20 _ (Kv rfl rfl) <| Kc 21 _ (Kv rfl rfl) <| Kc 22 _ (Kv rfl (by omega)) <| Kn)
   ·
    obtain ⟨hc3, hc3'⟩ := pF hc3
    refine sr ?_
    refine st (OpT.eql (H rfl) (T1 rfl) (I rfl)) rfl ?_
    refine st (asT rfl) rfl ?_
    refine ng ?_
    refine cd rfl (fun hc4 => ?_) fun hc4 => ?_
    ·
     obtain ⟨hc4, hc4'⟩ := pT hc4
     have h8 : (valS f e.2).2 = 8 := by omega
     refine sr ?_
     refine st (nilO (E := 2) (Kd.int .i64) rfl (.inl rfl)) rfl ?_
     refine st (asI rfl) rfl ?_
     refine ng ?_
     refine AW.ret ?_
     refine rK <| rT <| rK <| rT <| rT <| rK <| rT ?_
     exact AX.rt (rs := [.tmp 4, .tmp 5]) (ts := [some 4, some 5]) (.inl rfl) rfl (ROs.cons (RO.tmp (At.self (by decide)) (Ko rfl (by first | (rw [vls_bad hc1]; done) | (rw [vls_torn hc1 hf h8]; done) | (rw [vls_yes hc1 hI.2 (by omega)]; done))) rfl) <| ROs.cons (RO.tmp (At.self (by decide)) (Kv rfl (by first | (rw [vls_bad hc1]; done) | (rw [vls_torn hc1 hf h8]; done) | (rw [vls_yes hc1 hI.2 (by omega)]; done))) rfl) <| ROs.nil) (by decide) OutsOK.nil
    ·
     obtain ⟨hc4, hc4'⟩ := pF hc4
     have hvf := vls_some (f := f) (m := e.2) (by omega) (by omega)
     have hty := (tornI_iff (m := e.2) hf).2 (by omega)
     refine AW.skip ?_
     refine AX.normal_block ?_
     refine AX.go ?_
     refine AW.region ?_
     refine st (OpT.alias (H rfl) (by decide) (by decide)) rfl ?_
     refine st (mvT rfl) rfl ?_
     refine st (OpT.buildSlice (H rfl) el23 zr2 sz2 rfl (by decide) zk2 (by decide) (Built.cel (T1 rfl) rfl rfl (sub_arr (by decide) (0 : Int)) (Built.nil _))) rfl ?_
     refine sg (OpT.append (H rfl) (Root.ali rfl (by decide) (by decide)) rfl (Src.own (Root.self (t := 40) (by decide)) rfl) (by decide) el23 zr2 rfl sz2 by2 (by decide) (by have h70 := valsF_len (s.take z) e.2; rw [List.length_take] at h70; simp only [List.length_set, List.length_replicate]; omega)) (ko 41 rfl <| ko 40 rfl <| kc4 39 36 37 34 rfl <| kc4 35 33 10 9 rfl <| kc2 32 31 rfl <| Kc 26 (.ali _) rfl <| kc2 10030 20030 rfl <| ka 29 rfl <| kc 28 rfl <| ka 27 rfl <| kb 8 rfl <| ka 25 rfl <| kc4 24 23 3 20 rfl <| kc2 21 22 rfl <| Kn) rfl ?_
     refine sg (OpT.take (.inl rfl) rfl (ok' rfl) (Root.self (by decide)) rfl rfl (by decide)) (ko 6 rfl <| ko 40 rfl <| kc4 39 36 37 34 rfl <| kc4 35 33 10 9 rfl <| kc2 32 31 rfl <| Kc 26 (.ali _) rfl <| kc2 10030 20030 rfl <| ka 29 rfl <| kc 28 rfl <| ka 27 rfl <| kb 8 rfl <| ka 25 rfl <| kc4 24 23 3 20 rfl <| kc2 21 22 rfl <| Kn) rfl ?_
     refine nn ?_
     refine AX.normal_block ?_
     refine AX.go ?_
     refine AW.region ?_
     refine st (OpT.add (H rfl) (T1 rfl) (I rfl) (nw (by omega))) rfl ?_
     refine st (mvT rfl) rfl ?_
     refine nn ?_
     exact AX.again (z + 1) ⟨by omega, all_step hI.2 hty⟩ (by omega) (Kc 3 _ (Kv rfl rfl) <| Kc 6 _ (Ko rfl (by exact (congrArg (fun v => valsF (s.take z) e.2 ++ [v]) hvf).trans (valsF_next hf))) <| Kc 20 _ (Kv rfl rfl) <| Kc 21 _ (Kv rfl rfl) <| Kc 22 _ (Kv rfl (by omega)) <| Kn)
  ·
   obtain ⟨hc2, hc2'⟩ := pF hc2
   refine AW.exit ?_
   refine xT <| xT <| AX.exit_hit ?_
   refine AX.go ?_
   refine sr ?_
   refine st (OpT.alias (H rfl) (by decide) (by decide)) rfl ?_
   refine sg (OpT.take (.inl rfl) rfl (ok' rfl) (Root.ali rfl (by decide) (by decide)) rfl rfl (by decide)) (ko 4 rfl <| kc4 23 3 20 21 rfl <| kc 22 rfl <| Kn) rfl ?_
   refine st (asI rfl) rfl ?_
   refine ng ?_
   refine AW.ret ?_
   exact AX.rt (rs := [.tmp 4, .tmp 5]) (ts := [some 4, some 5]) (.inl rfl) rfl (ROs.cons (RO.tmp (At.self (by decide)) (Ko rfl (by first | (rw [vls_bad hc1]; done) | (rw [vls_torn hc1 hf h8]; done) | (rw [vls_yes hc1 hI.2 (by omega)]; done))) rfl) <| ROs.cons (RO.tmp (At.self (by decide)) (Kv rfl (by first | (rw [vls_bad hc1]; done) | (rw [vls_torn hc1 hf h8]; done) | (rw [vls_yes hc1 hI.2 (by omega)]; done))) rfl) <| ROs.nil) (by decide) OutsOK.nil
theorem c_impl_ValuesOf (s : List DField) (e : DCard) : AC Tryz.prog 6 [.cel (Kd.slice kField) s, .agg kCard e] [.cel (Kd.slice (Kd.int .i64)) (vlsS s e).1, .cel (Kd.int .i64) (vlsS s e).2] [] := (c_impl_ValuesOf_o s e).frz rfl
end Go.Proofs.YtlhfmcbmlmhgaaaGreatDoor.VL
