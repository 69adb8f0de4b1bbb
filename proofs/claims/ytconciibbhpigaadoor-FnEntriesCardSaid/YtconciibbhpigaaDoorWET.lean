/- Proved here: what some functions of the program take and give: walks with the words of VA..VQ. Printed by program. -/
import Derived.Test.YtconciibbhpigaaDoorWT
import Derived.Test.YtconciibbhpigaaDoorPXG
import Derived.Test.YtconciibbhpigaaDoorWEN
import Derived.Test.YtconciibbhpigaaDoorWSP
import Derived.Test.YtconciibbhpigaaDoorWRE
import Derived.Test.YtconciibbhpigaaDoorWC1
import Derived.Test.YtconciibbhpigaaDoorWFI
import Derived.Test.YtconciibbhpigaaDoorWSR
set_option linter.unusedVariables false
set_option linter.unusedSimpArgs false
set_option maxRecDepth 4000
namespace Go.Proofs.YtconciibbhpigaaDoor.VL
open Go
/-- impl.catalogueText -/
theorem c_impl_catalogueText (list : List DEnt) (hC : catI list) : AC Tryd.prog 31 [.cel (Kd.slice kEnt) list] [.cel Kd.str (catT list)] [] := by
 refine acI (N := 46) Tryd.func31 (Nat.le_of_ble_eq_true rfl) rfl fun w0 hd s0 ar => ?_
 refine AW.to (kc 0 rfl <| Kn) ?_
 have hnl := hC.len
 refine sr ?_
 refine st (OpT.move (A := .cel _ _) (.inr rfl) rfl (ok' rfl) (Opd.str (by decide)) rfl) rfl ?_
 refine ng ?_
 refine sr ?_
 refine st (OpT.move (A := .cel _ _) (.inr rfl) rfl (ok' rfl) (Opd.str (by decide)) rfl) rfl ?_
 refine ng ?_
 refine AW.seq ?_
 refine sr ?_
 refine st (mvT rfl) rfl ?_
 refine st (OpT.len (H rfl) (T1 rfl) el24) rfl ?_
 refine st (mvI rfl) rfl ?_
 refine ng ?_
 refine AW.block ?_
 refine AW.loop (fun z : Nat => z ≤ list.length) (fun z : Nat => keep [(0, .cel (Kd.slice kEnt) list), (3, .cel Kd.str ((list.take z).foldl (catF list) .empty)), (6, .cel (Kd.slice kEnt) list), (7, .cel (Kd.int .i64) (list.length : Int)), (8, .cel (Kd.int .i64) (z : Int))]) (fun z : Nat => list.length - z) (0) (Nat.zero_le _) (Kc 0 _ (Kv rfl rfl) <| Kc 3 _ (Kv rfl rfl) <| Kc 6 _ (Kv rfl rfl) <| Kc 7 _ (Kv rfl rfl) <| Kc 8 _ (Kv rfl rfl) <| Kn) ?_
 intro z hI
 refine sr ?_
 refine st (OpT.lss (H rfl) (T1 rfl) (T1 rfl)) rfl ?_
 refine ng ?_
 refine AW.seq ?_
 refine cd rfl (fun hc1 => ?_) fun hc1 => ?_
 ·
  obtain ⟨hc1, hc1'⟩ := pT hc1
  obtain ⟨x, hx⟩ := getI (x := list) (z := z) (by omega)
  have hcs := cat_size hC z
  have hlk := lnk hC (mem_getI hx)
  have hns := (called_ok _ hlk.1).2.1
  have hst := catT_step (list := list) hx
  refine AW.skip ?_
  refine AX.go ?_
  refine AW.seq ?_
  refine AW.block ?_
  refine sr ?_
  refine st (OpT.indexAddr (H rfl) (T1 rfl) (T1 rfl) el24 sz38 (by omega) hx) rfl ?_
  refine st (OpT.loadA (H rfl) (T1 rfl) ag38 sz38) rfl ?_
  refine st (OpT.alloc (H rfl) zr38 zk38) rfl ?_
  refine sk (OpT.storeBA rfl rfl (Opd.whole (Root.self (t := 5) (by decide)) rfl) rfl sz38 (by decide) (T1 rfl)) rfl ?_
  refine ng ?_
  refine sr ?_
  refine st (mvT rfl) rfl ?_
  refine st (OpT.fieldAddrB (H rfl) (Root.self (t := 5) (by decide)) rfl (by decide) fd38_0 sz9 (by decide) sb38_0) rfl ?_
  refine st (OpT.loadP (H rfl) (T1 rfl) (.inl ⟨_, rfl, rfl⟩) ag9 rfl) rfl ?_
  refine st (OpT.sadd (H rfl) (T1 rfl) (T1 rfl) (by have e1 : seeB.size = 5 := rfl; have e2 : belB.size = 7 := rfl; have e3 : bnl.size = 1 := rfl; have e4 : (⟨#[10]⟩ : ByteArray).size = 1 := rfl; have e5 : (⟨#[59, 115, 101, 101, 32]⟩ : ByteArray).size = 5 := rfl; have e6 : (⟨#[59, 98, 101, 108, 111, 119, 32]⟩ : ByteArray).size = 7 := rfl; (try simp only [ByteArray.size_append]); (try simp only [nmE] at *); omega)) rfl ?_
  refine st (asT rfl) rfl ?_
  refine ng ?_
  refine AW.seq ?_
  refine AW.block ?_
  refine sr ?_
  refine st (OpT.fieldAddrB (H rfl) (Root.self (t := 5) (by decide)) rfl (by decide) fd38_1 sz2 (by decide) sb38_1) rfl ?_
  refine st (OpT.loadP (H rfl) (T1 rfl) (.inl ⟨_, rfl, rfl⟩) ag2 rfl) rfl ?_
  refine st (OpT.neq (H rfl) (T1 rfl) (I rfl)) rfl ?_
  refine st (asT rfl) rfl ?_
  refine ng ?_
  refine cd rfl (fun hc2 => ?_) fun hc2 => ?_
  ·
   obtain ⟨hc2, hc2'⟩ := pT hc2
   have hs : x.2.1 ≠ -1 := by simpa using hc2
   have hnz := nm_size hC (i := x.2.1) (by omega)
   refine AW.region ?_
   refine st (mvT rfl) rfl ?_
   refine st (mvT rfl) rfl ?_
   refine st (OpT.fieldAddrB (H rfl) (Root.self (t := 5) (by decide)) rfl (by decide) fd38_1 sz2 (by decide) sb38_1) rfl ?_
   refine st (OpT.loadP (H rfl) (T1 rfl) (.inl ⟨_, rfl, rfl⟩) ag2 rfl) rfl ?_
   refine st (OpT.indexAddr (H rfl) (T1 rfl) (T1 rfl) el24 sz38 (by omega) (eAt_get (by omega))) rfl ?_
   refine st (OpT.fieldAddr (H rfl) (T1 rfl) fd38_0 sz9 (by decide) sb38_0) rfl ?_
   refine st (OpT.load (H rfl) (T1 rfl) ag9 rfl) rfl ?_
   refine st (OpT.sadd (H rfl) (Opd.str (by decide)) (T1 rfl) (by have e1 : seeB.size = 5 := rfl; have e2 : belB.size = 7 := rfl; have e3 : bnl.size = 1 := rfl; have e4 : (⟨#[10]⟩ : ByteArray).size = 1 := rfl; have e5 : (⟨#[59, 115, 101, 101, 32]⟩ : ByteArray).size = 5 := rfl; have e6 : (⟨#[59, 98, 101, 108, 111, 119, 32]⟩ : ByteArray).size = 7 := rfl; (try simp only [ByteArray.size_append]); (try simp only [nmE] at *); omega)) rfl ?_
   refine st (OpT.sadd (H rfl) (T1 rfl) (T1 rfl) (by have e1 : seeB.size = 5 := rfl; have e2 : belB.size = 7 := rfl; have e3 : bnl.size = 1 := rfl; have e4 : (⟨#[10]⟩ : ByteArray).size = 1 := rfl; have e5 : (⟨#[59, 115, 101, 101, 32]⟩ : ByteArray).size = 5 := rfl; have e6 : (⟨#[59, 98, 101, 108, 111, 119, 32]⟩ : ByteArray).size = 7 := rfl; (try simp only [ByteArray.size_append]); (try simp only [nmE] at *); omega)) rfl ?_
   refine st (asT rfl) rfl ?_
   refine nn ?_
   refine AX.normal_block ?_
   refine AX.go ?_
   refine AW.region ?_
   refine st (mvT rfl) rfl ?_
   refine st (OpT.sadd (H rfl) (T1 rfl) (Opd.str (by decide)) (by have e1 : seeB.size = 5 := rfl; have e2 : belB.size = 7 := rfl; have e3 : bnl.size = 1 := rfl; have e4 : (⟨#[10]⟩ : ByteArray).size = 1 := rfl; have e5 : (⟨#[59, 115, 101, 101, 32]⟩ : ByteArray).size = 5 := rfl; have e6 : (⟨#[59, 98, 101, 108, 111, 119, 32]⟩ : ByteArray).size = 7 := rfl; (try simp only [ByteArray.size_append]); (try simp only [nmE] at *); omega)) rfl ?_
   refine st (asT rfl) rfl ?_
   refine nn ?_
   refine AX.normal_block ?_
   refine AX.go ?_
   refine AW.region ?_
   refine st (OpT.add (H rfl) (T1 rfl) (I rfl) (nw (by omega))) rfl ?_
   refine st (mvT rfl) rfl ?_
   refine nn ?_
   exact AX.again (z + 1) (by omega) (by omega) (Kc 0 _ (Kv rfl rfl) <| Kc 3 _ (Kv rfl (by rw [hst]; first | exact cf_see hs | exact cf_bel hs hb | exact cf_none hs hb)) <| Kc 6 _ (Kv rfl rfl) <| Kc 7 _ (Kv rfl rfl) <| Kc 8 _ (Kv rfl (by omega)) <| Kn)
  ·
   obtain ⟨hc2, hc2'⟩ := pF hc2
   have hs : x.2.1 = -1 := by simpa using hc2
   refine sr ?_
   refine st (OpT.fieldAddrB (H rfl) (Root.self (t := 5) (by decide)) rfl (by decide) fd38_2 sz2 (by decide) sb38_2) rfl ?_
   refine st (OpT.loadP (H rfl) (T1 rfl) (.inl ⟨_, rfl, rfl⟩) ag2 rfl) rfl ?_
   refine st (OpT.neq (H rfl) (T1 rfl) (I rfl)) rfl ?_
   refine st (asT rfl) rfl ?_
   refine ng ?_
   refine cd rfl (fun hc3 => ?_) fun hc3 => ?_
   ·
    obtain ⟨hc3, hc3'⟩ := pT hc3
    have hb : x.2.2 ≠ -1 := by simpa using hc3
    have hnz := nm_size hC (i := x.2.2) (by omega)
    refine AW.region ?_
    refine st (mvT rfl) rfl ?_
    refine st (mvT rfl) rfl ?_
    refine st (OpT.fieldAddrB (H rfl) (Root.self (t := 5) (by decide)) rfl (by decide) fd38_2 sz2 (by decide) sb38_2) rfl ?_
    refine st (OpT.loadP (H rfl) (T1 rfl) (.inl ⟨_, rfl, rfl⟩) ag2 rfl) rfl ?_
    refine st (OpT.indexAddr (H rfl) (T1 rfl) (T1 rfl) el24 sz38 (by omega) (eAt_get (by omega))) rfl ?_
    refine st (OpT.fieldAddr (H rfl) (T1 rfl) fd38_0 sz9 (by decide) sb38_0) rfl ?_
    refine st (OpT.load (H rfl) (T1 rfl) ag9 rfl) rfl ?_
    refine st (OpT.sadd (H rfl) (Opd.str (by decide)) (T1 rfl) (by have e1 : seeB.size = 5 := rfl; have e2 : belB.size = 7 := rfl; have e3 : bnl.size = 1 := rfl; have e4 : (⟨#[10]⟩ : ByteArray).size = 1 := rfl; have e5 : (⟨#[59, 115, 101, 101, 32]⟩ : ByteArray).size = 5 := rfl; have e6 : (⟨#[59, 98, 101, 108, 111, 119, 32]⟩ : ByteArray).size = 7 := rfl; (try simp only [ByteArray.size_append]); (try simp only [nmE] at *); omega)) rfl ?_
    refine st (OpT.sadd (H rfl) (T1 rfl) (T1 rfl) (by have e1 : seeB.size = 5 := rfl; have e2 : belB.size = 7 := rfl; have e3 : bnl.size = 1 := rfl; have e4 : (⟨#[10]⟩ : ByteArray).size = 1 := rfl; have e5 : (⟨#[59, 115, 101, 101, 32]⟩ : ByteArray).size = 5 := rfl; have e6 : (⟨#[59, 98, 101, 108, 111, 119, 32]⟩ : ByteArray).size = 7 := rfl; (try simp only [ByteArray.size_append]); (try simp only [nmE] at *); omega)) rfl ?_
    refine st (asT rfl) rfl ?_
    refine nn ?_
    refine AX.normal_block ?_
    refine AX.go ?_
    refine AW.region ?_
    refine st (mvT rfl) rfl ?_
    refine st (OpT.sadd (H rfl) (T1 rfl) (Opd.str (by decide)) (by have e1 : seeB.size = 5 := rfl; have e2 : belB.size = 7 := rfl; have e3 : bnl.size = 1 := rfl; have e4 : (⟨#[10]⟩ : ByteArray).size = 1 := rfl; have e5 : (⟨#[59, 115, 101, 101, 32]⟩ : ByteArray).size = 5 := rfl; have e6 : (⟨#[59, 98, 101, 108, 111, 119, 32]⟩ : ByteArray).size = 7 := rfl; (try simp only [ByteArray.size_append]); (try simp only [nmE] at *); omega)) rfl ?_
    refine st (asT rfl) rfl ?_
    refine nn ?_
    refine AX.normal_block ?_
    refine AX.go ?_
    refine AW.region ?_
    refine st (OpT.add (H rfl) (T1 rfl) (I rfl) (nw (by omega))) rfl ?_
    refine st (mvT rfl) rfl ?_
    refine nn ?_
    exact AX.again (z + 1) (by omega) (by omega) (Kc 0 _ (Kv rfl rfl) <| Kc 3 _ (Kv rfl (by rw [hst]; first | exact cf_see hs | exact cf_bel hs hb | exact cf_none hs hb)) <| Kc 6 _ (Kv rfl rfl) <| Kc 7 _ (Kv rfl rfl) <| Kc 8 _ (Kv rfl (by omega)) <| Kn)
   ·
    obtain ⟨hc3, hc3'⟩ := pF hc3
    have hb : x.2.2 = -1 := by simpa using hc3
    refine AW.skip ?_
    refine AX.normal_block ?_
    refine AX.go ?_
    refine AW.region ?_
    refine st (mvT rfl) rfl ?_
    refine st (OpT.sadd (H rfl) (T1 rfl) (Opd.str (by decide)) (by have e1 : seeB.size = 5 := rfl; have e2 : belB.size = 7 := rfl; have e3 : bnl.size = 1 := rfl; have e4 : (⟨#[10]⟩ : ByteArray).size = 1 := rfl; have e5 : (⟨#[59, 115, 101, 101, 32]⟩ : ByteArray).size = 5 := rfl; have e6 : (⟨#[59, 98, 101, 108, 111, 119, 32]⟩ : ByteArray).size = 7 := rfl; (try simp only [ByteArray.size_append]); (try simp only [nmE] at *); omega)) rfl ?_
    refine st (asT rfl) rfl ?_
    refine nn ?_
    refine AX.normal_block ?_
    refine AX.go ?_
    refine AW.region ?_
    refine st (OpT.add (H rfl) (T1 rfl) (I rfl) (nw (by omega))) rfl ?_
    refine st (mvT rfl) rfl ?_
    refine nn ?_
    exact AX.again (z + 1) (by omega) (by omega) (Kc 0 _ (Kv rfl rfl) <| Kc 3 _ (Kv rfl (by rw [hst]; first | exact cf_see hs | exact cf_bel hs hb | exact cf_none hs hb)) <| Kc 6 _ (Kv rfl rfl) <| Kc 7 _ (Kv rfl rfl) <| Kc 8 _ (Kv rfl (by omega)) <| Kn)
 ·
  obtain ⟨hc1, hc1'⟩ := pF hc1
  refine AW.exit ?_
  refine xT <| xT <| AX.exit_hit ?_
  refine AX.go ?_
  refine sr ?_
  refine st (mvT rfl) rfl ?_
  refine st (asT rfl) rfl ?_
  refine ng ?_
  refine AW.ret ?_
  exact rt1 rfl (.inl rfl) (by rw [List.take_of_length_le (by omega)]; rfl)

/-- impl.CatalogueText -/
theorem c_impl_CatalogueText (list : List DEnt) (hC : catI list) : AC Tryd.prog 8 [.cel (Kd.slice kEnt) list] [.cel Kd.str (catT list)] [] := by
 refine acI (N := 8) Tryd.func8 (Nat.le_of_ble_eq_true rfl) rfl fun w0 hd s0 ar => ?_
 refine AW.to (kc 0 rfl <| Kn) ?_
 refine sr ?_
 refine st (OpT.move (A := .cel _ _) (.inr rfl) rfl (ok' rfl) (Opd.str (by decide)) rfl) rfl ?_
 refine ng ?_
 refine AW.seq ?_
 refine sr ?_
 refine st (mvT rfl) rfl ?_
 refine st (OpT.c1 (ms := [.flat]) (c_impl_isCatalogue list hC) (H rfl) (Af (T1 rfl) rfl rfl <| An) rfl rfl) rfl ?_
 refine st (OpT.not (H rfl) (T1 rfl)) rfl ?_
 refine ng ?_
 refine cd rfl (fun hc1 => ?_) fun hc1 => ?_
 ·
  replace hc1 := oT hc1
  exact (show False from (by simp at hc1)).elim
 ·
  replace hc1 := oF hc1
  refine AW.skip ?_
  refine AX.go ?_
  refine sr ?_
  refine st (mvT rfl) rfl ?_
  refine st (OpT.c1 (ms := [.flat]) (c_impl_catalogueText list hC) (H rfl) (Af (T1 rfl) rfl rfl <| An) rfl rfl) rfl ?_
  refine st (asT rfl) rfl ?_
  refine ng ?_
  refine AW.ret ?_
  exact rt1 rfl (.inl rfl) rfl

set_option maxHeartbeats 4000000 in
/-- impl.ReadCatalogue -/
theorem c_impl_ReadCatalogue_o (list : List DEnt) (hC : catI list) : AC Tryd.prog 7 [.cel Kd.str (catT list)] [.own 38 kEnt list, .cel (Kd.int .i64) (0 : Int)] [] := by
 refine acI (N := 101) Tryd.func7 (Nat.le_of_ble_eq_true rfl) rfl fun w0 hd s0 ar => ?_
 refine AW.to (kc 0 rfl <| Kn) ?_
 have hnl := hC.len
 have hcs : (catT list).size ≤ 1000 := by (have h9 := cat_size hC list.length; rw [List.take_length] at h9; show (list.foldl (catF list) .empty).size ≤ 1000; omega)
 have hln := cat_lines hC
 refine sr ?_
 refine st (nilO (E := 38) kEnt rfl (.inl rfl)) rfl ?_
 refine st (asI rfl) rfl ?_
 refine ng ?_
 refine sr ?_
 refine st (mvT rfl) rfl ?_
 refine s2 (OpT.c2 (ms := [.flat]) (c_impl_linesOf (catT list) (by omega)) (H rfl) (Af (T1 rfl) rfl rfl <| An) rfl rfl rfl) rfl ?_
 refine st (OpT.alias (H rfl) (by decide) (by decide)) rfl ?_
 refine st (OpT.extractV (m := 10025) (H rfl) rfl rfl rfl rfl rfl rfl rfl) rfl ?_
 refine AWl.to (Kc 26 _ (Kv rfl (show _ = list.map (entL list) from by rw [hln])) <| (Kc 23 (.ali _) rfl <| kc4 10025 20025 24 3 rfl <| ko 2 rfl <| kc 0 rfl <| Kn)) ?_
 refine st (OpT.extractV (m := 20025) (H rfl) rfl rfl rfl rfl rfl rfl rfl) rfl ?_
 refine AWl.to (Kc 27 _ (Kv rfl (show _ = true from by rw [hln])) <| (kc 26 rfl <| Kc 23 (.ali _) rfl <| kc4 10025 20025 24 3 rfl <| ko 2 rfl <| kc 0 rfl <| Kn)) ?_
 refine st (asT rfl) rfl ?_
 refine st (asT rfl) rfl ?_
 refine ng ?_
 refine AW.seq ?_
 refine sr ?_
 refine st (mvT rfl) rfl ?_
 refine st (OpT.not (H rfl) (T1 rfl)) rfl ?_
 refine ng ?_
 refine cd rfl (fun hc1 => ?_) fun hc1 => ?_
 ·
  obtain ⟨hc1, hc1'⟩ := pT hc1
  exact (show False from (by simp at hc1)).elim
 ·
  obtain ⟨hc1, hc1'⟩ := pF hc1
  refine AW.skip ?_
  refine AX.go ?_
  refine sr ?_
  refine st (OpT.buildSlice0 (m := 0) (z := .bool false) Kd.str (H rfl) el47 sz9 (by decide)) rfl ?_
  refine sg (OpT.take (.inl rfl) rfl (ok' rfl) (Root.self (by decide)) rfl rfl (by decide)) (ko 6 rfl <| kc4 29 28 5 4 rfl <| kc2 27 26 rfl <| Kc 23 (.ali _) rfl <| kc4 10025 20025 24 3 rfl <| ko 2 rfl <| kc 0 rfl <| Kn) rfl ?_
  refine ng ?_
  refine AW.seq ?_
  refine sr ?_
  refine st (mvT rfl) rfl ?_
  refine st (OpT.len (H rfl) (T1 rfl) el47) rfl ?_
  refine st (mvI rfl) rfl ?_
  refine ng ?_
  refine AW.block ?_
  refine AW.loop (fun z : Nat => z ≤ list.length) (fun z : Nat => keep [(0, .cel Kd.str (catT list)), (4, .cel (Kd.slice Kd.str) (list.map (entL list))), (6, .own 9 Kd.str ((list.take z).map (·.1))), (31, .cel (Kd.slice Kd.str) (list.map (entL list))), (32, .cel (Kd.int .i64) ((list.map (entL list)).length : Int)), (33, .cel (Kd.int .i64) (z : Int))]) (fun z : Nat => list.length - z) (0) (Nat.zero_le _) (Kc 0 _ (Kv rfl rfl) <| Kc 4 _ (Kv rfl rfl) <| Kc 6 _ (Ko rfl rfl) <| Kc 31 _ (Kv rfl rfl) <| Kc 32 _ (Kv rfl rfl) <| Kc 33 _ (Kv rfl rfl) <| Kn) ?_
  intro z hI
  refine sr ?_
  refine st (OpT.lss (H rfl) (T1 rfl) (T1 rfl)) rfl ?_
  refine ng ?_
  refine AW.seq ?_
  refine cd rfl (fun hc2 => ?_) fun hc2 => ?_
  ·
   obtain ⟨hc2, hc2'⟩ := pT hc2
   have hzl : z < list.length := by (simp at hc2; omega)
   obtain ⟨x, hx⟩ := getI (x := list) (z := z) hzl
   have hc1e := cut_one hC (mem_getI hx)
   have hes := ent_size hC (mem_getI hx)
   refine AW.skip ?_
   refine AX.go ?_
   refine AW.seq ?_
   refine AW.block ?_
   refine sr ?_
   refine st (OpT.indexAddr (H rfl) (T1 rfl) (T1 rfl) el47 sz9 (by omega) (map_get hx)) rfl ?_
   refine st (OpT.load (H rfl) (T1 rfl) ag9 rfl) rfl ?_
   refine st (asT rfl) rfl ?_
   refine ng ?_
   refine sr ?_
   refine st (mvT rfl) rfl ?_
   refine s3 (cN (ms := [.flat, .flat]) (c_strings_Cut (entL list x) 59 (by omega)) (H rfl) (Af (T1 rfl) rfl rfl <| Af (Opd.str (by decide)) rfl rfl <| An) rfl (.inl rfl)) rfl ?_
   refine st (OpT.alias (H rfl) (by decide) (by decide)) rfl ?_
   refine st (OpT.extractV (m := 10039) (H rfl) rfl rfl rfl rfl rfl rfl rfl) rfl ?_
   refine AWl.to (Kc 40 _ (Kv rfl (show _ = x.1 from by rw [hc1e])) <| (Kc 37 (.ali _) rfl <| kc4 10039 20039 30039 38 rfl <| kc4 8 36 35 34 rfl <| kc2 0 4 rfl <| ko 6 rfl <| kc3 31 32 33 rfl <| Kn)) ?_
   refine st (OpT.extractV (m := 20039) (H rfl) rfl rfl rfl rfl rfl rfl rfl) rfl ?_
   refine st (OpT.extractV (m := 30039) (H rfl) rfl rfl rfl rfl rfl rfl rfl) rfl ?_
   refine st (asT rfl) rfl ?_
   refine st (asT rfl) rfl ?_
   refine st (asT rfl) rfl ?_
   refine ng ?_
   refine AW.region ?_
   refine st (OpT.alias (H rfl) (by decide) (by decide)) rfl ?_
   refine st (mvT rfl) rfl ?_
   refine st (OpT.buildSlice (H rfl) el47 zr9 sz9 rfl (by decide) zk9 (by decide) (Built.cel (T1 rfl) rfl rfl (sub_arr (by decide) (.empty : ByteArray)) (Built.nil _))) rfl ?_
   refine sg (OpT.append (H rfl) (Root.ali rfl (by decide) (by decide)) rfl (Src.own (Root.self (t := 45) (by decide)) rfl) (by decide) el47 zr9 rfl sz9 by9 (by decide) (by simp only [List.length_map, List.length_take, List.length_cons, List.length_nil, List.length_set, List.length_replicate]; omega)) (ko 46 rfl <| ko 45 rfl <| kc4 44 11 10 9 rfl <| kc3 42 41 40 rfl <| Kc 37 (.ali _) rfl <| kc4 10039 20039 30039 38 rfl <| kc4 8 36 35 34 rfl <| kc4 0 4 31 32 rfl <| kc 33 rfl <| Kn) rfl ?_
   refine sg (OpT.take (.inl rfl) rfl (ok' rfl) (Root.self (by decide)) rfl rfl (by decide)) (ko 6 rfl <| ko 45 rfl <| kc4 44 11 10 9 rfl <| kc3 42 41 40 rfl <| Kc 37 (.ali _) rfl <| kc4 10039 20039 30039 38 rfl <| kc4 8 36 35 34 rfl <| kc4 0 4 31 32 rfl <| kc 33 rfl <| Kn) rfl ?_
   refine nn ?_
   refine AX.normal_block ?_
   refine AX.go ?_
   refine AW.region ?_
   refine st (OpT.add (H rfl) (T1 rfl) (I rfl) (nw (by omega))) rfl ?_
   refine st (mvT rfl) rfl ?_
   refine nn ?_
   exact AX.again (z + 1) (by omega) (by omega) (Kc 0 _ (Kv rfl rfl) <| Kc 4 _ (Kv rfl rfl) <| Kc 6 _ (Ko rfl (by rw [take_more hx, List.map_append]; rfl)) <| Kc 31 _ (Kv rfl rfl) <| Kc 32 _ (Kv rfl rfl) <| Kc 33 _ (Kv rfl (by omega)) <| Kn)
  ·
   obtain ⟨hc2, hc2'⟩ := pF hc2
   have hzz : list.length ≤ z := by (simp at hc2; omega)
   refine AW.exit ?_
   refine xT <| xT <| AX.exit_hit ?_
   refine AX.go ?_
   refine sr ?_
   refine AWl.to (Kc 6 _ (Ko rfl (show _ = list.map (·.1) from by rw [List.take_of_length_le (by omega)])) <| (kc4 34 0 4 31 rfl <| kc2 32 33 rfl <| Kn)) ?_
   refine st (OpT.buildSlice0 (m := 0) (z := .bool false) kEnt (H rfl) el24 sz38 (by decide)) rfl ?_
   refine sg (OpT.take (.inl rfl) rfl (ok' rfl) (Root.self (by decide)) rfl rfl (by decide)) (ko 12 rfl <| ko 6 rfl <| kc4 34 0 4 31 rfl <| kc2 32 33 rfl <| Kn) rfl ?_
   refine ng ?_
   refine AW.seq ?_
   refine sr ?_
   refine st (mvT rfl) rfl ?_
   refine st (OpT.len (H rfl) (T1 rfl) el47) rfl ?_
   refine st (mvI rfl) rfl ?_
   refine ng ?_
   refine AW.block ?_
   refine AW.loop (fun z : Nat => z ≤ list.length) (fun z : Nat => keep [(0, .cel Kd.str (catT list)), (6, .own 9 Kd.str (list.map (·.1))), (12, .own 38 kEnt (list.take z)), (49, .cel (Kd.slice Kd.str) (list.map (entL list))), (50, .cel (Kd.int .i64) ((list.map (entL list)).length : Int)), (51, .cel (Kd.int .i64) (z : Int))]) (fun z : Nat => list.length - z) (0) (Nat.zero_le _) (Kc 0 _ (Kv rfl rfl) <| Kc 6 _ (Ko rfl rfl) <| Kc 12 _ (Ko rfl rfl) <| Kc 49 _ (Kv rfl rfl) <| Kc 50 _ (Kv rfl rfl) <| Kc 51 _ (Kv rfl rfl) <| Kn) ?_
   intro z hI
   refine sr ?_
   refine st (OpT.lss (H rfl) (T1 rfl) (T1 rfl)) rfl ?_
   refine ng ?_
   refine AW.seq ?_
   refine cd rfl (fun hc3 => ?_) fun hc3 => ?_
   ·
    obtain ⟨hc3, hc3'⟩ := pT hc3
    have hzl : z < list.length := by (simp at hc3; omega)
    obtain ⟨x, hx⟩ := getI (x := list) (z := z) hzl
    have hx6 : (list.map (·.1))[Int.toNat ((z : Nat) : Int)]? = some x.1 := map_get hx
    have hc1e := cut_one hC (mem_getI hx)
    have hes := ent_size hC (mem_getI hx)
    refine AW.skip ?_
    refine AX.go ?_
    refine AW.seq ?_
    refine AW.block ?_
    refine sr ?_
    refine st (mvT rfl) rfl ?_
    refine st (OpT.indexAddr (H rfl) (T1 rfl) (T1 rfl) el47 sz9 (by omega) (map_get hx)) rfl ?_
    refine st (OpT.load (H rfl) (T1 rfl) ag9 rfl) rfl ?_
    refine st (asT rfl) rfl ?_
    refine st (asT rfl) rfl ?_
    refine ng ?_
    refine sr ?_
    refine st (OpT.alias (H rfl) (by decide) (by decide)) rfl ?_
    refine st (mvT rfl) rfl ?_
    refine st (OpT.indexAddrO (H rfl) (Root.ali rfl (by decide) (by decide)) rfl (by decide) (T1 rfl) el47 sz9 (by omega) hx6) rfl ?_
    refine st (OpT.loadP (H rfl) (T1 rfl) (.inr ⟨_, _, rfl, (by assumption)⟩) ag9 rfl) rfl ?_
    refine st (OpT.build (H rfl) pl38 zr38 zk38 (Built.cel (T1 rfl) rfl rfl sb38_0 (Built.cel (I rfl) rfl rfl sb38_1 (Built.cel (I rfl) rfl rfl sb38_2 (Built.nil _))))) rfl ?_
    refine st (OpT.alloc (H rfl) zr38 zk38) rfl ?_
    refine sk (OpT.storeBA rfl rfl (Opd.whole (Root.self (t := 15) (by decide)) rfl) rfl sz38 (by decide) (T1 rfl)) rfl ?_
    refine ng ?_
    refine AW.seq ?_
    refine sr ?_
    refine st (mvT rfl) rfl ?_
    refine s3 (cN (ms := [.flat, .flat]) (c_strings_Cut (entL list x) 59 (by omega)) (H rfl) (Af (T1 rfl) rfl rfl <| Af (Opd.str (by decide)) rfl rfl <| An) rfl (.inl rfl)) rfl ?_
    refine st (OpT.alias (H rfl) (by decide) (by decide)) rfl ?_
    refine st (OpT.extractV (m := 10063) (H rfl) rfl rfl rfl rfl rfl rfl rfl) rfl ?_
    refine st (OpT.extractV (m := 20063) (H rfl) rfl rfl rfl rfl rfl rfl rfl) rfl ?_
    refine AWl.to (Kc 65 _ (Kv rfl (show _ = rstE list x from by rw [hc1e])) <| (kc 64 rfl <| Kc 61 (.ali _) rfl <| kc4 10063 20063 30063 62 rfl <| kb 15 rfl <| ka 60 rfl <| kc 59 rfl <| Kc 58 (.pel _ _ _ _ _ _ _) rfl <| kc 57 rfl <| Kc 56 (.ali _) rfl <| kc4 14 13 55 54 rfl <| kc3 53 52 0 rfl <| ko 6 rfl <| ko 12 rfl <| kc3 49 50 51 rfl <| Kn)) ?_
    refine st (OpT.extractV (m := 30063) (H rfl) rfl rfl rfl rfl rfl rfl rfl) rfl ?_
    refine AWl.to (Kc 66 _ (Kv rfl (show _ = hasE x from by rw [hc1e])) <| (kc2 65 64 rfl <| Kc 61 (.ali _) rfl <| kc4 10063 20063 30063 62 rfl <| kb 15 rfl <| ka 60 rfl <| kc 59 rfl <| Kc 58 (.pel _ _ _ _ _ _ _) rfl <| kc 57 rfl <| Kc 56 (.ali _) rfl <| kc4 14 13 55 54 rfl <| kc3 53 52 0 rfl <| ko 6 rfl <| ko 12 rfl <| kc3 49 50 51 rfl <| Kn)) ?_
    refine st (asT rfl) rfl ?_
    refine st (asT rfl) rfl ?_
    refine st (asT rfl) rfl ?_
    refine ng ?_
    refine sr ?_
    refine st (mvT rfl) rfl ?_
    refine ng ?_
    refine cd rfl (fun hc4 => ?_) fun hc4 => ?_
    ·
     obtain ⟨hc4, hc4'⟩ := pT hc4
     have hh : hasE x = true := hc4
     refine sr ?_
     refine st (mvT rfl) rfl ?_
     refine s3 (cN (ms := [.flat, .flat]) (c_strings_Cut (rstE list x) 32 (by have h9 := rst_size hC (mem_getI hx); omega)) (H rfl) (Af (T1 rfl) rfl rfl <| Af (Opd.str (by decide)) rfl rfl <| An) rfl (.inl rfl)) rfl ?_
     refine st (OpT.alias (H rfl) (by decide) (by decide)) rfl ?_
     refine st (OpT.extractV (m := 10070) (H rfl) rfl rfl rfl rfl rfl rfl rfl) rfl ?_
     refine AWl.to (Kc 71 _ (Kv rfl (show _ = wrdE x from by rw [cut_two hh])) <| (Kc 68 (.ali _) rfl <| kc4 10070 20070 30070 69 rfl <| kc4 67 18 17 16 rfl <| kc3 66 65 64 rfl <| Kc 61 (.ali _) rfl <| kc4 10063 20063 30063 62 rfl <| kb 15 rfl <| ka 60 rfl <| kc 59 rfl <| Kc 58 (.pel _ _ _ _ _ _ _) rfl <| kc 57 rfl <| Kc 56 (.ali _) rfl <| kc4 14 13 55 54 rfl <| kc3 53 52 0 rfl <| ko 6 rfl <| ko 12 rfl <| kc3 49 50 51 rfl <| Kn)) ?_
     refine st (OpT.extractV (m := 20070) (H rfl) rfl rfl rfl rfl rfl rfl rfl) rfl ?_
     refine AWl.to (Kc 72 _ (Kv rfl (show _ = nmE list (lnkE x) from by rw [cut_two hh])) <| (kc 71 rfl <| Kc 68 (.ali _) rfl <| kc4 10070 20070 30070 69 rfl <| kc4 67 18 17 16 rfl <| kc3 66 65 64 rfl <| Kc 61 (.ali _) rfl <| kc4 10063 20063 30063 62 rfl <| kb 15 rfl <| ka 60 rfl <| kc 59 rfl <| Kc 58 (.pel _ _ _ _ _ _ _) rfl <| kc 57 rfl <| Kc 56 (.ali _) rfl <| kc4 14 13 55 54 rfl <| kc3 53 52 0 rfl <| ko 6 rfl <| ko 12 rfl <| kc3 49 50 51 rfl <| Kn)) ?_
     refine st (OpT.extractV (m := 30070) (H rfl) rfl rfl rfl rfl rfl rfl rfl) rfl ?_
     refine st (asT rfl) rfl ?_
     refine st (asT rfl) rfl ?_
     refine st (asT rfl) rfl ?_
     refine ng ?_
     refine sr ?_
     refine st (OpT.alias (H rfl) (by decide) (by decide)) rfl ?_
     refine st (mvT rfl) rfl ?_
     refine st (cb1 (ms := [.bor 6, .flat]) (c_slices_Index_string_string _ _) (H rfl) (Ab (Root.ali rfl (by decide) (by decide)) rfl <| Af (T1 rfl) rfl rfl <| An) rfl (indC fun _ _ _ _ h => h)) rfl ?_
     refine AWl.to (Kc 76 _ (Kv rfl (show _ = lnkE x from idx_at hC (lnk_in hC (mem_getI hx) hh))) <| (kc 75 rfl <| Kc 74 (.ali _) rfl <| kc4 21 20 19 73 rfl <| kc2 72 71 rfl <| Kc 68 (.ali _) rfl <| kc4 10070 20070 30070 69 rfl <| kc4 67 18 17 16 rfl <| kc3 66 65 64 rfl <| Kc 61 (.ali _) rfl <| kc4 10063 20063 30063 62 rfl <| kb 15 rfl <| ka 60 rfl <| kc 59 rfl <| Kc 58 (.pel _ _ _ _ _ _ _) rfl <| kc 57 rfl <| Kc 56 (.ali _) rfl <| kc4 14 13 55 54 rfl <| kc3 53 52 0 rfl <| ko 6 rfl <| ko 12 rfl <| kc3 49 50 51 rfl <| Kn)) ?_
     refine st (asT rfl) rfl ?_
     refine ng ?_
     refine sr ?_
     refine st (mvT rfl) rfl ?_
     refine ng ?_
     refine AW.block ?_
     refine sr ?_
     refine st (OpT.seqv (H rfl) (T1 rfl) (Opd.str (by decide))) rfl ?_
     refine st (asT rfl) rfl ?_
     refine ng ?_
     refine cd rfl (fun hc5 => ?_) fun hc5 => ?_
     ·
      obtain ⟨hc5, hc5'⟩ := pT hc5
      have hs : x.2.1 ≠ -1 := of_decide_eq_true ((wrd_see x).symm.trans hc5)
      refine AW.region ?_
      refine st (mvT rfl) rfl ?_
      refine st (OpT.fieldAddrB (H rfl) (Root.self (t := 15) (by decide)) rfl (by decide) fd38_1 sz2 (by decide) sb38_1) rfl ?_
      refine sk (OpT.storeB rfl rfl (T1 rfl) rfl sz2 rfl (T1 rfl)) rfl ?_
      refine nn ?_
      refine AX.normal_block ?_
      refine AX.go ?_
      refine AW.region ?_
      refine st (OpT.alias (H rfl) (by decide) (by decide)) rfl ?_
      refine st (OpT.loadB (H rfl) (Root.self (t := 15) (by decide)) rfl ag38 sz38) rfl ?_
      refine st (OpT.buildSlice (H rfl) el24 zr38 sz38 rfl (by decide) zk38 (by decide) (Built.agg (T1 rfl) rfl (by decide) (sub_arr (by decide) ((.empty, 0, 0) : ByteArray × Int × Int)) (Built.nil _))) rfl ?_
      refine sg (OpT.append (H rfl) (Root.ali rfl (by decide) (by decide)) rfl (Src.own (Root.self (t := 88) (by decide)) rfl) (by decide) el24 zr38 rfl sz38 by38 (by decide) (by simp only [List.length_map, List.length_take, List.length_cons, List.length_nil, List.length_set, List.length_replicate]; omega)) (ko 89 rfl <| ko 88 rfl <| ka 87 rfl <| kb 15 rfl <| Kc 81 (.pel _ _ _ _ _ _ _) rfl <| kc4 80 78 79 77 rfl <| kc3 22 76 75 rfl <| Kc 74 (.ali _) rfl <| kc4 21 20 19 73 rfl <| kc2 72 71 rfl <| Kc 68 (.ali _) rfl <| kc4 10070 20070 30070 69 rfl <| kc4 67 18 17 16 rfl <| kc3 66 65 64 rfl <| Kc 61 (.ali _) rfl <| kc4 10063 20063 30063 62 rfl <| ka 60 rfl <| kc 59 rfl <| Kc 58 (.pel _ _ _ _ _ _ _) rfl <| kc 57 rfl <| Kc 56 (.ali _) rfl <| kc4 14 13 55 54 rfl <| kc3 53 52 0 rfl <| ko 6 rfl <| kc3 49 50 51 rfl <| Kn) rfl ?_
      refine sg (OpT.take (.inl rfl) rfl (ok' rfl) (Root.self (by decide)) rfl rfl (by decide)) (ko 12 rfl <| ko 88 rfl <| ka 87 rfl <| kb 15 rfl <| Kc 81 (.pel _ _ _ _ _ _ _) rfl <| kc4 80 78 79 77 rfl <| kc3 22 76 75 rfl <| Kc 74 (.ali _) rfl <| kc4 21 20 19 73 rfl <| kc2 72 71 rfl <| Kc 68 (.ali _) rfl <| kc4 10070 20070 30070 69 rfl <| kc4 67 18 17 16 rfl <| kc3 66 65 64 rfl <| Kc 61 (.ali _) rfl <| kc4 10063 20063 30063 62 rfl <| ka 60 rfl <| kc 59 rfl <| Kc 58 (.pel _ _ _ _ _ _ _) rfl <| kc 57 rfl <| Kc 56 (.ali _) rfl <| kc4 14 13 55 54 rfl <| kc3 53 52 0 rfl <| ko 6 rfl <| kc3 49 50 51 rfl <| Kn) rfl ?_
      refine nn ?_
      refine AX.normal_block ?_
      refine AX.go ?_
      refine AW.region ?_
      refine st (OpT.add (H rfl) (T1 rfl) (I rfl) (nw (by omega))) rfl ?_
      refine st (mvT rfl) rfl ?_
      refine nn ?_
      exact AX.again (z + 1) (by omega) (by omega) (Kc 0 _ (Kv rfl rfl) <| Kc 6 _ (Ko rfl rfl) <| Kc 12 _ (Ko rfl (by first | exact rc_see (x := x) hC hx hs | exact rc_bel (x := x) hx hs | exact rc_none (x := x) hx hh)) <| Kc 49 _ (Kv rfl rfl) <| Kc 50 _ (Kv rfl rfl) <| Kc 51 _ (Kv rfl (by omega)) <| Kn)
     ·
      obtain ⟨hc5, hc5'⟩ := pF hc5
      have hs : x.2.1 = -1 := Decidable.of_not_not (of_decide_eq_false ((wrd_see x).symm.trans hc5))
      refine sr ?_
      refine st (OpT.seqv (H rfl) (T1 rfl) (Opd.str (by decide))) rfl ?_
      refine st (asT rfl) rfl ?_
      refine ng ?_
      refine cd rfl (fun hc6 => ?_) fun hc6 => ?_
      ·
       obtain ⟨hc6, hc6'⟩ := pT hc6
       refine AW.region ?_
       refine st (mvT rfl) rfl ?_
       refine st (OpT.fieldAddrB (H rfl) (Root.self (t := 15) (by decide)) rfl (by decide) fd38_2 sz2 (by decide) sb38_2) rfl ?_
       refine sk (OpT.storeB rfl rfl (T1 rfl) rfl sz2 rfl (T1 rfl)) rfl ?_
       refine nn ?_
       refine AX.normal_block ?_
       refine AX.go ?_
       refine AW.region ?_
       refine st (OpT.alias (H rfl) (by decide) (by decide)) rfl ?_
       refine st (OpT.loadB (H rfl) (Root.self (t := 15) (by decide)) rfl ag38 sz38) rfl ?_
       refine st (OpT.buildSlice (H rfl) el24 zr38 sz38 rfl (by decide) zk38 (by decide) (Built.agg (T1 rfl) rfl (by decide) (sub_arr (by decide) ((.empty, 0, 0) : ByteArray × Int × Int)) (Built.nil _))) rfl ?_
       refine sg (OpT.append (H rfl) (Root.ali rfl (by decide) (by decide)) rfl (Src.own (Root.self (t := 88) (by decide)) rfl) (by decide) el24 zr38 rfl sz38 by38 (by decide) (by simp only [List.length_map, List.length_take, List.length_cons, List.length_nil, List.length_set, List.length_replicate]; omega)) (ko 89 rfl <| ko 88 rfl <| ka 87 rfl <| kb 15 rfl <| Kc 85 (.pel _ _ _ _ _ _ _) rfl <| kc4 84 82 83 78 rfl <| kc4 79 77 22 76 rfl <| kc 75 rfl <| Kc 74 (.ali _) rfl <| kc4 21 20 19 73 rfl <| kc2 72 71 rfl <| Kc 68 (.ali _) rfl <| kc4 10070 20070 30070 69 rfl <| kc4 67 18 17 16 rfl <| kc3 66 65 64 rfl <| Kc 61 (.ali _) rfl <| kc4 10063 20063 30063 62 rfl <| ka 60 rfl <| kc 59 rfl <| Kc 58 (.pel _ _ _ _ _ _ _) rfl <| kc 57 rfl <| Kc 56 (.ali _) rfl <| kc4 14 13 55 54 rfl <| kc3 53 52 0 rfl <| ko 6 rfl <| kc3 49 50 51 rfl <| Kn) rfl ?_
       refine sg (OpT.take (.inl rfl) rfl (ok' rfl) (Root.self (by decide)) rfl rfl (by decide)) (ko 12 rfl <| ko 88 rfl <| ka 87 rfl <| kb 15 rfl <| Kc 85 (.pel _ _ _ _ _ _ _) rfl <| kc4 84 82 83 78 rfl <| kc4 79 77 22 76 rfl <| kc 75 rfl <| Kc 74 (.ali _) rfl <| kc4 21 20 19 73 rfl <| kc2 72 71 rfl <| Kc 68 (.ali _) rfl <| kc4 10070 20070 30070 69 rfl <| kc4 67 18 17 16 rfl <| kc3 66 65 64 rfl <| Kc 61 (.ali _) rfl <| kc4 10063 20063 30063 62 rfl <| ka 60 rfl <| kc 59 rfl <| Kc 58 (.pel _ _ _ _ _ _ _) rfl <| kc 57 rfl <| Kc 56 (.ali _) rfl <| kc4 14 13 55 54 rfl <| kc3 53 52 0 rfl <| ko 6 rfl <| kc3 49 50 51 rfl <| Kn) rfl ?_
       refine nn ?_
       refine AX.normal_block ?_
       refine AX.go ?_
       refine AW.region ?_
       refine st (OpT.add (H rfl) (T1 rfl) (I rfl) (nw (by omega))) rfl ?_
       refine st (mvT rfl) rfl ?_
       refine nn ?_
       exact AX.again (z + 1) (by omega) (by omega) (Kc 0 _ (Kv rfl rfl) <| Kc 6 _ (Ko rfl rfl) <| Kc 12 _ (Ko rfl (by first | exact rc_see (x := x) hC hx hs | exact rc_bel (x := x) hx hs | exact rc_none (x := x) hx hh)) <| Kc 49 _ (Kv rfl rfl) <| Kc 50 _ (Kv rfl rfl) <| Kc 51 _ (Kv rfl (by omega)) <| Kn)
      ·
       obtain ⟨hc6, hc6'⟩ := pF hc6
       exact (show False from (Bool.false_ne_true (hc6.symm.trans (wrd_bel hs)))).elim
    ·
     obtain ⟨hc4, hc4'⟩ := pF hc4
     have hh := has_no hc4
     refine AW.skip ?_
     refine AX.go ?_
     refine AW.region ?_
     refine st (OpT.alias (H rfl) (by decide) (by decide)) rfl ?_
     refine st (OpT.loadB (H rfl) (Root.self (t := 15) (by decide)) rfl ag38 sz38) rfl ?_
     refine st (OpT.buildSlice (H rfl) el24 zr38 sz38 rfl (by decide) zk38 (by decide) (Built.agg (T1 rfl) rfl (by decide) (sub_arr (by decide) ((.empty, 0, 0) : ByteArray × Int × Int)) (Built.nil _))) rfl ?_
     refine sg (OpT.append (H rfl) (Root.ali rfl (by decide) (by decide)) rfl (Src.own (Root.self (t := 88) (by decide)) rfl) (by decide) el24 zr38 rfl sz38 by38 (by decide) (by simp only [List.length_map, List.length_take, List.length_cons, List.length_nil, List.length_set, List.length_replicate]; omega)) (ko 89 rfl <| ko 88 rfl <| ka 87 rfl <| kc4 67 18 17 16 rfl <| kc3 66 65 64 rfl <| Kc 61 (.ali _) rfl <| kc4 10063 20063 30063 62 rfl <| kb 15 rfl <| ka 60 rfl <| kc 59 rfl <| Kc 58 (.pel _ _ _ _ _ _ _) rfl <| kc 57 rfl <| Kc 56 (.ali _) rfl <| kc4 14 13 55 54 rfl <| kc3 53 52 0 rfl <| ko 6 rfl <| kc3 49 50 51 rfl <| Kn) rfl ?_
     refine sg (OpT.take (.inl rfl) rfl (ok' rfl) (Root.self (by decide)) rfl rfl (by decide)) (ko 12 rfl <| ko 88 rfl <| ka 87 rfl <| kc4 67 18 17 16 rfl <| kc3 66 65 64 rfl <| Kc 61 (.ali _) rfl <| kc4 10063 20063 30063 62 rfl <| kb 15 rfl <| ka 60 rfl <| kc 59 rfl <| Kc 58 (.pel _ _ _ _ _ _ _) rfl <| kc 57 rfl <| Kc 56 (.ali _) rfl <| kc4 14 13 55 54 rfl <| kc3 53 52 0 rfl <| ko 6 rfl <| kc3 49 50 51 rfl <| Kn) rfl ?_
     refine nn ?_
     refine AX.normal_block ?_
     refine AX.go ?_
     refine AW.region ?_
     refine st (OpT.add (H rfl) (T1 rfl) (I rfl) (nw (by omega))) rfl ?_
     refine st (mvT rfl) rfl ?_
     refine nn ?_
     exact AX.again (z + 1) (by omega) (by omega) (Kc 0 _ (Kv rfl rfl) <| Kc 6 _ (Ko rfl rfl) <| Kc 12 _ (Ko rfl (by first | exact rc_see (x := x) hC hx hs | exact rc_bel (x := x) hx hs | exact rc_none (x := x) hx hh)) <| Kc 49 _ (Kv rfl rfl) <| Kc 50 _ (Kv rfl rfl) <| Kc 51 _ (Kv rfl (by omega)) <| Kn)
   ·
    obtain ⟨hc3, hc3'⟩ := pF hc3
    have hzz : list.length ≤ z := by (simp at hc3; omega)
    refine AW.exit ?_
    refine xT <| xT <| AX.exit_hit ?_
    refine AX.go ?_
    refine AW.seq ?_
    refine sr ?_
    refine st (OpT.alias (H rfl) (by decide) (by decide)) rfl ?_
    refine AWl.to (Kc 12 _ (Ko rfl (show _ = list from by rw [List.take_of_length_le (by omega)])) <| (Kc 91 (.ali _) rfl <| kc2 52 0 rfl <| ko 6 rfl <| kc3 49 50 51 rfl <| Kn)) ?_
    refine st (cb1 (ms := [.bor 12]) (c_impl_isCatalogue list hC) (H rfl) (Ab (Root.ali rfl (by decide) (by decide)) rfl <| An) rfl (indC fun _ _ _ _ h => h)) rfl ?_
    refine st (OpT.not (H rfl) (T1 rfl)) rfl ?_
    refine st (mvT rfl) rfl ?_
    apply AWl.or (d := 99) (t := 94) rfl
    ·
     intro hb1 Q1 k1
     have hb1' := lF hb1
     refine rs hb1 (OpT.alias (H rfl) (by decide) (by decide)) rfl ?_
     refine rs hb1 (cb1 (ms := [.bor 12]) (c_impl_catalogueText list hC) (H rfl) (Ab (Root.ali rfl (by decide) (by decide)) rfl <| An) rfl (indC fun _ _ _ _ h => h)) rfl ?_
     refine rs hb1 (mvT rfl) rfl ?_
     refine rs hb1 (OpT.snev (H rfl) (T1 rfl) (T1 rfl)) rfl ?_
     refine st (OpT.pickF (A := .cel _ _) (H rfl) (T1 rfl) hb1 (T1 rfl) rfl) rfl ?_
     exact AWl.to (junk 4 rfl) k1
    ·
     intro hb1 Q1 k1
     refine ps hb1 rfl ?_
     refine ps hb1 rfl ?_
     refine ps hb1 rfl ?_
     refine ps hb1 rfl ?_
     refine st (OpT.pickT (A := .cel _ _) (H rfl) (T1 rfl) hb1 Opd.bool rfl) rfl ?_
     exact k1
    refine ng ?_
    refine cd rfl (fun hc7 => ?_) fun hc7 => ?_
    ·
     obtain ⟨hc7, hc7'⟩ := pT hc7
     exact (show False from (by simp [eqv_self] at hc7)).elim
    ·
     obtain ⟨hc7, hc7'⟩ := pF hc7
     refine AW.skip ?_
     refine AX.pr (ko 12 rfl <| Kn) ?_
     refine AX.go ?_
     refine sr ?_
     refine st (OpT.alias (H rfl) (by decide) (by decide)) rfl ?_
     refine sg (OpT.take (.inl rfl) rfl (ok' rfl) (Root.ali rfl (by decide) (by decide)) rfl rfl (by decide)) (ko 2 rfl <| Kn) rfl ?_
     refine st (asI rfl) rfl ?_
     refine ng ?_
     refine AW.ret ?_
     exact AX.rt (rs := [.tmp 2, .tmp 3]) (ts := [some 2, some 3]) (.inl rfl) rfl (ROs.cons (RO.tmp (At.self (by decide)) (Ko rfl rfl) rfl) <| ROs.cons (RO.tmp (At.self (by decide)) (Kv rfl rfl) rfl) <| ROs.nil) (by decide) OutsOK.nil
theorem c_impl_ReadCatalogue (list : List DEnt) (hC : catI list) : AC Tryd.prog 7 [.cel Kd.str (catT list)] [.cel (Kd.slice kEnt) list, .cel (Kd.int .i64) (0 : Int)] [] := (c_impl_ReadCatalogue_o list hC).frz rfl

set_option maxHeartbeats 4000000 in
/-- spec.l05Drawn -/
theorem c_spec_l05Drawn (ss : DSrc) (hS : srcI 1000000 ss) : AC Tryd.prog 25 [.box 62 (Kd.pair (Kd.slice (Kd.int .u8)) (Kd.pair (Kd.int .i64) Kd.u64)) ss] [.deep (OSh.ex (fun x : List (ByteArray × Int × Int) => .cel (Kd.slice kEnt) x) (fun x => catI x ∧ 1 ≤ x.length))] [] := by
 refine acI (N := 51) Tryd.func25 (Nat.le_of_ble_eq_true rfl) rfl fun w0 hd s0 ar => ?_
 refine AW.to (kb 0 rfl <| Kn) ?_
 have hq1 := pick_in hS 9
 have hq2 := pick_src hS 9
 refine sr ?_
 refine st (OpT.move (A := .cel _ _) (.inr rfl) rfl (ok' rfl) (Opd.nilslice kEnt) rfl) rfl ?_
 refine ng ?_
 refine sr ?_
 refine st (OpT.buildSlice0 (m := 0) (z := .bool false) kEnt (H rfl) el24 sz38 (by decide)) rfl ?_
 refine sg (OpT.take (.inl rfl) rfl (ok' rfl) (Root.self (by decide)) rfl rfl (by decide)) (ko 3 rfl <| kc 2 rfl <| kb 0 rfl <| Kn) rfl ?_
 refine ng ?_
 refine sr ?_
 refine st (OpT.c1 (ms := []) (c_spec_l05Called ) (H rfl) (An) rfl rfl) rfl ?_
 refine st (asT rfl) rfl ?_
 refine ng ?_
 refine AW.seq ?_
 refine sr ?_
 refine st (OpT.alias (H rfl) (by decide) (by decide)) rfl ?_
 refine sg (OpT.cr (ms := [.root 0, .flat]) (c_spec_l00Src_pick _ _ (hS.le (by omega))) (H rfl) (Ar (Root.ali rfl (by decide) (by decide)) rfl rfl rfl <| Af (I rfl) rfl rfl <| An) rfl (.inl rfl) rfl) (kc 11 rfl <| Kc 10 (.ali _) rfl <| kc2 4 9 rfl <| ko 3 rfl <| kc 2 rfl <| kb 0 rfl <| Kn) rfl ?_
 refine st (OpT.add (H rfl) (I rfl) (T1 rfl) (nw (by omega))) rfl ?_
 refine st (asT rfl) rfl ?_
 refine ng ?_
 refine AW.block ?_
 refine AW.loop (fun p : Nat × DSrc × List DEnt => srcI (1000100 - 10 * (p.1 : Int)) p.2.1 ∧ p.1 + p.2.2.length ≤ 9 ∧ catI p.2.2 ∧ (1 ≤ p.1 ∨ 1 ≤ p.2.2.length)) (fun p : Nat × DSrc × List DEnt => keep [(0, .box 62 (Kd.pair (Kd.slice (Kd.int .u8)) (Kd.pair (Kd.int .i64) Kd.u64)) p.2.1), (3, .own 38 kEnt p.2.2), (4, .cel (Kd.slice Kd.str) calledL), (5, .cel (Kd.int .i64) (p.1 : Int))]) (fun p : Nat × DSrc × List DEnt => p.1) (((1 + (pick ss 9).1).toNat, (pick ss 9).2, [])) ⟨hq2.le (by simp only []; omega), by simp only [List.length_nil]; omega, cat_nil, .inl (by simp only []; omega)⟩ (Kc 0 _ (Kb rfl rfl) <| Kc 3 _ (Ko rfl rfl) <| Kc 4 _ (Kv rfl rfl) <| Kc 5 _ (Kv rfl (by simp only []; omega)) <| Kn) ?_
 intro p hI
 refine AW.seq ?_
 refine sr ?_
 refine st (mvT rfl) rfl ?_
 refine st (OpT.gtr (H rfl) (T1 rfl) (I rfl)) rfl ?_
 refine ng ?_
 refine cd rfl (fun hc1 => ?_) fun hc1 => ?_
 ·
  obtain ⟨hc1, hc1'⟩ := pT hc1
  have hs1 := pick_src hI.1 (p.2.2.length : Int)
  have hki := pick_in hI.1 (p.2.2.length : Int)
  have hs2 := pick_src hs1 3
  refine AW.skip ?_
  refine AX.go ?_
  refine AW.seq ?_
  refine AW.block ?_
  refine sr ?_
  refine st (mvT rfl) rfl ?_
  refine st (OpT.alias (H rfl) (by decide) (by decide)) rfl ?_
  refine st (OpT.lenO (H rfl) (Root.ali rfl (by decide) (by decide)) rfl el24) rfl ?_
  refine st (OpT.indexAddr (H rfl) (T1 rfl) (T1 rfl) el47 sz9 (by omega) (called_get (by omega))) rfl ?_
  refine st (OpT.load (H rfl) (T1 rfl) ag9 rfl) rfl ?_
  refine st (OpT.build (H rfl) pl38 zr38 zk38 (Built.cel (T1 rfl) rfl rfl sb38_0 (Built.cel (I rfl) rfl rfl sb38_1 (Built.cel (I rfl) rfl rfl sb38_2 (Built.nil _))))) rfl ?_
  refine st (OpT.alloc (H rfl) zr38 zk38) rfl ?_
  refine sk (OpT.storeBA rfl rfl (Opd.whole (Root.self (t := 6) (by decide)) rfl) rfl sz38 (by decide) (T1 rfl)) rfl ?_
  refine ng ?_
  refine AW.seq ?_
  refine sr ?_
  refine st (OpT.alias (H rfl) (by decide) (by decide)) rfl ?_
  refine st (OpT.lenO (H rfl) (Root.ali rfl (by decide) (by decide)) rfl el24) rfl ?_
  refine st (OpT.gtr (H rfl) (T1 rfl) (I rfl)) rfl ?_
  refine ng ?_
  refine cd rfl (fun hc2 => ?_) fun hc2 => ?_
  ·
   obtain ⟨hc2, hc2'⟩ := pT hc2
   have hel : p.2.2[Int.toNat (pick p.2.1 (p.2.2.length : Int)).1]? = some (eAt p.2.2 (pick p.2.1 (p.2.2.length : Int)).1) := eAt_get (by omega)
   refine sr ?_
   refine st (OpT.alias (H rfl) (by decide) (by decide)) rfl ?_
   refine st (OpT.alias (H rfl) (by decide) (by decide)) rfl ?_
   refine st (OpT.lenO (H rfl) (Root.ali rfl (by decide) (by decide)) rfl el24) rfl ?_
   refine sg (OpT.cr (ms := [.root 0, .flat]) (c_spec_l00Src_pick _ _ (hI.1.le (by omega))) (H rfl) (Ar (Root.ali rfl (by decide) (by decide)) rfl rfl rfl <| Af (T1 rfl) rfl rfl <| An) rfl (.inl rfl) rfl) (kc2 29 28 rfl <| Kc 27 (.ali _) rfl <| Kc 26 (.ali _) rfl <| kc2 25 24 rfl <| Kc 23 (.ali _) rfl <| kb 6 rfl <| ka 22 rfl <| kc3 21 20 19 rfl <| Kc 18 (.ali _) rfl <| kc3 17 14 13 rfl <| kb 0 rfl <| ko 3 rfl <| kc2 4 5 rfl <| Kn) rfl ?_
   refine st (asT rfl) rfl ?_
   refine ng ?_
   refine sr ?_
   refine st (OpT.alias (H rfl) (by decide) (by decide)) rfl ?_
   refine st (mvT rfl) rfl ?_
   refine st (OpT.indexAddrO (H rfl) (Root.ali rfl (by decide) (by decide)) rfl (by decide) (T1 rfl) el24 sz38 (by omega) hel) rfl ?_
   refine st (OpT.fieldAddrE (H rfl) (T1 rfl) (.inr ⟨_, _, rfl, (by assumption)⟩) (by decide) fd38_1 sz2 (by decide) sb38_1 (by decide)) rfl ?_
   refine st (OpT.loadP (H rfl) (T1 rfl) (.inr ⟨_, _, rfl, (by assumption)⟩) ag2 rfl) rfl ?_
   refine st (OpT.eql (H rfl) (T1 rfl) (I rfl)) rfl ?_
   refine ng ?_
   refine cd rfl (fun hc3 => ?_) fun hc3 => ?_
   ·
    obtain ⟨hc3, hc3'⟩ := pT hc3
    have hse : (eAt p.2.2 (pick p.2.1 (p.2.2.length : Int)).1).2.1 = -1 := by simpa using hc3
    refine sr ?_
    refine st (OpT.alias (H rfl) (by decide) (by decide)) rfl ?_
    refine sg (OpT.cr (ms := [.root 0, .flat]) (c_spec_l00Src_pick _ _ (hs1.le (by omega))) (H rfl) (Ar (Root.ali rfl (by decide) (by decide)) rfl rfl rfl <| Af (I rfl) rfl rfl <| An) rfl (.inl rfl) rfl) (kc 37 rfl <| Kc 36 (.ali _) rfl <| kc2 35 34 rfl <| Kc 33 (.pel _ _ _ _ _ _ _) rfl <| Kc 32 (.pel _ _ _ _ _ _ _) rfl <| kc 31 rfl <| Kc 30 (.ali _) rfl <| kc3 7 29 28 rfl <| Kc 27 (.ali _) rfl <| Kc 26 (.ali _) rfl <| kc2 25 24 rfl <| Kc 23 (.ali _) rfl <| kb 6 rfl <| ka 22 rfl <| kc3 21 20 19 rfl <| Kc 18 (.ali _) rfl <| kc3 17 14 13 rfl <| kb 0 rfl <| ko 3 rfl <| kc2 4 5 rfl <| Kn) rfl ?_
    refine ng ?_
    refine AW.block ?_
    refine sr ?_
    refine st (OpT.eql (H rfl) (T1 rfl) (I rfl)) rfl ?_
    refine st (asT rfl) rfl ?_
    refine ng ?_
    refine cd rfl (fun hc4 => ?_) fun hc4 => ?_
    ·
     obtain ⟨hc4, hc4'⟩ := pT hc4
     refine AW.region ?_
     refine st (mvT rfl) rfl ?_
     refine st (OpT.fieldAddrB (H rfl) (Root.self (t := 6) (by decide)) rfl (by decide) fd38_1 sz2 (by decide) sb38_1) rfl ?_
     refine sk (OpT.storeB rfl rfl (T1 rfl) rfl sz2 rfl (T1 rfl)) rfl ?_
     refine nn ?_
     refine AX.normal_block ?_
     refine AX.go ?_
     refine AW.region ?_
     refine st (OpT.alias (H rfl) (by decide) (by decide)) rfl ?_
     refine st (OpT.loadB (H rfl) (Root.self (t := 6) (by decide)) rfl ag38 sz38) rfl ?_
     refine st (OpT.buildSlice (H rfl) el24 zr38 sz38 rfl (by decide) zk38 (by decide) (Built.agg (T1 rfl) rfl (by decide) (sub_arr (by decide) ((.empty, 0, 0) : ByteArray × Int × Int)) (Built.nil _))) rfl ?_
     refine sg (OpT.append (H rfl) (Root.ali rfl (by decide) (by decide)) rfl (Src.own (Root.self (t := 48) (by decide)) rfl) (by decide) el24 zr38 rfl sz38 by38 (by decide) (by simp only [List.length_cons, List.length_nil, List.length_set, List.length_replicate]; omega)) (ko 49 rfl <| ko 48 rfl <| ka 47 rfl <| kb 6 rfl <| Kc 41 (.pel _ _ _ _ _ _ _) rfl <| kc4 40 38 39 37 rfl <| Kc 36 (.ali _) rfl <| kc4 35 34 31 7 rfl <| kc2 29 28 rfl <| Kc 26 (.ali _) rfl <| kc2 25 24 rfl <| ka 22 rfl <| kc4 21 20 19 17 rfl <| kc2 14 13 rfl <| kb 0 rfl <| kc2 4 5 rfl <| Kn) rfl ?_
     refine sg (OpT.take (.inl rfl) rfl (ok' rfl) (Root.self (by decide)) rfl rfl (by decide)) (ko 3 rfl <| ko 48 rfl <| ka 47 rfl <| kb 6 rfl <| Kc 41 (.pel _ _ _ _ _ _ _) rfl <| kc4 40 38 39 37 rfl <| Kc 36 (.ali _) rfl <| kc4 35 34 31 7 rfl <| kc2 29 28 rfl <| Kc 26 (.ali _) rfl <| kc2 25 24 rfl <| ka 22 rfl <| kc4 21 20 19 17 rfl <| kc2 14 13 rfl <| kb 0 rfl <| kc2 4 5 rfl <| Kn) rfl ?_
     refine nn ?_
     refine AX.normal_block ?_
     refine AX.go ?_
     refine AW.region ?_
     refine st (mvT rfl) rfl ?_
     refine st (OpT.sub (H rfl) (T1 rfl) (I rfl) (nw (by omega))) rfl ?_
     refine st (asT rfl) rfl ?_
     refine nn ?_
     exact AX.again ((p.1 - 1, (pick (pick p.2.1 (p.2.2.length : Int)).2 3).2, p.2.2 ++ [((calledL.getD p.2.2.length .empty), (pick p.2.1 (p.2.2.length : Int)).1, -1)])) ⟨by first | exact hI.1.le (by simp only []; omega) | exact hs1.le (by simp only []; omega) | exact hs2.le (by simp only []; omega), by simp only [List.length_append, List.length_cons, List.length_nil]; omega, cat_add hI.2.2.1 (by omega) (by first | exact .inl rfl | exact .inr ⟨by omega, by omega, hse, rfl⟩) (by first | exact .inl rfl | exact .inr ⟨by omega, by omega, hse, rfl⟩), .inr (by simp only [List.length_append, List.length_cons, List.length_nil]; omega)⟩ (by simp only []; omega) (Kc 0 _ (Kb rfl rfl) <| Kc 3 _ (Ko rfl rfl) <| Kc 4 _ (Kv rfl rfl) <| Kc 5 _ (Kv rfl (by simp only []; omega)) <| Kn)
    ·
     obtain ⟨hc4, hc4'⟩ := pF hc4
     refine sr ?_
     refine st (OpT.eql (H rfl) (T1 rfl) (I rfl)) rfl ?_
     refine st (asT rfl) rfl ?_
     refine ng ?_
     refine cd rfl (fun hc5 => ?_) fun hc5 => ?_
     ·
      obtain ⟨hc5, hc5'⟩ := pT hc5
      refine AW.region ?_
      refine st (mvT rfl) rfl ?_
      refine st (OpT.fieldAddrB (H rfl) (Root.self (t := 6) (by decide)) rfl (by decide) fd38_2 sz2 (by decide) sb38_2) rfl ?_
      refine sk (OpT.storeB rfl rfl (T1 rfl) rfl sz2 rfl (T1 rfl)) rfl ?_
      refine nn ?_
      refine AX.normal_block ?_
      refine AX.go ?_
      refine AW.region ?_
      refine st (OpT.alias (H rfl) (by decide) (by decide)) rfl ?_
      refine st (OpT.loadB (H rfl) (Root.self (t := 6) (by decide)) rfl ag38 sz38) rfl ?_
      refine st (OpT.buildSlice (H rfl) el24 zr38 sz38 rfl (by decide) zk38 (by decide) (Built.agg (T1 rfl) rfl (by decide) (sub_arr (by decide) ((.empty, 0, 0) : ByteArray × Int × Int)) (Built.nil _))) rfl ?_
      refine sg (OpT.append (H rfl) (Root.ali rfl (by decide) (by decide)) rfl (Src.own (Root.self (t := 48) (by decide)) rfl) (by decide) el24 zr38 rfl sz38 by38 (by decide) (by simp only [List.length_cons, List.length_nil, List.length_set, List.length_replicate]; omega)) (ko 49 rfl <| ko 48 rfl <| ka 47 rfl <| kb 6 rfl <| Kc 45 (.pel _ _ _ _ _ _ _) rfl <| kc4 44 42 43 38 rfl <| kc2 39 37 rfl <| Kc 36 (.ali _) rfl <| kc4 35 34 31 7 rfl <| kc2 29 28 rfl <| Kc 26 (.ali _) rfl <| kc2 25 24 rfl <| ka 22 rfl <| kc4 21 20 19 17 rfl <| kc2 14 13 rfl <| kb 0 rfl <| kc2 4 5 rfl <| Kn) rfl ?_
      refine sg (OpT.take (.inl rfl) rfl (ok' rfl) (Root.self (by decide)) rfl rfl (by decide)) (ko 3 rfl <| ko 48 rfl <| ka 47 rfl <| kb 6 rfl <| Kc 45 (.pel _ _ _ _ _ _ _) rfl <| kc4 44 42 43 38 rfl <| kc2 39 37 rfl <| Kc 36 (.ali _) rfl <| kc4 35 34 31 7 rfl <| kc2 29 28 rfl <| Kc 26 (.ali _) rfl <| kc2 25 24 rfl <| ka 22 rfl <| kc4 21 20 19 17 rfl <| kc2 14 13 rfl <| kb 0 rfl <| kc2 4 5 rfl <| Kn) rfl ?_
      refine nn ?_
      refine AX.normal_block ?_
      refine AX.go ?_
      refine AW.region ?_
      refine st (mvT rfl) rfl ?_
      refine st (OpT.sub (H rfl) (T1 rfl) (I rfl) (nw (by omega))) rfl ?_
      refine st (asT rfl) rfl ?_
      refine nn ?_
      exact AX.again ((p.1 - 1, (pick (pick p.2.1 (p.2.2.length : Int)).2 3).2, p.2.2 ++ [((calledL.getD p.2.2.length .empty), -1, (pick p.2.1 (p.2.2.length : Int)).1)])) ⟨by first | exact hI.1.le (by simp only []; omega) | exact hs1.le (by simp only []; omega) | exact hs2.le (by simp only []; omega), by simp only [List.length_append, List.length_cons, List.length_nil]; omega, cat_add hI.2.2.1 (by omega) (by first | exact .inl rfl | exact .inr ⟨by omega, by omega, hse, rfl⟩) (by first | exact .inl rfl | exact .inr ⟨by omega, by omega, hse, rfl⟩), .inr (by simp only [List.length_append, List.length_cons, List.length_nil]; omega)⟩ (by simp only []; omega) (Kc 0 _ (Kb rfl rfl) <| Kc 3 _ (Ko rfl rfl) <| Kc 4 _ (Kv rfl rfl) <| Kc 5 _ (Kv rfl (by simp only []; omega)) <| Kn)
     ·
      obtain ⟨hc5, hc5'⟩ := pF hc5
      refine AW.skip ?_
      refine AX.normal_block ?_
      refine AX.go ?_
      refine AW.region ?_
      refine st (OpT.alias (H rfl) (by decide) (by decide)) rfl ?_
      refine st (OpT.loadB (H rfl) (Root.self (t := 6) (by decide)) rfl ag38 sz38) rfl ?_
      refine st (OpT.buildSlice (H rfl) el24 zr38 sz38 rfl (by decide) zk38 (by decide) (Built.agg (T1 rfl) rfl (by decide) (sub_arr (by decide) ((.empty, 0, 0) : ByteArray × Int × Int)) (Built.nil _))) rfl ?_
      refine sg (OpT.append (H rfl) (Root.ali rfl (by decide) (by decide)) rfl (Src.own (Root.self (t := 48) (by decide)) rfl) (by decide) el24 zr38 rfl sz38 by38 (by decide) (by simp only [List.length_cons, List.length_nil, List.length_set, List.length_replicate]; omega)) (ko 49 rfl <| ko 48 rfl <| ka 47 rfl <| kc4 42 43 38 39 rfl <| kc 37 rfl <| Kc 36 (.ali _) rfl <| kc4 35 34 31 7 rfl <| kc2 29 28 rfl <| Kc 26 (.ali _) rfl <| kc2 25 24 rfl <| kb 6 rfl <| ka 22 rfl <| kc4 21 20 19 17 rfl <| kc2 14 13 rfl <| kb 0 rfl <| kc2 4 5 rfl <| Kn) rfl ?_
      refine sg (OpT.take (.inl rfl) rfl (ok' rfl) (Root.self (by decide)) rfl rfl (by decide)) (ko 3 rfl <| ko 48 rfl <| ka 47 rfl <| kc4 42 43 38 39 rfl <| kc 37 rfl <| Kc 36 (.ali _) rfl <| kc4 35 34 31 7 rfl <| kc2 29 28 rfl <| Kc 26 (.ali _) rfl <| kc2 25 24 rfl <| kb 6 rfl <| ka 22 rfl <| kc4 21 20 19 17 rfl <| kc2 14 13 rfl <| kb 0 rfl <| kc2 4 5 rfl <| Kn) rfl ?_
      refine nn ?_
      refine AX.normal_block ?_
      refine AX.go ?_
      refine AW.region ?_
      refine st (mvT rfl) rfl ?_
      refine st (OpT.sub (H rfl) (T1 rfl) (I rfl) (nw (by omega))) rfl ?_
      refine st (asT rfl) rfl ?_
      refine nn ?_
      exact AX.again ((p.1 - 1, (pick (pick p.2.1 (p.2.2.length : Int)).2 3).2, p.2.2 ++ [((calledL.getD p.2.2.length .empty), -1, -1)])) ⟨by first | exact hI.1.le (by simp only []; omega) | exact hs1.le (by simp only []; omega) | exact hs2.le (by simp only []; omega), by simp only [List.length_append, List.length_cons, List.length_nil]; omega, cat_add hI.2.2.1 (by omega) (by first | exact .inl rfl | exact .inr ⟨by omega, by omega, hse, rfl⟩) (by first | exact .inl rfl | exact .inr ⟨by omega, by omega, hse, rfl⟩), .inr (by simp only [List.length_append, List.length_cons, List.length_nil]; omega)⟩ (by simp only []; omega) (Kc 0 _ (Kb rfl rfl) <| Kc 3 _ (Ko rfl rfl) <| Kc 4 _ (Kv rfl rfl) <| Kc 5 _ (Kv rfl (by simp only []; omega)) <| Kn)
   ·
    obtain ⟨hc3, hc3'⟩ := pF hc3
    refine AW.skip ?_
    refine AX.go ?_
    refine AW.region ?_
    refine st (OpT.alias (H rfl) (by decide) (by decide)) rfl ?_
    refine st (OpT.loadB (H rfl) (Root.self (t := 6) (by decide)) rfl ag38 sz38) rfl ?_
    refine st (OpT.buildSlice (H rfl) el24 zr38 sz38 rfl (by decide) zk38 (by decide) (Built.agg (T1 rfl) rfl (by decide) (sub_arr (by decide) ((.empty, 0, 0) : ByteArray × Int × Int)) (Built.nil _))) rfl ?_
    refine sg (OpT.append (H rfl) (Root.ali rfl (by decide) (by decide)) rfl (Src.own (Root.self (t := 48) (by decide)) rfl) (by decide) el24 zr38 rfl sz38 by38 (by decide) (by simp only [List.length_cons, List.length_nil, List.length_set, List.length_replicate]; omega)) (ko 49 rfl <| ko 48 rfl <| ka 47 rfl <| kc4 35 34 31 7 rfl <| kc2 29 28 rfl <| Kc 26 (.ali _) rfl <| kc2 25 24 rfl <| kb 6 rfl <| ka 22 rfl <| kc4 21 20 19 17 rfl <| kc2 14 13 rfl <| kb 0 rfl <| kc2 4 5 rfl <| Kn) rfl ?_
    refine sg (OpT.take (.inl rfl) rfl (ok' rfl) (Root.self (by decide)) rfl rfl (by decide)) (ko 3 rfl <| ko 48 rfl <| ka 47 rfl <| kc4 35 34 31 7 rfl <| kc2 29 28 rfl <| Kc 26 (.ali _) rfl <| kc2 25 24 rfl <| kb 6 rfl <| ka 22 rfl <| kc4 21 20 19 17 rfl <| kc2 14 13 rfl <| kb 0 rfl <| kc2 4 5 rfl <| Kn) rfl ?_
    refine nn ?_
    refine AX.normal_block ?_
    refine AX.go ?_
    refine AW.region ?_
    refine st (mvT rfl) rfl ?_
    refine st (OpT.sub (H rfl) (T1 rfl) (I rfl) (nw (by omega))) rfl ?_
    refine st (asT rfl) rfl ?_
    refine nn ?_
    exact AX.again ((p.1 - 1, (pick p.2.1 (p.2.2.length : Int)).2, p.2.2 ++ [((calledL.getD p.2.2.length .empty), -1, -1)])) ⟨by first | exact hI.1.le (by simp only []; omega) | exact hs1.le (by simp only []; omega) | exact hs2.le (by simp only []; omega), by simp only [List.length_append, List.length_cons, List.length_nil]; omega, cat_add hI.2.2.1 (by omega) (by first | exact .inl rfl | exact .inr ⟨by omega, by omega, hse, rfl⟩) (by first | exact .inl rfl | exact .inr ⟨by omega, by omega, hse, rfl⟩), .inr (by simp only [List.length_append, List.length_cons, List.length_nil]; omega)⟩ (by simp only []; omega) (Kc 0 _ (Kb rfl rfl) <| Kc 3 _ (Ko rfl rfl) <| Kc 4 _ (Kv rfl rfl) <| Kc 5 _ (Kv rfl (by simp only []; omega)) <| Kn)
  ·
   obtain ⟨hc2, hc2'⟩ := pF hc2
   refine AW.skip ?_
   refine AX.go ?_
   refine AW.region ?_
   refine st (OpT.alias (H rfl) (by decide) (by decide)) rfl ?_
   refine st (OpT.loadB (H rfl) (Root.self (t := 6) (by decide)) rfl ag38 sz38) rfl ?_
   refine st (OpT.buildSlice (H rfl) el24 zr38 sz38 rfl (by decide) zk38 (by decide) (Built.agg (T1 rfl) rfl (by decide) (sub_arr (by decide) ((.empty, 0, 0) : ByteArray × Int × Int)) (Built.nil _))) rfl ?_
   refine sg (OpT.append (H rfl) (Root.ali rfl (by decide) (by decide)) rfl (Src.own (Root.self (t := 48) (by decide)) rfl) (by decide) el24 zr38 rfl sz38 by38 (by decide) (by simp only [List.length_cons, List.length_nil, List.length_set, List.length_replicate]; omega)) (ko 49 rfl <| ko 48 rfl <| ka 47 rfl <| kc2 25 24 rfl <| kb 6 rfl <| ka 22 rfl <| kc4 21 20 19 17 rfl <| kc2 14 13 rfl <| kb 0 rfl <| kc2 4 5 rfl <| Kn) rfl ?_
   refine sg (OpT.take (.inl rfl) rfl (ok' rfl) (Root.self (by decide)) rfl rfl (by decide)) (ko 3 rfl <| ko 48 rfl <| ka 47 rfl <| kc2 25 24 rfl <| kb 6 rfl <| ka 22 rfl <| kc4 21 20 19 17 rfl <| kc2 14 13 rfl <| kb 0 rfl <| kc2 4 5 rfl <| Kn) rfl ?_
   refine nn ?_
   refine AX.normal_block ?_
   refine AX.go ?_
   refine AW.region ?_
   refine st (mvT rfl) rfl ?_
   refine st (OpT.sub (H rfl) (T1 rfl) (I rfl) (nw (by omega))) rfl ?_
   refine st (asT rfl) rfl ?_
   refine nn ?_
   exact AX.again ((p.1 - 1, p.2.1, p.2.2 ++ [((calledL.getD p.2.2.length .empty), -1, -1)])) ⟨by first | exact hI.1.le (by simp only []; omega) | exact hs1.le (by simp only []; omega) | exact hs2.le (by simp only []; omega), by simp only [List.length_append, List.length_cons, List.length_nil]; omega, cat_add hI.2.2.1 (by omega) (by first | exact .inl rfl | exact .inr ⟨by omega, by omega, hse, rfl⟩) (by first | exact .inl rfl | exact .inr ⟨by omega, by omega, hse, rfl⟩), .inr (by simp only [List.length_append, List.length_cons, List.length_nil]; omega)⟩ (by simp only []; omega) (Kc 0 _ (Kb rfl rfl) <| Kc 3 _ (Ko rfl rfl) <| Kc 4 _ (Kv rfl rfl) <| Kc 5 _ (Kv rfl (by simp only []; omega)) <| Kn)
 ·
  obtain ⟨hc1, hc1'⟩ := pF hc1
  refine AW.exit ?_
  refine xT <| xT <| AX.exit_hit ?_
  refine AX.go ?_
  refine sr ?_
  refine st (OpT.alias (H rfl) (by decide) (by decide)) rfl ?_
  refine sg (OpT.take (.inl rfl) rfl (ok' rfl) (Root.ali rfl (by decide) (by decide)) rfl rfl (by decide)) (ko 2 rfl <| kc2 14 13 rfl <| kb 0 rfl <| kc2 4 5 rfl <| Kn) rfl ?_
  refine ng ?_
  refine AW.ret ?_
  refine AX.freeze (t := 2) rfl ?_
  refine AX.pr (kc3 2 14 13 rfl <| kb 0 rfl <| kc2 4 5 rfl <| Kn) ?_
  refine AX.vw (vclo (A := fun x : List (ByteArray × Int × Int) => .cel (Kd.slice kEnt) x) (p := fun x => catI x ∧ 1 ≤ x.length) _ ⟨hI.2.2.1, by omega⟩ 2 9097 rfl rfl (by decide) rfl) fun _ => ?_
  refine AX.pr (Kc 2 (.deep _) rfl <| kc2 14 13 rfl <| kb 0 rfl <| kc2 4 5 rfl <| Kn) ?_
  exact AX.rt (rs := [.tmp 2]) (ts := [some 2]) (.inl rfl) rfl (ROs.cons (RO.tmp (At.self (by decide)) (Ke rfl rfl) rfl) <| ROs.nil) (by decide) OutsOK.nil

/-- spec.A2Catalogue -/
theorem c_spec_A2Catalogue (l : List Int) (h : (∀ b ∈ l, 0 ≤ b ∧ b ≤ 255) ∧ l.length ≤ 1000000) : AC Tryd.prog 5 [.cel (Kd.slice (Kd.int .u8)) l] [.deep (OSh.ex (fun x : List (ByteArray × Int × Int) => .cel (Kd.slice kEnt) x) (fun x => catI x ∧ 1 ≤ x.length))] [] := by
 refine acI (N := 6) Tryd.func5 (Nat.le_of_ble_eq_true rfl) rfl fun w0 hd s0 ar => ?_
 refine AW.to (kc 0 rfl <| Kn) ?_
 refine sr ?_
 refine st (OpT.move (A := .cel _ _) (.inr rfl) rfl (ok' rfl) (Opd.nilslice kEnt) rfl) rfl ?_
 refine ng ?_
 refine sr ?_
 refine st (mvT rfl) rfl ?_
 refine st (OpT.c1 (ms := [.flat]) (c_spec_l00From _) (H rfl) (Af (T1 rfl) rfl rfl <| An) rfl rfl) rfl ?_
 refine sg (OpT.crn (ms := [.root 4]) (c_spec_l05Drawn _ ⟨h.1, h.2, Int.le_refl 0, (by show (0 : Int) ≤ 1000000; omega)⟩) (H rfl) (Ar (O := .any) (Root.self (t := 4) (by decide)) rfl rfl rfl <| An) rfl rfl (.inl rfl) rfl) (Kc 5 (.deep _) rfl <| kc3 3 2 0 rfl <| Kn) rfl ?_
 refine sg (OpT.take (.inl rfl) rfl (ok' rfl) (Root.self (by decide)) rfl rfl (by decide)) (Kc 2 (.deep _) rfl <| kc2 3 0 rfl <| Kn) rfl ?_
 refine ng ?_
 refine AW.ret ?_
 exact AX.rt (rs := [.tmp 2]) (ts := [some 2]) (.inl rfl) rfl (ROs.cons (RO.tmp (At.self (by decide)) (Ke rfl rfl) rfl) <| ROs.nil) (by decide) OutsOK.nil
end Go.Proofs.YtconciibbhpigaaDoor.VL
