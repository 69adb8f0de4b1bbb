/- Proved here: what some functions of the program take and give: walks with the words of VA..VQ. Printed by program. -/
import Derived.Test.YtmmjcpiikdcldaaGreatDoorWT
import Derived.Test.YtmmjcpiikdcldaaGreatDoorPXN
import Derived.Test.YtmmjcpiikdcldaaGreatDoorVLP
import Derived.Test.YtmmjcpiikdcldaaGreatDoorLSP
import Derived.Test.YtmmjcpiikdcldaaGreatDoorWE1
import Derived.Test.YtmmjcpiikdcldaaGreatDoorWP
import Derived.Test.YtmmjcpiikdcldaaGreatDoorWN
import Derived.Test.YtmmjcpiikdcldaaGreatDoorWK
import Derived.Test.YtmmjcpiikdcldaaGreatDoorWSP
set_option linter.unusedVariables false
set_option linter.unusedSimpArgs false
set_option maxRecDepth 4000
namespace Go.Proofs.YtmmjcpiikdcldaaGreatDoor.VL
open Go
abbrev PIn (w : ByteArray) : Prop := AC Tryz.prog 128 [.cel Kd.str w, .cel (Kd.int .i64) 10, .cel (Kd.int .i64) 64] [.cel (Kd.int .i64) (numV w), .cel Kd.err (numE w)] []
abbrev FIn (w : ByteArray) : Prop := (numE w && decide (numV w ≥ 0)) = true → AC Tryz.prog 98 [.cel (Kd.int .i64) (numV w), .cel (Kd.int .i64) 10] [.cel Kd.str (fmtB (numV w))] []
abbrev RdN (w : ByteArray) : Prop := AC Tryz.prog 96 [.cel Kd.str w] [.cel (Kd.int .i64) (numV w), .cel Kd.bool (numB w)] []
/-- impl.readNumber -/
theorem c_impl_readNumber (w : ByteArray) (hp : PIn w) (hf : FIn w) : AC Tryz.prog 96 [.cel Kd.str w] [.cel (Kd.int .i64) (numV w), .cel Kd.bool (numB w)] [] := by
 refine acI (N := 24) Tryz.func96 (Nat.le_of_ble_eq_true rfl) rfl fun w0 hd s0 ar => ?_
 refine AW.to (kc 0 rfl <| Kn) ?_
 refine sr ?_
 refine st (asI rfl) rfl ?_
 refine st (asB rfl) rfl ?_
 refine ng ?_
 refine sr ?_
 refine st (mvT rfl) rfl ?_
 refine s2 (OpT.c2 (ms := [.flat, .flat, .flat]) hp (H rfl) (Af (T1 rfl) rfl rfl <| Af (I rfl) rfl rfl <| Af (I rfl) rfl rfl <| An) rfl rfl rfl) rfl ?_
 refine st (OpT.alias (H rfl) (by decide) (by decide)) rfl ?_
 refine st (OpT.extractV (m := 10008) (H rfl) rfl rfl rfl rfl rfl rfl rfl) rfl ?_
 refine st (OpT.extractV (m := 20008) (H rfl) rfl rfl rfl rfl rfl rfl rfl) rfl ?_
 refine st (asT rfl) rfl ?_
 refine st (asT rfl) rfl ?_
 refine ng ?_
 refine sr ?_
 refine st (mvT rfl) rfl ?_
 refine st (mvT rfl) rfl ?_
 refine st (OpT.enil (H rfl) (show Tryz.prog.underlying 150 = some (.interface (Tryz.prog.methodsAt 150)) from by kernel_rfl) (T1 rfl)) rfl ?_
 refine st (mvT rfl) rfl ?_
 apply AWl.and (d := 17) (t := 14) rfl
 ·
  intro hb1 Q1 k1
  have hb1' := lT hb1
  refine rs hb1 (mvT rfl) rfl ?_
  refine rs hb1 (OpT.geq (H rfl) (T1 rfl) (I rfl)) rfl ?_
  refine st (OpT.pickT (A := .cel _ _) (H rfl) (T1 rfl) hb1 (T1 rfl) rfl) rfl ?_
  exact AWl.to (junk 2 rfl) k1
 ·
  intro hb1 Q1 k1
  refine ps hb1 rfl ?_
  refine ps hb1 rfl ?_
  refine st (OpT.pickF (A := .cel _ _) (H rfl) (T1 rfl) hb1 Opd.bool rfl) rfl ?_
  exact k1
 refine st (mvT rfl) rfl ?_
 apply AWl.and (d := 23) (t := 18) rfl
 ·
  intro hb2 Q1 k1
  have hb2' := lT hb2
  refine rs hb2 (mvT rfl) rfl ?_
  refine rs hb2 (OpT.c1 (ms := [.flat, .flat]) (hf hb2) (H rfl) (Af (T1 rfl) rfl rfl <| Af (I rfl) rfl rfl <| An) rfl rfl) rfl ?_
  refine rs hb2 (mvT rfl) rfl ?_
  refine rs hb2 (OpT.seqv (H rfl) (T1 rfl) (T1 rfl)) rfl ?_
  refine st (OpT.pickT (A := .cel _ _) (H rfl) (T1 rfl) hb2 (T1 rfl) rfl) rfl ?_
  exact AWl.to (junk 4 rfl) k1
 ·
  intro hb2 Q1 k1
  refine ps hb2 rfl ?_
  refine ps hb2 rfl ?_
  refine ps hb2 rfl ?_
  refine ps hb2 rfl ?_
  refine st (OpT.pickF (A := .cel _ _) (H rfl) (T1 rfl) hb2 Opd.bool rfl) rfl ?_
  exact k1
 refine st (asT rfl) rfl ?_
 refine st (asT rfl) rfl ?_
 refine AWl.to (kc2 3 2 rfl <| Kn) ?_
 refine ng ?_
 refine AW.ret ?_
 exact rt2 rfl (.inl rfl) rfl rfl

/-- impl.readCard -/
theorem c_impl_readCard (x : ByteArray) (hx : x.size ≤ 1000000000) (hr : ∀ w ∈ wrdT x, RdN w) : AC Tryz.prog 56 [.cel Kd.str x] [.agg kCard (rcS x).1, .cel Kd.bool (rcS x).2] [] := by
 refine acI (N := 52) Tryz.func56 (Nat.le_of_ble_eq_true rfl) rfl fun w0 hd s0 ar => ?_
 refine AW.to (kc 0 rfl <| Kn) ?_
 have hsl := splB_len 32 x
 have hwl := wrd_len x
 refine sr ?_
 refine st (OpT.alloc (H rfl) zr40 zk40) rfl ?_
 refine st (asB rfl) rfl ?_
 refine ng ?_
 refine sr ?_
 refine st (mvT rfl) rfl ?_
 refine st (OpT.c1 (ms := [.flat, .flat]) (c_strings_Split x 32 hx) (H rfl) (Af (T1 rfl) rfl rfl <| Af (Opd.str (by decide)) rfl rfl <| An) rfl rfl) rfl ?_
 refine st (asT rfl) rfl ?_
 refine ng ?_
 refine sr ?_
 refine st (mvT rfl) rfl ?_
 refine st (OpT.indexAddr (H rfl) (T1 rfl) (I rfl) el81 sz9 (by omega) (nm_get x)) rfl ?_
 refine st (OpT.load (H rfl) (T1 rfl) ag9 rfl) rfl ?_
 refine st (OpT.build (H rfl) pl40 zr40 zk40 (Built.cel (T1 rfl) rfl rfl sb40_0 (Built.nil _))) rfl ?_
 refine st (OpT.alloc (H rfl) zr40 zk40) rfl ?_
 refine sk (OpT.storeBA rfl rfl (Opd.whole (Root.self (t := 5) (by decide)) rfl) rfl sz40 (by decide) (T1 rfl)) rfl ?_
 refine ng ?_
 refine AW.seq ?_
 refine sr ?_
 refine st (mvT rfl) rfl ?_
 refine st (OpT.cutL (H rfl) (T1 rfl) (I rfl) el81 sz9 (by omega)) rfl ?_
 refine st (OpT.len (H rfl) (T1 rfl) el81) rfl ?_
 refine st (mvI rfl) rfl ?_
 refine ng ?_
 refine AW.block ?_
 refine AW.loop (fun z : Nat => z ≤ (wrdT x).length ∧ ((wrdT x).take z).all gdW = true) (fun z : Nat => keep [(0, .cel Kd.str x), (2, .box 40 kCard (.empty, zM)), (5, .box 40 kCard (nmT x, ((wrdT x).take z).foldl rdF zM)), (17, .cel (Kd.slice Kd.str) (wrdT x)), (18, .cel (Kd.int .i64) ((wrdT x).length : Int)), (19, .cel (Kd.int .i64) (z : Int))]) (fun z : Nat => (wrdT x).length - z) (0) ⟨Nat.zero_le _, by simp⟩ (Kc 0 _ (Kv rfl rfl) <| Kc 2 _ (Kb rfl rfl) <| Kc 5 _ (Kb rfl rfl) <| Kc 17 _ (Kv rfl rfl) <| Kc 18 _ (Kv rfl rfl) <| Kc 19 _ (Kv rfl rfl) <| Kn) ?_
 intro z hI
 refine sr ?_
 refine st (OpT.lss (H rfl) (T1 rfl) (T1 rfl)) rfl ?_
 refine ng ?_
 refine AW.seq ?_
 refine cd rfl (fun hc1 => ?_) fun hc1 => ?_
 ·
  obtain ⟨hc1, hc1'⟩ := pT hc1
  obtain ⟨w, hw⟩ := getI (x := wrdT x) (z := z) (by omega)
  refine AW.skip ?_
  refine AX.go ?_
  refine AW.seq ?_
  refine AW.block ?_
  refine sr ?_
  refine st (OpT.indexAddr (H rfl) (T1 rfl) (T1 rfl) el81 sz9 (by omega) hw) rfl ?_
  refine st (OpT.load (H rfl) (T1 rfl) ag9 rfl) rfl ?_
  refine st (asT rfl) rfl ?_
  refine ng ?_
  refine sr ?_
  refine st (mvT rfl) rfl ?_
  refine s2 (OpT.c2 (ms := [.flat]) (hr w (mem_getI hw)) (H rfl) (Af (T1 rfl) rfl rfl <| An) rfl rfl rfl) rfl ?_
  refine st (OpT.alias (H rfl) (by decide) (by decide)) rfl ?_
  refine st (OpT.extractV (m := 10025) (H rfl) rfl rfl rfl rfl rfl rfl rfl) rfl ?_
  refine st (OpT.extractV (m := 20025) (H rfl) rfl rfl rfl rfl rfl rfl rfl) rfl ?_
  refine st (asT rfl) rfl ?_
  refine st (asT rfl) rfl ?_
  refine ng ?_
  refine AW.seq ?_
  refine sr ?_
  refine st (mvT rfl) rfl ?_
  refine st (OpT.not (H rfl) (T1 rfl)) rfl ?_
  refine st (mvT rfl) rfl ?_
  apply AWl.or (d := 34) (t := 30) rfl
  ·
   intro hb1 Q1 k1
   have hb1' := lF hb1
   refine rs hb1 (mvT rfl) rfl ?_
   refine rs hb1 (OpT.c1 (ms := [.flat]) (c_impl_isHole _) (H rfl) (Af (T1 rfl) rfl rfl <| An) rfl rfl) rfl ?_
   refine rs hb1 (OpT.not (H rfl) (T1 rfl)) rfl ?_
   refine st (OpT.pickF (A := .cel _ _) (H rfl) (T1 rfl) hb1 (T1 rfl) rfl) rfl ?_
   exact AWl.to (junk 3 rfl) k1
  ·
   intro hb1 Q1 k1
   refine ps hb1 rfl ?_
   refine ps hb1 rfl ?_
   refine ps hb1 rfl ?_
   refine st (OpT.pickT (A := .cel _ _) (H rfl) (T1 rfl) hb1 Opd.bool rfl) rfl ?_
   exact k1
  refine ng ?_
  refine cd rfl (fun hc2 => ?_) fun hc2 => ?_
  ·
   obtain ⟨hc2, hc2'⟩ := pT hc2
   have hbad := gd_no hc2
   refine sr ?_
   refine st (OpT.build (H rfl) pl40 zr40 zk40 (Built.nil _)) rfl ?_
   refine sk (OpT.storeBA rfl rfl (Opd.whole (Root.self (t := 2) (by decide)) rfl) rfl sz40 (by decide) (T1 rfl)) rfl ?_
   refine st (asB rfl) rfl ?_
   refine ng ?_
   refine AW.ret ?_
   refine rT <| rK <| rT <| rT <| rK <| rT ?_
   exact AX.rt (rs := [.cell 2 40, .tmp 3]) (ts := [none, some 3]) (.inl rfl) rfl (ROs.cons (RO.cellA (by decide) (Kb rfl (by first | (rw [rc_bad hw hbad]; first | done | rfl) | (rw [rc_yes hall, rcM, htk]; first | done | rfl))) ag40 sz40) <| ROs.cons (RO.tmp (At.self (by decide)) (Kv rfl (by first | (rw [rc_bad hw hbad]; first | done | rfl) | (rw [htk] at hd1; simp only [rc_yes hall, rcM, htk, hd1, Bool.true_and, Bool.false_and]))) rfl) <| ROs.nil) (by decide) OutsOK.nil
  ·
   obtain ⟨hc2, hc2'⟩ := pF hc2
   have hgd := gd_yes hc2
   refine AW.skip ?_
   refine AX.go ?_
   refine AW.region ?_
   refine st (OpT.fieldAddrB (H rfl) (Root.self (t := 5) (by decide)) rfl (by decide) fd40_1 sz38 (by decide) sb40_1) rfl ?_
   refine st (OpT.loadPA (H rfl) (T1 rfl) (.inl ⟨_, rfl, rfl⟩) ag38 sz38) rfl ?_
   refine st (mvT rfl) rfl ?_
   refine st (OpT.buildSlice (H rfl) el43 zr2 sz2 rfl (by decide) zk2 (by decide) (Built.cel (T1 rfl) rfl rfl (sub_arr (by decide) (0 : Int)) (Built.nil _))) rfl ?_
   refine st (cb1 (ms := [.flat, .bor 39]) (c_impl_Mask_with _ [numV w] (fun u hu => by rw [List.mem_singleton] at hu; subst hu; omega)) (H rfl) (Af (T1 rfl) rfl rfl <| Ab (Root.self (t := 39) (by decide)) rfl <| An) rfl (indA fun _ _ _ _ h => h)) rfl ?_
   refine st (OpT.fieldAddrB (H rfl) (Root.self (t := 5) (by decide)) rfl (by decide) fd40_1 sz38 (by decide) sb40_1) rfl ?_
   refine sk (OpT.storeBA rfl rfl (T1 rfl) rfl sz38 (by decide) (T1 rfl)) rfl ?_
   refine nn ?_
   refine AX.normal_block ?_
   refine AX.go ?_
   refine AW.region ?_
   refine st (OpT.add (H rfl) (T1 rfl) (I rfl) (nw (by omega))) rfl ?_
   refine st (mvT rfl) rfl ?_
   refine nn ?_
   exact AX.again (z + 1) ⟨by omega, all_take hw hgd.1 hI.2⟩ (by omega) (Kc 0 _ (Kv rfl rfl) <| Kc 2 _ (Kb rfl rfl) <| Kc 5 _ (Kb rfl (congrArg (fun m => (nmT x, m)) (foldl_more (f := rdF) hw))) <| Kc 17 _ (Kv rfl rfl) <| Kc 18 _ (Kv rfl rfl) <| Kc 19 _ (Kv rfl (by omega)) <| Kn)
 ·
  obtain ⟨hc1, hc1'⟩ := pF hc1
  have hall : (wrdT x).all gdW = true := by (have h9 := hI.2; rwa [List.take_of_length_le (by omega)] at h9)
  have htk : (wrdT x).take z = wrdT x := List.take_of_length_le (by omega)
  refine AW.exit ?_
  refine xT <| xT <| AX.exit_hit ?_
  refine AX.pr (kc 0 rfl <| kb 2 rfl <| kb 5 rfl <| Kn) ?_
  refine AX.go ?_
  refine AW.seq ?_
  rcases Bool.eq_false_or_eq_true (tt (cardOK (nmT x, ((wrdT x).take z).foldl rdF zM))) with hd1 | hd1
  ·
   have hd1' := lT hd1
   refine dh fomo ?_
   refine d1 [5] (fun ve h => OpT.loadB (H rfl) (Root.self (t := 5) (by decide)) ((h _ (List.elem_iff.1 rfl)).trans rfl) ag40 sz40) rfl ?_
   refine d1 [5] (fun ve h => OpT.loadB (H rfl) (Root.self (t := 5) (by decide)) ((h _ (List.elem_iff.1 rfl)).trans rfl) ag40 sz40) rfl ?_
   refine d1 [44] (fun ve h => OpT.c1 (ms := [.flat]) (c_impl_isCard _) (H rfl) (Af (D1 h rfl) rfl rfl <| An) rfl rfl) rfl ?_
   refine d1 [45] (fun ve h => OpT.move (A := .cel _ _) (.inl rfl) rfl (ok' rfl) (D1 h rfl) rfl) rfl ?_
   refine dr [5, 46] hd1 (fun ve h => OpT.loadB (H rfl) (Root.self (t := 5) (by decide)) ((h _ (List.elem_iff.1 rfl)).trans rfl) ag40 sz40) rfl ?_
   refine dr [46, 47] hd1 (fun ve h => OpT.c1 (ms := [.flat]) (c_impl_cardText _ (tt_iff.1 hd1).1.2.2) (H rfl) (Af (D1 h rfl) rfl rfl <| An) rfl rfl) rfl ?_
   refine dr [0, 46] hd1 (fun ve h => OpT.move (A := .cel _ _) (.inl rfl) rfl (ok' rfl) (D1 h rfl) rfl) rfl ?_
   refine dr [46, 48, 49] hd1 (fun ve h => OpT.seqv (H rfl) (D1 h rfl) (D1 h rfl)) rfl ?_
   refine d1 [46, 50] (fun ve h => OpT.pickT (A := .cel _ _) (H rfl) (D1 h rfl) hd1 (D1 h rfl) rfl) rfl ?_
   refine dm (t := 2) [2, 43] (fun ve h => OpT.storeBA rfl rfl (Opd.whole (Root.self (t := 2) (by decide)) ((h _ (List.elem_iff.1 rfl)).trans rfl)) ((h _ (List.elem_iff.1 rfl)).trans rfl) sz40 (by decide) (D1 h rfl)) rfl ?_
   refine d1 [51] (fun ve h => OpT.move (A := .cel _ _) (.inr rfl) rfl (ok' rfl) (D1 h rfl) rfl) rfl ?_
   refine dn ⟨by kernel_rfl, by kernel_rfl, ?_⟩
   refine AX.pr (kc 3 rfl <| kb 2 rfl <| Kn) ?_
   refine AX.go ?_
   refine AW.ret ?_
   exact AX.rt (rs := [.cell 2 40, .tmp 3]) (ts := [none, some 3]) (.inl rfl) rfl (ROs.cons (RO.cellA (by decide) (Kb rfl (by first | (rw [rc_bad hw hbad]; first | done | rfl) | (rw [rc_yes hall, rcM, htk]; first | done | rfl))) ag40 sz40) <| ROs.cons (RO.tmp (At.self (by decide)) (Kv rfl (by first | (rw [rc_bad hw hbad]; first | done | rfl) | (rw [htk] at hd1; simp only [rc_yes hall, rcM, htk, hd1, Bool.true_and, Bool.false_and]))) rfl) <| ROs.nil) (by decide) OutsOK.nil
  ·
   have hd1' := lF hd1
   refine dh fomo ?_
   refine d1 [5] (fun ve h => OpT.loadB (H rfl) (Root.self (t := 5) (by decide)) ((h _ (List.elem_iff.1 rfl)).trans rfl) ag40 sz40) rfl ?_
   refine d1 [5] (fun ve h => OpT.loadB (H rfl) (Root.self (t := 5) (by decide)) ((h _ (List.elem_iff.1 rfl)).trans rfl) ag40 sz40) rfl ?_
   refine d1 [44] (fun ve h => OpT.c1 (ms := [.flat]) (c_impl_isCard _) (H rfl) (Af (D1 h rfl) rfl rfl <| An) rfl rfl) rfl ?_
   refine d1 [45] (fun ve h => OpT.move (A := .cel _ _) (.inl rfl) rfl (ok' rfl) (D1 h rfl) rfl) rfl ?_
   refine dp hd1 rfl ?_
   refine dp hd1 rfl ?_
   refine dp hd1 rfl ?_
   refine dp hd1 rfl ?_
   refine d1 [46] (fun ve h => OpT.pickF (A := .cel _ _) (H rfl) (D1 h rfl) hd1 Opd.bool rfl) rfl ?_
   refine dm (t := 2) [2, 43] (fun ve h => OpT.storeBA rfl rfl (Opd.whole (Root.self (t := 2) (by decide)) ((h _ (List.elem_iff.1 rfl)).trans rfl)) ((h _ (List.elem_iff.1 rfl)).trans rfl) sz40 (by decide) (D1 h rfl)) rfl ?_
   refine d1 [51] (fun ve h => OpT.move (A := .cel _ _) (.inr rfl) rfl (ok' rfl) (D1 h rfl) rfl) rfl ?_
   refine dn ⟨by kernel_rfl, by kernel_rfl, ?_⟩
   refine AX.go ?_
   refine AW.ret ?_
   exact AX.rt (rs := [.cell 2 40, .tmp 3]) (ts := [none, some 3]) (.inl rfl) rfl (ROs.cons (RO.cellA (by decide) (Kb rfl (by first | (rw [rc_bad hw hbad]; first | done | rfl) | (rw [rc_yes hall, rcM, htk]; first | done | rfl))) ag40 sz40) <| ROs.cons (RO.tmp (At.self (by decide)) (Kv rfl (by first | (rw [rc_bad hw hbad]; first | done | rfl) | (rw [htk] at hd1; simp only [rc_yes hall, rcM, htk, hd1, Bool.true_and, Bool.false_and]))) rfl) <| ROs.nil) (by decide) OutsOK.nil
end Go.Proofs.YtmmjcpiikdcldaaGreatDoor.VL
