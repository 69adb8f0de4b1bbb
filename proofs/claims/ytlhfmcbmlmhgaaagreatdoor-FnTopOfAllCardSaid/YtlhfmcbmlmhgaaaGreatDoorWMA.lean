/- Proved here: what some functions of the program take and give: walks with the words of VA..VQ. Printed by program. -/
import Derived.Test.YtlhfmcbmlmhgaaaGreatDoorWT
import Derived.Test.YtlhfmcbmlmhgaaaGreatDoorBpa
import Derived.Test.YtlhfmcbmlmhgaaaGreatDoorWN
import Derived.Test.YtlhfmcbmlmhgaaaGreatDoorWL
set_option linter.unusedVariables false
set_option linter.unusedSimpArgs false
set_option maxRecDepth 4000
namespace Go.Proofs.YtlhfmcbmlmhgaaaGreatDoor.VL
open Go
set_option maxHeartbeats 4000000 in
theorem c_impl_MakeAnswer_o (x : List DCard) (q : DQuery) : AC Tryz.prog 17 [.cel (Kd.slice kCard) x, .agg kQuery q] [.deep (OSh.dagg (Inn.pair (Inn.flat kQuery) (Inn.pair (Inn.row 2 (Kd.int .i64)) (Inn.row 97 kWit))) (mkA x q).1), .cel (Kd.int .i64) (mkA x q).2] [] := by
 refine acI (N := 58) Tryz.func17 (Nat.le_of_ble_eq_true rfl) rfl fun w0 hd s0 ar => ?_
 refine AW.to (kc 0 rfl <| ka 1 rfl <| Kn) ?_
 refine AW.fact (fun a w hr => (ok_slice (R_ok (t := 0) rfl hr)).2) (fun hl0 => ?_)
 refine sr ?_
 refine st (OpT.frz (OpT.boxA (E := 49) (H rfl) (T1 rfl))) rfl ?_
 refine st (OpT.alloc (H rfl) zr54 zkr54) rfl ?_
 refine st (asI rfl) rfl ?_
 refine ng ?_
 refine AW.seq ?_
 refine sr ?_
 refine st (mvT rfl) rfl ?_
 refine st (OpT.c1 (ms := [.flat]) (c_impl_isDeck _) (H rfl) (Af (T1 rfl) rfl rfl <| An) rfl rfl) rfl ?_
 refine st (OpT.not (H rfl) (T1 rfl)) rfl ?_
 refine st (mvT rfl) rfl ?_
 apply AWl.or (d := 17) (t := 13) rfl
 ·
  intro hb1 Q1 k1
  have hb1' := lF hb1
  refine rs hb1 (OpT.loadA (H rfl) (T1 rfl) ag49 sz49) rfl ?_
  refine rs hb1 (OpT.c1 (ms := [.flat]) (c_impl_isQuery _) (H rfl) (Af (T1 rfl) rfl rfl <| An) rfl rfl) rfl ?_
  refine rs hb1 (OpT.not (H rfl) (T1 rfl)) rfl ?_
  refine st (OpT.pickF (A := .cel _ _) (H rfl) (T1 rfl) hb1 (T1 rfl) rfl) rfl ?_
  exact AWl.to (junk 3 rfl) k1
 ·
  intro hb1 Q1 k1
  refine ps hb1 rfl ?_
  refine ps hb1 rfl ?_
  refine ps hb1 rfl ?_
  refine st (OpT.pickT (A := .cel _ _) (H rfl) (T1 rfl) hb1 Opd.bool rfl) rfl ?_
  exact k1
 refine ng ?_
 refine cd rfl (fun hc1 => ?_) fun hc1 => ?_
 ·
  obtain ⟨hc1, hc1'⟩ := pT hc1
  refine sr ?_
  refine st (OpT.build (H rfl) pl54 zr54 zkr54 (Built.nil _)) rfl ?_
  refine sk (OpT.storeBA rfl rfl (Opd.whole (Root.self (t := 4) (by decide)) rfl) rfl sz54 (by decide) (T1 rfl)) rfl ?_
  refine st (asI rfl) rfl ?_
  refine ng ?_
  refine AW.ret ?_
  refine rT ?_
  refine AX.vw (vnown 2 (Kd.int .i64) rfl 9000 9098 rfl rfl (by decide)) fun _ => ?_
  refine AX.vw (vnown 97 kWit rfl 9001 9098 rfl rfl (by decide)) fun _ => ?_
  refine AX.vw (vjoin 9000 9001 .rf rfl rfl (by decide)) fun _ => ?_
  first | exact AX.rt (rs := [.cell 4 54, .tmp 5]) (ts := [some 9000, some 5]) (.inl rfl) rfl (ROs.cons (ROc (d := (Inn.pair (Inn.flat kQuery) (Inn.pair (Inn.row 2 (Kd.int .i64)) (Inn.row 97 kWit)))) (x := (ansR q x p.1)) 9000 (by decide) rfl rfl ⟨fun h => GP.pure_i rfl h⟩ (by first | (rw [mkA_no hc1]; done) | (rw [mkA_yes hc1, show p.1 = x.length by omega])) ag54 sz54) <| ROs.cons (RO.tmp (At.self (by decide)) (Kv rfl (by first | (rw [mkA_no hc1]; done) | (rw [mkA_yes hc1]; done))) rfl) <| ROs.nil) (by decide) OutsOK.nil | exact AX.rt (rs := [.cell 4 54, .tmp 5]) (ts := [some 9000, some 5]) (.inl rfl) rfl (ROs.cons (ROc (d := (Inn.pair (Inn.flat kQuery) (Inn.pair (Inn.row 2 (Kd.int .i64)) (Inn.row 97 kWit)))) (x := zAns) 9000 (by decide) rfl rfl ⟨fun h => GP.pure_i rfl h⟩ (by first | (rw [mkA_no hc1]; done) | (rw [mkA_yes hc1, show p.1 = x.length by omega])) ag54 sz54) <| ROs.cons (RO.tmp (At.self (by decide)) (Kv rfl (by first | (rw [mkA_no hc1]; done) | (rw [mkA_yes hc1]; done))) rfl) <| ROs.nil) (by decide) OutsOK.nil
 ·
  obtain ⟨hc1, hc1'⟩ := pF hc1
  have hin := mkA_in hc1
  refine AW.skip ?_
  refine AX.go ?_
  refine sr ?_
  refine st (OpT.loadA (H rfl) (T1 rfl) ag49 sz49) rfl ?_
  refine st (OpT.build (H rfl) pl54 zr54 zkr54 (Built.agg (T1 rfl) rfl (by decide) sbr54_0 (Built.nil _))) rfl ?_
  refine st (OpT.alloc (H rfl) zr54 zkr54) rfl ?_
  refine AWl.vw (vnown 2 (Kd.int .i64) rfl 9000 9098 rfl rfl (by decide)) fun _ => ?_
  refine AWl.to (Kc 9000 (.deep _) rfl <| kb 6 rfl <| ka 20 rfl <| ka 19 rfl <| kc4 17 13 12 11 rfl <| kc2 10 5 rfl <| kb 4 rfl <| kc2 3 0 rfl <| ka 1 rfl <| Kn) ?_
  refine AWl.vw (vnown 97 kWit rfl 9001 9098 rfl rfl (by decide)) fun _ => ?_
  refine AWl.to (Kc 9001 (.deep _) rfl <| Kc 9000 (.deep _) rfl <| kb 6 rfl <| ka 20 rfl <| ka 19 rfl <| kc4 17 13 12 11 rfl <| kc2 10 5 rfl <| kb 4 rfl <| kc2 3 0 rfl <| ka 1 rfl <| Kn) ?_
  refine sk (OpT.storeBA rfl rfl (Opd.whole (Root.self (t := 6) (by decide)) rfl) rfl sz54 (by decide) (T1 rfl)) rfl ?_
  refine ng ?_
  refine AW.seq ?_
  refine sr ?_
  refine st (mvT rfl) rfl ?_
  refine st (OpT.len (H rfl) (T1 rfl) el24) rfl ?_
  refine st (mvI rfl) rfl ?_
  refine ng ?_
  refine AW.block ?_
  refine AW.loop (fun p : Nat × Value × Value => p.1 ≤ x.length) (fun p : Nat × Value × Value => keep [(3, .cel (Kd.ptr kQuery) q), (4, .box 54 (Kd.pair kQuery (Kd.pair Kd.raw Kd.raw)) (((0#64, 0#64), (0#64, 0#64)), Value.slice none 0 0, Value.slice none 0 0)), (6, .box 54 (Kd.pair kQuery (Kd.pair Kd.raw Kd.raw)) (q, p.2.1, p.2.2)), (21, .cel (Kd.slice kCard) x), (22, .cel (Kd.int .i64) (x.length : Int)), (23, .cel (Kd.int .i64) (p.1 : Int)), (9000, .deep (OSh.gh (GP.own 2 (Kd.int .i64) (hitsP q x p.1) p.2.1))), (9001, .deep (OSh.gh (GP.own 97 kWit (witsP q x p.1) p.2.2)))]) (fun p : Nat × Value × Value => x.length - p.1) ((0, Value.slice none 0 0, Value.slice none 0 0)) (Nat.zero_le _) (Kc 3 _ (Kv rfl rfl) <| Kc 4 _ (Kb rfl rfl) <| Kc 6 _ (Kb rfl rfl) <| Kc 21 _ (Kv rfl rfl) <| Kc 22 _ (Kv rfl rfl) <| Kc 23 _ (Kv rfl rfl) <| Kc 9000 _ (Kh rfl rfl) <| Kc 9001 _ (Kh rfl rfl) <| Kn) ?_
  intro p hI
  have hhl := hits_len q x p.1
  have hwl := wits_len q x p.1
  refine sr ?_
  refine st (OpT.lss (H rfl) (T1 rfl) (T1 rfl)) rfl ?_
  refine ng ?_
  refine AW.seq ?_
  refine cd rfl (fun hc2 => ?_) fun hc2 => ?_
  ·
   obtain ⟨hc2, hc2'⟩ := pT hc2
   obtain ⟨c, hcc⟩ := getI (x := x) (z := p.1) (by omega)
   refine AW.skip ?_
   refine AX.go ?_
   refine AW.seq ?_
   refine AW.block ?_
   refine sr ?_
   refine st (mvT rfl) rfl ?_
   refine st (OpT.indexAddr (H rfl) (T1 rfl) (T1 rfl) el24 sz33 (by omega) (by assumption)) rfl ?_
   refine st (OpT.loadA (H rfl) (T1 rfl) ag33 sz33) rfl ?_
   refine st (OpT.alloc (H rfl) zr33 zk33) rfl ?_
   refine st (asT rfl) rfl ?_
   refine sk (OpT.storeBA rfl rfl (Opd.whole (Root.self (t := 8) (by decide)) rfl) rfl sz33 (by decide) (T1 rfl)) rfl ?_
   refine ng ?_
   refine AW.seq ?_
   refine sr ?_
   refine st (OpT.loadA (H rfl) (T1 rfl) ag49 sz49) rfl ?_
   refine st (OpT.fieldAddrB (H rfl) (Root.self (t := 8) (by decide)) rfl (by decide) fd33_1 sz31 (by decide) sb33_1) rfl ?_
   refine st (OpT.loadPA (H rfl) (T1 rfl) (.inl ⟨_, rfl, rfl⟩) ag31 sz31) rfl ?_
   refine st (OpT.c1 (ms := [.flat, .flat]) (c_impl_Query_drops _ _) (H rfl) (Af (T1 rfl) rfl rfl <| Af (T1 rfl) rfl rfl <| An) rfl rfl) rfl ?_
   refine ng ?_
   refine cd rfl (fun hc3 => ?_) fun hc3 => ?_
   ·
    obtain ⟨hc3, hc3'⟩ := pT hc3
    have hdr := hc3
    refine sr ?_
    refine st (OpT.fieldAddrB (H rfl) (Root.self (t := 6) (by decide)) rfl (by decide) fd54_1 sz23 (by decide) sbr54_1) rfl ?_
    refine st (OpT.loadP (H rfl) (T1 rfl) (.inl ⟨_, rfl, rfl⟩) ag23 rfl) rfl ?_
    refine AWl.vw (vunmelt 33 9000 rfl rfl (by decide)) fun _ => ?_
    refine AWl.to (ko 33 rfl <| Kc 32 (.pel _ _ _ _ _ _ _) rfl <| kc 31 rfl <| ka 30 rfl <| Kc 29 (.pel _ _ _ _ _ _ _) rfl <| ka 28 rfl <| kb 8 rfl <| kc 7 rfl <| ka 27 rfl <| kc4 26 25 24 3 rfl <| kb 4 rfl <| kb 6 rfl <| kc3 21 22 23 rfl <| Kc 9001 (.deep _) rfl <| Kn) ?_
    refine st (mvT rfl) rfl ?_
    refine st (OpT.buildSlice (H rfl) el23 zr2 sz2 rfl (by decide) zk2 (by decide) (Built.cel (T1 rfl) rfl rfl (sub_arr (by decide) (0 : Int)) (Built.nil _))) rfl ?_
    refine sg (OpT.append (H rfl) (Root.self (t := 33) (by decide)) rfl (Src.own (Root.self (t := 35) (by decide)) rfl) (by decide) el23 zr2 rfl sz2 by2 (by decide) (by simp only [List.length_set, List.length_replicate]; omega)) (ko 36 rfl <| ko 35 rfl <| kc 34 rfl <| Kc 32 (.pel _ _ _ _ _ _ _) rfl <| kc 31 rfl <| ka 30 rfl <| Kc 29 (.pel _ _ _ _ _ _ _) rfl <| ka 28 rfl <| kb 8 rfl <| kc 7 rfl <| ka 27 rfl <| kc4 26 25 24 3 rfl <| kb 4 rfl <| kb 6 rfl <| kc3 21 22 23 rfl <| Kc 9001 (.deep _) rfl <| Kn) rfl ?_
    refine AWl.vw (vmelt 36 9000 rfl rfl (by decide)) fun va => ?_
    refine AWl.to (Kc 9000 (.deep _) rfl <| kc 36 rfl <| ko 35 rfl <| kc 34 rfl <| Kc 32 (.pel _ _ _ _ _ _ _) rfl <| kc 31 rfl <| ka 30 rfl <| Kc 29 (.pel _ _ _ _ _ _ _) rfl <| ka 28 rfl <| kb 8 rfl <| kc 7 rfl <| ka 27 rfl <| kc4 26 25 24 3 rfl <| kb 4 rfl <| kb 6 rfl <| kc3 21 22 23 rfl <| Kc 9001 (.deep _) rfl <| Kn) ?_
    refine st (OpT.fieldAddrB (H rfl) (Root.self (t := 6) (by decide)) rfl (by decide) fd54_1 sz23 (by decide) sbr54_1) rfl ?_
    refine sk (OpT.storeB rfl rfl (T1 rfl) rfl sz23 rfl (T1 rfl)) rfl ?_
    refine ng ?_
    refine AW.exit ?_
    refine xT <| AX.exit_hit ?_
    refine AX.go ?_
    refine AW.region ?_
    refine st (OpT.add (H rfl) (T1 rfl) (I rfl) (nw (by omega))) rfl ?_
    refine st (mvT rfl) rfl ?_
    refine nn ?_
    first | exact AX.again ((p.1 + 1, va, p.2.2)) (by simp only []; omega) (by simp only []; omega) (Kc 3 _ (Kv rfl rfl) <| Kc 4 _ (Kb rfl rfl) <| Kc 6 _ (Kb rfl rfl) <| Kc 21 _ (Kv rfl rfl) <| Kc 22 _ (Kv rfl rfl) <| Kc 23 _ (Kv rfl (by simp only []; omega)) <| Kc 9000 _ (Kh rfl (by first | exact hits_yes hcc hdr | exact hits_no hcc hdr)) <| Kc 9001 _ (Kh rfl (by first | exact wits_yes hcc hdr | exact wits_no hcc hdr hfw)) <| Kn) | exact AX.again ((p.1 + 1, p.2.1, vb)) (by simp only []; omega) (by simp only []; omega) (Kc 3 _ (Kv rfl rfl) <| Kc 4 _ (Kb rfl rfl) <| Kc 6 _ (Kb rfl rfl) <| Kc 21 _ (Kv rfl rfl) <| Kc 22 _ (Kv rfl rfl) <| Kc 23 _ (Kv rfl (by simp only []; omega)) <| Kc 9000 _ (Kh rfl (by first | exact hits_yes hcc hdr | exact hits_no hcc hdr)) <| Kc 9001 _ (Kh rfl (by first | exact wits_yes hcc hdr | exact wits_no hcc hdr hfw)) <| Kn)
   ·
    obtain ⟨hc3, hc3'⟩ := pF hc3
    have hdr := hc3
    refine AW.skip ?_
    refine AX.go ?_
    refine sr ?_
    refine st (mvI rfl) rfl ?_
    refine ng ?_
    refine AW.block ?_
    refine AW.loop (fun y : Nat => y ≤ 96 ∧ ∀ i, i < y → showsQ q c.2 ((i : Nat) : Int) = false) (fun y : Nat => keep [(3, .cel (Kd.ptr kQuery) q), (4, .box 54 (Kd.pair kQuery (Kd.pair Kd.raw Kd.raw)) (((0#64, 0#64), (0#64, 0#64)), Value.slice none 0 0, Value.slice none 0 0)), (6, .box 54 (Kd.pair kQuery (Kd.pair Kd.raw Kd.raw)) (q, p.2.1, p.2.2)), (7, .cel (Kd.int .i64) (p.1 : Int)), (8, .box 33 kCard c), (21, .cel (Kd.slice kCard) x), (22, .cel (Kd.int .i64) (x.length : Int)), (23, .cel (Kd.int .i64) (p.1 : Int)), (38, .cel (Kd.int .i64) (y : Int)), (9000, .deep (OSh.gh (GP.own 2 (Kd.int .i64) (hitsP q x p.1) p.2.1))), (9001, .deep (OSh.gh (GP.own 97 kWit (witsP q x p.1) p.2.2)))]) (fun y : Nat => 96 - y) (0) ⟨Nat.zero_le _, all_none⟩ (Kc 3 _ (Kv rfl rfl) <| Kc 4 _ (Kb rfl rfl) <| Kc 6 _ (Kb rfl rfl) <| Kc 7 _ (Kv rfl rfl) <| Kc 8 _ (Kb rfl rfl) <| Kc 21 _ (Kv rfl rfl) <| Kc 22 _ (Kv rfl rfl) <| Kc 23 _ (Kv rfl rfl) <| Kc 38 _ (Kv rfl rfl) <| Kc 9000 _ (Kh rfl rfl) <| Kc 9001 _ (Kh rfl rfl) <| Kn) ?_
    intro y hI
    refine sr ?_
    refine st (OpT.lss (H rfl) (T1 rfl) (I rfl)) rfl ?_
    refine ng ?_
    refine AW.seq ?_
    refine cd rfl (fun hc4 => ?_) fun hc4 => ?_
    ·
     obtain ⟨hc4, hc4'⟩ := pT hc4
     refine AW.skip ?_
     refine AX.go ?_
     refine AW.seq ?_
     refine AW.block ?_
     refine sr ?_
     refine st (mvT rfl) rfl ?_
     refine st (asT rfl) rfl ?_
     refine ng ?_
     refine sr ?_
     refine st (OpT.loadA (H rfl) (T1 rfl) ag49 sz49) rfl ?_
     refine st (OpT.fieldAddrB (H rfl) (Root.self (t := 8) (by decide)) rfl (by decide) fd33_1 sz31 (by decide) sb33_1) rfl ?_
     refine st (OpT.loadPA (H rfl) (T1 rfl) (.inl ⟨_, rfl, rfl⟩) ag31 sz31) rfl ?_
     refine st (mvT rfl) rfl ?_
     refine st (OpT.c1 (ms := [.flat, .flat, .flat]) (c_impl_Query_isWitness _ _ _ (by omega)) (H rfl) (Af (T1 rfl) rfl rfl <| Af (T1 rfl) rfl rfl <| Af (T1 rfl) rfl rfl <| An) rfl rfl) rfl ?_
     refine ng ?_
     refine cd rfl (fun hc5 => ?_) fun hc5 => ?_
     ·
      obtain ⟨hc5, hc5'⟩ := pT hc5
      have hfw := firstW_at (by omega) hc5 hI.2
      refine sr ?_
      refine st (OpT.fieldAddrB (H rfl) (Root.self (t := 6) (by decide)) rfl (by decide) fd54_2 sz52 (by decide) sbr54_2) rfl ?_
      refine st (OpT.loadP (H rfl) (T1 rfl) (.inl ⟨_, rfl, rfl⟩) ag52 rfl) rfl ?_
      refine AWl.vw (vunmelt 47 9001 rfl rfl (by decide)) fun _ => ?_
      refine AWl.to (ko 47 rfl <| Kc 46 (.pel _ _ _ _ _ _ _) rfl <| kc2 45 44 rfl <| ka 43 rfl <| Kc 42 (.pel _ _ _ _ _ _ _) rfl <| ka 41 rfl <| kc4 9 40 39 3 rfl <| kb 4 rfl <| kb 6 rfl <| kc 7 rfl <| kb 8 rfl <| kc4 21 22 23 38 rfl <| Kc 9000 (.deep _) rfl <| Kn) ?_
      refine st (mvT rfl) rfl ?_
      refine st (mvT rfl) rfl ?_
      refine st (OpT.conv (H rfl) us2 Tryz.underlying26 (T1 rfl) (nw16 (by omega))) rfl ?_
      refine st (OpT.build (H rfl) pl97 zr97 zk97 (Built.cel (T1 rfl) rfl rfl sb97_0 (Built.cel (T1 rfl) rfl rfl sb97_1 (Built.nil _)))) rfl ?_
      refine st (OpT.buildSlice (H rfl) el52 zr97 sz97 rfl (by decide) zk97 (by decide) (Built.agg (T1 rfl) rfl (by decide) (sub_arr (by decide) ((0, 0) : Int × Int)) (Built.nil _))) rfl ?_
      refine sg (OpT.append (H rfl) (Root.self (t := 47) (by decide)) rfl (Src.own (Root.self (t := 52) (by decide)) rfl) (by decide) el52 zr97 rfl sz97 by97 (by decide) (by simp only [List.length_set, List.length_replicate]; omega)) (ko 53 rfl <| ko 52 rfl <| ka 51 rfl <| kc3 50 49 48 rfl <| Kc 46 (.pel _ _ _ _ _ _ _) rfl <| kc2 45 44 rfl <| ka 43 rfl <| Kc 42 (.pel _ _ _ _ _ _ _) rfl <| ka 41 rfl <| kc4 9 40 39 3 rfl <| kb 4 rfl <| kb 6 rfl <| kc 7 rfl <| kb 8 rfl <| kc4 21 22 23 38 rfl <| Kc 9000 (.deep _) rfl <| Kn) rfl ?_
      refine AWl.vw (vmelt 53 9001 rfl rfl (by decide)) fun vb => ?_
      refine AWl.to (Kc 9001 (.deep _) rfl <| kc 53 rfl <| ko 52 rfl <| ka 51 rfl <| kc3 50 49 48 rfl <| Kc 46 (.pel _ _ _ _ _ _ _) rfl <| kc2 45 44 rfl <| ka 43 rfl <| Kc 42 (.pel _ _ _ _ _ _ _) rfl <| ka 41 rfl <| kc4 9 40 39 3 rfl <| kb 4 rfl <| kb 6 rfl <| kc 7 rfl <| kb 8 rfl <| kc4 21 22 23 38 rfl <| Kc 9000 (.deep _) rfl <| Kn) ?_
      refine st (OpT.fieldAddrB (H rfl) (Root.self (t := 6) (by decide)) rfl (by decide) fd54_2 sz52 (by decide) sbr54_2) rfl ?_
      refine sk (OpT.storeB rfl rfl (T1 rfl) rfl sz52 rfl (T1 rfl)) rfl ?_
      refine ng ?_
      refine AW.exit ?_
      refine xM rfl <| xT <| xT <| AX.exit_hit ?_
      refine AX.normal_block ?_
      refine AX.go ?_
      refine AW.region ?_
      refine st (OpT.add (H rfl) (T1 rfl) (I rfl) (nw (by omega))) rfl ?_
      refine st (mvT rfl) rfl ?_
      refine nn ?_
      first | exact AX.again ((p.1 + 1, va, p.2.2)) (by simp only []; omega) (by simp only []; omega) (Kc 3 _ (Kv rfl rfl) <| Kc 4 _ (Kb rfl rfl) <| Kc 6 _ (Kb rfl rfl) <| Kc 21 _ (Kv rfl rfl) <| Kc 22 _ (Kv rfl rfl) <| Kc 23 _ (Kv rfl (by simp only []; omega)) <| Kc 9000 _ (Kh rfl (by first | exact hits_yes hcc hdr | exact hits_no hcc hdr)) <| Kc 9001 _ (Kh rfl (by first | exact wits_yes hcc hdr | exact wits_no hcc hdr hfw)) <| Kn) | exact AX.again ((p.1 + 1, p.2.1, vb)) (by simp only []; omega) (by simp only []; omega) (Kc 3 _ (Kv rfl rfl) <| Kc 4 _ (Kb rfl rfl) <| Kc 6 _ (Kb rfl rfl) <| Kc 21 _ (Kv rfl rfl) <| Kc 22 _ (Kv rfl rfl) <| Kc 23 _ (Kv rfl (by simp only []; omega)) <| Kc 9000 _ (Kh rfl (by first | exact hits_yes hcc hdr | exact hits_no hcc hdr)) <| Kc 9001 _ (Kh rfl (by first | exact wits_yes hcc hdr | exact wits_no hcc hdr hfw)) <| Kn)
     ·
      obtain ⟨hc5, hc5'⟩ := pF hc5
      have hns := hc5
      refine AW.skip ?_
      refine AX.normal_block ?_
      refine AX.go ?_
      refine AW.region ?_
      refine st (OpT.add (H rfl) (T1 rfl) (I rfl) (nw (by omega))) rfl ?_
      refine st (mvT rfl) rfl ?_
      refine nn ?_
      exact AX.again (y + 1) ⟨by omega, all_step hI.2 hns⟩ (by omega) (Kc 3 _ (Kv rfl rfl) <| Kc 4 _ (Kb rfl rfl) <| Kc 6 _ (Kb rfl rfl) <| Kc 7 _ (Kv rfl rfl) <| Kc 8 _ (Kb rfl rfl) <| Kc 21 _ (Kv rfl rfl) <| Kc 22 _ (Kv rfl rfl) <| Kc 23 _ (Kv rfl rfl) <| Kc 38 _ (Kv rfl (by omega)) <| Kc 9000 _ (Kh rfl rfl) <| Kc 9001 _ (Kh rfl rfl) <| Kn)
    ·
     obtain ⟨hc4, hc4'⟩ := pF hc4
     exact (show False from (by obtain ⟨i, hi, hs⟩ := drops_not hin.2 hdr; rw [hI.2 i (by omega)] at hs; cases hs)).elim
  ·
   obtain ⟨hc2, hc2'⟩ := pF hc2
   refine AW.exit ?_
   refine xT <| xT <| AX.exit_hit ?_
   refine AX.go ?_
   refine sr ?_
   refine st (OpT.loadB (H rfl) (Root.self (t := 6) (by decide)) rfl ag54 sz54) rfl ?_
   refine sk (OpT.storeBA rfl rfl (Opd.whole (Root.self (t := 4) (by decide)) rfl) rfl sz54 (by decide) (T1 rfl)) rfl ?_
   refine st (asI rfl) rfl ?_
   refine ng ?_
   refine AW.ret ?_
   refine AX.vw (vjoin 9000 9001 .rf rfl rfl (by decide)) fun _ => ?_
   first | exact AX.rt (rs := [.cell 4 54, .tmp 5]) (ts := [some 9000, some 5]) (.inl rfl) rfl (ROs.cons (ROc (d := (Inn.pair (Inn.flat kQuery) (Inn.pair (Inn.row 2 (Kd.int .i64)) (Inn.row 97 kWit)))) (x := (ansR q x p.1)) 9000 (by decide) rfl rfl ⟨fun h => GP.pure_i rfl h⟩ (by first | (rw [mkA_no hc1]; done) | (rw [mkA_yes hc1, show p.1 = x.length by omega])) ag54 sz54) <| ROs.cons (RO.tmp (At.self (by decide)) (Kv rfl (by first | (rw [mkA_no hc1]; done) | (rw [mkA_yes hc1]; done))) rfl) <| ROs.nil) (by decide) OutsOK.nil | exact AX.rt (rs := [.cell 4 54, .tmp 5]) (ts := [some 9000, some 5]) (.inl rfl) rfl (ROs.cons (ROc (d := (Inn.pair (Inn.flat kQuery) (Inn.pair (Inn.row 2 (Kd.int .i64)) (Inn.row 97 kWit)))) (x := zAns) 9000 (by decide) rfl rfl ⟨fun h => GP.pure_i rfl h⟩ (by first | (rw [mkA_no hc1]; done) | (rw [mkA_yes hc1, show p.1 = x.length by omega])) ag54 sz54) <| ROs.cons (RO.tmp (At.self (by decide)) (Kv rfl (by first | (rw [mkA_no hc1]; done) | (rw [mkA_yes hc1]; done))) rfl) <| ROs.nil) (by decide) OutsOK.nil
theorem c_impl_MakeAnswer (x : List DCard) (q : DQuery) : AC Tryz.prog 17 [.cel (Kd.slice kCard) x, .agg kQuery q] [.agg kAns (mkA x q).1, .cel (Kd.int .i64) (mkA x q).2] [] := (c_impl_MakeAnswer_o x q).shr (Shrs.cons (Shr.dagg (Inn.Reads.pair (Inn.Reads.flat _) (Inn.Reads.pair (Inn.Reads.row _ _) (Inn.Reads.row _ _)))) <| Shrs.cons (Shr.frz _) <| Shrs.nil)

theorem c_spec_l07Answer_o (x : List DCard) (q : DQuery) (hx : x.length ≤ 80) (hq : queryOK q = true) : AC Tryz.prog 66 [.cel (Kd.slice kCard) x, .cel (Kd.ptr kQuery) q] [.deep (OSh.dagg (Inn.pair (Inn.flat kQuery) (Inn.pair (Inn.row 2 (Kd.int .i64)) (Inn.row 97 kWit))) (ansR q x x.length))] [] := by
 refine acI (N := 52) Tryz.func66 (Nat.le_of_ble_eq_true rfl) rfl fun w0 hd s0 ar => ?_
 refine AW.to (kc2 0 1 rfl <| Kn) ?_
 refine sr ?_
 refine st (OpT.alloc (H rfl) zr54 zkr54) rfl ?_
 refine ng ?_
 refine sr ?_
 refine st (mvT rfl) rfl ?_
 refine st (OpT.nilCheck (H rfl) (T1 rfl)) rfl ?_
 refine st (OpT.loadA (H rfl) (T1 rfl) ag49 sz49) rfl ?_
 refine st (OpT.build (H rfl) pl54 zr54 zkr54 (Built.agg (T1 rfl) rfl (by decide) sbr54_0 (Built.nil _))) rfl ?_
 refine st (OpT.alloc (H rfl) zr54 zkr54) rfl ?_
 refine AWl.vw (vnown 2 (Kd.int .i64) rfl 9000 9098 rfl rfl (by decide)) fun _ => ?_
 refine AWl.to (Kc 9000 (.deep _) rfl <| kb 5 rfl <| ka 11 rfl <| ka 10 rfl <| kc2 9 8 rfl <| kb 4 rfl <| kc2 0 1 rfl <| Kn) ?_
 refine AWl.vw (vnown 97 kWit rfl 9001 9098 rfl rfl (by decide)) fun _ => ?_
 refine AWl.to (Kc 9001 (.deep _) rfl <| Kc 9000 (.deep _) rfl <| kb 5 rfl <| ka 11 rfl <| ka 10 rfl <| kc2 9 8 rfl <| kb 4 rfl <| kc2 0 1 rfl <| Kn) ?_
 refine sk (OpT.storeBA rfl rfl (Opd.whole (Root.self (t := 5) (by decide)) rfl) rfl sz54 (by decide) (T1 rfl)) rfl ?_
 refine ng ?_
 refine AW.seq ?_
 refine sr ?_
 refine st (asI rfl) rfl ?_
 refine ng ?_
 refine AW.block ?_
 refine AW.loop (fun p : Nat × Value × Value => p.1 ≤ x.length) (fun p : Nat × Value × Value => keep [(0, .cel (Kd.slice kCard) x), (1, .cel (Kd.ptr kQuery) q), (4, .box 54 (Kd.pair kQuery (Kd.pair Kd.raw Kd.raw)) (((0#64, 0#64), (0#64, 0#64)), Value.slice none 0 0, Value.slice none 0 0)), (5, .box 54 (Kd.pair kQuery (Kd.pair Kd.raw Kd.raw)) (q, p.2.1, p.2.2)), (6, .cel (Kd.int .i64) (p.1 : Int)), (9000, .deep (OSh.gh (GP.own 2 (Kd.int .i64) (hitsP q x p.1) p.2.1))), (9001, .deep (OSh.gh (GP.own 97 kWit (witsP q x p.1) p.2.2)))]) (fun p : Nat × Value × Value => x.length - p.1) ((0, Value.slice none 0 0, Value.slice none 0 0)) (Nat.zero_le _) (Kc 0 _ (Kv rfl rfl) <| Kc 1 _ (Kv rfl rfl) <| Kc 4 _ (Kb rfl rfl) <| Kc 5 _ (Kb rfl rfl) <| Kc 6 _ (Kv rfl rfl) <| Kc 9000 _ (Kh rfl rfl) <| Kc 9001 _ (Kh rfl rfl) <| Kn) ?_
 intro p hI
 have hhl := hits_len q x p.1
 have hwl := wits_len q x p.1
 refine AW.seq ?_
 refine sr ?_
 refine st (mvT rfl) rfl ?_
 refine st (mvT rfl) rfl ?_
 refine st (OpT.len (H rfl) (T1 rfl) el24) rfl ?_
 refine st (OpT.lss (H rfl) (T1 rfl) (T1 rfl)) rfl ?_
 refine ng ?_
 refine cd rfl (fun hc1 => ?_) fun hc1 => ?_
 ·
  obtain ⟨hc1, hc1'⟩ := pT hc1
  obtain ⟨c, hcc⟩ := getI (x := x) (z := p.1) (by omega)
  refine AW.skip ?_
  refine AX.go ?_
  refine AW.seq ?_
  refine AW.block ?_
  refine AW.seq ?_
  refine sr ?_
  refine st (mvT rfl) rfl ?_
  refine st (mvT rfl) rfl ?_
  refine st (mvT rfl) rfl ?_
  refine st (OpT.indexAddr (H rfl) (T1 rfl) (T1 rfl) el24 sz33 (by omega) (by assumption)) rfl ?_
  refine st (OpT.fieldAddr (H rfl) (T1 rfl) fd33_1 sz31 (by decide) sb33_1) rfl ?_
  refine st (OpT.loadA (H rfl) (T1 rfl) ag31 sz31) rfl ?_
  refine st (OpT.c1 (ms := [.flat, .flat]) (c_spec_l02Drops _ _) (H rfl) (Af (T1 rfl) rfl rfl <| Af (T1 rfl) rfl rfl <| An) rfl rfl) rfl ?_
  refine ng ?_
  refine cd rfl (fun hc2 => ?_) fun hc2 => ?_
  ·
   obtain ⟨hc2, hc2'⟩ := pT hc2
   have hdr := hc2
   refine sr ?_
   refine st (OpT.fieldAddrB (H rfl) (Root.self (t := 5) (by decide)) rfl (by decide) fd54_1 sz23 (by decide) sbr54_1) rfl ?_
   refine st (OpT.loadP (H rfl) (T1 rfl) (.inl ⟨_, rfl, rfl⟩) ag23 rfl) rfl ?_
   refine AWl.vw (vunmelt 26 9000 rfl rfl (by decide)) fun _ => ?_
   refine AWl.to (ko 26 rfl <| Kc 25 (.pel _ _ _ _ _ _ _) rfl <| kc 24 rfl <| ka 23 rfl <| kc4 22 21 20 19 rfl <| kc4 18 15 14 13 rfl <| kc3 12 0 1 rfl <| kb 4 rfl <| kb 5 rfl <| kc 6 rfl <| Kc 9001 (.deep _) rfl <| Kn) ?_
   refine st (mvT rfl) rfl ?_
   refine st (OpT.buildSlice (H rfl) el23 zr2 sz2 rfl (by decide) zk2 (by decide) (Built.cel (T1 rfl) rfl rfl (sub_arr (by decide) (0 : Int)) (Built.nil _))) rfl ?_
   refine sg (OpT.append (H rfl) (Root.self (t := 26) (by decide)) rfl (Src.own (Root.self (t := 28) (by decide)) rfl) (by decide) el23 zr2 rfl sz2 by2 (by decide) (by simp only [List.length_set, List.length_replicate]; omega)) (ko 29 rfl <| ko 28 rfl <| kc 27 rfl <| Kc 25 (.pel _ _ _ _ _ _ _) rfl <| kc 24 rfl <| ka 23 rfl <| kc4 22 21 20 19 rfl <| kc4 18 15 14 13 rfl <| kc3 12 0 1 rfl <| kb 4 rfl <| kb 5 rfl <| kc 6 rfl <| Kc 9001 (.deep _) rfl <| Kn) rfl ?_
   refine AWl.vw (vmelt 29 9000 rfl rfl (by decide)) fun va => ?_
   refine AWl.to (Kc 9000 (.deep _) rfl <| kc 29 rfl <| ko 28 rfl <| kc 27 rfl <| Kc 25 (.pel _ _ _ _ _ _ _) rfl <| kc 24 rfl <| ka 23 rfl <| kc4 22 21 20 19 rfl <| kc4 18 15 14 13 rfl <| kc3 12 0 1 rfl <| kb 4 rfl <| kb 5 rfl <| kc 6 rfl <| Kc 9001 (.deep _) rfl <| Kn) ?_
   refine st (OpT.fieldAddrB (H rfl) (Root.self (t := 5) (by decide)) rfl (by decide) fd54_1 sz23 (by decide) sbr54_1) rfl ?_
   refine sk (OpT.storeB rfl rfl (T1 rfl) rfl sz23 rfl (T1 rfl)) rfl ?_
   refine ng ?_
   refine AW.exit ?_
   refine xT <| AX.exit_hit ?_
   refine AX.go ?_
   refine AW.region ?_
   refine st (mvT rfl) rfl ?_
   refine st (OpT.add (H rfl) (T1 rfl) (I rfl) (nw (by omega))) rfl ?_
   refine st (asT rfl) rfl ?_
   refine nn ?_
   first | exact AX.again ((p.1 + 1, va, p.2.2)) (by simp only []; omega) (by simp only []; omega) (Kc 0 _ (Kv rfl rfl) <| Kc 1 _ (Kv rfl rfl) <| Kc 4 _ (Kb rfl rfl) <| Kc 5 _ (Kb rfl rfl) <| Kc 6 _ (Kv rfl (by simp only []; omega)) <| Kc 9000 _ (Kh rfl (by first | exact hits_yes hcc hdr | exact hits_no hcc hdr)) <| Kc 9001 _ (Kh rfl (by first | exact wits_yes hcc hdr | exact wits_no hcc hdr hfw)) <| Kn) | exact AX.again ((p.1 + 1, p.2.1, vb)) (by simp only []; omega) (by simp only []; omega) (Kc 0 _ (Kv rfl rfl) <| Kc 1 _ (Kv rfl rfl) <| Kc 4 _ (Kb rfl rfl) <| Kc 5 _ (Kb rfl rfl) <| Kc 6 _ (Kv rfl (by simp only []; omega)) <| Kc 9000 _ (Kh rfl (by first | exact hits_yes hcc hdr | exact hits_no hcc hdr)) <| Kc 9001 _ (Kh rfl (by first | exact wits_yes hcc hdr | exact wits_no hcc hdr hfw)) <| Kn)
  ·
   obtain ⟨hc2, hc2'⟩ := pF hc2
   have hdr := hc2
   obtain ⟨w, hw, hsw⟩ := drops_not hq hdr
   refine AW.skip ?_
   refine AX.go ?_
   refine sr ?_
   refine st (asI rfl) rfl ?_
   refine ng ?_
   refine AW.seq ?_
   refine AW.block ?_
   refine AW.loop (fun y : Nat => y < 96 ∧ ∀ i, i < y → showsQ q c.2 ((i : Nat) : Int) = false) (fun y : Nat => keep [(0, .cel (Kd.slice kCard) x), (1, .cel (Kd.ptr kQuery) q), (4, .box 54 (Kd.pair kQuery (Kd.pair Kd.raw Kd.raw)) (((0#64, 0#64), (0#64, 0#64)), Value.slice none 0 0, Value.slice none 0 0)), (5, .box 54 (Kd.pair kQuery (Kd.pair Kd.raw Kd.raw)) (q, p.2.1, p.2.2)), (6, .cel (Kd.int .i64) (p.1 : Int)), (7, .cel (Kd.int .i64) (y : Int)), (9000, .deep (OSh.gh (GP.own 2 (Kd.int .i64) (hitsP q x p.1) p.2.1))), (9001, .deep (OSh.gh (GP.own 97 kWit (witsP q x p.1) p.2.2)))]) (fun y : Nat => 96 - y) (0) ⟨by omega, all_none⟩ (Kc 0 _ (Kv rfl rfl) <| Kc 1 _ (Kv rfl rfl) <| Kc 4 _ (Kb rfl rfl) <| Kc 5 _ (Kb rfl rfl) <| Kc 6 _ (Kv rfl rfl) <| Kc 7 _ (Kv rfl rfl) <| Kc 9000 _ (Kh rfl rfl) <| Kc 9001 _ (Kh rfl rfl) <| Kn) ?_
   intro y hI
   refine AW.seq ?_
   refine sr ?_
   refine st (mvT rfl) rfl ?_
   refine st (mvT rfl) rfl ?_
   refine st (mvT rfl) rfl ?_
   refine st (OpT.indexAddr (H rfl) (T1 rfl) (T1 rfl) el24 sz33 (by omega) (by assumption)) rfl ?_
   refine st (OpT.fieldAddr (H rfl) (T1 rfl) fd33_1 sz31 (by decide) sb33_1) rfl ?_
   refine st (OpT.loadA (H rfl) (T1 rfl) ag31 sz31) rfl ?_
   refine st (mvT rfl) rfl ?_
   refine st (OpT.c1 (ms := [.flat, .flat, .flat]) (c_spec_l07Shows _ _ _ (by omega)) (H rfl) (Af (T1 rfl) rfl rfl <| Af (T1 rfl) rfl rfl <| Af (T1 rfl) rfl rfl <| An) rfl rfl) rfl ?_
   refine st (OpT.not (H rfl) (T1 rfl)) rfl ?_
   refine ng ?_
   refine cd rfl (fun hc3 => ?_) fun hc3 => ?_
   ·
    obtain ⟨hc3, hc3'⟩ := pT hc3
    have hns : showsQ q c.2 (y : Int) = false := by simpa using hc3
    refine AW.skip ?_
    refine AX.go ?_
    refine AW.block ?_
    refine AW.region ?_
    refine st (mvT rfl) rfl ?_
    refine st (OpT.add (H rfl) (T1 rfl) (I rfl) (nw (by omega))) rfl ?_
    refine st (asT rfl) rfl ?_
    refine nn ?_
    refine AX.normal_block ?_
    exact AX.again (y + 1) ⟨wit_lt hw hsw (all_step hI.2 hns), all_step hI.2 hns⟩ (by omega) (Kc 0 _ (Kv rfl rfl) <| Kc 1 _ (Kv rfl rfl) <| Kc 4 _ (Kb rfl rfl) <| Kc 5 _ (Kb rfl rfl) <| Kc 6 _ (Kv rfl rfl) <| Kc 7 _ (Kv rfl (by omega)) <| Kc 9000 _ (Kh rfl rfl) <| Kc 9001 _ (Kh rfl rfl) <| Kn)
   ·
    obtain ⟨hc3, hc3'⟩ := pF hc3
    have hfw := firstW_at hI.1 (by simpa using hc3) hI.2
    refine AW.exit ?_
    refine xT <| xT <| AX.exit_hit ?_
    refine AX.go ?_
    refine AW.region ?_
    refine st (OpT.fieldAddrB (H rfl) (Root.self (t := 5) (by decide)) rfl (by decide) fd54_2 sz52 (by decide) sbr54_2) rfl ?_
    refine st (OpT.loadP (H rfl) (T1 rfl) (.inl ⟨_, rfl, rfl⟩) ag52 rfl) rfl ?_
    refine AWl.vw (vunmelt 43 9001 rfl rfl (by decide)) fun _ => ?_
    refine AWl.to (ko 43 rfl <| Kc 42 (.pel _ _ _ _ _ _ _) rfl <| kc3 39 38 37 rfl <| ka 36 rfl <| kc4 35 34 33 32 rfl <| kc3 31 0 1 rfl <| kb 4 rfl <| kb 5 rfl <| kc2 6 7 rfl <| Kc 9000 (.deep _) rfl <| Kn) ?_
    refine st (mvT rfl) rfl ?_
    refine st (mvT rfl) rfl ?_
    refine st (OpT.conv (H rfl) us2 Tryz.underlying26 (T1 rfl) (nw16 (by omega))) rfl ?_
    refine st (OpT.build (H rfl) pl97 zr97 zk97 (Built.cel (T1 rfl) rfl rfl sb97_0 (Built.cel (T1 rfl) rfl rfl sb97_1 (Built.nil _)))) rfl ?_
    refine st (OpT.buildSlice (H rfl) el52 zr97 sz97 rfl (by decide) zk97 (by decide) (Built.agg (T1 rfl) rfl (by decide) (sub_arr (by decide) ((0, 0) : Int × Int)) (Built.nil _))) rfl ?_
    refine sg (OpT.append (H rfl) (Root.self (t := 43) (by decide)) rfl (Src.own (Root.self (t := 48) (by decide)) rfl) (by decide) el52 zr97 rfl sz97 by97 (by decide) (by simp only [List.length_set, List.length_replicate]; omega)) (ko 49 rfl <| ko 48 rfl <| ka 47 rfl <| kc3 46 45 44 rfl <| Kc 42 (.pel _ _ _ _ _ _ _) rfl <| kc3 39 38 37 rfl <| ka 36 rfl <| kc4 35 34 33 32 rfl <| kc3 31 0 1 rfl <| kb 4 rfl <| kb 5 rfl <| kc2 6 7 rfl <| Kc 9000 (.deep _) rfl <| Kn) rfl ?_
    refine AWl.vw (vmelt 49 9001 rfl rfl (by decide)) fun vb => ?_
    refine AWl.to (Kc 9001 (.deep _) rfl <| kc 49 rfl <| ko 48 rfl <| ka 47 rfl <| kc3 46 45 44 rfl <| Kc 42 (.pel _ _ _ _ _ _ _) rfl <| kc3 39 38 37 rfl <| ka 36 rfl <| kc4 35 34 33 32 rfl <| kc3 31 0 1 rfl <| kb 4 rfl <| kb 5 rfl <| kc2 6 7 rfl <| Kc 9000 (.deep _) rfl <| Kn) ?_
    refine st (OpT.fieldAddrB (H rfl) (Root.self (t := 5) (by decide)) rfl (by decide) fd54_2 sz52 (by decide) sbr54_2) rfl ?_
    refine sk (OpT.storeB rfl rfl (T1 rfl) rfl sz52 rfl (T1 rfl)) rfl ?_
    refine nn ?_
    refine AX.normal_block ?_
    refine AX.go ?_
    refine AW.region ?_
    refine st (mvT rfl) rfl ?_
    refine st (OpT.add (H rfl) (T1 rfl) (I rfl) (nw (by omega))) rfl ?_
    refine st (asT rfl) rfl ?_
    refine nn ?_
    first | exact AX.again ((p.1 + 1, va, p.2.2)) (by simp only []; omega) (by simp only []; omega) (Kc 0 _ (Kv rfl rfl) <| Kc 1 _ (Kv rfl rfl) <| Kc 4 _ (Kb rfl rfl) <| Kc 5 _ (Kb rfl rfl) <| Kc 6 _ (Kv rfl (by simp only []; omega)) <| Kc 9000 _ (Kh rfl (by first | exact hits_yes hcc hdr | exact hits_no hcc hdr)) <| Kc 9001 _ (Kh rfl (by first | exact wits_yes hcc hdr | exact wits_no hcc hdr hfw)) <| Kn) | exact AX.again ((p.1 + 1, p.2.1, vb)) (by simp only []; omega) (by simp only []; omega) (Kc 0 _ (Kv rfl rfl) <| Kc 1 _ (Kv rfl rfl) <| Kc 4 _ (Kb rfl rfl) <| Kc 5 _ (Kb rfl rfl) <| Kc 6 _ (Kv rfl (by simp only []; omega)) <| Kc 9000 _ (Kh rfl (by first | exact hits_yes hcc hdr | exact hits_no hcc hdr)) <| Kc 9001 _ (Kh rfl (by first | exact wits_yes hcc hdr | exact wits_no hcc hdr hfw)) <| Kn)
 ·
  obtain ⟨hc1, hc1'⟩ := pF hc1
  refine AW.exit ?_
  refine xT <| xT <| AX.exit_hit ?_
  refine AX.go ?_
  refine sr ?_
  refine st (OpT.loadB (H rfl) (Root.self (t := 5) (by decide)) rfl ag54 sz54) rfl ?_
  refine sk (OpT.storeBA rfl rfl (Opd.whole (Root.self (t := 4) (by decide)) rfl) rfl sz54 (by decide) (T1 rfl)) rfl ?_
  refine ng ?_
  refine AW.ret ?_
  refine AX.vw (vjoin 9000 9001 .rf rfl rfl (by decide)) fun _ => ?_
  exact AX.rt (rs := [.cell 4 54]) (ts := [some 9000]) (.inl rfl) rfl (ROs.cons (ROc (d := (Inn.pair (Inn.flat kQuery) (Inn.pair (Inn.row 2 (Kd.int .i64)) (Inn.row 97 kWit)))) (x := (ansR q x p.1)) 9000 (by decide) rfl rfl ⟨fun h => GP.pure_i rfl h⟩ (by rw [show p.1 = x.length by omega]) ag54 sz54) <| ROs.nil) (by decide) OutsOK.nil
theorem c_spec_l07Answer (x : List DCard) (q : DQuery) (hx : x.length ≤ 80) (hq : queryOK q = true) : AC Tryz.prog 66 [.cel (Kd.slice kCard) x, .cel (Kd.ptr kQuery) q] [.agg kAns (ansR q x x.length)] [] := (c_spec_l07Answer_o x q hx hq).shr (Shrs.cons (Shr.dagg (Inn.Reads.pair (Inn.Reads.flat _) (Inn.Reads.pair (Inn.Reads.row _ _) (Inn.Reads.row _ _)))) <| Shrs.nil)

theorem c_spec_MakeAnswer (x : List DCard) (q : DQuery) : AC Tryz.prog 18 [.cel (Kd.slice kCard) x, .agg kQuery q] [.agg kAns (mkA x q).1, .cel (Kd.int .i64) (mkA x q).2] [] := by
 refine acI (N := 16) Tryz.func18 (Nat.le_of_ble_eq_true rfl) rfl fun w0 hd s0 ar => ?_
 refine AW.to (kc 0 rfl <| ka 1 rfl <| Kn) ?_
 refine sr ?_
 refine st (OpT.frz (OpT.boxA (E := 49) (H rfl) (T1 rfl))) rfl ?_
 refine st (OpT.alloc (H rfl) zr54 zk54) rfl ?_
 refine st (asI rfl) rfl ?_
 refine ng ?_
 refine AW.seq ?_
 refine sr ?_
 refine st (mvT rfl) rfl ?_
 refine st (OpT.c1 (ms := [.flat]) (c_spec_l02Ok _) (H rfl) (Af (T1 rfl) rfl rfl <| An) rfl rfl) rfl ?_
 refine st (OpT.not (H rfl) (T1 rfl)) rfl ?_
 refine st (mvT rfl) rfl ?_
 apply AWl.or (d := 12) (t := 9) rfl
 ·
  intro hb1 Q1 k1
  have hb1' := lF hb1
  refine rs hb1 (OpT.c1 (ms := [.flat]) (c_spec_l02Query _) (H rfl) (Af (T1 rfl) rfl rfl <| An) rfl rfl) rfl ?_
  refine rs hb1 (OpT.not (H rfl) (T1 rfl)) rfl ?_
  refine st (OpT.pickF (A := .cel _ _) (H rfl) (T1 rfl) hb1 (T1 rfl) rfl) rfl ?_
  exact AWl.to (junk 2 rfl) k1
 ·
  intro hb1 Q1 k1
  refine ps hb1 rfl ?_
  refine ps hb1 rfl ?_
  refine st (OpT.pickT (A := .cel _ _) (H rfl) (T1 rfl) hb1 Opd.bool rfl) rfl ?_
  exact k1
 refine ng ?_
 refine cd rfl (fun hc1 => ?_) fun hc1 => ?_
 ·
  obtain ⟨hc1, hc1'⟩ := pT hc1
  refine sr ?_
  refine st (OpT.build (H rfl) pl54 zr54 zk54 (Built.nil _)) rfl ?_
  refine sk (OpT.storeBA rfl rfl (Opd.whole (Root.self (t := 4) (by decide)) rfl) rfl sz54 (by decide) (T1 rfl)) rfl ?_
  refine st (asI rfl) rfl ?_
  refine ng ?_
  refine AW.ret ?_
  refine rT ?_
  exact AX.rt (rs := [.cell 4 54, .tmp 5]) (ts := [none, some 5]) (.inl rfl) rfl (ROs.cons (RO.cellA (by decide) (Kb rfl (by first | (rw [mkA_no hc1]; first | done | rfl) | (rw [mkA_yes hc1]; done))) ag54 sz54) <| ROs.cons (RO.tmp (At.self (by decide)) (Kv rfl (by first | (rw [mkA_no hc1]; first | done | rfl) | (rw [mkA_yes hc1]; done))) rfl) <| ROs.nil) (by decide) OutsOK.nil
 ·
  obtain ⟨hc1, hc1'⟩ := pF hc1
  have hin := mkA_in hc1
  refine AW.skip ?_
  refine AX.go ?_
  refine sr ?_
  refine st (mvT rfl) rfl ?_
  refine st (OpT.c1 (ms := [.flat, .flat]) (c_spec_l07Answer _ _ hin.1 hin.2) (H rfl) (Af (T1 rfl) rfl rfl <| Af (T1 rfl) rfl rfl <| An) rfl rfl) rfl ?_
  refine sk (OpT.storeBA rfl rfl (Opd.whole (Root.self (t := 4) (by decide)) rfl) rfl sz54 (by decide) (T1 rfl)) rfl ?_
  refine st (asI rfl) rfl ?_
  refine AWl.to (kc 5 rfl <| kb 4 rfl <| Kn) ?_
  refine ng ?_
  refine AW.ret ?_
  exact AX.rt (rs := [.cell 4 54, .tmp 5]) (ts := [none, some 5]) (.inl rfl) rfl (ROs.cons (RO.cellA (by decide) (Kb rfl (by first | (rw [mkA_no hc1]; first | done | rfl) | (rw [mkA_yes hc1]; done))) ag54 sz54) <| ROs.cons (RO.tmp (At.self (by decide)) (Kv rfl (by first | (rw [mkA_no hc1]; first | done | rfl) | (rw [mkA_yes hc1]; done))) rfl) <| ROs.nil) (by decide) OutsOK.nil
end Go.Proofs.YtlhfmcbmlmhgaaaGreatDoor.VL
