/- Proved here: what some functions of the program take and give: walks with the words of VA..VQ. Printed by program. -/
import Derived.Test.YtfnkphllkbkfaaaDoorWT
import Derived.Test.YtfnkphllkbkfaaaDoorBpa
import Derived.Test.YtfnkphllkbkfaaaDoorWL
import Derived.Test.YtfnkphllkbkfaaaDoorWN
import Derived.Test.YtfnkphllkbkfaaaDoorWM
import Derived.Test.YtfnkphllkbkfaaaDoorWD
set_option linter.unusedVariables false
set_option linter.unusedSimpArgs false
set_option maxRecDepth 4000
namespace Go.Proofs.YtfnkphllkbkfaaaDoor.VL
open Go
set_option maxHeartbeats 4000000 in
/-- impl.MakeAnswer -/
theorem c_impl_MakeAnswer_o (x : List DCard) (q : DQuery) : AC Tryd.prog 49 [.cel (Kd.slice kCard) x, .agg kQuery q] [.deep (OSh.dagg (Inn.pair (Inn.flat kQuery) (Inn.pair (Inn.row 2 (Kd.int .i64)) (Inn.row 138 kWit))) (mkA x q).1), .cel (Kd.int .i64) (mkA x q).2] [] := by
 refine acI (N := 58) Tryd.func49 (Nat.le_of_ble_eq_true rfl) rfl fun w0 hd s0 ar => ?_
 refine AW.to (kc 0 rfl <| ka 1 rfl <| Kn) ?_
 refine AW.fact (fun a w hr => (ok_slice (R_ok (t := 0) rfl hr)).2) (fun hl0 => ?_)
 refine sr ?_
 refine st (OpT.frz (OpT.boxA (E := 74) (H rfl) (T1 rfl))) rfl ?_
 refine st (OpT.alloc (H rfl) zr78 zkr78) rfl ?_
 refine st (asI rfl) rfl ?_
 refine ng ?_
 refine AW.seq ?_
 refine sr ?_
 refine st (mvT rfl) rfl ?_
 refine st (OpT.c1 (ms := [.flat]) (c_impl_isDeck _) (H rfl) (Af (T1 rfl) rfl rfl <| An) rfl rfl) rfl ?_
 refine st (OpT.not (H rfl) (T1 rfl)) rfl ?_
 refine st (mvT rfl) rfl ?_
 apply AWl.or (d := 17) (t := 13) rfl
 ·
  intro hb1 Q1 k1
  have hb1' := lF hb1
  refine rs hb1 (OpT.loadA (H rfl) (T1 rfl) ag74 sz74) rfl ?_
  refine rs hb1 (OpT.c1 (ms := [.flat]) (c_impl_isQuery _) (H rfl) (Af (T1 rfl) rfl rfl <| An) rfl rfl) rfl ?_
  refine rs hb1 (OpT.not (H rfl) (T1 rfl)) rfl ?_
  refine st (OpT.pickF (A := .cel _ _) (H rfl) (T1 rfl) hb1 (T1 rfl) rfl) rfl ?_
  exact AWl.to (junk 3 rfl) k1
 ·
  intro hb1 Q1 k1
  refine ps hb1 rfl ?_
  refine ps hb1 rfl ?_
  refine ps hb1 rfl ?_
  refine st (OpT.pickT (A := .cel _ _) (H rfl) (T1 rfl) hb1 Opd.bool rfl) rfl ?_
  exact k1
 refine ng ?_
 refine cd rfl (fun hc1 => ?_) fun hc1 => ?_
 ·
  obtain ⟨hc1, hc1'⟩ := pT hc1
  refine sr ?_
  refine st (OpT.build (H rfl) pl78 zr78 zkr78 (Built.nil _)) rfl ?_
  refine sk (OpT.storeBA rfl rfl (Opd.whole (Root.self (t := 4) (by decide)) rfl) rfl sz78 (by decide) (T1 rfl)) rfl ?_
  refine st (asI rfl) rfl ?_
  refine ng ?_
  refine AW.ret ?_
  refine rT ?_
  refine AX.vw (vnown 2 (Kd.int .i64) rfl 9000 9098 rfl rfl (by decide)) fun _ => ?_
  refine AX.vw (vnown 138 kWit rfl 9001 9098 rfl rfl (by decide)) fun _ => ?_
  refine AX.vw (vjoin 9000 9001 .rf rfl rfl (by decide)) fun _ => ?_
  first | exact AX.rt (rs := [.cell 4 78, .tmp 5]) (ts := [some 9000, some 5]) (.inl rfl) rfl (ROs.cons (ROc (d := (Inn.pair (Inn.flat kQuery) (Inn.pair (Inn.row 2 (Kd.int .i64)) (Inn.row 138 kWit)))) (x := (ansR q x p.1)) 9000 (by decide) rfl rfl ⟨fun h => GP.pure_i rfl h⟩ (by first | (rw [mkA_no hc1]; done) | (rw [mkA_yes hc1, show p.1 = x.length by omega])) ag78 sz78) <| ROs.cons (RO.tmp (At.self (by decide)) (Kv rfl (by first | (rw [mkA_no hc1]; done) | (rw [mkA_yes hc1]; done))) rfl) <| ROs.nil) (by decide) OutsOK.nil | exact AX.rt (rs := [.cell 4 78, .tmp 5]) (ts := [some 9000, some 5]) (.inl rfl) rfl (ROs.cons (ROc (d := (Inn.pair (Inn.flat kQuery) (Inn.pair (Inn.row 2 (Kd.int .i64)) (Inn.row 138 kWit)))) (x := zAns) 9000 (by decide) rfl rfl ⟨fun h => GP.pure_i rfl h⟩ (by first | (rw [mkA_no hc1]; done) | (rw [mkA_yes hc1, show p.1 = x.length by omega])) ag78 sz78) <| ROs.cons (RO.tmp (At.self (by decide)) (Kv rfl (by first | (rw [mkA_no hc1]; done) | (rw [mkA_yes hc1]; done))) rfl) <| ROs.nil) (by decide) OutsOK.nil
 ·
  obtain ⟨hc1, hc1'⟩ := pF hc1
  have hin := mkA_in hc1
  refine AW.skip ?_
  refine AX.go ?_
  refine sr ?_
  refine st (OpT.loadA (H rfl) (T1 rfl) ag74 sz74) rfl ?_
  refine st (OpT.build (H rfl) pl78 zr78 zkr78 (Built.agg (T1 rfl) rfl (by decide) sbr78_0 (Built.nil _))) rfl ?_
  refine st (OpT.alloc (H rfl) zr78 zkr78) rfl ?_
  refine AWl.vw (vnown 2 (Kd.int .i64) rfl 9000 9098 rfl rfl (by decide)) fun _ => ?_
  refine AWl.to (Kc 9000 (.deep _) rfl <| kb 6 rfl <| ka 20 rfl <| ka 19 rfl <| kc4 17 13 12 11 rfl <| kc2 10 5 rfl <| kb 4 rfl <| kc2 3 0 rfl <| ka 1 rfl <| Kn) ?_
  refine AWl.vw (vnown 138 kWit rfl 9001 9098 rfl rfl (by decide)) fun _ => ?_
  refine AWl.to (Kc 9001 (.deep _) rfl <| Kc 9000 (.deep _) rfl <| kb 6 rfl <| ka 20 rfl <| ka 19 rfl <| kc4 17 13 12 11 rfl <| kc2 10 5 rfl <| kb 4 rfl <| kc2 3 0 rfl <| ka 1 rfl <| Kn) ?_
  refine sk (OpT.storeBA rfl rfl (Opd.whole (Root.self (t := 6) (by decide)) rfl) rfl sz78 (by decide) (T1 rfl)) rfl ?_
  refine ng ?_
  refine AW.seq ?_
  refine sr ?_
  refine st (mvT rfl) rfl ?_
  refine st (OpT.len (H rfl) (T1 rfl) el36) rfl ?_
  refine st (mvI rfl) rfl ?_
  refine ng ?_
  refine AW.block ?_
  refine AW.loop (fun p : Nat × Value × Value => p.1 ≤ x.length) (fun p : Nat × Value × Value => keep [(3, .cel (Kd.ptr kQuery) q), (4, .box 78 (Kd.pair kQuery (Kd.pair Kd.raw Kd.raw)) (((0#64, 0#64), (0#64, 0#64)), Value.slice none 0 0, Value.slice none 0 0)), (6, .box 78 (Kd.pair kQuery (Kd.pair Kd.raw Kd.raw)) (q, p.2.1, p.2.2)), (21, .cel (Kd.slice kCard) x), (22, .cel (Kd.int .i64) (x.length : Int)), (23, .cel (Kd.int .i64) (p.1 : Int)), (9000, .deep (OSh.gh (GP.own 2 (Kd.int .i64) (hitsP q x p.1) p.2.1))), (9001, .deep (OSh.gh (GP.own 138 kWit (witsP q x p.1) p.2.2)))]) (fun p : Nat × Value × Value => x.length - p.1) ((0, Value.slice none 0 0, Value.slice none 0 0)) (Nat.zero_le _) (Kc 3 _ (Kv rfl rfl) <| Kc 4 _ (Kb rfl rfl) <| Kc 6 _ (Kb rfl rfl) <| Kc 21 _ (Kv rfl rfl) <| Kc 22 _ (Kv rfl rfl) <| Kc 23 _ (Kv rfl rfl) <| Kc 9000 _ (Kh rfl rfl) <| Kc 9001 _ (Kh rfl rfl) <| Kn) ?_
  intro p hI
  have hhl := hits_len q x p.1
  have hwl := wits_len q x p.1
  refine sr ?_
  refine st (OpT.lss (H rfl) (T1 rfl) (T1 rfl)) rfl ?_
  refine ng ?_
  refine AW.seq ?_
  refine cd rfl (fun hc2 => ?_) fun hc2 => ?_
  ·
   obtain ⟨hc2, hc2'⟩ := pT hc2
   obtain ⟨c, hcc⟩ := getI (x := x) (z := p.1) (by omega)
   refine AW.skip ?_
   refine AX.go ?_
   refine AW.seq ?_
   refine AW.block ?_
   refine sr ?_
   refine st (mvT rfl) rfl ?_
   refine st (OpT.indexAddr (H rfl) (T1 rfl) (T1 rfl) el36 sz101 (by omega) (by assumption)) rfl ?_
   refine st (OpT.loadA (H rfl) (T1 rfl) ag101 sz101) rfl ?_
   refine st (OpT.alloc (H rfl) zr101 zk101) rfl ?_
   refine st (asT rfl) rfl ?_
   refine sk (OpT.storeBA rfl rfl (Opd.whole (Root.self (t := 8) (by decide)) rfl) rfl sz101 (by decide) (T1 rfl)) rfl ?_
   refine ng ?_
   refine AW.seq ?_
   refine sr ?_
   refine st (OpT.loadA (H rfl) (T1 rfl) ag74 sz74) rfl ?_
   refine st (OpT.fieldAddrB (H rfl) (Root.self (t := 8) (by decide)) rfl (by decide) fd101_1 sz55 (by decide) sb101_1) rfl ?_
   refine st (OpT.loadPA (H rfl) (T1 rfl) (.inl ⟨_, rfl, rfl⟩) ag55 sz55) rfl ?_
   refine st (OpT.c1 (ms := [.flat, .flat]) (c_impl_Query_drops _ _) (H rfl) (Af (T1 rfl) rfl rfl <| Af (T1 rfl) rfl rfl <| An) rfl rfl) rfl ?_
   refine ng ?_
   refine cd rfl (fun hc3 => ?_) fun hc3 => ?_
   ·
    obtain ⟨hc3, hc3'⟩ := pT hc3
    have hdr := hc3
    refine sr ?_
    refine st (OpT.fieldAddrB (H rfl) (Root.self (t := 6) (by decide)) rfl (by decide) fd78_1 sz75 (by decide) sbr78_1) rfl ?_
    refine st (OpT.loadP (H rfl) (T1 rfl) (.inl ⟨_, rfl, rfl⟩) ag75 rfl) rfl ?_
    refine AWl.vw (vunmelt 33 9000 rfl rfl (by decide)) fun _ => ?_
    refine AWl.to (ko 33 rfl <| Kc 32 (.pel _ _ _ _ _ _ _) rfl <| kc 31 rfl <| ka 30 rfl <| Kc 29 (.pel _ _ _ _ _ _ _) rfl <| ka 28 rfl <| kb 8 rfl <| kc 7 rfl <| ka 27 rfl <| kc4 26 25 24 3 rfl <| kb 4 rfl <| kb 6 rfl <| kc3 21 22 23 rfl <| Kc 9001 (.deep _) rfl <| Kn) ?_
    refine st (mvT rfl) rfl ?_
    refine st (OpT.buildSlice (H rfl) el75 zr2 sz2 rfl (by decide) zk2 (by decide) (Built.cel (T1 rfl) rfl rfl (sub_arr (by decide) (0 : Int)) (Built.nil _))) rfl ?_
    refine sg (OpT.append (H rfl) (Root.self (t := 33) (by decide)) rfl (Src.own (Root.self (t := 35) (by decide)) rfl) (by decide) el75 zr2 rfl sz2 by2 (by decide) (by simp only [List.length_set, List.length_replicate]; omega)) (ko 36 rfl <| ko 35 rfl <| kc 34 rfl <| Kc 32 (.pel _ _ _ _ _ _ _) rfl <| kc 31 rfl <| ka 30 rfl <| Kc 29 (.pel _ _ _ _ _ _ _) rfl <| ka 28 rfl <| kb 8 rfl <| kc 7 rfl <| ka 27 rfl <| kc4 26 25 24 3 rfl <| kb 4 rfl <| kb 6 rfl <| kc3 21 22 23 rfl <| Kc 9001 (.deep _) rfl <| Kn) rfl ?_
    refine AWl.vw (vmelt 36 9000 rfl rfl (by decide)) fun va => ?_
    refine AWl.to (Kc 9000 (.deep _) rfl <| kc 36 rfl <| ko 35 rfl <| kc 34 rfl <| Kc 32 (.pel _ _ _ _ _ _ _) rfl <| kc 31 rfl <| ka 30 rfl <| Kc 29 (.pel _ _ _ _ _ _ _) rfl <| ka 28 rfl <| kb 8 rfl <| kc 7 rfl <| ka 27 rfl <| kc4 26 25 24 3 rfl <| kb 4 rfl <| kb 6 rfl <| kc3 21 22 23 rfl <| Kc 9001 (.deep _) rfl <| Kn) ?_
    refine st (OpT.fieldAddrB (H rfl) (Root.self (t := 6) (by decide)) rfl (by decide) fd78_1 sz75 (by decide) sbr78_1) rfl ?_
    refine sk (OpT.storeB rfl rfl (T1 rfl) rfl sz75 rfl (T1 rfl)) rfl ?_
    refine ng ?_
    refine AW.exit ?_
    refine xT <| AX.exit_hit ?_
    refine AX.go ?_
    refine AW.region ?_
    refine st (OpT.add (H rfl) (T1 rfl) (I rfl) (nw (by omega))) rfl ?_
    refine st (mvT rfl) rfl ?_
    refine nn ?_
    first | exact AX.again ((p.1 + 1, va, p.2.2)) (by simp only []; omega) (by simp only []; omega) (Kc 3 _ (Kv rfl rfl) <| Kc 4 _ (Kb rfl rfl) <| Kc 6 _ (Kb rfl rfl) <| Kc 21 _ (Kv rfl rfl) <| Kc 22 _ (Kv rfl rfl) <| Kc 23 _ (Kv rfl (by simp only []; omega)) <| Kc 9000 _ (Kh rfl (by first | exact hits_yes hcc hdr | exact hits_no hcc hdr)) <| Kc 9001 _ (Kh rfl (by first | exact wits_yes hcc hdr | exact wits_no hcc hdr hfw)) <| Kn) | exact AX.again ((p.1 + 1, p.2.1, vb)) (by simp only []; omega) (by simp only []; omega) (Kc 3 _ (Kv rfl rfl) <| Kc 4 _ (Kb rfl rfl) <| Kc 6 _ (Kb rfl rfl) <| Kc 21 _ (Kv rfl rfl) <| Kc 22 _ (Kv rfl rfl) <| Kc 23 _ (Kv rfl (by simp only []; omega)) <| Kc 9000 _ (Kh rfl (by first | exact hits_yes hcc hdr | exact hits_no hcc hdr)) <| Kc 9001 _ (Kh rfl (by first | exact wits_yes hcc hdr | exact wits_no hcc hdr hfw)) <| Kn)
   ·
    obtain ⟨hc3, hc3'⟩ := pF hc3
    have hdr := hc3
    refine AW.skip ?_
    refine AX.go ?_
    refine sr ?_
    refine st (mvI rfl) rfl ?_
    refine ng ?_
    refine AW.block ?_
    refine AW.loop (fun y : Nat => y ≤ 96 ∧ ∀ i, i < y → showsQ q c.2 ((i : Nat) : Int) = false) (fun y : Nat => keep [(3, .cel (Kd.ptr kQuery) q), (4, .box 78 (Kd.pair kQuery (Kd.pair Kd.raw Kd.raw)) (((0#64, 0#64), (0#64, 0#64)), Value.slice none 0 0, Value.slice none 0 0)), (6, .box 78 (Kd.pair kQuery (Kd.pair Kd.raw Kd.raw)) (q, p.2.1, p.2.2)), (7, .cel (Kd.int .i64) (p.1 : Int)), (8, .box 101 kCard c), (21, .cel (Kd.slice kCard) x), (22, .cel (Kd.int .i64) (x.length : Int)), (23, .cel (Kd.int .i64) (p.1 : Int)), (38, .cel (Kd.int .i64) (y : Int)), (9000, .deep (OSh.gh (GP.own 2 (Kd.int .i64) (hitsP q x p.1) p.2.1))), (9001, .deep (OSh.gh (GP.own 138 kWit (witsP q x p.1) p.2.2)))]) (fun y : Nat => 96 - y) (0) ⟨Nat.zero_le _, all_none⟩ (Kc 3 _ (Kv rfl rfl) <| Kc 4 _ (Kb rfl rfl) <| Kc 6 _ (Kb rfl rfl) <| Kc 7 _ (Kv rfl rfl) <| Kc 8 _ (Kb rfl rfl) <| Kc 21 _ (Kv rfl rfl) <| Kc 22 _ (Kv rfl rfl) <| Kc 23 _ (Kv rfl rfl) <| Kc 38 _ (Kv rfl rfl) <| Kc 9000 _ (Kh rfl rfl) <| Kc 9001 _ (Kh rfl rfl) <| Kn) ?_
    intro y hI
    refine sr ?_
    refine st (OpT.lss (H rfl) (T1 rfl) (I rfl)) rfl ?_
    refine ng ?_
    refine AW.seq ?_
    refine cd rfl (fun hc4 => ?_) fun hc4 => ?_
    ·
     obtain ⟨hc4, hc4'⟩ := pT hc4
     refine AW.skip ?_
     refine AX.go ?_
     refine AW.seq ?_
     refine AW.block ?_
     refine sr ?_
     refine st (mvT rfl) rfl ?_
     refine st (asT rfl) rfl ?_
     refine ng ?_
     refine sr ?_
     refine st (OpT.loadA (H rfl) (T1 rfl) ag74 sz74) rfl ?_
     refine st (OpT.fieldAddrB (H rfl) (Root.self (t := 8) (by decide)) rfl (by decide) fd101_1 sz55 (by decide) sb101_1) rfl ?_
     refine st (OpT.loadPA (H rfl) (T1 rfl) (.inl ⟨_, rfl, rfl⟩) ag55 sz55) rfl ?_
     refine st (mvT rfl) rfl ?_
     refine st (OpT.c1 (ms := [.flat, .flat, .flat]) (c_impl_Query_isWitness _ _ _ (by omega)) (H rfl) (Af (T1 rfl) rfl rfl <| Af (T1 rfl) rfl rfl <| Af (T1 rfl) rfl rfl <| An) rfl rfl) rfl ?_
     refine ng ?_
     refine cd rfl (fun hc5 => ?_) fun hc5 => ?_
     ·
      obtain ⟨hc5, hc5'⟩ := pT hc5
      have hfw := firstW_at (by omega) hc5 hI.2
      refine sr ?_
      refine st (OpT.fieldAddrB (H rfl) (Root.self (t := 6) (by decide)) rfl (by decide) fd78_2 sz76 (by decide) sbr78_2) rfl ?_
      refine st (OpT.loadP (H rfl) (T1 rfl) (.inl ⟨_, rfl, rfl⟩) ag76 rfl) rfl ?_
      refine AWl.vw (vunmelt 47 9001 rfl rfl (by decide)) fun _ => ?_
      refine AWl.to (ko 47 rfl <| Kc 46 (.pel _ _ _ _ _ _ _) rfl <| kc2 45 44 rfl <| ka 43 rfl <| Kc 42 (.pel _ _ _ _ _ _ _) rfl <| ka 41 rfl <| kc4 9 40 39 3 rfl <| kb 4 rfl <| kb 6 rfl <| kc 7 rfl <| kb 8 rfl <| kc4 21 22 23 38 rfl <| Kc 9000 (.deep _) rfl <| Kn) ?_
      refine st (mvT rfl) rfl ?_
      refine st (mvT rfl) rfl ?_
      refine st (OpT.conv (H rfl) us2 Tryd.underlying48 (T1 rfl) (nw16 (by omega))) rfl ?_
      refine st (OpT.build (H rfl) pl138 zr138 zk138 (Built.cel (T1 rfl) rfl rfl sb138_0 (Built.cel (T1 rfl) rfl rfl sb138_1 (Built.nil _)))) rfl ?_
      refine st (OpT.buildSlice (H rfl) el76 zr138 sz138 rfl (by decide) zk138 (by decide) (Built.agg (T1 rfl) rfl (by decide) (sub_arr (by decide) ((0, 0) : Int × Int)) (Built.nil _))) rfl ?_
      refine sg (OpT.append (H rfl) (Root.self (t := 47) (by decide)) rfl (Src.own (Root.self (t := 52) (by decide)) rfl) (by decide) el76 zr138 rfl sz138 by138 (by decide) (by simp only [List.length_set, List.length_replicate]; omega)) (ko 53 rfl <| ko 52 rfl <| ka 51 rfl <| kc3 50 49 48 rfl <| Kc 46 (.pel _ _ _ _ _ _ _) rfl <| kc2 45 44 rfl <| ka 43 rfl <| Kc 42 (.pel _ _ _ _ _ _ _) rfl <| ka 41 rfl <| kc4 9 40 39 3 rfl <| kb 4 rfl <| kb 6 rfl <| kc 7 rfl <| kb 8 rfl <| kc4 21 22 23 38 rfl <| Kc 9000 (.deep _) rfl <| Kn) rfl ?_
      refine AWl.vw (vmelt 53 9001 rfl rfl (by decide)) fun vb => ?_
      refine AWl.to (Kc 9001 (.deep _) rfl <| kc 53 rfl <| ko 52 rfl <| ka 51 rfl <| kc3 50 49 48 rfl <| Kc 46 (.pel _ _ _ _ _ _ _) rfl <| kc2 45 44 rfl <| ka 43 rfl <| Kc 42 (.pel _ _ _ _ _ _ _) rfl <| ka 41 rfl <| kc4 9 40 39 3 rfl <| kb 4 rfl <| kb 6 rfl <| kc 7 rfl <| kb 8 rfl <| kc4 21 22 23 38 rfl <| Kc 9000 (.deep _) rfl <| Kn) ?_
      refine st (OpT.fieldAddrB (H rfl) (Root.self (t := 6) (by decide)) rfl (by decide) fd78_2 sz76 (by decide) sbr78_2) rfl ?_
      refine sk (OpT.storeB rfl rfl (T1 rfl) rfl sz76 rfl (T1 rfl)) rfl ?_
      refine ng ?_
      refine AW.exit ?_
      refine xM rfl <| xT <| xT <| AX.exit_hit ?_
      refine AX.normal_block ?_
      refine AX.go ?_
      refine AW.region ?_
      refine st (OpT.add (H rfl) (T1 rfl) (I rfl) (nw (by omega))) rfl ?_
      refine st (mvT rfl) rfl ?_
      refine nn ?_
      first | exact AX.again ((p.1 + 1, va, p.2.2)) (by simp only []; omega) (by simp only []; omega) (Kc 3 _ (Kv rfl rfl) <| Kc 4 _ (Kb rfl rfl) <| Kc 6 _ (Kb rfl rfl) <| Kc 21 _ (Kv rfl rfl) <| Kc 22 _ (Kv rfl rfl) <| Kc 23 _ (Kv rfl (by simp only []; omega)) <| Kc 9000 _ (Kh rfl (by first | exact hits_yes hcc hdr | exact hits_no hcc hdr)) <| Kc 9001 _ (Kh rfl (by first | exact wits_yes hcc hdr | exact wits_no hcc hdr hfw)) <| Kn) | exact AX.again ((p.1 + 1, p.2.1, vb)) (by simp only []; omega) (by simp only []; omega) (Kc 3 _ (Kv rfl rfl) <| Kc 4 _ (Kb rfl rfl) <| Kc 6 _ (Kb rfl rfl) <| Kc 21 _ (Kv rfl rfl) <| Kc 22 _ (Kv rfl rfl) <| Kc 23 _ (Kv rfl (by simp only []; omega)) <| Kc 9000 _ (Kh rfl (by first | exact hits_yes hcc hdr | exact hits_no hcc hdr)) <| Kc 9001 _ (Kh rfl (by first | exact wits_yes hcc hdr | exact wits_no hcc hdr hfw)) <| Kn)
     ·
      obtain ⟨hc5, hc5'⟩ := pF hc5
      have hns := hc5
      refine AW.skip ?_
      refine AX.normal_block ?_
      refine AX.go ?_
      refine AW.region ?_
      refine st (OpT.add (H rfl) (T1 rfl) (I rfl) (nw (by omega))) rfl ?_
      refine st (mvT rfl) rfl ?_
      refine nn ?_
      exact AX.again (y + 1) ⟨by omega, all_step hI.2 hns⟩ (by omega) (Kc 3 _ (Kv rfl rfl) <| Kc 4 _ (Kb rfl rfl) <| Kc 6 _ (Kb rfl rfl) <| Kc 7 _ (Kv rfl rfl) <| Kc 8 _ (Kb rfl rfl) <| Kc 21 _ (Kv rfl rfl) <| Kc 22 _ (Kv rfl rfl) <| Kc 23 _ (Kv rfl rfl) <| Kc 38 _ (Kv rfl (by omega)) <| Kc 9000 _ (Kh rfl rfl) <| Kc 9001 _ (Kh rfl rfl) <| Kn)
    ·
     obtain ⟨hc4, hc4'⟩ := pF hc4
     exact (show False from (by obtain ⟨i, hi, hs⟩ := drops_not hin.2 hdr; rw [hI.2 i (by omega)] at hs; cases hs)).elim
  ·
   obtain ⟨hc2, hc2'⟩ := pF hc2
   refine AW.exit ?_
   refine xT <| xT <| AX.exit_hit ?_
   refine AX.go ?_
   refine sr ?_
   refine st (OpT.loadB (H rfl) (Root.self (t := 6) (by decide)) rfl ag78 sz78) rfl ?_
   refine sk (OpT.storeBA rfl rfl (Opd.whole (Root.self (t := 4) (by decide)) rfl) rfl sz78 (by decide) (T1 rfl)) rfl ?_
   refine st (asI rfl) rfl ?_
   refine ng ?_
   refine AW.ret ?_
   refine AX.vw (vjoin 9000 9001 .rf rfl rfl (by decide)) fun _ => ?_
   first | exact AX.rt (rs := [.cell 4 78, .tmp 5]) (ts := [some 9000, some 5]) (.inl rfl) rfl (ROs.cons (ROc (d := (Inn.pair (Inn.flat kQuery) (Inn.pair (Inn.row 2 (Kd.int .i64)) (Inn.row 138 kWit)))) (x := (ansR q x p.1)) 9000 (by decide) rfl rfl ⟨fun h => GP.pure_i rfl h⟩ (by first | (rw [mkA_no hc1]; done) | (rw [mkA_yes hc1, show p.1 = x.length by omega])) ag78 sz78) <| ROs.cons (RO.tmp (At.self (by decide)) (Kv rfl (by first | (rw [mkA_no hc1]; done) | (rw [mkA_yes hc1]; done))) rfl) <| ROs.nil) (by decide) OutsOK.nil | exact AX.rt (rs := [.cell 4 78, .tmp 5]) (ts := [some 9000, some 5]) (.inl rfl) rfl (ROs.cons (ROc (d := (Inn.pair (Inn.flat kQuery) (Inn.pair (Inn.row 2 (Kd.int .i64)) (Inn.row 138 kWit)))) (x := zAns) 9000 (by decide) rfl rfl ⟨fun h => GP.pure_i rfl h⟩ (by first | (rw [mkA_no hc1]; done) | (rw [mkA_yes hc1, show p.1 = x.length by omega])) ag78 sz78) <| ROs.cons (RO.tmp (At.self (by decide)) (Kv rfl (by first | (rw [mkA_no hc1]; done) | (rw [mkA_yes hc1]; done))) rfl) <| ROs.nil) (by decide) OutsOK.nil
theorem c_impl_MakeAnswer (x : List DCard) (q : DQuery) : AC Tryd.prog 49 [.cel (Kd.slice kCard) x, .agg kQuery q] [.agg kAns (mkA x q).1, .cel (Kd.int .i64) (mkA x q).2] [] := (c_impl_MakeAnswer_o x q).shr (Shrs.cons (Shr.dagg (Inn.Reads.pair (Inn.Reads.flat _) (Inn.Reads.pair (Inn.Reads.row _ _) (Inn.Reads.row _ _)))) <| Shrs.cons (Shr.frz _) <| Shrs.nil)

/-- spec.l07Answer -/
theorem c_spec_l07Answer_o (x : List DCard) (q : DQuery) (hx : x.length ≤ 80) (hq : queryOK q = true) : AC Tryd.prog 92 [.cel (Kd.slice kCard) x, .cel (Kd.ptr kQuery) q] [.deep (OSh.dagg (Inn.pair (Inn.flat kQuery) (Inn.pair (Inn.row 2 (Kd.int .i64)) (Inn.row 138 kWit))) (ansR q x x.length))] [] := by
 refine acI (N := 52) Tryd.func92 (Nat.le_of_ble_eq_true rfl) rfl fun w0 hd s0 ar => ?_
 refine AW.to (kc2 0 1 rfl <| Kn) ?_
 refine sr ?_
 refine st (OpT.alloc (H rfl) zr78 zkr78) rfl ?_
 refine ng ?_
 refine sr ?_
 refine st (mvT rfl) rfl ?_
 refine st (OpT.nilCheck (H rfl) (T1 rfl)) rfl ?_
 refine st (OpT.loadA (H rfl) (T1 rfl) ag74 sz74) rfl ?_
 refine st (OpT.build (H rfl) pl78 zr78 zkr78 (Built.agg (T1 rfl) rfl (by decide) sbr78_0 (Built.nil _))) rfl ?_
 refine st (OpT.alloc (H rfl) zr78 zkr78) rfl ?_
 refine AWl.vw (vnown 2 (Kd.int .i64) rfl 9000 9098 rfl rfl (by decide)) fun _ => ?_
 refine AWl.to (Kc 9000 (.deep _) rfl <| kb 5 rfl <| ka 11 rfl <| ka 10 rfl <| kc2 9 8 rfl <| kb 4 rfl <| kc2 0 1 rfl <| Kn) ?_
 refine AWl.vw (vnown 138 kWit rfl 9001 9098 rfl rfl (by decide)) fun _ => ?_
 refine AWl.to (Kc 9001 (.deep _) rfl <| Kc 9000 (.deep _) rfl <| kb 5 rfl <| ka 11 rfl <| ka 10 rfl <| kc2 9 8 rfl <| kb 4 rfl <| kc2 0 1 rfl <| Kn) ?_
 refine sk (OpT.storeBA rfl rfl (Opd.whole (Root.self (t := 5) (by decide)) rfl) rfl sz78 (by decide) (T1 rfl)) rfl ?_
 refine ng ?_
 refine AW.seq ?_
 refine sr ?_
 refine st (asI rfl) rfl ?_
 refine ng ?_
 refine AW.block ?_
 refine AW.loop (fun p : Nat × Value × Value => p.1 ≤ x.length) (fun p : Nat × Value × Value => keep [(0, .cel (Kd.slice kCard) x), (1, .cel (Kd.ptr kQuery) q), (4, .box 78 (Kd.pair kQuery (Kd.pair Kd.raw Kd.raw)) (((0#64, 0#64), (0#64, 0#64)), Value.slice none 0 0, Value.slice none 0 0)), (5, .box 78 (Kd.pair kQuery (Kd.pair Kd.raw Kd.raw)) (q, p.2.1, p.2.2)), (6, .cel (Kd.int .i64) (p.1 : Int)), (9000, .deep (OSh.gh (GP.own 2 (Kd.int .i64) (hitsP q x p.1) p.2.1))), (9001, .deep (OSh.gh (GP.own 138 kWit (witsP q x p.1) p.2.2)))]) (fun p : Nat × Value × Value => x.length - p.1) ((0, Value.slice none 0 0, Value.slice none 0 0)) (Nat.zero_le _) (Kc 0 _ (Kv rfl rfl) <| Kc 1 _ (Kv rfl rfl) <| Kc 4 _ (Kb rfl rfl) <| Kc 5 _ (Kb rfl rfl) <| Kc 6 _ (Kv rfl rfl) <| Kc 9000 _ (Kh rfl rfl) <| Kc 9001 _ (Kh rfl rfl) <| Kn) ?_
 intro p hI
 have hhl := hits_len q x p.1
 have hwl := wits_len q x p.1
 refine AW.seq ?_
 refine sr ?_
 refine st (mvT rfl) rfl ?_
 refine st (mvT rfl) rfl ?_
 refine st (OpT.len (H rfl) (T1 rfl) el36) rfl ?_
 refine st (OpT.lss (H rfl) (T1 rfl) (T1 rfl)) rfl ?_
 refine ng ?_
 refine cd rfl (fun hc1 => ?_) fun hc1 => ?_
 ·
  obtain ⟨hc1, hc1'⟩ := pT hc1
  obtain ⟨c, hcc⟩ := getI (x := x) (z := p.1) (by omega)
  refine AW.skip ?_
  refine AX.go ?_
  refine AW.seq ?_
  refine AW.block ?_
  refine AW.seq ?_
  refine sr ?_
  refine st (mvT rfl) rfl ?_
  refine st (mvT rfl) rfl ?_
  refine st (mvT rfl) rfl ?_
  refine st (OpT.indexAddr (H rfl) (T1 rfl) (T1 rfl) el36 sz101 (by omega) (by assumption)) rfl ?_
  refine st (OpT.fieldAddr (H rfl) (T1 rfl) fd101_1 sz55 (by decide) sb101_1) rfl ?_
  refine st (OpT.loadA (H rfl) (T1 rfl) ag55 sz55) rfl ?_
  refine st (OpT.c1 (ms := [.flat, .flat]) (c_spec_l02Drops _ _) (H rfl) (Af (T1 rfl) rfl rfl <| Af (T1 rfl) rfl rfl <| An) rfl rfl) rfl ?_
  refine ng ?_
  refine cd rfl (fun hc2 => ?_) fun hc2 => ?_
  ·
   obtain ⟨hc2, hc2'⟩ := pT hc2
   have hdr := hc2
   refine sr ?_
   refine st (OpT.fieldAddrB (H rfl) (Root.self (t := 5) (by decide)) rfl (by decide) fd78_1 sz75 (by decide) sbr78_1) rfl ?_
   refine st (OpT.loadP (H rfl) (T1 rfl) (.inl ⟨_, rfl, rfl⟩) ag75 rfl) rfl ?_
   refine AWl.vw (vunmelt 26 9000 rfl rfl (by decide)) fun _ => ?_
   refine AWl.to (ko 26 rfl <| Kc 25 (.pel _ _ _ _ _ _ _) rfl <| kc 24 rfl <| ka 23 rfl <| kc4 22 21 20 19 rfl <| kc4 18 15 14 13 rfl <| kc3 12 0 1 rfl <| kb 4 rfl <| kb 5 rfl <| kc 6 rfl <| Kc 9001 (.deep _) rfl <| Kn) ?_
   refine st (mvT rfl) rfl ?_
   refine st (OpT.buildSlice (H rfl) el75 zr2 sz2 rfl (by decide) zk2 (by decide) (Built.cel (T1 rfl) rfl rfl (sub_arr (by decide) (0 : Int)) (Built.nil _))) rfl ?_
   refine sg (OpT.append (H rfl) (Root.self (t := 26) (by decide)) rfl (Src.own (Root.self (t := 28) (by decide)) rfl) (by decide) el75 zr2 rfl sz2 by2 (by decide) (by simp only [List.length_set, List.length_replicate]; omega)) (ko 29 rfl <| ko 28 rfl <| kc 27 rfl <| Kc 25 (.pel _ _ _ _ _ _ _) rfl <| kc 24 rfl <| ka 23 rfl <| kc4 22 21 20 19 rfl <| kc4 18 15 14 13 rfl <| kc3 12 0 1 rfl <| kb 4 rfl <| kb 5 rfl <| kc 6 rfl <| Kc 9001 (.deep _) rfl <| Kn) rfl ?_
   refine AWl.vw (vmelt 29 9000 rfl rfl (by decide)) fun va => ?_
   refine AWl.to (Kc 9000 (.deep _) rfl <| kc 29 rfl <| ko 28 rfl <| kc 27 rfl <| Kc 25 (.pel _ _ _ _ _ _ _) rfl <| kc 24 rfl <| ka 23 rfl <| kc4 22 21 20 19 rfl <| kc4 18 15 14 13 rfl <| kc3 12 0 1 rfl <| kb 4 rfl <| kb 5 rfl <| kc 6 rfl <| Kc 9001 (.deep _) rfl <| Kn) ?_
   refine st (OpT.fieldAddrB (H rfl) (Root.self (t := 5) (by decide)) rfl (by decide) fd78_1 sz75 (by decide) sbr78_1) rfl ?_
   refine sk (OpT.storeB rfl rfl (T1 rfl) rfl sz75 rfl (T1 rfl)) rfl ?_
   refine ng ?_
   refine AW.exit ?_
   refine xT <| AX.exit_hit ?_
   refine AX.go ?_
   refine AW.region ?_
   refine st (mvT rfl) rfl ?_
   refine st (OpT.add (H rfl) (T1 rfl) (I rfl) (nw (by omega))) rfl ?_
   refine st (asT rfl) rfl ?_
   refine nn ?_
   first | exact AX.again ((p.1 + 1, va, p.2.2)) (by simp only []; omega) (by simp only []; omega) (Kc 0 _ (Kv rfl rfl) <| Kc 1 _ (Kv rfl rfl) <| Kc 4 _ (Kb rfl rfl) <| Kc 5 _ (Kb rfl rfl) <| Kc 6 _ (Kv rfl (by simp only []; omega)) <| Kc 9000 _ (Kh rfl (by first | exact hits_yes hcc hdr | exact hits_no hcc hdr)) <| Kc 9001 _ (Kh rfl (by first | exact wits_yes hcc hdr | exact wits_no hcc hdr hfw)) <| Kn) | exact AX.again ((p.1 + 1, p.2.1, vb)) (by simp only []; omega) (by simp only []; omega) (Kc 0 _ (Kv rfl rfl) <| Kc 1 _ (Kv rfl rfl) <| Kc 4 _ (Kb rfl rfl) <| Kc 5 _ (Kb rfl rfl) <| Kc 6 _ (Kv rfl (by simp only []; omega)) <| Kc 9000 _ (Kh rfl (by first | exact hits_yes hcc hdr | exact hits_no hcc hdr)) <| Kc 9001 _ (Kh rfl (by first | exact wits_yes hcc hdr | exact wits_no hcc hdr hfw)) <| Kn)
  ·
   obtain ⟨hc2, hc2'⟩ := pF hc2
   have hdr := hc2
   obtain ⟨w, hw, hsw⟩ := drops_not hq hdr
   refine AW.skip ?_
   refine AX.go ?_
   refine sr ?_
   refine st (asI rfl) rfl ?_
   refine ng ?_
   refine AW.seq ?_
   refine AW.block ?_
   refine AW.loop (fun y : Nat => y < 96 ∧ ∀ i, i < y → showsQ q c.2 ((i : Nat) : Int) = false) (fun y : Nat => keep [(0, .cel (Kd.slice kCard) x), (1, .cel (Kd.ptr kQuery) q), (4, .box 78 (Kd.pair kQuery (Kd.pair Kd.raw Kd.raw)) (((0#64, 0#64), (0#64, 0#64)), Value.slice none 0 0, Value.slice none 0 0)), (5, .box 78 (Kd.pair kQuery (Kd.pair Kd.raw Kd.raw)) (q, p.2.1, p.2.2)), (6, .cel (Kd.int .i64) (p.1 : Int)), (7, .cel (Kd.int .i64) (y : Int)), (9000, .deep (OSh.gh (GP.own 2 (Kd.int .i64) (hitsP q x p.1) p.2.1))), (9001, .deep (OSh.gh (GP.own 138 kWit (witsP q x p.1) p.2.2)))]) (fun y : Nat => 96 - y) (0) ⟨by omega, all_none⟩ (Kc 0 _ (Kv rfl rfl) <| Kc 1 _ (Kv rfl rfl) <| Kc 4 _ (Kb rfl rfl) <| Kc 5 _ (Kb rfl rfl) <| Kc 6 _ (Kv rfl rfl) <| Kc 7 _ (Kv rfl rfl) <| Kc 9000 _ (Kh rfl rfl) <| Kc 9001 _ (Kh rfl rfl) <| Kn) ?_
   intro y hI
   refine AW.seq ?_
   refine sr ?_
   refine st (mvT rfl) rfl ?_
   refine st (mvT rfl) rfl ?_
   refine st (mvT rfl) rfl ?_
   refine st (OpT.indexAddr (H rfl) (T1 rfl) (T1 rfl) el36 sz101 (by omega) (by assumption)) rfl ?_
   refine st (OpT.fieldAddr (H rfl) (T1 rfl) fd101_1 sz55 (by decide) sb101_1) rfl ?_
   refine st (OpT.loadA (H rfl) (T1 rfl) ag55 sz55) rfl ?_
   refine st (mvT rfl) rfl ?_
   refine st (OpT.c1 (ms := [.flat, .flat, .flat]) (c_spec_l07Shows _ _ _ (by omega)) (H rfl) (Af (T1 rfl) rfl rfl <| Af (T1 rfl) rfl rfl <| Af (T1 rfl) rfl rfl <| An) rfl rfl) rfl ?_
   refine st (OpT.not (H rfl) (T1 rfl)) rfl ?_
   refine ng ?_
   refine cd rfl (fun hc3 => ?_) fun hc3 => ?_
   ·
    obtain ⟨hc3, hc3'⟩ := pT hc3
    have hns : showsQ q c.2 (y : Int) = false := by simpa using hc3
    refine AW.skip ?_
    refine AX.go ?_
    refine AW.block ?_
    refine AW.region ?_
    refine st (mvT rfl) rfl ?_
    refine st (OpT.add (H rfl) (T1 rfl) (I rfl) (nw (by omega))) rfl ?_
    refine st (asT rfl) rfl ?_
    refine nn ?_
    refine AX.normal_block ?_
    exact AX.again (y + 1) ⟨wit_lt hw hsw (all_step hI.2 hns), all_step hI.2 hns⟩ (by omega) (Kc 0 _ (Kv rfl rfl) <| Kc 1 _ (Kv rfl rfl) <| Kc 4 _ (Kb rfl rfl) <| Kc 5 _ (Kb rfl rfl) <| Kc 6 _ (Kv rfl rfl) <| Kc 7 _ (Kv rfl (by omega)) <| Kc 9000 _ (Kh rfl rfl) <| Kc 9001 _ (Kh rfl rfl) <| Kn)
   ·
    obtain ⟨hc3, hc3'⟩ := pF hc3
    have hfw := firstW_at hI.1 (by simpa using hc3) hI.2
    refine AW.exit ?_
    refine xT <| xT <| AX.exit_hit ?_
    refine AX.go ?_
    refine AW.region ?_
    refine st (OpT.fieldAddrB (H rfl) (Root.self (t := 5) (by decide)) rfl (by decide) fd78_2 sz76 (by decide) sbr78_2) rfl ?_
    refine st (OpT.loadP (H rfl) (T1 rfl) (.inl ⟨_, rfl, rfl⟩) ag76 rfl) rfl ?_
    refine AWl.vw (vunmelt 43 9001 rfl rfl (by decide)) fun _ => ?_
    refine AWl.to (ko 43 rfl <| Kc 42 (.pel _ _ _ _ _ _ _) rfl <| kc3 39 38 37 rfl <| ka 36 rfl <| kc4 35 34 33 32 rfl <| kc3 31 0 1 rfl <| kb 4 rfl <| kb 5 rfl <| kc2 6 7 rfl <| Kc 9000 (.deep _) rfl <| Kn) ?_
    refine st (mvT rfl) rfl ?_
    refine st (mvT rfl) rfl ?_
    refine st (OpT.conv (H rfl) us2 Tryd.underlying48 (T1 rfl) (nw16 (by omega))) rfl ?_
    refine st (OpT.build (H rfl) pl138 zr138 zk138 (Built.cel (T1 rfl) rfl rfl sb138_0 (Built.cel (T1 rfl) rfl rfl sb138_1 (Built.nil _)))) rfl ?_
    refine st (OpT.buildSlice (H rfl) el76 zr138 sz138 rfl (by decide) zk138 (by decide) (Built.agg (T1 rfl) rfl (by decide) (sub_arr (by decide) ((0, 0) : Int × Int)) (Built.nil _))) rfl ?_
    refine sg (OpT.append (H rfl) (Root.self (t := 43) (by decide)) rfl (Src.own (Root.self (t := 48) (by decide)) rfl) (by decide) el76 zr138 rfl sz138 by138 (by decide) (by simp only [List.length_set, List.length_replicate]; omega)) (ko 49 rfl <| ko 48 rfl <| ka 47 rfl <| kc3 46 45 44 rfl <| Kc 42 (.pel _ _ _ _ _ _ _) rfl <| kc3 39 38 37 rfl <| ka 36 rfl <| kc4 35 34 33 32 rfl <| kc3 31 0 1 rfl <| kb 4 rfl <| kb 5 rfl <| kc2 6 7 rfl <| Kc 9000 (.deep _) rfl <| Kn) rfl ?_
    refine AWl.vw (vmelt 49 9001 rfl rfl (by decide)) fun vb => ?_
    refine AWl.to (Kc 9001 (.deep _) rfl <| kc 49 rfl <| ko 48 rfl <| ka 47 rfl <| kc3 46 45 44 rfl <| Kc 42 (.pel _ _ _ _ _ _ _) rfl <| kc3 39 38 37 rfl <| ka 36 rfl <| kc4 35 34 33 32 rfl <| kc3 31 0 1 rfl <| kb 4 rfl <| kb 5 rfl <| kc2 6 7 rfl <| Kc 9000 (.deep _) rfl <| Kn) ?_
    refine st (OpT.fieldAddrB (H rfl) (Root.self (t := 5) (by decide)) rfl (by decide) fd78_2 sz76 (by decide) sbr78_2) rfl ?_
    refine sk (OpT.storeB rfl rfl (T1 rfl) rfl sz76 rfl (T1 rfl)) rfl ?_
    refine nn ?_
    refine AX.normal_block ?_
    refine AX.go ?_
    refine AW.region ?_
    refine st (mvT rfl) rfl ?_
    refine st (OpT.add (H rfl) (T1 rfl) (I rfl) (nw (by omega))) rfl ?_
    refine st (asT rfl) rfl ?_
    refine nn ?_
    first | exact AX.again ((p.1 + 1, va, p.2.2)) (by simp only []; omega) (by simp only []; omega) (Kc 0 _ (Kv rfl rfl) <| Kc 1 _ (Kv rfl rfl) <| Kc 4 _ (Kb rfl rfl) <| Kc 5 _ (Kb rfl rfl) <| Kc 6 _ (Kv rfl (by simp only []; omega)) <| Kc 9000 _ (Kh rfl (by first | exact hits_yes hcc hdr | exact hits_no hcc hdr)) <| Kc 9001 _ (Kh rfl (by first | exact wits_yes hcc hdr | exact wits_no hcc hdr hfw)) <| Kn) | exact AX.again ((p.1 + 1, p.2.1, vb)) (by simp only []; omega) (by simp only []; omega) (Kc 0 _ (Kv rfl rfl) <| Kc 1 _ (Kv rfl rfl) <| Kc 4 _ (Kb rfl rfl) <| Kc 5 _ (Kb rfl rfl) <| Kc 6 _ (Kv rfl (by simp only []; omega)) <| Kc 9000 _ (Kh rfl (by first | exact hits_yes hcc hdr | exact hits_no hcc hdr)) <| Kc 9001 _ (Kh rfl (by first | exact wits_yes hcc hdr | exact wits_no hcc hdr hfw)) <| Kn)
 ·
  obtain ⟨hc1, hc1'⟩ := pF hc1
  refine AW.exit ?_
  refine xT <| xT <| AX.exit_hit ?_
  refine AX.go ?_
  refine sr ?_
  refine st (OpT.loadB (H rfl) (Root.self (t := 5) (by decide)) rfl ag78 sz78) rfl ?_
  refine sk (OpT.storeBA rfl rfl (Opd.whole (Root.self (t := 4) (by decide)) rfl) rfl sz78 (by decide) (T1 rfl)) rfl ?_
  refine ng ?_
  refine AW.ret ?_
  refine AX.vw (vjoin 9000 9001 .rf rfl rfl (by decide)) fun _ => ?_
  exact AX.rt (rs := [.cell 4 78]) (ts := [some 9000]) (.inl rfl) rfl (ROs.cons (ROc (d := (Inn.pair (Inn.flat kQuery) (Inn.pair (Inn.row 2 (Kd.int .i64)) (Inn.row 138 kWit)))) (x := (ansR q x p.1)) 9000 (by decide) rfl rfl ⟨fun h => GP.pure_i rfl h⟩ (by rw [show p.1 = x.length by omega]) ag78 sz78) <| ROs.nil) (by decide) OutsOK.nil
theorem c_spec_l07Answer (x : List DCard) (q : DQuery) (hx : x.length ≤ 80) (hq : queryOK q = true) : AC Tryd.prog 92 [.cel (Kd.slice kCard) x, .cel (Kd.ptr kQuery) q] [.agg kAns (ansR q x x.length)] [] := (c_spec_l07Answer_o x q hx hq).shr (Shrs.cons (Shr.dagg (Inn.Reads.pair (Inn.Reads.flat _) (Inn.Reads.pair (Inn.Reads.row _ _) (Inn.Reads.row _ _)))) <| Shrs.nil)

/-- spec.MakeAnswer -/
theorem c_spec_MakeAnswer (x : List DCard) (q : DQuery) : AC Tryd.prog 47 [.cel (Kd.slice kCard) x, .agg kQuery q] [.agg kAns (mkA x q).1, .cel (Kd.int .i64) (mkA x q).2] [] := by
 refine acI (N := 16) Tryd.func47 (Nat.le_of_ble_eq_true rfl) rfl fun w0 hd s0 ar => ?_
 refine AW.to (kc 0 rfl <| ka 1 rfl <| Kn) ?_
 refine sr ?_
 refine st (OpT.frz (OpT.boxA (E := 74) (H rfl) (T1 rfl))) rfl ?_
 refine st (OpT.alloc (H rfl) zr78 zk78) rfl ?_
 refine st (asI rfl) rfl ?_
 refine ng ?_
 refine AW.seq ?_
 refine sr ?_
 refine st (mvT rfl) rfl ?_
 refine st (OpT.c1 (ms := [.flat]) (c_spec_l02Ok _) (H rfl) (Af (T1 rfl) rfl rfl <| An) rfl rfl) rfl ?_
 refine st (OpT.not (H rfl) (T1 rfl)) rfl ?_
 refine st (mvT rfl) rfl ?_
 apply AWl.or (d := 12) (t := 9) rfl
 ·
  intro hb1 Q1 k1
  have hb1' := lF hb1
  refine rs hb1 (OpT.c1 (ms := [.flat]) (c_spec_l02Query _) (H rfl) (Af (T1 rfl) rfl rfl <| An) rfl rfl) rfl ?_
  refine rs hb1 (OpT.not (H rfl) (T1 rfl)) rfl ?_
  refine st (OpT.pickF (A := .cel _ _) (H rfl) (T1 rfl) hb1 (T1 rfl) rfl) rfl ?_
  exact AWl.to (junk 2 rfl) k1
 ·
  intro hb1 Q1 k1
  refine ps hb1 rfl ?_
  refine ps hb1 rfl ?_
  refine st (OpT.pickT (A := .cel _ _) (H rfl) (T1 rfl) hb1 Opd.bool rfl) rfl ?_
  exact k1
 refine ng ?_
 refine cd rfl (fun hc1 => ?_) fun hc1 => ?_
 ·
  obtain ⟨hc1, hc1'⟩ := pT hc1
  refine sr ?_
  refine st (OpT.build (H rfl) pl78 zr78 zk78 (Built.nil _)) rfl ?_
  refine sk (OpT.storeBA rfl rfl (Opd.whole (Root.self (t := 4) (by decide)) rfl) rfl sz78 (by decide) (T1 rfl)) rfl ?_
  refine st (asI rfl) rfl ?_
  refine ng ?_
  refine AW.ret ?_
  refine rT ?_
  exact AX.rt (rs := [.cell 4 78, .tmp 5]) (ts := [none, some 5]) (.inl rfl) rfl (ROs.cons (RO.cellA (by decide) (Kb rfl (by first | (rw [mkA_no hc1]; first | done | rfl) | (rw [mkA_yes hc1]; done))) ag78 sz78) <| ROs.cons (RO.tmp (At.self (by decide)) (Kv rfl (by first | (rw [mkA_no hc1]; first | done | rfl) | (rw [mkA_yes hc1]; done))) rfl) <| ROs.nil) (by decide) OutsOK.nil
 ·
  obtain ⟨hc1, hc1'⟩ := pF hc1
  have hin := mkA_in hc1
  refine AW.skip ?_
  refine AX.go ?_
  refine sr ?_
  refine st (mvT rfl) rfl ?_
  refine st (OpT.c1 (ms := [.flat, .flat]) (c_spec_l07Answer _ _ hin.1 hin.2) (H rfl) (Af (T1 rfl) rfl rfl <| Af (T1 rfl) rfl rfl <| An) rfl rfl) rfl ?_
  refine sk (OpT.storeBA rfl rfl (Opd.whole (Root.self (t := 4) (by decide)) rfl) rfl sz78 (by decide) (T1 rfl)) rfl ?_
  refine st (asI rfl) rfl ?_
  refine AWl.to (kc 5 rfl <| kb 4 rfl <| Kn) ?_
  refine ng ?_
  refine AW.ret ?_
  exact AX.rt (rs := [.cell 4 78, .tmp 5]) (ts := [none, some 5]) (.inl rfl) rfl (ROs.cons (RO.cellA (by decide) (Kb rfl (by first | (rw [mkA_no hc1]; first | done | rfl) | (rw [mkA_yes hc1]; done))) ag78 sz78) <| ROs.cons (RO.tmp (At.self (by decide)) (Kv rfl (by first | (rw [mkA_no hc1]; first | done | rfl) | (rw [mkA_yes hc1]; done))) rfl) <| ROs.nil) (by decide) OutsOK.nil

/-- laws.markWitnessS -/
theorem c_laws_markWitnessS (x : List (Int × Int)) (k : Int) (h : 0 ≤ k ∧ k ≤ 1152921504606846976 ∧ x.length ≤ 115292150460684697) : AC Tryd.prog 100 [.own 138 kWit x, .cel (Kd.int .i64) k] [.cel (Kd.int .i64) (k + 2 * (x.length : Int))] [.own 138 kWit (mkL fW 2 x.length k), .any] := by
 refine acI (N := 28) Tryd.func100 (Nat.le_of_ble_eq_true rfl) rfl fun w0 hd s0 ar => ?_
 refine AW.to (ko 0 rfl <| kc 1 rfl <| Kn) ?_
 refine sr ?_
 refine st (asI rfl) rfl ?_
 refine ng ?_
 refine AW.seq ?_
 refine sr ?_
 refine st (asI rfl) rfl ?_
 refine ng ?_
 refine AW.block ?_
 refine AW.loop (fun z : Nat => z ≤ x.length) (fun z : Nat => keep [(0, .own 138 kWit (mkR fW 2 x z k)), (1, .cel (Kd.int .i64) (k + 2 * (z : Int))), (5, .cel (Kd.int .i64) (z : Int))]) (fun z : Nat => x.length - z) (0) (Nat.zero_le _) (Kc 0 _ (Ko rfl mkR_zero) <| Kc 1 _ (Kv rfl (by omega)) <| Kc 5 _ (Kv rfl rfl) <| Kn) ?_
 intro z hI
 refine AW.seq ?_
 refine sr ?_
 refine st (mvT rfl) rfl ?_
 refine st (OpT.alias (H rfl) (by decide) (by decide)) rfl ?_
 refine st (OpT.lenO (H rfl) (Root.ali rfl (by decide) (by decide)) rfl el76) rfl ?_
 refine st (OpT.lss (H rfl) (T1 rfl) (T1 rfl)) rfl ?_
 refine ng ?_
 refine cd rfl (fun hc1 => ?_) fun hc1 => ?_
 ·
  obtain ⟨hc1, hc1'⟩ := pT hc1
  rw [mkR_len hI] at hc1'
  obtain ⟨a, ha⟩ := getI (x := (mkR fW 2 x z k)) (z := z) (by rw [mkR_len (by omega)]; omega)
  have hln := mkR_len (f := fW) (w := 2) (x := x) (z := z) (k := k) (by omega)
  have hs0 := set_get (l := (mkR fW 2 x z k)) (z := z) (by simp only [set_len, hln]; omega) (((k + 2 * (z : Int)), a.2) : Int × Int)
  have hs1 := set_get (l := (List.set (mkR fW 2 x z k) (Int.toNat (z : Int)) (((k + 2 * (z : Int)), a.2) : Int × Int))) (z := z) (by simp only [set_len, hln]; omega) (((k + 2 * (z : Int)), IntKind.i16.wrap ((k + 2 * (z : Int)) + 1)) : Int × Int)
  refine AW.skip ?_
  refine AX.go ?_
  refine AW.seq ?_
  refine AW.block ?_
  refine sr ?_
  refine st (OpT.alias (H rfl) (by decide) (by decide)) rfl ?_
  refine st (mvT rfl) rfl ?_
  refine st (mvT rfl) rfl ?_
  refine st (OpT.indexAddrO (H rfl) (Root.ali rfl (by decide) (by decide)) rfl (by decide) (T1 rfl) el76 sz138 (by omega) (by assumption)) rfl ?_
  refine st (OpT.fieldAddrE (H rfl) (T1 rfl) (.inr ⟨_, _, rfl, (by assumption)⟩) (by decide) fd138_0 sz2 (by decide) sb138_0 (by decide)) rfl ?_
  refine sk (OpT.storeO rfl rfl (T1 rfl) rfl (by assumption) sz2 rfl (T1 rfl)) rfl ?_
  refine ng ?_
  refine sr ?_
  refine st (mvT rfl) rfl ?_
  refine st (OpT.add (H rfl) (T1 rfl) (I rfl) (nw (by omega))) rfl ?_
  refine st (asT rfl) rfl ?_
  refine ng ?_
  refine sr ?_
  refine st (OpT.alias (H rfl) (by decide) (by decide)) rfl ?_
  refine st (mvT rfl) rfl ?_
  refine st (mvT rfl) rfl ?_
  refine st (OpT.conv (H rfl) us3 Tryd.underlying48 (T1 rfl) rfl) rfl ?_
  refine st (OpT.indexAddrO (H rfl) (Root.ali rfl (by decide) (by decide)) rfl (by decide) (T1 rfl) el76 sz138 (by omega) (by assumption)) rfl ?_
  refine st (OpT.fieldAddrE (H rfl) (T1 rfl) (.inr ⟨_, _, rfl, (by assumption)⟩) (by decide) fd138_1 sz48 (by decide) sb138_1 (by decide)) rfl ?_
  refine sk (OpT.storeO rfl rfl (T1 rfl) rfl (by assumption) sz48 rfl (T1 rfl)) rfl ?_
  refine ng ?_
  refine AW.region ?_
  refine st (mvT rfl) rfl ?_
  refine st (OpT.add (H rfl) (T1 rfl) (I rfl) (nw (by omega))) rfl ?_
  refine st (asT rfl) rfl ?_
  refine nn ?_
  refine AX.normal_block ?_
  refine AX.go ?_
  refine AW.region ?_
  refine st (mvT rfl) rfl ?_
  refine st (OpT.add (H rfl) (T1 rfl) (I rfl) (nw (by omega))) rfl ?_
  refine st (asT rfl) rfl ?_
  refine nn ?_
  exact AX.again (z + 1) (by omega) (by omega) (Kc 0 _ (Ko rfl (by (try simp only [List.set_set]); exact mkR_step (by omega))) <| Kc 1 _ (Kv rfl (by omega)) <| Kc 5 _ (Kv rfl (by omega)) <| Kn)
 ·
  obtain ⟨hc1, hc1'⟩ := pF hc1
  rw [mkR_len hI] at hc1'
  refine AW.exit ?_
  refine xT <| xT <| AX.exit_hit ?_
  refine AX.go ?_
  refine sr ?_
  refine st (mvT rfl) rfl ?_
  refine st (asT rfl) rfl ?_
  refine ng ?_
  refine AW.ret ?_
  exact AX.rt (rs := [.tmp 4]) (ts := [some 4]) (.inl rfl) rfl (ROs.cons (RO.tmp (At.self (by decide)) (Kv rfl (by omega)) rfl) <| ROs.nil) (by decide) (fun i => match i with | 0 => .inr ⟨rfl, Ko rfl (mkR_end (by omega) hI), rfl, by decide⟩ | 1 => .inl rfl | _ + 2 => .inl rfl)

/-- laws.heldWitnessS -/
theorem c_laws_heldWitnessS (n : Nat) (k : Int) (h : 0 ≤ k ∧ k ≤ 1152921504606846976 ∧ n ≤ 115292150460684697) : AC Tryd.prog 102 [.cel (Kd.slice kWit) (mkL fW 2 n k), .cel (Kd.int .i64) k] [.cel (Kd.int .i64) (k + 2 * (n : Int))] [] := by
 refine acI (N := 32) Tryd.func102 (Nat.le_of_ble_eq_true rfl) rfl fun w0 hd s0 ar => ?_
 refine AW.to (kc2 0 1 rfl <| Kn) ?_
 refine sr ?_
 refine st (asI rfl) rfl ?_
 refine ng ?_
 refine AW.seq ?_
 refine sr ?_
 refine st (asI rfl) rfl ?_
 refine ng ?_
 refine AW.block ?_
 refine AW.loop (fun z : Nat => z ≤ n) (fun z : Nat => keep [(0, .cel (Kd.slice kWit) (mkL fW 2 n k)), (1, .cel (Kd.int .i64) (k + 2 * (z : Int))), (5, .cel (Kd.int .i64) (z : Int))]) (fun z : Nat => n - z) (0) (Nat.zero_le _) (Kc 0 _ (Kv rfl rfl) <| Kc 1 _ (Kv rfl (by omega)) <| Kc 5 _ (Kv rfl rfl) <| Kn) ?_
 intro z hI
 refine AW.seq ?_
 refine sr ?_
 refine st (mvT rfl) rfl ?_
 refine st (mvT rfl) rfl ?_
 refine st (OpT.len (H rfl) (T1 rfl) el76) rfl ?_
 refine st (OpT.lss (H rfl) (T1 rfl) (T1 rfl)) rfl ?_
 refine ng ?_
 refine cd rfl (fun hc1 => ?_) fun hc1 => ?_
 ·
  obtain ⟨hc1, hc1'⟩ := pT hc1
  rw [mkL_len] at hc1'
  have hv := mkL_get (f := fW) (w := 2) (k := k) (n := n) (z := z) (by omega)
  refine AW.skip ?_
  refine AX.go ?_
  refine AW.seq ?_
  refine AW.block ?_
  refine AW.seq ?_
  refine sr ?_
  refine st (mvT rfl) rfl ?_
  refine st (mvT rfl) rfl ?_
  refine st (OpT.indexAddr (H rfl) (T1 rfl) (T1 rfl) el76 sz138 (by omega) (by assumption)) rfl ?_
  refine st (OpT.fieldAddr (H rfl) (T1 rfl) fd138_0 sz2 (by decide) sb138_0) rfl ?_
  refine st (OpT.load (H rfl) (T1 rfl) ag2 rfl) rfl ?_
  refine st (mvT rfl) rfl ?_
  refine st (OpT.neq (H rfl) (T1 rfl) (T1 rfl)) rfl ?_
  refine ng ?_
  refine cd rfl (fun hc2 => ?_) fun hc2 => ?_
  ·
   obtain ⟨hc2, hc2'⟩ := pT hc2
   exact (show False from (hc2' rfl)).elim
  ·
   obtain ⟨hc2, hc2'⟩ := pF hc2
   refine AW.skip ?_
   refine AX.go ?_
   refine sr ?_
   refine st (mvT rfl) rfl ?_
   refine st (OpT.add (H rfl) (T1 rfl) (I rfl) (nw (by omega))) rfl ?_
   refine st (asT rfl) rfl ?_
   refine ng ?_
   refine AW.seq ?_
   refine sr ?_
   refine st (mvT rfl) rfl ?_
   refine st (mvT rfl) rfl ?_
   refine st (OpT.indexAddr (H rfl) (T1 rfl) (T1 rfl) el76 sz138 (by omega) (by assumption)) rfl ?_
   refine st (OpT.fieldAddr (H rfl) (T1 rfl) fd138_1 sz48 (by decide) sb138_1) rfl ?_
   refine st (OpT.load (H rfl) (T1 rfl) ag48 rfl) rfl ?_
   refine st (mvT rfl) rfl ?_
   refine st (OpT.conv (H rfl) us3 Tryd.underlying48 (T1 rfl) rfl) rfl ?_
   refine st (OpT.neq (H rfl) (T1 rfl) (T1 rfl)) rfl ?_
   refine ng ?_
   refine cd rfl (fun hc3 => ?_) fun hc3 => ?_
   ·
    obtain ⟨hc3, hc3'⟩ := pT hc3
    exact (show False from (hc3' rfl)).elim
   ·
    obtain ⟨hc3, hc3'⟩ := pF hc3
    refine AW.skip ?_
    refine AX.go ?_
    refine AW.region ?_
    refine st (mvT rfl) rfl ?_
    refine st (OpT.add (H rfl) (T1 rfl) (I rfl) (nw (by omega))) rfl ?_
    refine st (asT rfl) rfl ?_
    refine nn ?_
    refine AX.normal_block ?_
    refine AX.go ?_
    refine AW.region ?_
    refine st (mvT rfl) rfl ?_
    refine st (OpT.add (H rfl) (T1 rfl) (I rfl) (nw (by omega))) rfl ?_
    refine st (asT rfl) rfl ?_
    refine nn ?_
    exact AX.again (z + 1) (by omega) (by omega) (Kc 0 _ (Kv rfl rfl) <| Kc 1 _ (Kv rfl (by omega)) <| Kc 5 _ (Kv rfl (by omega)) <| Kn)
 ·
  obtain ⟨hc1, hc1'⟩ := pF hc1
  rw [mkL_len] at hc1'
  refine AW.exit ?_
  refine xT <| xT <| AX.exit_hit ?_
  refine AX.go ?_
  refine sr ?_
  refine st (mvT rfl) rfl ?_
  refine st (asT rfl) rfl ?_
  refine ng ?_
  refine AW.ret ?_
  exact rt1 rfl (.inl rfl) (by omega)

/-- laws.markAnswer -/
theorem c_laws_markAnswer (v : DAns') (k : Int) (h : 0 ≤ k ∧ k ≤ 1000000000000 ∧ v.2.1.length ≤ 1000000000 ∧ v.2.2.length ≤ 1000000000) : AC Tryd.prog 51 [.deep (OSh.dagg (Inn.pair (Inn.flat kQuery) (Inn.pair (Inn.row 2 (Kd.int .i64)) (Inn.row 138 kWit))) v), .cel (Kd.int .i64) k] [.cel (Kd.int .i64) (k + (v.2.1.length : Int) + 2 * (v.2.2.length : Int))] [.deep (OSh.dagg (Inn.pair (Inn.flat kQuery) (Inn.pair (Inn.row 2 (Kd.int .i64)) (Inn.row 138 kWit))) (v.1, mrk v.2.1.length k, mkL fW 2 v.2.2.length (k + (v.2.1.length : Int)))), .any] := by
 refine acI (N := 14) Tryd.func51 (Nat.le_of_ble_eq_true rfl) rfl fun w0 hd s0 ar => ?_
 refine AW.to (Kc 0 (.deep _) rfl <| kc 1 rfl <| Kn) ?_
 refine AW.vw (vundagg 0 9000 rfl rfl (by decide)) fun r => ?_
 refine AW.to (Kc 9000 (.deep _) rfl <| ka 0 rfl <| kc 1 rfl <| Kn) ?_
 refine AW.vw (vfact 9098 9000 rfl rfl (by decide)) fun ⟨hr1⟩ => ?_
 refine AW.to (Kc 9000 (.deep _) rfl <| ka 0 rfl <| kc 1 rfl <| Kn) ?_
 refine AW.vw (vsep 9000 9001 rfl rfl (by decide)) fun _ => ?_
 refine AW.to (Kc 9000 (.deep _) rfl <| Kc 9001 (.deep _) rfl <| ka 0 rfl <| kc 1 rfl <| Kn) ?_
 refine sr ?_
 refine st (OpT.frz (OpT.boxA (E := 78) (H rfl) (T1 rfl))) rfl ?_
 refine st (asI rfl) rfl ?_
 refine ng ?_
 refine sr ?_
 refine st (OpT.fieldAddr (H rfl) (T1 rfl) fd78_1 sz75 (by decide) sbr78_1) rfl ?_
 refine st (OpT.load (H rfl) (T1 rfl) ag75 rfl) rfl ?_
 refine AWl.vw (vpin 6 9000 rfl rfl (by decide)) fun _ => ?_
 refine AWl.to (Kc 6 (.deep _) rfl <| kc3 5 4 2 rfl <| Kc 9001 (.deep _) rfl <| ka 0 rfl <| kc 1 rfl <| Kn) ?_
 refine st (mvT rfl) rfl ?_
 refine sg (OpT.cr (ms := [.root 6, .flat]) (AC.pin (c_laws_markInt64S _ _ (by omega)) _) (H rfl) (Ar (Root.self (t := 6) (by decide)) rfl rfl rfl <| Af (T1 rfl) rfl rfl <| An) rfl (.inl rfl) rfl) (kc2 8 7 rfl <| Kc 6 (.deep _) rfl <| kc3 5 4 2 rfl <| Kc 9001 (.deep _) rfl <| ka 0 rfl <| kc 1 rfl <| Kn) rfl ?_
 refine AWl.vw (vunpin 6 9000 rfl rfl (by decide)) fun _ => ?_
 refine AWl.to (Kc 9000 (.deep _) rfl <| kc4 6 8 7 5 rfl <| kc2 4 2 rfl <| Kc 9001 (.deep _) rfl <| ka 0 rfl <| kc 1 rfl <| Kn) ?_
 refine st (asT rfl) rfl ?_
 refine ng ?_
 refine sr ?_
 refine st (OpT.fieldAddr (H rfl) (T1 rfl) fd78_2 sz76 (by decide) sbr78_2) rfl ?_
 refine st (OpT.load (H rfl) (T1 rfl) ag76 rfl) rfl ?_
 refine AWl.vw (vpin 10 9001 rfl rfl (by decide)) fun _ => ?_
 refine AWl.to (Kc 10 (.deep _) rfl <| kc2 9 1 rfl <| Kc 9000 (.deep _) rfl <| kc4 6 8 7 5 rfl <| kc2 4 2 rfl <| ka 0 rfl <| Kn) ?_
 refine st (mvT rfl) rfl ?_
 refine sg (OpT.cr (ms := [.root 10, .flat]) (AC.pin (c_laws_markWitnessS _ _ (by omega)) _) (H rfl) (Ar (Root.self (t := 10) (by decide)) rfl rfl rfl <| Af (T1 rfl) rfl rfl <| An) rfl (.inl rfl) rfl) (kc2 12 11 rfl <| Kc 10 (.deep _) rfl <| kc2 9 1 rfl <| Kc 9000 (.deep _) rfl <| kc4 6 8 7 5 rfl <| kc2 4 2 rfl <| ka 0 rfl <| Kn) rfl ?_
 refine AWl.vw (vunpin 10 9001 rfl rfl (by decide)) fun _ => ?_
 refine AWl.to (Kc 9001 (.deep _) rfl <| kc4 10 12 11 9 rfl <| kc 1 rfl <| Kc 9000 (.deep _) rfl <| kc4 6 8 7 5 rfl <| kc2 4 2 rfl <| ka 0 rfl <| Kn) ?_
 refine st (asT rfl) rfl ?_
 refine ng ?_
 refine sr ?_
 refine st (mvT rfl) rfl ?_
 refine st (asT rfl) rfl ?_
 refine AWl.to (kc 4 rfl <| Kc 9001 (.deep _) rfl <| Kc 9000 (.deep _) rfl <| ka 0 rfl <| Kn) ?_
 refine ng ?_
 refine AW.ret ?_
 refine AX.vw (vjoin 9000 9001 .rf rfl rfl (by decide)) fun _ => ?_
 refine AX.vw (vone (K := (Inn.pair (Inn.flat kQuery) (Inn.pair (Inn.row 2 (Kd.int .i64)) (Inn.row 138 kWit))).ho r (v.1, mrk v.2.1.length k, mkL fW 2 v.2.2.length (k + (v.2.1.length : Int)))) 9000 9098 ⟨fun h => GP.pure_i hr1 h⟩ rfl rfl (by decide)) fun _ => ?_
 refine AX.vw (vdagg (d := (Inn.pair (Inn.flat kQuery) (Inn.pair (Inn.row 2 (Kd.int .i64)) (Inn.row 138 kWit)))) (x := (v.1, mrk v.2.1.length k, mkL fW 2 v.2.2.length (k + (v.2.1.length : Int)))) (r := r) 0 9000 rfl rfl (by decide)) fun _ => ?_
 refine AX.pr (Kc 0 (.deep _) rfl <| kc 4 rfl <| Kn) ?_
 exact AX.rt (rs := [.tmp 4]) (ts := [some 4]) (.inl rfl) rfl (ROs.cons (RO.tmp (At.self (by decide)) (Kv rfl rfl) rfl) <| ROs.nil) (by decide) (fun i => match i with | 0 => .inr ⟨rfl, Kq rfl rfl, rfl, by decide⟩ | 1 => .inl rfl | _ + 2 => .inl rfl)

/-- laws.heldAnswer -/
theorem c_laws_heldAnswer (q : DQuery) (n m : Nat) (k : Int) (h : 0 ≤ k ∧ k ≤ 1000000000000 ∧ n ≤ 1000000000 ∧ m ≤ 1000000000) : AC Tryd.prog 52 [.agg kAns (q, mrk n k, mkL fW 2 m (k + (n : Int))), .cel (Kd.int .i64) k] [.cel (Kd.int .i64) (k + (n : Int) + 2 * (m : Int))] [] := by
 refine acI (N := 18) Tryd.func52 (Nat.le_of_ble_eq_true rfl) rfl fun w0 hd s0 ar => ?_
 refine AW.to (ka 0 rfl <| kc 1 rfl <| Kn) ?_
 refine sr ?_
 refine st (OpT.frz (OpT.boxA (E := 78) (H rfl) (T1 rfl))) rfl ?_
 refine st (asI rfl) rfl ?_
 refine ng ?_
 refine sr ?_
 refine st (OpT.fieldAddr (H rfl) (T1 rfl) fd78_1 sz75 (by decide) sb78_1) rfl ?_
 refine st (OpT.load (H rfl) (T1 rfl) ag75 rfl) rfl ?_
 refine st (mvT rfl) rfl ?_
 refine st (OpT.c1 (ms := [.flat, .flat]) (c_laws_heldInt64S n _ (by omega)) (H rfl) (Af (T1 rfl) rfl rfl <| Af (T1 rfl) rfl rfl <| An) rfl rfl) rfl ?_
 refine st (asT rfl) rfl ?_
 refine ng ?_
 refine AW.seq ?_
 refine sr ?_
 refine st (mvT rfl) rfl ?_
 refine st (OpT.lss (H rfl) (T1 rfl) (I rfl)) rfl ?_
 refine ng ?_
 refine cd rfl (fun hc1 => ?_) fun hc1 => ?_
 ·
  obtain ⟨hc1, hc1'⟩ := pT hc1
  exact (show False from (by omega)).elim
 ·
  obtain ⟨hc1, hc1'⟩ := pF hc1
  refine AW.skip ?_
  refine AX.go ?_
  refine sr ?_
  refine st (OpT.fieldAddr (H rfl) (T1 rfl) fd78_2 sz76 (by decide) sb78_2) rfl ?_
  refine st (OpT.load (H rfl) (T1 rfl) ag76 rfl) rfl ?_
  refine st (mvT rfl) rfl ?_
  refine st (OpT.c1 (ms := [.flat, .flat]) (c_laws_heldWitnessS m _ (by omega)) (H rfl) (Af (T1 rfl) rfl rfl <| Af (T1 rfl) rfl rfl <| An) rfl rfl) rfl ?_
  refine st (asT rfl) rfl ?_
  refine AWl.to (kc2 1 4 rfl <| Kn) ?_
  refine ng ?_
  refine AW.seq ?_
  refine sr ?_
  refine st (mvT rfl) rfl ?_
  refine st (OpT.lss (H rfl) (T1 rfl) (I rfl)) rfl ?_
  refine ng ?_
  refine cd rfl (fun hc2 => ?_) fun hc2 => ?_
  ·
   obtain ⟨hc2, hc2'⟩ := pT hc2
   exact (show False from (by omega)).elim
  ·
   obtain ⟨hc2, hc2'⟩ := pF hc2
   refine AW.skip ?_
   refine AX.go ?_
   refine sr ?_
   refine st (mvT rfl) rfl ?_
   refine st (asT rfl) rfl ?_
   refine ng ?_
   refine AW.ret ?_
   exact rt1 rfl (.inl rfl) rfl

set_option maxHeartbeats 4000000 in
/-- laws.FnExactMakeAnswer -/
theorem c_laws_FnExactMakeAnswer (x : List DCard) (q : DQuery) : AC Tryd.prog 11 [.cel (Kd.slice kCard) x, .agg kQuery q] [.cel Kd.bool true] [] := by
 refine acI (N := 104) Tryd.func11 (Nat.le_of_ble_eq_true rfl) rfl fun w0 hd s0 ar => ?_
 refine AW.to (kc 0 rfl <| ka 1 rfl <| Kn) ?_
 have htl := mkA_len x q
 refine sr ?_
 refine st (OpT.frz (OpT.boxA (E := 72) (H rfl) (T1 rfl))) rfl ?_
 refine st (asB rfl) rfl ?_
 refine ng ?_
 refine sr ?_
 refine st (asI rfl) rfl ?_
 refine ng ?_
 refine sr ?_
 refine st (mvT rfl) rfl ?_
 refine st (mvT rfl) rfl ?_
 refine st (OpT.c1 (ms := [.flat, .flat]) (c_laws_szCardS _ _ (by omega)) (H rfl) (Af (T1 rfl) rfl rfl <| Af (T1 rfl) rfl rfl <| An) rfl rfl) rfl ?_
 refine st (asT rfl) rfl ?_
 refine ng ?_
 refine AW.seq ?_
 refine sr ?_
 refine st (mvT rfl) rfl ?_
 refine st (OpT.lss (H rfl) (T1 rfl) (I rfl)) rfl ?_
 refine ng ?_
 refine cd rfl (fun hc1 => ?_) fun hc1 => ?_
 ·
  replace hc1 := oT hc1
  refine sr ?_
  refine st (asB rfl) rfl ?_
  refine ng ?_
  refine AW.ret ?_
  refine rT ?_
  exact rt1 rfl (.inl rfl) rfl
 ·
  replace hc1 := oF hc1
  have k0 := okSz_list okSzC x 1048576 (by omega)
  have k1 := k0.2.2 (by omega)
  refine AW.skip ?_
  refine AX.pr (kc3 4 3 0 rfl <| Kn) ?_
  refine AX.go ?_
  refine AW.seq ?_
  refine dh fomo ?_
  refine d1 [0] (fun ve h => OpT.move (A := .cel _ _) (.inl rfl) rfl (ok' rfl) (D1 h rfl) rfl) rfl ?_
  refine d1 [22] (fun ve h => OpT.c1 (ms := [.flat]) (c_laws_toCardS x (by omega)) (H rfl) (Af (D1 h rfl) rfl rfl <| An) rfl rfl) rfl ?_
  refine d1 [3] (fun ve h => OpT.loadA (H rfl) (D1 h rfl) ag72 sz72) rfl ?_
  refine d1 [24] (fun ve h => OpT.c1 (ms := [.flat]) (c_laws_toQuery _) (H rfl) (Af (D1 h rfl) rfl rfl <| An) rfl rfl) rfl ?_
  refine d2 [23, 25] (fun ve h => OpT.c2 (ms := [.flat, .flat]) (c_spec_MakeAnswer _ _) (H rfl) (Af (D1 h rfl) rfl rfl <| Af (D1 h rfl) rfl rfl <| An) rfl rfl rfl) rfl ?_
  refine d1 [] (fun ve h => OpT.alias (H rfl) (by decide) (by decide)) rfl ?_
  refine d1 [21, 10026] (fun ve h => OpT.extractV (m := 10026) (H rfl) ((h _ (List.elem_iff.1 rfl)).trans rfl) rfl rfl rfl ((h _ (List.elem_iff.1 rfl)).trans rfl) rfl rfl) rfl ?_
  refine d1 [21, 20026] (fun ve h => OpT.extractV (m := 20026) (H rfl) ((h _ (List.elem_iff.1 rfl)).trans rfl) rfl rfl rfl ((h _ (List.elem_iff.1 rfl)).trans rfl) rfl rfl) rfl ?_
  refine d1 [] (fun ve h => OpT.alloc (H rfl) zr78 zk78) rfl ?_
  refine dm (t := 6) [6, 27] (fun ve h => OpT.storeBA rfl rfl (Opd.whole (Root.self (t := 6) (by decide)) ((h _ (List.elem_iff.1 rfl)).trans rfl)) ((h _ (List.elem_iff.1 rfl)).trans rfl) sz78 (by decide) (D1 h rfl)) rfl ?_
  refine d1 [28] (fun ve h => OpT.move (A := .cel _ _) (.inr rfl) rfl (ok' rfl) (D1 h rfl) rfl) rfl ?_
  refine dn ⟨by kernel_rfl, by kernel_rfl, ?_⟩
  refine AX.go ?_
  refine sr ?_
  refine st (mvT rfl) rfl ?_
  refine st (OpT.c1 (ms := [.flat]) (c_laws_toCardS_o x (by omega)) (H rfl) (Af (T1 rfl) rfl rfl <| An) rfl rfl) rfl ?_
  refine sg (OpT.take (.inl rfl) rfl (ok' rfl) (Root.self (by decide)) rfl rfl (by decide)) (ko 8 rfl <| kc2 29 7 rfl <| kb 6 rfl <| kc 28 rfl <| ka 27 rfl <| Kc 21 (.ali _) rfl <| ka 10026 rfl <| kc 20026 rfl <| ka 25 rfl <| ka 24 rfl <| kc4 23 22 4 3 rfl <| kc 0 rfl <| Kn) rfl ?_
  refine ng ?_
  refine sr ?_
  refine st (OpT.alias (H rfl) (by decide) (by decide)) rfl ?_
  refine st (OpT.loadA (H rfl) (T1 rfl) ag72 sz72) rfl ?_
  refine st (OpT.c1 (ms := [.flat]) (c_laws_toQuery _) (H rfl) (Af (T1 rfl) rfl rfl <| An) rfl rfl) rfl ?_
  refine s2 (cb2 (ms := [.bor 8, .flat]) (c_impl_MakeAnswer_o _ _) (H rfl) (Ab (Root.ali rfl (by decide) (by decide)) rfl <| Af (T1 rfl) rfl rfl <| An) rfl (indD (Inn.Ind.pair (Inn.Ind.flat fun _ _ _ _ h => h) (Inn.Ind.pair (Inn.Ind.row fun _ _ _ _ h => h) (Inn.Ind.row fun _ _ _ _ h => h)))) (indC fun _ _ _ _ h => h)) rfl ?_
  refine st (OpT.alias (H rfl) (by decide) (by decide)) rfl ?_
  refine sg (OpT.extractVO (m := 10035) (H rfl) rfl rfl rfl rfl rfl rfl) (Kc 36 (.deep _) rfl <| Kc 31 (.ali _) rfl <| kc 20035 rfl <| ka 34 rfl <| ka 33 rfl <| Kc 32 (.ali _) rfl <| ko 8 rfl <| kc2 29 7 rfl <| kb 6 rfl <| kc 28 rfl <| ka 27 rfl <| Kc 21 (.ali _) rfl <| ka 10026 rfl <| kc 20026 rfl <| ka 25 rfl <| ka 24 rfl <| kc4 23 22 4 3 rfl <| kc 0 rfl <| Kn) rfl ?_
  refine AWl.vw (vundagg 36 9000 rfl rfl (by decide)) fun r1 => ?_
  refine AWl.to (Kc 9000 (.deep _) rfl <| ka 36 rfl <| Kc 31 (.ali _) rfl <| kc 20035 rfl <| ka 34 rfl <| ka 33 rfl <| Kc 32 (.ali _) rfl <| ko 8 rfl <| kc2 29 7 rfl <| kb 6 rfl <| kc 28 rfl <| ka 27 rfl <| Kc 21 (.ali _) rfl <| ka 10026 rfl <| kc 20026 rfl <| ka 25 rfl <| ka 24 rfl <| kc4 23 22 4 3 rfl <| kc 0 rfl <| Kn) ?_
  refine st (OpT.extractV (m := 20035) (H rfl) rfl rfl rfl rfl rfl rfl rfl) rfl ?_
  refine st (OpT.alloc (H rfl) zr78 zkr78) rfl ?_
  refine sk (OpT.storeBA rfl rfl (Opd.whole (Root.self (t := 9) (by decide)) rfl) rfl sz78 (by decide) (T1 rfl)) rfl ?_
  refine st (asT rfl) rfl ?_
  refine AWl.to (kc 10 rfl <| kb 9 rfl <| Kc 9000 (.deep _) rfl <| ko 8 rfl <| kc 7 rfl <| kb 6 rfl <| kc3 4 3 0 rfl <| Kn) ?_
  refine ng ?_
  refine AW.seq ?_
  refine sr ?_
  refine st (OpT.loadB (H rfl) (Root.self (t := 9) (by decide)) rfl ag78 sz78) rfl ?_
  refine AWl.vw (vtie (d := (Inn.pair (Inn.flat kQuery) (Inn.pair (Inn.row 2 (Kd.int .i64)) (Inn.row 138 kWit)))) 38 9000 rfl rfl (by decide)) fun _ => ?_
  refine AWl.to (Kc 38 (.deep _) rfl <| kc 10 rfl <| kb 9 rfl <| ko 8 rfl <| kc 7 rfl <| kb 6 rfl <| kc3 4 3 0 rfl <| Kn) ?_
  refine st (OpT.loadB (H rfl) (Root.self (t := 6) (by decide)) rfl ag78 sz78) rfl ?_
  refine st (cb1 (ms := [.bor 38, .flat]) (c_laws_eqAnswer _ _) (H rfl) (Abd (Root.self (t := 38) (by decide)) rfl (Bor.tie (Inn.Reads.pair (Inn.Reads.flat _) (Inn.Reads.pair (Inn.Reads.row _ _) (Inn.Reads.row _ _)))) <| Af (T1 rfl) rfl rfl <| An) rfl (indC fun _ _ _ _ h => h)) rfl ?_
  refine AWl.vw (vuntie 38 9000 rfl rfl (by decide)) fun _ => ?_
  refine AWl.to (Kc 9000 (.deep _) rfl <| ka 38 rfl <| kc 40 rfl <| ka 39 rfl <| kc 10 rfl <| kb 9 rfl <| ko 8 rfl <| kc 7 rfl <| kb 6 rfl <| kc3 4 3 0 rfl <| Kn) ?_
  refine st (OpT.not (H rfl) (T1 rfl)) rfl ?_
  refine st (mvT rfl) rfl ?_
  apply AWl.or (d := 46) (t := 42) rfl
  ·
   intro hb1 Q1 k1
   refine rs hb1 (mvT rfl) rfl ?_
   refine rs hb1 (mvT rfl) rfl ?_
   refine rs hb1 (OpT.neq (H rfl) (T1 rfl) (T1 rfl)) rfl ?_
   refine st (OpT.pickF (A := .cel _ _) (H rfl) (T1 rfl) hb1 (T1 rfl) rfl) rfl ?_
   exact AWl.to (junk 3 rfl) k1
  ·
   intro hb1 Q1 k1
   refine ps hb1 rfl ?_
   refine ps hb1 rfl ?_
   refine ps hb1 rfl ?_
   refine st (OpT.pickT (A := .cel _ _) (H rfl) (T1 rfl) hb1 Opd.bool rfl) rfl ?_
   exact k1
  refine ng ?_
  refine cd rfl (fun hc2 => ?_) fun hc2 => ?_
  ·
   replace hc2 := oT hc2
   exact (show False from (by first | omega | (simp [eqv_self] at hc2 <;> omega))).elim
  ·
   replace hc2 := oF hc2
   refine AW.skip ?_
   refine AX.go ?_
   refine AW.seq ?_
   refine sr ?_
   refine st (OpT.alias (H rfl) (by decide) (by decide)) rfl ?_
   refine st (mvT rfl) rfl ?_
   refine st (OpT.c1 (ms := [.flat]) (c_laws_toCardS x (by omega)) (H rfl) (Af (T1 rfl) rfl rfl <| An) rfl rfl) rfl ?_
   refine st (cb1 (ms := [.bor 8, .flat]) (c_laws_eqCardS _ _) (H rfl) (Ab (Root.ali rfl (by decide) (by decide)) rfl <| Af (T1 rfl) rfl rfl <| An) rfl (indC fun _ _ _ _ h => h)) rfl ?_
   refine st (OpT.not (H rfl) (T1 rfl)) rfl ?_
   refine ng ?_
   refine cd rfl (fun hc3 => ?_) fun hc3 => ?_
   ·
    replace hc3 := oT hc3
    exact (show False from (by first | omega | (simp [eqv_self] at hc3 <;> omega))).elim
   ·
    replace hc3 := oF hc3
    refine AW.skip ?_
    refine AX.pr (Kc 9000 (.deep _) rfl <| kc 10 rfl <| kb 9 rfl <| ko 8 rfl <| kc 7 rfl <| kb 6 rfl <| kc3 4 3 0 rfl <| Kn) ?_
    refine AX.go ?_
    refine sr ?_
    refine st (asI rfl) rfl ?_
    refine ng ?_
    refine sr ?_
    refine st (OpT.alias (H rfl) (by decide) (by decide)) rfl ?_
    refine st (mvT rfl) rfl ?_
    refine sg (OpT.cr (ms := [.root 8, .flat]) (c_laws_markCardS _ _ (by omega)) (H rfl) (Ar (Root.ali rfl (by decide) (by decide)) rfl rfl rfl <| Af (T1 rfl) rfl rfl <| An) rfl (.inl rfl) rfl) (kc2 54 53 rfl <| Kc 52 (.ali _) rfl <| kc 11 rfl <| Kc 9000 (.deep _) rfl <| kc 10 rfl <| kb 9 rfl <| ko 8 rfl <| kc 7 rfl <| kb 6 rfl <| kc3 4 3 0 rfl <| Kn) rfl ?_
    refine st (asT rfl) rfl ?_
    refine ng ?_
    refine AW.seq ?_
    refine sr ?_
    refine st (mvT rfl) rfl ?_
    refine st (OpT.lss (H rfl) (T1 rfl) (I rfl)) rfl ?_
    refine st (mvT rfl) rfl ?_
    refine AWl.to (kc4 57 56 55 11 rfl <| kc2 54 53 rfl <| Kc 52 (.ali _) rfl <| Kc 9000 (.deep _) rfl <| kc 10 rfl <| kb 9 rfl <| ko 8 rfl <| kc 7 rfl <| kb 6 rfl <| kc3 4 3 0 rfl <| Kn) ?_
    apply AWl.or (d := 62) (t := 57) rfl
    ·
     intro hb2 Q1 k1
     refine rs hb2 (OpT.loadB (H rfl) (Root.self (t := 9) (by decide)) rfl ag78 sz78) rfl ?_
     refine AWl.vw (vtie (d := (Inn.pair (Inn.flat kQuery) (Inn.pair (Inn.row 2 (Kd.int .i64)) (Inn.row 138 kWit)))) 58 9000 rfl rfl (by decide)) fun _ => ?_
     refine AWl.to (Kc 58 (.deep _) rfl <| kc4 57 56 55 11 rfl <| kc2 54 53 rfl <| Kc 52 (.ali _) rfl <| kc 10 rfl <| kb 9 rfl <| ko 8 rfl <| kc 7 rfl <| kb 6 rfl <| kc3 4 3 0 rfl <| Kn) ?_
     refine rs hb2 (OpT.loadB (H rfl) (Root.self (t := 6) (by decide)) rfl ag78 sz78) rfl ?_
     refine rs hb2 (cb1 (ms := [.bor 58, .flat]) (c_laws_eqAnswer _ _) (H rfl) (Abd (Root.self (t := 58) (by decide)) rfl (Bor.tie (Inn.Reads.pair (Inn.Reads.flat _) (Inn.Reads.pair (Inn.Reads.row _ _) (Inn.Reads.row _ _)))) <| Af (T1 rfl) rfl rfl <| An) rfl (indC fun _ _ _ _ h => h)) rfl ?_
     refine AWl.vw (vuntie 58 9000 rfl rfl (by decide)) fun _ => ?_
     refine AWl.to (Kc 9000 (.deep _) rfl <| ka 58 rfl <| kc 60 rfl <| ka 59 rfl <| kc4 57 56 55 11 rfl <| kc2 54 53 rfl <| Kc 52 (.ali _) rfl <| kc 10 rfl <| kb 9 rfl <| ko 8 rfl <| kc 7 rfl <| kb 6 rfl <| kc3 4 3 0 rfl <| Kn) ?_
     refine rs hb2 (OpT.not (H rfl) (T1 rfl)) rfl ?_
     refine st (OpT.pickF (A := .cel _ _) (H rfl) (T1 rfl) hb2 (T1 rfl) rfl) rfl ?_
     exact AWl.to (kc4 62 57 56 55 rfl <| kc3 11 54 53 rfl <| Kc 52 (.ali _) rfl <| Kc 9000 (.deep _) rfl <| kc 10 rfl <| kb 9 rfl <| ko 8 rfl <| kc 7 rfl <| kb 6 rfl <| kc3 4 3 0 rfl <| Kn) k1
    ·
     intro hb2 Q1 k1
     refine ps hb2 rfl ?_
     refine ps hb2 rfl ?_
     refine ps hb2 rfl ?_
     refine ps hb2 rfl ?_
     refine st (OpT.pickT (A := .cel _ _) (H rfl) (T1 rfl) hb2 Opd.bool rfl) rfl ?_
     exact k1
    refine st (mvT rfl) rfl ?_
    apply AWl.or (d := 67) (t := 63) rfl
    ·
     intro hb3 Q1 k1
     refine rs hb3 (mvT rfl) rfl ?_
     refine rs hb3 (mvT rfl) rfl ?_
     refine rs hb3 (OpT.neq (H rfl) (T1 rfl) (T1 rfl)) rfl ?_
     refine st (OpT.pickF (A := .cel _ _) (H rfl) (T1 rfl) hb3 (T1 rfl) rfl) rfl ?_
     exact AWl.to (junk 3 rfl) k1
    ·
     intro hb3 Q1 k1
     refine ps hb3 rfl ?_
     refine ps hb3 rfl ?_
     refine ps hb3 rfl ?_
     refine st (OpT.pickT (A := .cel _ _) (H rfl) (T1 rfl) hb3 Opd.bool rfl) rfl ?_
     exact k1
    refine AWl.to (kc 67 rfl <| Kc 9000 (.deep _) rfl <| kb 9 rfl <| kc 7 rfl <| kb 6 rfl <| kc3 4 3 0 rfl <| Kn) ?_
    refine ng ?_
    refine cd rfl (fun hc4 => ?_) fun hc4 => ?_
    ·
     replace hc4 := oT hc4
     exact (show False from (by first | omega | (simp [eqv_self] at hc4 <;> omega))).elim
    ·
     replace hc4 := oF hc4
     refine AW.skip ?_
     refine AX.go ?_
     refine sr ?_
     refine st (asI rfl) rfl ?_
     refine ng ?_
     refine sr ?_
     refine st (OpT.loadB (H rfl) (Root.self (t := 9) (by decide)) rfl ag78 sz78) rfl ?_
     refine AWl.vw (vtie (d := (Inn.pair (Inn.flat kQuery) (Inn.pair (Inn.row 2 (Kd.int .i64)) (Inn.row 138 kWit)))) 68 9000 rfl rfl (by decide)) fun _ => ?_
     refine AWl.to (Kc 68 (.deep _) rfl <| kc2 12 67 rfl <| kb 9 rfl <| kc 7 rfl <| kb 6 rfl <| kc3 4 3 0 rfl <| Kn) ?_
     refine st (mvT rfl) rfl ?_
     refine sg (OpT.cr (ms := [.root 68, .flat]) (AC.tie (Det.pair (Det.pair (Det.pair Det.u64 Det.u64) (Det.pair Det.u64 Det.u64)) (Det.pair Det.raw Det.raw)) (c_laws_markAnswer _ _ (by omega)) _) (H rfl) (Ar (Root.self (t := 68) (by decide)) rfl rfl rfl <| Af (T1 rfl) rfl rfl <| An) rfl (.inl rfl) rfl) (kc2 70 69 rfl <| Kc 68 (.deep _) rfl <| kc2 12 67 rfl <| kb 9 rfl <| kc 7 rfl <| kb 6 rfl <| kc3 4 3 0 rfl <| Kn) rfl ?_
     refine AWl.vw (vuntie 68 9000 rfl rfl (by decide)) fun _ => ?_
     refine AWl.to (Kc 9000 (.deep _) rfl <| ka 68 rfl <| kc4 70 69 12 67 rfl <| kb 9 rfl <| kc 7 rfl <| kb 6 rfl <| kc3 4 3 0 rfl <| Kn) ?_
     refine st (asT rfl) rfl ?_
     refine ng ?_
     refine sr ?_
     refine st (asI rfl) rfl ?_
     refine ng ?_
     refine sr ?_
     refine st (OpT.loadB (H rfl) (Root.self (t := 9) (by decide)) rfl ag78 sz78) rfl ?_
     refine AWl.vw (vtie (d := (Inn.pair (Inn.flat kQuery) (Inn.pair (Inn.row 2 (Kd.int .i64)) (Inn.row 138 kWit)))) 71 9000 rfl rfl (by decide)) fun _ => ?_
     refine AWl.to (Kc 71 (.deep _) rfl <| kc2 13 12 rfl <| ka 68 rfl <| kc3 70 69 67 rfl <| kb 9 rfl <| kc 7 rfl <| kb 6 rfl <| kc3 4 3 0 rfl <| Kn) ?_
     refine st (mvT rfl) rfl ?_
     refine st (cb1 (ms := [.bor 71, .flat]) (c_laws_heldAnswer (mkA x q).1.1 (mkA x q).1.2.1.length (mkA x q).1.2.2.length _ (by omega)) (H rfl) (Abd (Root.self (t := 71) (by decide)) rfl (Bor.tie (Inn.Reads.pair (Inn.Reads.flat _) (Inn.Reads.pair (Inn.Reads.row _ _) (Inn.Reads.row _ _)))) <| Af (T1 rfl) rfl rfl <| An) rfl (indC fun _ _ _ _ h => h)) rfl ?_
     refine AWl.vw (vuntie 71 9000 rfl rfl (by decide)) fun _ => ?_
     refine AWl.to (Kc 9000 (.deep _) rfl <| ka 71 rfl <| kc4 73 72 13 12 rfl <| ka 68 rfl <| kc3 70 69 67 rfl <| kb 9 rfl <| kc 7 rfl <| kb 6 rfl <| kc3 4 3 0 rfl <| Kn) ?_
     refine st (asT rfl) rfl ?_
     refine ng ?_
     refine AW.seq ?_
     refine sr ?_
     refine st (mvT rfl) rfl ?_
     refine st (OpT.lss (H rfl) (T1 rfl) (I rfl)) rfl ?_
     refine ng ?_
     refine cd rfl (fun hc5 => ?_) fun hc5 => ?_
     ·
      replace hc5 := oT hc5
      exact (show False from (by first | omega | (simp [eqv_self] at hc5 <;> omega))).elim
     ·
      replace hc5 := oF hc5
      refine AW.skip ?_
      refine AX.go ?_
      refine AW.seq ?_
      refine sr ?_
      refine st (mvT rfl) rfl ?_
      refine st (mvT rfl) rfl ?_
      refine st (OpT.neq (H rfl) (T1 rfl) (T1 rfl)) rfl ?_
      refine AWl.to (kc2 78 13 rfl <| Kc 9000 (.deep _) rfl <| kc 12 rfl <| kb 9 rfl <| kc 7 rfl <| kb 6 rfl <| kc3 4 3 0 rfl <| Kn) ?_
      refine ng ?_
      refine cd rfl (fun hc6 => ?_) fun hc6 => ?_
      ·
       replace hc6 := oT hc6
       exact (show False from (by first | omega | (simp [eqv_self] at hc6 <;> omega))).elim
      ·
       replace hc6 := oF hc6
       refine AW.skip ?_
       refine AX.pr (kc 13 rfl <| Kc 9000 (.deep _) rfl <| kc 12 rfl <| kb 9 rfl <| kc 7 rfl <| kb 6 rfl <| kc3 4 3 0 rfl <| Kn) ?_
       refine AX.go ?_
       refine AW.seq ?_
       refine dh fomo ?_
       refine d1 [0] (fun ve h => OpT.move (A := .cel _ _) (.inl rfl) rfl (ok' rfl) (D1 h rfl) rfl) rfl ?_
       refine d1 [80] (fun ve h => OpT.c1 (ms := [.flat]) (c_laws_toCardS x (by omega)) (H rfl) (Af (D1 h rfl) rfl rfl <| An) rfl rfl) rfl ?_
       refine d1 [3] (fun ve h => OpT.loadA (H rfl) (D1 h rfl) ag72 sz72) rfl ?_
       refine d1 [82] (fun ve h => OpT.c1 (ms := [.flat]) (c_laws_toQuery _) (H rfl) (Af (D1 h rfl) rfl rfl <| An) rfl rfl) rfl ?_
       refine d2 [81, 83] (fun ve h => OpT.c2 (ms := [.flat, .flat]) (c_impl_MakeAnswer _ _) (H rfl) (Af (D1 h rfl) rfl rfl <| Af (D1 h rfl) rfl rfl <| An) rfl rfl rfl) rfl ?_
       refine d1 [] (fun ve h => OpT.alias (H rfl) (by decide) (by decide)) rfl ?_
       refine d1 [79, 10084] (fun ve h => OpT.extractV (m := 10084) (H rfl) ((h _ (List.elem_iff.1 rfl)).trans rfl) rfl rfl rfl ((h _ (List.elem_iff.1 rfl)).trans rfl) rfl rfl) rfl ?_
       refine d1 [79, 20084] (fun ve h => OpT.extractV (m := 20084) (H rfl) ((h _ (List.elem_iff.1 rfl)).trans rfl) rfl rfl rfl ((h _ (List.elem_iff.1 rfl)).trans rfl) rfl rfl) rfl ?_
       refine d1 [] (fun ve h => OpT.alloc (H rfl) zr78 zk78) rfl ?_
       refine dm (t := 14) [14, 85] (fun ve h => OpT.storeBA rfl rfl (Opd.whole (Root.self (t := 14) (by decide)) ((h _ (List.elem_iff.1 rfl)).trans rfl)) ((h _ (List.elem_iff.1 rfl)).trans rfl) sz78 (by decide) (D1 h rfl)) rfl ?_
       refine d1 [86] (fun ve h => OpT.move (A := .cel _ _) (.inr rfl) rfl (ok' rfl) (D1 h rfl) rfl) rfl ?_
       refine dn ⟨by kernel_rfl, by kernel_rfl, ?_⟩
       refine AX.pr (kc 15 rfl <| kb 14 rfl <| kc 13 rfl <| Kc 9000 (.deep _) rfl <| kc 12 rfl <| kb 9 rfl <| kc 7 rfl <| kb 6 rfl <| kc 4 rfl <| Kn) ?_
       refine AX.go ?_
       refine AW.seq ?_
       refine sr ?_
       refine st (OpT.loadB (H rfl) (Root.self (t := 14) (by decide)) rfl ag78 sz78) rfl ?_
       refine st (OpT.loadB (H rfl) (Root.self (t := 6) (by decide)) rfl ag78 sz78) rfl ?_
       refine st (OpT.c1 (ms := [.flat, .flat]) (c_laws_eqAnswer _ _) (H rfl) (Af (T1 rfl) rfl rfl <| Af (T1 rfl) rfl rfl <| An) rfl rfl) rfl ?_
       refine st (OpT.not (H rfl) (T1 rfl)) rfl ?_
       refine st (mvT rfl) rfl ?_
       apply AWl.or (d := 95) (t := 91) rfl
       ·
        intro hb4 Q1 k1
        refine rs hb4 (mvT rfl) rfl ?_
        refine rs hb4 (mvT rfl) rfl ?_
        refine rs hb4 (OpT.neq (H rfl) (T1 rfl) (T1 rfl)) rfl ?_
        refine st (OpT.pickF (A := .cel _ _) (H rfl) (T1 rfl) hb4 (T1 rfl) rfl) rfl ?_
        exact AWl.to (junk 3 rfl) k1
       ·
        intro hb4 Q1 k1
        refine ps hb4 rfl ?_
        refine ps hb4 rfl ?_
        refine ps hb4 rfl ?_
        refine st (OpT.pickT (A := .cel _ _) (H rfl) (T1 rfl) hb4 Opd.bool rfl) rfl ?_
        exact k1
       refine ng ?_
       refine cd rfl (fun hc7 => ?_) fun hc7 => ?_
       ·
        replace hc7 := oT hc7
        exact (show False from (by first | omega | (simp [eqv_self] at hc7 <;> omega))).elim
       ·
        replace hc7 := oF hc7
        refine AW.skip ?_
        refine AX.go ?_
        refine sr ?_
        refine st (asI rfl) rfl ?_
        refine AWl.to (kc 13 rfl <| Kc 9000 (.deep _) rfl <| kc 12 rfl <| kb 9 rfl <| kc 4 rfl <| Kn) ?_
        refine ng ?_
        refine sr ?_
        refine st (OpT.loadB (H rfl) (Root.self (t := 9) (by decide)) rfl ag78 sz78) rfl ?_
        refine AWl.vw (vtie (d := (Inn.pair (Inn.flat kQuery) (Inn.pair (Inn.row 2 (Kd.int .i64)) (Inn.row 138 kWit)))) 96 9000 rfl rfl (by decide)) fun _ => ?_
        refine AWl.to (Kc 96 (.deep _) rfl <| kc2 13 12 rfl <| kb 9 rfl <| kc 4 rfl <| Kn) ?_
        refine st (mvT rfl) rfl ?_
        refine st (cb1 (ms := [.bor 96, .flat]) (c_laws_heldAnswer (mkA x q).1.1 (mkA x q).1.2.1.length (mkA x q).1.2.2.length _ (by omega)) (H rfl) (Abd (Root.self (t := 96) (by decide)) rfl (Bor.tie (Inn.Reads.pair (Inn.Reads.flat _) (Inn.Reads.pair (Inn.Reads.row _ _) (Inn.Reads.row _ _)))) <| Af (T1 rfl) rfl rfl <| An) rfl (indC fun _ _ _ _ h => h)) rfl ?_
        refine AWl.vw (vuntie 96 9000 rfl rfl (by decide)) fun _ => ?_
        refine AWl.to (Kc 9000 (.deep _) rfl <| ka 96 rfl <| kc4 98 97 13 12 rfl <| kb 9 rfl <| kc 4 rfl <| Kn) ?_
        refine st (asT rfl) rfl ?_
        refine ng ?_
        refine AW.seq ?_
        refine sr ?_
        refine st (mvT rfl) rfl ?_
        refine st (OpT.lss (H rfl) (T1 rfl) (I rfl)) rfl ?_
        refine ng ?_
        refine cd rfl (fun hc8 => ?_) fun hc8 => ?_
        ·
         replace hc8 := oT hc8
         exact (show False from (by first | omega | (simp [eqv_self] at hc8 <;> omega))).elim
        ·
         replace hc8 := oF hc8
         refine AW.skip ?_
         refine AX.go ?_
         refine AW.seq ?_
         refine sr ?_
         refine st (mvT rfl) rfl ?_
         refine st (mvT rfl) rfl ?_
         refine st (OpT.neq (H rfl) (T1 rfl) (T1 rfl)) rfl ?_
         refine AWl.to (kc 103 rfl <| Kc 9000 (.deep _) rfl <| kc 4 rfl <| Kn) ?_
         refine ng ?_
         refine cd rfl (fun hc9 => ?_) fun hc9 => ?_
         ·
          replace hc9 := oT hc9
          exact (show False from (by first | omega | (simp [eqv_self] at hc9 <;> omega))).elim
         ·
          replace hc9 := oF hc9
          refine AW.skip ?_
          refine AX.go ?_
          refine sr ?_
          refine st (asB rfl) rfl ?_
          refine ng ?_
          refine AW.ret ?_
          exact rt1 rfl (.inl rfl) rfl
end Go.Proofs.YtfnkphllkbkfaaaDoor.VL
