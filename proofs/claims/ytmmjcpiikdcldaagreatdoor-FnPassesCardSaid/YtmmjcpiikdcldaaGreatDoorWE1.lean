/- Proved here: what some functions of the program take and give: walks with the words of VA..VQ. Printed by program. -/
import Derived.Test.YtmmjcpiikdcldaaGreatDoorWT
import Derived.Test.YtmmjcpiikdcldaaGreatDoorBpa
import Derived.Test.YtmmjcpiikdcldaaGreatDoorWM
import Derived.Test.YtmmjcpiikdcldaaGreatDoorWZ
import Derived.Test.YtmmjcpiikdcldaaGreatDoorWY
set_option linter.unusedVariables false
set_option linter.unusedSimpArgs false
set_option maxRecDepth 4000
namespace Go.Proofs.YtmmjcpiikdcldaaGreatDoor.VL
open Go
/-- strconv.small -/
theorem c_internal_strconv_small (n : Nat) (h : n < 100) : AC Tryz.prog 144 [.cel (Kd.int .i64) (n : Int)] [.cel Kd.str (decB n)] [] := by
 refine acI (N := 15) Tryz.func144 (Nat.le_of_ble_eq_true rfl) rfl fun w0 hd s0 ar => ?_
 refine AW.to (kc 0 rfl <| Kn) ?_
 refine sr ?_
 refine st (OpT.move (A := .cel _ _) (.inr rfl) rfl (ok' rfl) (Opd.str (by decide)) rfl) rfl ?_
 refine ng ?_
 refine AW.seq ?_
 refine sr ?_
 refine st (mvT rfl) rfl ?_
 refine st (OpT.lss (H rfl) (T1 rfl) (I rfl)) rfl ?_
 refine ng ?_
 refine cd rfl (fun hc1 => ?_) fun hc1 => ?_
 ·
  obtain ⟨hc1, hc1'⟩ := pT hc1
  refine sr ?_
  refine st (mvT rfl) rfl ?_
  refine st (mvT rfl) rfl ?_
  refine st (OpT.add (H rfl) (T1 rfl) (I rfl) (nw (by omega))) rfl ?_
  refine st (OpT.cutSLH (H rfl) (Opd.str (by decide)) (T1 rfl) (T1 rfl) Tryz.underlying9 (by refine ⟨by omega, by omega, ?_⟩; simp only [bsz, List.size_toArray, List.length_cons, List.length_nil]; omega)) rfl ?_
  refine st (asT rfl) rfl ?_
  refine ng ?_
  refine AW.ret ?_
  refine rT ?_
  exact rt1 rfl (.inl rfl) (by first | (have h9 : ¬ n < 10 := (by omega); exact small_2 h9 (by omega)) | exact small_1 (by omega))
 ·
  obtain ⟨hc1, hc1'⟩ := pF hc1
  refine AW.skip ?_
  refine AX.go ?_
  refine sr ?_
  refine st (mvT rfl) rfl ?_
  refine st (OpT.mul (H rfl) (T1 rfl) (I rfl) (nw (by omega))) rfl ?_
  refine st (mvT rfl) rfl ?_
  refine st (OpT.mul (H rfl) (T1 rfl) (I rfl) (nw (by omega))) rfl ?_
  refine st (OpT.add (H rfl) (T1 rfl) (I rfl) (nw (by omega))) rfl ?_
  refine st (OpT.cutSLH (H rfl) (Opd.str (by decide)) (T1 rfl) (T1 rfl) Tryz.underlying9 (by refine ⟨by omega, by omega, Int.le_trans ?_ (Int.ofNat_le.2 (Nat.le_of_eq sml_size.symm))⟩; omega)) rfl ?_
  refine st (asT rfl) rfl ?_
  refine ng ?_
  refine AW.ret ?_
  exact rt1 rfl (.inl rfl) (by first | (have h9 : ¬ n < 10 := (by omega); exact small_2 h9 (by omega)) | exact small_1 (by omega))

/-- strconv.FormatInt -/
theorem c_internal_strconv_FormatInt (n : Nat) (h : n < 100) : AC Tryz.prog 129 [.cel (Kd.int .i64) (n : Int), .cel (Kd.int .i64) (10 : Int)] [.cel Kd.str (decB n)] [] := by
 refine acI (N := 54) Tryz.func129 (Nat.le_of_ble_eq_true rfl) rfl fun w0 hd s0 ar => ?_
 refine AW.to (kc2 0 1 rfl <| Kn) ?_
 refine sr ?_
 refine st (OpT.move (A := .cel _ _) (.inr rfl) rfl (ok' rfl) (Opd.str (by decide)) rfl) rfl ?_
 refine ng ?_
 refine AW.seq ?_
 refine sr ?_
 refine st (mvT rfl) rfl ?_
 refine st (OpT.eql (H rfl) (T1 rfl) (I rfl)) rfl ?_
 refine ng ?_
 refine cd rfl (fun hc1 => ?_) fun hc1 => ?_
 ·
  obtain ⟨hc1, hc1'⟩ := pT hc1
  refine AW.seq ?_
  refine sr ?_
  refine st (mvT rfl) rfl ?_
  refine st (OpT.leq (H rfl) (I rfl) (T1 rfl)) rfl ?_
  refine st (mvT rfl) rfl ?_
  apply AWl.and (d := 17) (t := 14) rfl
  ·
   intro hb1 Q1 k1
   have hb1' := lT hb1
   refine rs hb1 (mvT rfl) rfl ?_
   refine rs hb1 (OpT.lss (H rfl) (T1 rfl) (I rfl)) rfl ?_
   refine st (OpT.pickT (A := .cel _ _) (H rfl) (T1 rfl) hb1 (T1 rfl) rfl) rfl ?_
   exact AWl.to (junk 2 rfl) k1
  ·
   intro hb1 Q1 k1
   refine ps hb1 rfl ?_
   refine ps hb1 rfl ?_
   refine st (OpT.pickF (A := .cel _ _) (H rfl) (T1 rfl) hb1 Opd.bool rfl) rfl ?_
   exact k1
  refine ng ?_
  refine cd rfl (fun hc2 => ?_) fun hc2 => ?_
  ·
   obtain ⟨hc2, hc2'⟩ := pT hc2
   refine sr ?_
   refine st (mvT rfl) rfl ?_
   refine st (OpT.c1 (ms := [.flat]) (c_internal_strconv_small n (by omega)) (H rfl) (Af (T1 rfl) rfl rfl <| An) rfl rfl) rfl ?_
   refine st (asT rfl) rfl ?_
   refine ng ?_
   refine AW.ret ?_
   refine rT <| rT ?_
   exact rt1 rfl (.inl rfl) rfl
  ·
   obtain ⟨hc2, hc2'⟩ := pF hc2
   exact (show False from (by omega)).elim
 ·
  obtain ⟨hc1, hc1'⟩ := pF hc1
  exact (show False from (hc1' rfl)).elim

/-- strconv.FormatInt -/
theorem c_strconv_FormatInt (n : Nat) (h : n < 100) : AC Tryz.prog 98 [.cel (Kd.int .i64) (n : Int), .cel (Kd.int .i64) (10 : Int)] [.cel Kd.str (decB n)] [] := by
 refine acI (N := 8) Tryz.func98 (Nat.le_of_ble_eq_true rfl) rfl fun w0 hd s0 ar => ?_
 refine AW.to (kc2 0 1 rfl <| Kn) ?_
 refine sr ?_
 refine st (OpT.move (A := .cel _ _) (.inr rfl) rfl (ok' rfl) (Opd.str (by decide)) rfl) rfl ?_
 refine ng ?_
 refine sr ?_
 refine st (mvT rfl) rfl ?_
 refine st (mvT rfl) rfl ?_
 refine st (OpT.c1 (ms := [.flat, .flat]) (c_internal_strconv_FormatInt n (by omega)) (H rfl) (Af (T1 rfl) rfl rfl <| Af (T1 rfl) rfl rfl <| An) rfl rfl) rfl ?_
 refine st (asT rfl) rfl ?_
 refine ng ?_
 refine AW.ret ?_
 exact rt1 rfl (.inl rfl) rfl

/-- impl.cardText -/
theorem c_impl_cardText (x : DCard) (h : x.1.size ≤ 16) : AC Tryz.prog 57 [.agg kCard x] [.cel Kd.str (cdT x)] [] := by
 refine acI (N := 23) Tryz.func57 (Nat.le_of_ble_eq_true rfl) rfl fun w0 hd s0 ar => ?_
 refine AW.to (ka 0 rfl <| Kn) ?_
 refine sr ?_
 refine st (OpT.frz (OpT.boxA (E := 40) (H rfl) (T1 rfl))) rfl ?_
 refine st (OpT.move (A := .cel _ _) (.inr rfl) rfl (ok' rfl) (Opd.str (by decide)) rfl) rfl ?_
 refine ng ?_
 refine sr ?_
 refine st (OpT.fieldAddr (H rfl) (T1 rfl) fd40_0 sz9 (by decide) sb40_0) rfl ?_
 refine st (OpT.load (H rfl) (T1 rfl) ag9 rfl) rfl ?_
 refine st (asT rfl) rfl ?_
 refine ng ?_
 refine AW.seq ?_
 refine sr ?_
 refine st (OpT.fieldAddr (H rfl) (T1 rfl) fd40_1 sz38 (by decide) sb40_1) rfl ?_
 refine st (OpT.loadA (H rfl) (T1 rfl) ag38 sz38) rfl ?_
 refine st (OpT.c1 (ms := [.flat]) (c_impl_Mask_holes _) (H rfl) (Af (T1 rfl) rfl rfl <| An) rfl rfl) rfl ?_
 refine st (OpT.len (H rfl) (T1 rfl) el43) rfl ?_
 refine st (mvI rfl) rfl ?_
 refine ng ?_
 refine AW.block ?_
 refine AW.loop (fun z : Nat => z ≤ (hol x.2 96).length) (fun z : Nat => keep [(3, .cel Kd.str (((hol x.2 96).take z).foldl cdF x.1)), (10, .cel (Kd.slice (Kd.int .i64)) (hol x.2 96)), (11, .cel (Kd.int .i64) ((hol x.2 96).length : Int)), (12, .cel (Kd.int .i64) (z : Int))]) (fun z : Nat => (hol x.2 96).length - z) (0) (Nat.zero_le _) (Kc 3 _ (Kv rfl rfl) <| Kc 10 _ (Kv rfl rfl) <| Kc 11 _ (Kv rfl rfl) <| Kc 12 _ (Kv rfl rfl) <| Kn) ?_
 intro z hI
 have hts := cdF_at x.2 x.1 z
 have hq := hol_len x.2 96
 refine sr ?_
 refine st (OpT.lss (H rfl) (T1 rfl) (T1 rfl)) rfl ?_
 refine ng ?_
 refine AW.seq ?_
 refine cd rfl (fun hc1 => ?_) fun hc1 => ?_
 ·
  obtain ⟨hc1, hc1'⟩ := pT hc1
  obtain ⟨v, hv⟩ := getI (x := hol x.2 96) (z := z) (by omega)
  have hvr := hol_mem (mem_getI hv)
  obtain ⟨n, rfl⟩ := Int.eq_ofNat_of_zero_le hvr.1
  have hds := decB_size (n := n) (by omega)
  refine AW.skip ?_
  refine AX.go ?_
  refine AW.seq ?_
  refine AW.block ?_
  refine sr ?_
  refine st (OpT.indexAddr (H rfl) (T1 rfl) (T1 rfl) el43 sz2 (by omega) (by assumption)) rfl ?_
  refine st (OpT.load (H rfl) (T1 rfl) ag2 rfl) rfl ?_
  refine st (asT rfl) rfl ?_
  refine ng ?_
  refine AW.region ?_
  refine st (mvT rfl) rfl ?_
  refine st (mvT rfl) rfl ?_
  refine st (OpT.c1 (ms := [.flat, .flat]) (c_strconv_FormatInt n (by omega)) (H rfl) (Af (T1 rfl) rfl rfl <| Af (I rfl) rfl rfl <| An) rfl rfl) rfl ?_
  refine st (OpT.sadd (H rfl) (Opd.str (by decide)) (T1 rfl) (by simp only [ByteArray.size_append, bsz, bOf_size, List.size_toArray, List.length_cons, List.length_nil, List.length_set, List.length_replicate]; omega)) rfl ?_
  refine st (OpT.sadd (H rfl) (T1 rfl) (T1 rfl) (by simp only [ByteArray.size_append, bsz, bOf_size, List.size_toArray, List.length_cons, List.length_nil, List.length_set, List.length_replicate]; omega)) rfl ?_
  refine st (asT rfl) rfl ?_
  refine nn ?_
  refine AX.normal_block ?_
  refine AX.go ?_
  refine AW.region ?_
  refine st (OpT.add (H rfl) (T1 rfl) (I rfl) (nw (by omega))) rfl ?_
  refine st (mvT rfl) rfl ?_
  refine nn ?_
  exact AX.again (z + 1) (by omega) (by omega) (Kc 3 _ (Kv rfl (by rw [← foldl_more (f := cdF) hv, cdF]; rfl)) <| Kc 10 _ (Kv rfl rfl) <| Kc 11 _ (Kv rfl rfl) <| Kc 12 _ (Kv rfl (by omega)) <| Kn)
 ·
  obtain ⟨hc1, hc1'⟩ := pF hc1
  refine AW.exit ?_
  refine xT <| xT <| AX.exit_hit ?_
  refine AX.go ?_
  refine sr ?_
  refine st (mvT rfl) rfl ?_
  refine st (asT rfl) rfl ?_
  refine ng ?_
  refine AW.ret ?_
  exact rt1 rfl (.inl rfl) (by rw [cdT, List.take_of_length_le (by omega)])

end Go.Proofs.YtmmjcpiikdcldaaGreatDoor.VL
