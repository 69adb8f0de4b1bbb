/- Proved here: what some functions of the program take and give: walks with the words of VA..VQ. Printed by program. -/
import Derived.Test.YtmmjcpiikdcldaaGreatDoorWT
import Derived.Test.YtmmjcpiikdcldaaGreatDoorBpa
import Derived.Test.YtmmjcpiikdcldaaGreatDoorWM
import Derived.Test.YtmmjcpiikdcldaaGreatDoorWZ
import Derived.Test.YtmmjcpiikdcldaaGreatDoorWY
set_option linter.unusedVariables false
set_option linter.unusedSimpArgs false
set_option maxRecDepth 4000
namespace Go.Proofs.YtmmjcpiikdcldaaGreatDoor.VL
open Go
/-- spec.Decimal -/
theorem c_spec_Decimal (n : Nat) : AC Tryz.prog 156 [.cel (Kd.int .i64) (n : Int)] [.cel Kd.str (decB n)] [] := by
 induction n using Nat.strongRecOn with
 | _ n ih =>
 refine acI (N := 21) Tryz.func156 (Nat.le_of_ble_eq_true rfl) rfl fun w0 hd s0 ar => ?_
 refine AW.to (kc 0 rfl <| Kn) ?_
 have htm := tmod10 n
 refine AW.fact (fun a w hr => ok_i64 (R_ok (t := 0) rfl hr)) (fun hn => ?_)
 have hdl := decB_le (n / 10)
 have htd := tdiv10 n
 refine sr ?_
 refine st (OpT.move (A := .cel _ _) (.inr rfl) rfl (ok' rfl) (Opd.str (by decide)) rfl) rfl ?_
 refine ng ?_
 refine AW.seq ?_
 refine sr ?_
 refine st (mvT rfl) rfl ?_
 refine st (OpT.lss (H rfl) (T1 rfl) (I rfl)) rfl ?_
 refine ng ?_
 refine cd rfl (fun hc1 => ?_) fun hc1 => ?_
 ·
  obtain ⟨hc1, hc1'⟩ := pT hc1
  refine sr ?_
  refine st (mvT rfl) rfl ?_
  refine st (OpT.rem (H rfl) (T1 rfl) (I rfl) (by omega)) rfl ?_
  refine st (OpT.add (H rfl) (I rfl) (T1 rfl) (nw (by omega))) rfl ?_
  refine st (OpT.conv (H rfl) us2 Tryz.underlying5 (T1 rfl) (wrap_id (by first | (simp only [inR, IntKind.min, IntKind.max, IntKind.signed, IntKind.bits]; omega)))) rfl ?_
  refine st (OpT.buildSlice (H rfl) el22 zr5 sz5 rfl (by decide) zk5 (by decide) (Built.cel (T1 rfl) rfl rfl (sub_arr (by decide) (0 : Int)) (Built.nil _))) rfl ?_
  refine st (OpT.convBS (H rfl) el22 Tryz.underlying5 Tryz.underlying9 (Src.own (Root.self (t := 9) (by decide)) rfl) (by simp)) rfl ?_
  refine st (asT rfl) rfl ?_
  refine ng ?_
  refine AW.ret ?_
  refine rT ?_
  exact rt1 rfl (.inl rfl) (by first | exact decB_lt (by omega) | exact decB_ge (by omega))
 ·
  obtain ⟨hc1, hc1'⟩ := pF hc1
  refine AW.skip ?_
  refine AX.pr (kc2 2 0 rfl <| Kn) ?_
  refine AX.go ?_
  refine AW.seq ?_
  refine dh fomo ?_
  refine d1 [0] (fun ve h => OpT.move (A := .cel _ _) (.inl rfl) rfl (ok' rfl) (D1 h rfl) rfl) rfl ?_
  refine d1 [11] (fun ve h => OpT.quo (H rfl) (D1 h rfl) (I rfl) (by omega) (nw (by omega))) rfl ?_
  refine d1 [12] (fun ve h => OpT.c1 (ms := [.flat]) (by rw [tdiv10]; exact ih (n / 10) (by omega)) (H rfl) (Af (D1 h rfl) rfl rfl <| An) rfl rfl) rfl ?_
  refine d1 [0] (fun ve h => OpT.move (A := .cel _ _) (.inl rfl) rfl (ok' rfl) (D1 h rfl) rfl) rfl ?_
  refine d1 [14] (fun ve h => OpT.rem (H rfl) (D1 h rfl) (I rfl) (by omega)) rfl ?_
  refine d1 [15] (fun ve h => OpT.add (H rfl) (I rfl) (D1 h rfl) (nw (by omega))) rfl ?_
  refine d1 [16] (fun ve h => OpT.conv (H rfl) us2 Tryz.underlying5 (D1 h rfl) (wrap_id (by first | (simp only [inR, IntKind.min, IntKind.max, IntKind.signed, IntKind.bits]; omega)))) rfl ?_
  refine d1 [17] (fun ve h => OpT.buildSlice (H rfl) el22 zr5 sz5 rfl (by decide) zk5 (by decide) (Built.cel (D1 h rfl) rfl rfl (sub_arr (by decide) (0 : Int)) (Built.nil _))) rfl ?_
  refine d1 [18] (fun ve h => OpT.convBS (H rfl) el22 Tryz.underlying5 Tryz.underlying9 (Src.own (Root.self (t := 18) (by decide)) ((h _ (List.elem_iff.1 rfl)).trans rfl)) (by simp)) rfl ?_
  refine d1 [13, 19] (fun ve h => OpT.sadd (H rfl) (D1 h rfl) (D1 h rfl) (by simp only [ByteArray.size_append, bsz, bOf_size, List.size_toArray, List.length_cons, List.length_nil, List.length_set, List.length_replicate]; omega)) rfl ?_
  refine d1 [20] (fun ve h => OpT.move (A := .cel _ _) (.inr rfl) rfl (ok' rfl) (D1 h rfl) rfl) rfl ?_
  refine dn ⟨by kernel_rfl, by kernel_rfl, ?_⟩
  refine AX.pr (kc 2 rfl <| Kn) ?_
  refine AX.go ?_
  refine AW.ret ?_
  exact rt1 rfl (.inl rfl) (by first | exact decB_lt (by omega) | exact decB_ge (by omega))

/-- strconv.small -/
theorem c_internal_strconv_small (n : Nat) (h : n < 100) : AC Tryz.prog 144 [.cel (Kd.int .i64) (n : Int)] [.cel Kd.str (decB n)] [] := by
 refine acI (N := 15) Tryz.func144 (Nat.le_of_ble_eq_true rfl) rfl fun w0 hd s0 ar => ?_
 refine AW.to (kc 0 rfl <| Kn) ?_
 refine sr ?_
 refine st (OpT.move (A := .cel _ _) (.inr rfl) rfl (ok' rfl) (Opd.str (by decide)) rfl) rfl ?_
 refine ng ?_
 refine AW.seq ?_
 refine sr ?_
 refine st (mvT rfl) rfl ?_
 refine st (OpT.lss (H rfl) (T1 rfl) (I rfl)) rfl ?_
 refine ng ?_
 refine cd rfl (fun hc1 => ?_) fun hc1 => ?_
 ·
  obtain ⟨hc1, hc1'⟩ := pT hc1
  refine sr ?_
  refine st (mvT rfl) rfl ?_
  refine st (mvT rfl) rfl ?_
  refine st (OpT.add (H rfl) (T1 rfl) (I rfl) (nw (by omega))) rfl ?_
  refine st (OpT.cutSLH (H rfl) (Opd.str (by decide)) (T1 rfl) (T1 rfl) Tryz.underlying9 (by refine ⟨by omega, by omega, ?_⟩; simp only [bsz, List.size_toArray, List.length_cons, List.length_nil]; omega)) rfl ?_
  refine st (asT rfl) rfl ?_
  refine ng ?_
  refine AW.ret ?_
  refine rT ?_
  exact rt1 rfl (.inl rfl) (by first | (have h9 : ¬ n < 10 := (by omega); exact small_2 h9 (by omega)) | exact small_1 (by omega))
 ·
  obtain ⟨hc1, hc1'⟩ := pF hc1
  refine AW.skip ?_
  refine AX.go ?_
  refine sr ?_
  refine st (mvT rfl) rfl ?_
  refine st (OpT.mul (H rfl) (T1 rfl) (I rfl) (nw (by omega))) rfl ?_
  refine st (mvT rfl) rfl ?_
  refine st (OpT.mul (H rfl) (T1 rfl) (I rfl) (nw (by omega))) rfl ?_
  refine st (OpT.add (H rfl) (T1 rfl) (I rfl) (nw (by omega))) rfl ?_
  refine st (OpT.cutSLH (H rfl) (Opd.str (by decide)) (T1 rfl) (T1 rfl) Tryz.underlying9 (by refine ⟨by omega, by omega, Int.le_trans ?_ (Int.ofNat_le.2 (Nat.le_of_eq sml_size.symm))⟩; omega)) rfl ?_
  refine st (asT rfl) rfl ?_
  refine ng ?_
  refine AW.ret ?_
  exact rt1 rfl (.inl rfl) (by first | (have h9 : ¬ n < 10 := (by omega); exact small_2 h9 (by omega)) | exact small_1 (by omega))

/-- strconv.FormatInt -/
theorem c_internal_strconv_FormatInt (n : Nat) (h : n < 100) : AC Tryz.prog 129 [.cel (Kd.int .i64) (n : Int), .cel (Kd.int .i64) (10 : Int)] [.cel Kd.str (decB n)] [] := by
 refine acI (N := 54) Tryz.func129 (Nat.le_of_ble_eq_true rfl) rfl fun w0 hd s0 ar => ?_
 refine AW.to (kc2 0 1 rfl <| Kn) ?_
 refine sr ?_
 refine st (OpT.move (A := .cel _ _) (.inr rfl) rfl (ok' rfl) (Opd.str (by decide)) rfl) rfl ?_
 refine ng ?_
 refine AW.seq ?_
 refine sr ?_
 refine st (mvT rfl) rfl ?_
 refine st (OpT.eql (H rfl) (T1 rfl) (I rfl)) rfl ?_
 refine ng ?_
 refine cd rfl (fun hc1 => ?_) fun hc1 => ?_
 ·
  obtain ⟨hc1, hc1'⟩ := pT hc1
  refine AW.seq ?_
  refine sr ?_
  refine st (mvT rfl) rfl ?_
  refine st (OpT.leq (H rfl) (I rfl) (T1 rfl)) rfl ?_
  refine st (mvT rfl) rfl ?_
  apply AWl.and (d := 17) (t := 14) rfl
  ·
   intro hb1 Q1 k1
   have hb1' := lT hb1
   refine rs hb1 (mvT rfl) rfl ?_
   refine rs hb1 (OpT.lss (H rfl) (T1 rfl) (I rfl)) rfl ?_
   refine st (OpT.pickT (A := .cel _ _) (H rfl) (T1 rfl) hb1 (T1 rfl) rfl) rfl ?_
   exact AWl.to (junk 2 rfl) k1
  ·
   intro hb1 Q1 k1
   refine ps hb1 rfl ?_
   refine ps hb1 rfl ?_
   refine st (OpT.pickF (A := .cel _ _) (H rfl) (T1 rfl) hb1 Opd.bool rfl) rfl ?_
   exact k1
  refine ng ?_
  refine cd rfl (fun hc2 => ?_) fun hc2 => ?_
  ·
   obtain ⟨hc2, hc2'⟩ := pT hc2
   refine sr ?_
   refine st (mvT rfl) rfl ?_
   refine st (OpT.c1 (ms := [.flat]) (c_internal_strconv_small n (by omega)) (H rfl) (Af (T1 rfl) rfl rfl <| An) rfl rfl) rfl ?_
   refine st (asT rfl) rfl ?_
   refine ng ?_
   refine AW.ret ?_
   refine rT <| rT ?_
   exact rt1 rfl (.inl rfl) rfl
  ·
   obtain ⟨hc2, hc2'⟩ := pF hc2
   exact (show False from (by omega)).elim
 ·
  obtain ⟨hc1, hc1'⟩ := pF hc1
  exact (show False from (hc1' rfl)).elim

/-- strconv.FormatInt -/
theorem c_strconv_FormatInt (n : Nat) (h : n < 100) : AC Tryz.prog 98 [.cel (Kd.int .i64) (n : Int), .cel (Kd.int .i64) (10 : Int)] [.cel Kd.str (decB n)] [] := by
 refine acI (N := 8) Tryz.func98 (Nat.le_of_ble_eq_true rfl) rfl fun w0 hd s0 ar => ?_
 refine AW.to (kc2 0 1 rfl <| Kn) ?_
 refine sr ?_
 refine st (OpT.move (A := .cel _ _) (.inr rfl) rfl (ok' rfl) (Opd.str (by decide)) rfl) rfl ?_
 refine ng ?_
 refine sr ?_
 refine st (mvT rfl) rfl ?_
 refine st (mvT rfl) rfl ?_
 refine st (OpT.c1 (ms := [.flat, .flat]) (c_internal_strconv_FormatInt n (by omega)) (H rfl) (Af (T1 rfl) rfl rfl <| Af (T1 rfl) rfl rfl <| An) rfl rfl) rfl ?_
 refine st (asT rfl) rfl ?_
 refine ng ?_
 refine AW.ret ?_
 exact rt1 rfl (.inl rfl) rfl

/-- strconv.Itoa -/
theorem c_internal_strconv_Itoa (n : Nat) (h : n < 100) : AC Tryz.prog 135 [.cel (Kd.int .i64) (n : Int)] [.cel Kd.str (decB n)] [] := by
 refine acI (N := 5) Tryz.func135 (Nat.le_of_ble_eq_true rfl) rfl fun w0 hd s0 ar => ?_
 refine AW.to (kc 0 rfl <| Kn) ?_
 refine sr ?_
 refine st (OpT.move (A := .cel _ _) (.inr rfl) rfl (ok' rfl) (Opd.str (by decide)) rfl) rfl ?_
 refine ng ?_
 refine sr ?_
 refine st (mvT rfl) rfl ?_
 refine st (OpT.c1 (ms := [.flat, .flat]) (c_internal_strconv_FormatInt n (by omega)) (H rfl) (Af (T1 rfl) rfl rfl <| Af (I rfl) rfl rfl <| An) rfl rfl) rfl ?_
 refine st (asT rfl) rfl ?_
 refine ng ?_
 refine AW.ret ?_
 exact rt1 rfl (.inl rfl) rfl

/-- strconv.Itoa -/
theorem c_strconv_Itoa (n : Nat) (h : n < 100) : AC Tryz.prog 109 [.cel (Kd.int .i64) (n : Int)] [.cel Kd.str (decB n)] [] := by
 refine acI (N := 5) Tryz.func109 (Nat.le_of_ble_eq_true rfl) rfl fun w0 hd s0 ar => ?_
 refine AW.to (kc 0 rfl <| Kn) ?_
 refine sr ?_
 refine st (OpT.move (A := .cel _ _) (.inr rfl) rfl (ok' rfl) (Opd.str (by decide)) rfl) rfl ?_
 refine ng ?_
 refine sr ?_
 refine st (mvT rfl) rfl ?_
 refine st (OpT.c1 (ms := [.flat]) (c_internal_strconv_Itoa n (by omega)) (H rfl) (Af (T1 rfl) rfl rfl <| An) rfl rfl) rfl ?_
 refine st (asT rfl) rfl ?_
 refine ng ?_
 refine AW.ret ?_
 exact rt1 rfl (.inl rfl) rfl

/-- impl.cardText -/
theorem c_impl_cardText (x : DCard) (h : x.1.size ≤ 16) : AC Tryz.prog 57 [.agg kCard x] [.cel Kd.str (cdT x)] [] := by
 refine acI (N := 23) Tryz.func57 (Nat.le_of_ble_eq_true rfl) rfl fun w0 hd s0 ar => ?_
 refine AW.to (ka 0 rfl <| Kn) ?_
 refine sr ?_
 refine st (OpT.frz (OpT.boxA (E := 40) (H rfl) (T1 rfl))) rfl ?_
 refine st (OpT.move (A := .cel _ _) (.inr rfl) rfl (ok' rfl) (Opd.str (by decide)) rfl) rfl ?_
 refine ng ?_
 refine sr ?_
 refine st (OpT.fieldAddr (H rfl) (T1 rfl) fd40_0 sz9 (by decide) sb40_0) rfl ?_
 refine st (OpT.load (H rfl) (T1 rfl) ag9 rfl) rfl ?_
 refine st (asT rfl) rfl ?_
 refine ng ?_
 refine AW.seq ?_
 refine sr ?_
 refine st (OpT.fieldAddr (H rfl) (T1 rfl) fd40_1 sz38 (by decide) sb40_1) rfl ?_
 refine st (OpT.loadA (H rfl) (T1 rfl) ag38 sz38) rfl ?_
 refine st (OpT.c1 (ms := [.flat]) (c_impl_Mask_holes _) (H rfl) (Af (T1 rfl) rfl rfl <| An) rfl rfl) rfl ?_
 refine st (OpT.len (H rfl) (T1 rfl) el43) rfl ?_
 refine st (mvI rfl) rfl ?_
 refine ng ?_
 refine AW.block ?_
 refine AW.loop (fun z : Nat => z ≤ (hol x.2 96).length) (fun z : Nat => keep [(3, .cel Kd.str (((hol x.2 96).take z).foldl cdF x.1)), (10, .cel (Kd.slice (Kd.int .i64)) (hol x.2 96)), (11, .cel (Kd.int .i64) ((hol x.2 96).length : Int)), (12, .cel (Kd.int .i64) (z : Int))]) (fun z : Nat => (hol x.2 96).length - z) (0) (Nat.zero_le _) (Kc 3 _ (Kv rfl rfl) <| Kc 10 _ (Kv rfl rfl) <| Kc 11 _ (Kv rfl rfl) <| Kc 12 _ (Kv rfl rfl) <| Kn) ?_
 intro z hI
 have hts := cdF_at x.2 x.1 z
 have hq := hol_len x.2 96
 refine sr ?_
 refine st (OpT.lss (H rfl) (T1 rfl) (T1 rfl)) rfl ?_
 refine ng ?_
 refine AW.seq ?_
 refine cd rfl (fun hc1 => ?_) fun hc1 => ?_
 ·
  obtain ⟨hc1, hc1'⟩ := pT hc1
  obtain ⟨v, hv⟩ := getI (x := hol x.2 96) (z := z) (by omega)
  have hvr := hol_mem (mem_getI hv)
  obtain ⟨n, rfl⟩ := Int.eq_ofNat_of_zero_le hvr.1
  have hds := decB_size (n := n) (by omega)
  refine AW.skip ?_
  refine AX.go ?_
  refine AW.seq ?_
  refine AW.block ?_
  refine sr ?_
  refine st (OpT.indexAddr (H rfl) (T1 rfl) (T1 rfl) el43 sz2 (by omega) (by assumption)) rfl ?_
  refine st (OpT.load (H rfl) (T1 rfl) ag2 rfl) rfl ?_
  refine st (asT rfl) rfl ?_
  refine ng ?_
  refine AW.region ?_
  refine st (mvT rfl) rfl ?_
  refine st (mvT rfl) rfl ?_
  refine st (OpT.c1 (ms := [.flat, .flat]) (c_strconv_FormatInt n (by omega)) (H rfl) (Af (T1 rfl) rfl rfl <| Af (I rfl) rfl rfl <| An) rfl rfl) rfl ?_
  refine st (OpT.sadd (H rfl) (Opd.str (by decide)) (T1 rfl) (by simp only [ByteArray.size_append, bsz, bOf_size, List.size_toArray, List.length_cons, List.length_nil, List.length_set, List.length_replicate]; omega)) rfl ?_
  refine st (OpT.sadd (H rfl) (T1 rfl) (T1 rfl) (by simp only [ByteArray.size_append, bsz, bOf_size, List.size_toArray, List.length_cons, List.length_nil, List.length_set, List.length_replicate]; omega)) rfl ?_
  refine st (asT rfl) rfl ?_
  refine nn ?_
  refine AX.normal_block ?_
  refine AX.go ?_
  refine AW.region ?_
  refine st (OpT.add (H rfl) (T1 rfl) (I rfl) (nw (by omega))) rfl ?_
  refine st (mvT rfl) rfl ?_
  refine nn ?_
  exact AX.again (z + 1) (by omega) (by omega) (Kc 3 _ (Kv rfl (by rw [← foldl_more (f := cdF) hv, cdF]; rfl)) <| Kc 10 _ (Kv rfl rfl) <| Kc 11 _ (Kv rfl rfl) <| Kc 12 _ (Kv rfl (by omega)) <| Kn)
 ·
  obtain ⟨hc1, hc1'⟩ := pF hc1
  refine AW.exit ?_
  refine xT <| xT <| AX.exit_hit ?_
  refine AX.go ?_
  refine sr ?_
  refine st (mvT rfl) rfl ?_
  refine st (asT rfl) rfl ?_
  refine ng ?_
  refine AW.ret ?_
  exact rt1 rfl (.inl rfl) (by rw [cdT, List.take_of_length_le (by omega)])

/-- spec.l01Text -/
theorem c_spec_l01Text (x : DCard) (h : x.1.size ≤ 16) : AC Tryz.prog 137 [.cel (Kd.ptr kCard) x] [.cel Kd.str (cdT x)] [] := by
 refine acI (N := 30) Tryz.func137 (Nat.le_of_ble_eq_true rfl) rfl fun w0 hd s0 ar => ?_
 refine AW.to (kc 0 rfl <| Kn) ?_
 refine sr ?_
 refine st (OpT.move (A := .cel _ _) (.inr rfl) rfl (ok' rfl) (Opd.str (by decide)) rfl) rfl ?_
 refine ng ?_
 refine sr ?_
 refine st (mvT rfl) rfl ?_
 refine st (OpT.nilCheck (H rfl) (T1 rfl)) rfl ?_
 refine st (OpT.fieldAddr (H rfl) (T1 rfl) fd40_0 sz9 (by decide) sb40_0) rfl ?_
 refine st (OpT.load (H rfl) (T1 rfl) ag9 rfl) rfl ?_
 refine st (asT rfl) rfl ?_
 refine ng ?_
 refine sr ?_
 refine st (mvT rfl) rfl ?_
 refine st (OpT.nilCheck (H rfl) (T1 rfl)) rfl ?_
 refine st (OpT.fieldAddr (H rfl) (T1 rfl) fd40_1 sz38 (by decide) sb40_1) rfl ?_
 refine st (OpT.loadA (H rfl) (T1 rfl) ag38 sz38) rfl ?_
 refine st (OpT.c1 (ms := [.flat]) (c_spec_l01Holes _) (H rfl) (Af (T1 rfl) rfl rfl <| An) rfl rfl) rfl ?_
 refine st (asT rfl) rfl ?_
 refine ng ?_
 refine AW.seq ?_
 refine sr ?_
 refine st (asI rfl) rfl ?_
 refine ng ?_
 refine AW.block ?_
 refine AW.loop (fun z : Nat => z ≤ (hol x.2 96).length) (fun z : Nat => keep [(3, .cel Kd.str (((hol x.2 96).take z).foldl cdF x.1)), (4, .cel (Kd.slice (Kd.int .i64)) (hol x.2 96)), (5, .cel (Kd.int .i64) (z : Int))]) (fun z : Nat => (hol x.2 96).length - z) (0) (Nat.zero_le _) (Kc 3 _ (Kv rfl rfl) <| Kc 4 _ (Kv rfl rfl) <| Kc 5 _ (Kv rfl rfl) <| Kn) ?_
 intro z hI
 have hts := cdF_at x.2 x.1 z
 have hq := hol_len x.2 96
 refine AW.seq ?_
 refine sr ?_
 refine st (mvT rfl) rfl ?_
 refine st (mvT rfl) rfl ?_
 refine st (OpT.len (H rfl) (T1 rfl) el43) rfl ?_
 refine st (OpT.lss (H rfl) (T1 rfl) (T1 rfl)) rfl ?_
 refine ng ?_
 refine cd rfl (fun hc1 => ?_) fun hc1 => ?_
 ·
  obtain ⟨hc1, hc1'⟩ := pT hc1
  obtain ⟨v, hv⟩ := getI (x := hol x.2 96) (z := z) (by omega)
  have hvr := hol_mem (mem_getI hv)
  obtain ⟨n, rfl⟩ := Int.eq_ofNat_of_zero_le hvr.1
  have hds := decB_size (n := n) (by omega)
  refine AW.skip ?_
  refine AX.go ?_
  refine AW.seq ?_
  refine AW.block ?_
  refine AW.region ?_
  refine st (mvT rfl) rfl ?_
  refine st (mvT rfl) rfl ?_
  refine st (mvT rfl) rfl ?_
  refine st (OpT.indexAddr (H rfl) (T1 rfl) (T1 rfl) el43 sz2 (by omega) (by assumption)) rfl ?_
  refine st (OpT.load (H rfl) (T1 rfl) ag2 rfl) rfl ?_
  refine st (OpT.c1 (ms := [.flat]) (c_spec_Decimal n) (H rfl) (Af (T1 rfl) rfl rfl <| An) rfl rfl) rfl ?_
  refine st (OpT.sadd (H rfl) (Opd.str (by decide)) (T1 rfl) (by simp only [ByteArray.size_append, bsz, bOf_size, List.size_toArray, List.length_cons, List.length_nil, List.length_set, List.length_replicate]; omega)) rfl ?_
  refine st (OpT.sadd (H rfl) (T1 rfl) (T1 rfl) (by simp only [ByteArray.size_append, bsz, bOf_size, List.size_toArray, List.length_cons, List.length_nil, List.length_set, List.length_replicate]; omega)) rfl ?_
  refine st (asT rfl) rfl ?_
  refine nn ?_
  refine AX.normal_block ?_
  refine AX.go ?_
  refine AW.region ?_
  refine st (mvT rfl) rfl ?_
  refine st (OpT.add (H rfl) (T1 rfl) (I rfl) (nw (by omega))) rfl ?_
  refine st (asT rfl) rfl ?_
  refine nn ?_
  exact AX.again (z + 1) (by omega) (by omega) (Kc 3 _ (Kv rfl (by rw [← foldl_more (f := cdF) hv, cdF]; rfl)) <| Kc 4 _ (Kv rfl rfl) <| Kc 5 _ (Kv rfl (by omega)) <| Kn)
 ·
  obtain ⟨hc1, hc1'⟩ := pF hc1
  refine AW.exit ?_
  refine xT <| xT <| AX.exit_hit ?_
  refine AX.go ?_
  refine sr ?_
  refine st (mvT rfl) rfl ?_
  refine st (asT rfl) rfl ?_
  refine ng ?_
  refine AW.ret ?_
  exact rt1 rfl (.inl rfl) (by rw [cdT, List.take_of_length_le (by omega)])

/-- spec.l07Words -/
theorem c_spec_l07Words  : AC Tryz.prog 115 [] [.cel (Kd.slice Kd.str) edWL] [] := by
 refine acI (N := 2) Tryz.func115 (Nat.le_of_ble_eq_true rfl) rfl fun w0 hd s0 ar => ?_
 refine AW.to (Kn) ?_
 refine sr ?_
 refine st (OpT.move (A := .cel _ _) (.inr rfl) rfl (ok' rfl) (Opd.nilslice Kd.str) rfl) rfl ?_
 refine ng ?_
 refine sr ?_
 refine st (OpT.buildSlice (H rfl) el81 zr9 sz9 rfl (by decide) zk9 (by decide) (Built.cel (Opd.str (by decide)) rfl rfl (sub_arr (by decide) (.empty : ByteArray)) (Built.cel (Opd.str (by decide)) rfl rfl (sub_arr (by decide) (.empty : ByteArray)) (Built.cel (Opd.str (by decide)) rfl rfl (sub_arr (by decide) (.empty : ByteArray)) (Built.cel (Opd.str (by decide)) rfl rfl (sub_arr (by decide) (.empty : ByteArray)) (Built.cel (Opd.str (by decide)) rfl rfl (sub_arr (by decide) (.empty : ByteArray)) (Built.nil _))))))) rfl ?_
 refine sg (OpT.take (.inl rfl) rfl (ok' rfl) (Root.self (by decide)) rfl rfl (by decide)) (ko 0 rfl <| Kn) rfl ?_
 refine ng ?_
 refine AW.ret ?_
 refine AX.freeze (t := 0) rfl ?_
 refine AX.pr (kc 0 rfl <| Kn) ?_
 exact rt1 rfl (.inl rfl) rfl

/-- impl.editText -/
theorem c_impl_editText (e : DEdit) (he : editB e = true) : AC Tryz.prog 67 [.agg kEdit e] [.cel Kd.str (edW e.1 ++ bsp ++ edR e)] [] := by
 refine acI (N := 37) Tryz.func67 (Nat.le_of_ble_eq_true rfl) rfl fun w0 hd s0 ar => ?_
 refine AW.to (ka 0 rfl <| Kn) ?_
 have hkd := edit_kind he
 have hnm := edit_name he
 have hww := edW_size hkd
 have hrs := edR_size he
 have hxg := edX_get hkd
 have hxs : (edXL.getD e.1.toNat .empty).size ≤ 6 := by rw [hxg, ByteArray.size_append]; have : bsp.size = 1 := rfl; omega
 have hcs := cdT_size (e.2.1, e.2.2.2)
 refine sr ?_
 refine st (OpT.frz (OpT.boxA (E := 63) (H rfl) (T1 rfl))) rfl ?_
 refine st (OpT.move (A := .cel _ _) (.inr rfl) rfl (ok' rfl) (Opd.str (by decide)) rfl) rfl ?_
 refine ng ?_
 refine sr ?_
 refine st (OpT.buildA (H rfl) ar136 sz9 zr136 zk136 (Built.cel (Opd.str (by decide)) rfl rfl (sub_arr (by decide) (.empty : ByteArray)) (Built.cel (Opd.str (by decide)) rfl rfl (sub_arr (by decide) (.empty : ByteArray)) (Built.cel (Opd.str (by decide)) rfl rfl (sub_arr (by decide) (.empty : ByteArray)) (Built.cel (Opd.str (by decide)) rfl rfl (sub_arr (by decide) (.empty : ByteArray)) (Built.cel (Opd.str (by decide)) rfl rfl (sub_arr (by decide) (.empty : ByteArray)) (Built.nil _))))))) rfl ?_
 refine st (OpT.alloc (H rfl) zr136 zk136) rfl ?_
 refine sk (OpT.storeBA rfl rfl (Opd.whole (Root.self (t := 3) (by decide)) rfl) rfl sz136 (by decide) (T1 rfl)) rfl ?_
 refine ng ?_
 refine AW.seq ?_
 refine sr ?_
 refine st (OpT.fieldAddr (H rfl) (T1 rfl) fd63_0 sz60 (by decide) sb63_0) rfl ?_
 refine st (OpT.load (H rfl) (T1 rfl) ag60 rfl) rfl ?_
 refine st (OpT.eql (H rfl) (T1 rfl) (I rfl)) rfl ?_
 refine st (mvT rfl) rfl ?_
 apply AWl.or (d := 12) (t := 8) rfl
 ·
  intro hb1 Q1 k1
  have hb1' := lF hb1
  refine rs hb1 (OpT.fieldAddr (H rfl) (T1 rfl) fd63_0 sz60 (by decide) sb63_0) rfl ?_
  refine rs hb1 (OpT.load (H rfl) (T1 rfl) ag60 rfl) rfl ?_
  refine rs hb1 (OpT.eql (H rfl) (T1 rfl) (I rfl)) rfl ?_
  refine st (OpT.pickF (A := .cel _ _) (H rfl) (T1 rfl) hb1 (T1 rfl) rfl) rfl ?_
  exact AWl.to (junk 3 rfl) k1
 ·
  intro hb1 Q1 k1
  refine ps hb1 rfl ?_
  refine ps hb1 rfl ?_
  refine ps hb1 rfl ?_
  refine st (OpT.pickT (A := .cel _ _) (H rfl) (T1 rfl) hb1 Opd.bool rfl) rfl ?_
  exact k1
 refine AWl.to (kc 12 rfl <| kb 3 rfl <| kc2 2 1 rfl <| Kn) ?_
 refine ng ?_
 refine cd rfl (fun hc1 => ?_) fun hc1 => ?_
 ·
  obtain ⟨hc1, hc1'⟩ := pT hc1
  refine AW.seq ?_
  refine dh fomo ?_
  refine d1 [1] (fun ve h => OpT.fieldAddr (H rfl) (D1 h rfl) fd63_0 sz60 (by decide) sb63_0) rfl ?_
  refine d1 [13] (fun ve h => OpT.load (H rfl) (D1 h rfl) ag60 rfl) rfl ?_
  refine d1 [3, 14] (fun ve h => OpT.indexAddrB (H rfl) (Root.self (t := 3) (by decide)) ((h _ (List.elem_iff.1 rfl)).trans rfl) (by decide) (D1 h rfl) ar136 sz9 (by omega) (sub_arr (by omega) (.empty : ByteArray))) rfl ?_
  refine d1 [3, 15] (fun ve h => OpT.loadP (H rfl) (D1 h rfl) (.inl ⟨_, ((h _ (List.elem_iff.1 rfl)).trans rfl), rfl⟩) ag9 rfl) rfl ?_
  refine d1 [1] (fun ve h => OpT.fieldAddr (H rfl) (D1 h rfl) fd63_1 sz9 (by decide) sb63_1) rfl ?_
  refine d1 [17] (fun ve h => OpT.load (H rfl) (D1 h rfl) ag9 rfl) rfl ?_
  refine d1 [1] (fun ve h => OpT.fieldAddr (H rfl) (D1 h rfl) fd63_3 sz38 (by decide) sb63_3) rfl ?_
  refine d1 [19] (fun ve h => OpT.loadA (H rfl) (D1 h rfl) ag38 sz38) rfl ?_
  refine d1 [18, 20] (fun ve h => OpT.build (H rfl) pl40 zr40 zk40 (Built.cel (D1 h rfl) rfl rfl sb40_0 (Built.agg (D1 h rfl) rfl (by decide) sb40_1 (Built.nil _)))) rfl ?_
  refine d1 [21] (fun ve h => OpT.c1 (ms := [.flat]) (c_impl_cardText _ hnm) (H rfl) (Af (D1 h rfl) rfl rfl <| An) rfl rfl) rfl ?_
  refine d1 [16, 22] (fun ve h => OpT.sadd (H rfl) (D1 h rfl) (D1 h rfl) (by show (edXL.getD e.1.toNat .empty).size + (cdT (e.2.1, e.2.2.2)).size ≤ _; simp only [] at hcs; omega)) rfl ?_
  refine d1 [23] (fun ve h => OpT.move (A := .cel _ _) (.inr rfl) rfl (ok' rfl) (D1 h rfl) rfl) rfl ?_
  refine dn ⟨by kernel_rfl, by kernel_rfl, ?_⟩
  refine AX.pr (kc 2 rfl <| kb 3 rfl <| kc 1 rfl <| Kn) ?_
  refine AX.go ?_
  refine AW.ret ?_
  refine rT ?_
  exact rt1 rfl (.inl rfl) (by first | (rw [← hxg, edR_12 (by omega)]; rfl) | (rw [← hxg, edR_34 (by omega), show e.2.2.1.toNat = n by omega]; show edXL.getD e.1.toNat .empty ++ e.2.1 ++ bsp ++ decB n = _; simp only [ByteArray.append_assoc]))
 ·
  obtain ⟨hc1, hc1'⟩ := pF hc1
  have hho := edit_hole he (by omega) (by omega)
  obtain ⟨n, hn⟩ := Int.eq_ofNat_of_zero_le hho.1
  have hds := decB_size (n := n) (by omega)
  refine AW.skip ?_
  refine AX.pr (kb 3 rfl <| kc2 2 1 rfl <| Kn) ?_
  refine AX.go ?_
  refine AW.seq ?_
  refine dh fomo ?_
  refine d1 [1] (fun ve h => OpT.fieldAddr (H rfl) (D1 h rfl) fd63_0 sz60 (by decide) sb63_0) rfl ?_
  refine d1 [24] (fun ve h => OpT.load (H rfl) (D1 h rfl) ag60 rfl) rfl ?_
  refine d1 [3, 25] (fun ve h => OpT.indexAddrB (H rfl) (Root.self (t := 3) (by decide)) ((h _ (List.elem_iff.1 rfl)).trans rfl) (by decide) (D1 h rfl) ar136 sz9 (by omega) (sub_arr (by omega) (.empty : ByteArray))) rfl ?_
  refine d1 [3, 26] (fun ve h => OpT.loadP (H rfl) (D1 h rfl) (.inl ⟨_, ((h _ (List.elem_iff.1 rfl)).trans rfl), rfl⟩) ag9 rfl) rfl ?_
  refine d1 [1] (fun ve h => OpT.fieldAddr (H rfl) (D1 h rfl) fd63_1 sz9 (by decide) sb63_1) rfl ?_
  refine d1 [28] (fun ve h => OpT.load (H rfl) (D1 h rfl) ag9 rfl) rfl ?_
  refine d1 [27, 29] (fun ve h => OpT.sadd (H rfl) (D1 h rfl) (D1 h rfl) (by show (edXL.getD e.1.toNat .empty).size + e.2.1.size ≤ _; omega)) rfl ?_
  refine d1 [30] (fun ve h => OpT.sadd (H rfl) (D1 h rfl) (Opd.str (by decide)) (by show (edXL.getD e.1.toNat .empty ++ e.2.1).size + 1 ≤ _; rw [ByteArray.size_append]; omega)) rfl ?_
  refine d1 [1] (fun ve h => OpT.fieldAddr (H rfl) (D1 h rfl) fd63_2 sz61 (by decide) sb63_2) rfl ?_
  refine d1 [32] (fun ve h => OpT.load (H rfl) (D1 h rfl) ag61 rfl) rfl ?_
  refine d1 [33] (fun ve h => OpT.conv (H rfl) us61 Tryz.underlying3 (D1 h rfl) (nw (by omega))) rfl ?_
  refine d1 [34] (fun ve h => OpT.c1 (ms := [.flat]) (by rw [hn]; exact c_strconv_Itoa n (by omega)) (H rfl) (Af (D1 h rfl) rfl rfl <| An) rfl rfl) rfl ?_
  refine d1 [31, 35] (fun ve h => OpT.sadd (H rfl) (D1 h rfl) (D1 h rfl) (by show (edXL.getD e.1.toNat .empty ++ e.2.1 ++ bsp).size + (decB n).size ≤ _; rw [ByteArray.size_append, ByteArray.size_append]; have : bsp.size = 1 := rfl; omega)) rfl ?_
  refine d1 [36] (fun ve h => OpT.move (A := .cel _ _) (.inr rfl) rfl (ok' rfl) (D1 h rfl) rfl) rfl ?_
  refine dn ⟨by kernel_rfl, by kernel_rfl, ?_⟩
  refine AX.pr (kc 2 rfl <| Kn) ?_
  refine AX.go ?_
  refine AW.ret ?_
  exact rt1 rfl (.inl rfl) (by first | (rw [← hxg, edR_12 (by omega)]; rfl) | (rw [← hxg, edR_34 (by omega), show e.2.2.1.toNat = n by omega]; show edXL.getD e.1.toNat .empty ++ e.2.1 ++ bsp ++ decB n = _; simp only [ByteArray.append_assoc]))

end Go.Proofs.YtmmjcpiikdcldaaGreatDoor.VL
