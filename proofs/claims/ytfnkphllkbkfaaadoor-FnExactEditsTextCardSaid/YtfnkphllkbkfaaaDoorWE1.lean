/- Proved here: what some functions of the program take and give: walks with the words of VA..VQ. Printed by program. -/
import Derived.Test.YtfnkphllkbkfaaaDoorWT
import Derived.Test.YtfnkphllkbkfaaaDoorBpa
import Derived.Test.YtfnkphllkbkfaaaDoorWM
import Derived.Test.YtfnkphllkbkfaaaDoorWZ
import Derived.Test.YtfnkphllkbkfaaaDoorWY
set_option linter.unusedVariables false
set_option linter.unusedSimpArgs false
set_option maxRecDepth 4000
namespace Go.Proofs.YtfnkphllkbkfaaaDoor.VL
open Go
/-- spec.Decimal -/
theorem c_spec_Decimal (n : Nat) : AC Tryd.prog 130 [.cel (Kd.int .i64) (n : Int)] [.cel Kd.str (decB n)] [] := by
 induction n using Nat.strongRecOn with
 | _ n ih =>
 refine acI (N := 21) Tryd.func130 (Nat.le_of_ble_eq_true rfl) rfl fun w0 hd s0 ar => ?_
 refine AW.to (kc 0 rfl <| Kn) ?_
 have htm := tmod10 n
 refine AW.fact (fun a w hr => ok_i64 (R_ok (t := 0) rfl hr)) (fun hn => ?_)
 have hdl := decB_le (n / 10)
 have htd := tdiv10 n
 refine sr ?_
 refine st (OpT.move (A := .cel _ _) (.inr rfl) rfl (ok' rfl) (Opd.str (by decide)) rfl) rfl ?_
 refine ng ?_
 refine AW.seq ?_
 refine sr ?_
 refine st (mvT rfl) rfl ?_
 refine st (OpT.lss (H rfl) (T1 rfl) (I rfl)) rfl ?_
 refine ng ?_
 refine cd rfl (fun hc1 => ?_) fun hc1 => ?_
 ·
  obtain ⟨hc1, hc1'⟩ := pT hc1
  refine sr ?_
  refine st (mvT rfl) rfl ?_
  refine st (OpT.rem (H rfl) (T1 rfl) (I rfl) (by omega)) rfl ?_
  refine st (OpT.add (H rfl) (I rfl) (T1 rfl) (nw (by omega))) rfl ?_
  refine st (OpT.conv (H rfl) us2 Tryd.underlying5 (T1 rfl) (wrap_id (by first | (simp only [inR, IntKind.min, IntKind.max, IntKind.signed, IntKind.bits]; omega)))) rfl ?_
  refine st (OpT.buildSlice (H rfl) el146 zr5 sz5 rfl (by decide) zk5 (by decide) (Built.cel (T1 rfl) rfl rfl (sub_arr (by decide) (0 : Int)) (Built.nil _))) rfl ?_
  refine st (OpT.convBS (H rfl) el146 Tryd.underlying5 Tryd.underlying9 (Src.own (Root.self (t := 9) (by decide)) rfl) (by simp)) rfl ?_
  refine st (asT rfl) rfl ?_
  refine ng ?_
  refine AW.ret ?_
  refine rT ?_
  exact rt1 rfl (.inl rfl) (by first | exact decB_lt (by omega) | exact decB_ge (by omega))
 ·
  obtain ⟨hc1, hc1'⟩ := pF hc1
  refine AW.skip ?_
  refine AX.pr (kc2 2 0 rfl <| Kn) ?_
  refine AX.go ?_
  refine AW.seq ?_
  refine dh fomo ?_
  refine d1 [0] (fun ve h => OpT.move (A := .cel _ _) (.inl rfl) rfl (ok' rfl) (D1 h rfl) rfl) rfl ?_
  refine d1 [11] (fun ve h => OpT.quo (H rfl) (D1 h rfl) (I rfl) (by omega) (nw (by omega))) rfl ?_
  refine d1 [12] (fun ve h => OpT.c1 (ms := [.flat]) (by rw [tdiv10]; exact ih (n / 10) (by omega)) (H rfl) (Af (D1 h rfl) rfl rfl <| An) rfl rfl) rfl ?_
  refine d1 [0] (fun ve h => OpT.move (A := .cel _ _) (.inl rfl) rfl (ok' rfl) (D1 h rfl) rfl) rfl ?_
  refine d1 [14] (fun ve h => OpT.rem (H rfl) (D1 h rfl) (I rfl) (by omega)) rfl ?_
  refine d1 [15] (fun ve h => OpT.add (H rfl) (I rfl) (D1 h rfl) (nw (by omega))) rfl ?_
  refine d1 [16] (fun ve h => OpT.conv (H rfl) us2 Tryd.underlying5 (D1 h rfl) (wrap_id (by first | (simp only [inR, IntKind.min, IntKind.max, IntKind.signed, IntKind.bits]; omega)))) rfl ?_
  refine d1 [17] (fun ve h => OpT.buildSlice (H rfl) el146 zr5 sz5 rfl (by decide) zk5 (by decide) (Built.cel (D1 h rfl) rfl rfl (sub_arr (by decide) (0 : Int)) (Built.nil _))) rfl ?_
  refine d1 [18] (fun ve h => OpT.convBS (H rfl) el146 Tryd.underlying5 Tryd.underlying9 (Src.own (Root.self (t := 18) (by decide)) ((h _ (List.elem_iff.1 rfl)).trans rfl)) (by simp)) rfl ?_
  refine d1 [13, 19] (fun ve h => OpT.sadd (H rfl) (D1 h rfl) (D1 h rfl) (by simp only [ByteArray.size_append, bsz, bOf_size, List.size_toArray, List.length_cons, List.length_nil, List.length_set, List.length_replicate]; omega)) rfl ?_
  refine d1 [20] (fun ve h => OpT.move (A := .cel _ _) (.inr rfl) rfl (ok' rfl) (D1 h rfl) rfl) rfl ?_
  refine dn ⟨by kernel_rfl, by kernel_rfl, ?_⟩
  refine AX.pr (kc 2 rfl <| Kn) ?_
  refine AX.go ?_
  refine AW.ret ?_
  exact rt1 rfl (.inl rfl) (by first | exact decB_lt (by omega) | exact decB_ge (by omega))

/-- strconv.small -/
theorem c_internal_strconv_small (n : Nat) (h : n < 100) : AC Tryd.prog 172 [.cel (Kd.int .i64) (n : Int)] [.cel Kd.str (decB n)] [] := by
 refine acI (N := 15) Tryd.func172 (Nat.le_of_ble_eq_true rfl) rfl fun w0 hd s0 ar => ?_
 refine AW.to (kc 0 rfl <| Kn) ?_
 refine sr ?_
 refine st (OpT.move (A := .cel _ _) (.inr rfl) rfl (ok' rfl) (Opd.str (by decide)) rfl) rfl ?_
 refine ng ?_
 refine AW.seq ?_
 refine sr ?_
 refine st (mvT rfl) rfl ?_
 refine st (OpT.lss (H rfl) (T1 rfl) (I rfl)) rfl ?_
 refine ng ?_
 refine cd rfl (fun hc1 => ?_) fun hc1 => ?_
 ·
  obtain ⟨hc1, hc1'⟩ := pT hc1
  refine sr ?_
  refine st (mvT rfl) rfl ?_
  refine st (mvT rfl) rfl ?_
  refine st (OpT.add (H rfl) (T1 rfl) (I rfl) (nw (by omega))) rfl ?_
  refine st (OpT.cutSLH (H rfl) (Opd.str (by decide)) (T1 rfl) (T1 rfl) Tryd.underlying9 (by refine ⟨by omega, by omega, ?_⟩; simp only [bsz, List.size_toArray, List.length_cons, List.length_nil]; omega)) rfl ?_
  refine st (asT rfl) rfl ?_
  refine ng ?_
  refine AW.ret ?_
  refine rT ?_
  exact rt1 rfl (.inl rfl) (by first | (have h9 : ¬ n < 10 := (by omega); exact small_2 h9 (by omega)) | exact small_1 (by omega))
 ·
  obtain ⟨hc1, hc1'⟩ := pF hc1
  refine AW.skip ?_
  refine AX.go ?_
  refine sr ?_
  refine st (mvT rfl) rfl ?_
  refine st (OpT.mul (H rfl) (T1 rfl) (I rfl) (nw (by omega))) rfl ?_
  refine st (mvT rfl) rfl ?_
  refine st (OpT.mul (H rfl) (T1 rfl) (I rfl) (nw (by omega))) rfl ?_
  refine st (OpT.add (H rfl) (T1 rfl) (I rfl) (nw (by omega))) rfl ?_
  refine st (OpT.cutSLH (H rfl) (Opd.str (by decide)) (T1 rfl) (T1 rfl) Tryd.underlying9 (by refine ⟨by omega, by omega, Int.le_trans ?_ (Int.ofNat_le.2 (Nat.le_of_eq sml_size.symm))⟩; omega)) rfl ?_
  refine st (asT rfl) rfl ?_
  refine ng ?_
  refine AW.ret ?_
  exact rt1 rfl (.inl rfl) (by first | (have h9 : ¬ n < 10 := (by omega); exact small_2 h9 (by omega)) | exact small_1 (by omega))

/-- strconv.FormatInt -/
theorem c_internal_strconv_FormatInt (n : Nat) (h : n < 100) : AC Tryd.prog 160 [.cel (Kd.int .i64) (n : Int), .cel (Kd.int .i64) (10 : Int)] [.cel Kd.str (decB n)] [] := by
 refine acI (N := 54) Tryd.func160 (Nat.le_of_ble_eq_true rfl) rfl fun w0 hd s0 ar => ?_
 refine AW.to (kc2 0 1 rfl <| Kn) ?_
 refine sr ?_
 refine st (OpT.move (A := .cel _ _) (.inr rfl) rfl (ok' rfl) (Opd.str (by decide)) rfl) rfl ?_
 refine ng ?_
 refine AW.seq ?_
 refine sr ?_
 refine st (mvT rfl) rfl ?_
 refine st (OpT.eql (H rfl) (T1 rfl) (I rfl)) rfl ?_
 refine ng ?_
 refine cd rfl (fun hc1 => ?_) fun hc1 => ?_
 ·
  obtain ⟨hc1, hc1'⟩ := pT hc1
  refine AW.seq ?_
  refine sr ?_
  refine st (mvT rfl) rfl ?_
  refine st (OpT.leq (H rfl) (I rfl) (T1 rfl)) rfl ?_
  refine st (mvT rfl) rfl ?_
  apply AWl.and (d := 17) (t := 14) rfl
  ·
   intro hb1 Q1 k1
   have hb1' := lT hb1
   refine rs hb1 (mvT rfl) rfl ?_
   refine rs hb1 (OpT.lss (H rfl) (T1 rfl) (I rfl)) rfl ?_
   refine st (OpT.pickT (A := .cel _ _) (H rfl) (T1 rfl) hb1 (T1 rfl) rfl) rfl ?_
   exact AWl.to (junk 2 rfl) k1
  ·
   intro hb1 Q1 k1
   refine ps hb1 rfl ?_
   refine ps hb1 rfl ?_
   refine st (OpT.pickF (A := .cel _ _) (H rfl) (T1 rfl) hb1 Opd.bool rfl) rfl ?_
   exact k1
  refine ng ?_
  refine cd rfl (fun hc2 => ?_) fun hc2 => ?_
  ·
   obtain ⟨hc2, hc2'⟩ := pT hc2
   refine sr ?_
   refine st (mvT rfl) rfl ?_
   refine st (OpT.c1 (ms := [.flat]) (c_internal_strconv_small n (by omega)) (H rfl) (Af (T1 rfl) rfl rfl <| An) rfl rfl) rfl ?_
   refine st (asT rfl) rfl ?_
   refine ng ?_
   refine AW.ret ?_
   refine rT <| rT ?_
   exact rt1 rfl (.inl rfl) rfl
  ·
   obtain ⟨hc2, hc2'⟩ := pF hc2
   exact (show False from (by omega)).elim
 ·
  obtain ⟨hc1, hc1'⟩ := pF hc1
  exact (show False from (hc1' rfl)).elim

/-- strconv.FormatInt -/
theorem c_strconv_FormatInt (n : Nat) (h : n < 100) : AC Tryd.prog 144 [.cel (Kd.int .i64) (n : Int), .cel (Kd.int .i64) (10 : Int)] [.cel Kd.str (decB n)] [] := by
 refine acI (N := 8) Tryd.func144 (Nat.le_of_ble_eq_true rfl) rfl fun w0 hd s0 ar => ?_
 refine AW.to (kc2 0 1 rfl <| Kn) ?_
 refine sr ?_
 refine st (OpT.move (A := .cel _ _) (.inr rfl) rfl (ok' rfl) (Opd.str (by decide)) rfl) rfl ?_
 refine ng ?_
 refine sr ?_
 refine st (mvT rfl) rfl ?_
 refine st (mvT rfl) rfl ?_
 refine st (OpT.c1 (ms := [.flat, .flat]) (c_internal_strconv_FormatInt n (by omega)) (H rfl) (Af (T1 rfl) rfl rfl <| Af (T1 rfl) rfl rfl <| An) rfl rfl) rfl ?_
 refine st (asT rfl) rfl ?_
 refine ng ?_
 refine AW.ret ?_
 exact rt1 rfl (.inl rfl) rfl

/-- strconv.Itoa -/
theorem c_internal_strconv_Itoa (n : Nat) (h : n < 100) : AC Tryd.prog 158 [.cel (Kd.int .i64) (n : Int)] [.cel Kd.str (decB n)] [] := by
 refine acI (N := 5) Tryd.func158 (Nat.le_of_ble_eq_true rfl) rfl fun w0 hd s0 ar => ?_
 refine AW.to (kc 0 rfl <| Kn) ?_
 refine sr ?_
 refine st (OpT.move (A := .cel _ _) (.inr rfl) rfl (ok' rfl) (Opd.str (by decide)) rfl) rfl ?_
 refine ng ?_
 refine sr ?_
 refine st (mvT rfl) rfl ?_
 refine st (OpT.c1 (ms := [.flat, .flat]) (c_internal_strconv_FormatInt n (by omega)) (H rfl) (Af (T1 rfl) rfl rfl <| Af (I rfl) rfl rfl <| An) rfl rfl) rfl ?_
 refine st (asT rfl) rfl ?_
 refine ng ?_
 refine AW.ret ?_
 exact rt1 rfl (.inl rfl) rfl

/-- strconv.Itoa -/
theorem c_strconv_Itoa (n : Nat) (h : n < 100) : AC Tryd.prog 132 [.cel (Kd.int .i64) (n : Int)] [.cel Kd.str (decB n)] [] := by
 refine acI (N := 5) Tryd.func132 (Nat.le_of_ble_eq_true rfl) rfl fun w0 hd s0 ar => ?_
 refine AW.to (kc 0 rfl <| Kn) ?_
 refine sr ?_
 refine st (OpT.move (A := .cel _ _) (.inr rfl) rfl (ok' rfl) (Opd.str (by decide)) rfl) rfl ?_
 refine ng ?_
 refine sr ?_
 refine st (mvT rfl) rfl ?_
 refine st (OpT.c1 (ms := [.flat]) (c_internal_strconv_Itoa n (by omega)) (H rfl) (Af (T1 rfl) rfl rfl <| An) rfl rfl) rfl ?_
 refine st (asT rfl) rfl ?_
 refine ng ?_
 refine AW.ret ?_
 exact rt1 rfl (.inl rfl) rfl

/-- impl.cardText -/
theorem c_impl_cardText (x : DCard) (h : x.1.size ≤ 16) : AC Tryd.prog 131 [.agg kCard x] [.cel Kd.str (cdT x)] [] := by
 refine acI (N := 23) Tryd.func131 (Nat.le_of_ble_eq_true rfl) rfl fun w0 hd s0 ar => ?_
 refine AW.to (ka 0 rfl <| Kn) ?_
 refine sr ?_
 refine st (OpT.frz (OpT.boxA (E := 101) (H rfl) (T1 rfl))) rfl ?_
 refine st (OpT.move (A := .cel _ _) (.inr rfl) rfl (ok' rfl) (Opd.str (by decide)) rfl) rfl ?_
 refine ng ?_
 refine sr ?_
 refine st (OpT.fieldAddr (H rfl) (T1 rfl) fd101_0 sz9 (by decide) sb101_0) rfl ?_
 refine st (OpT.load (H rfl) (T1 rfl) ag9 rfl) rfl ?_
 refine st (asT rfl) rfl ?_
 refine ng ?_
 refine AW.seq ?_
 refine sr ?_
 refine st (OpT.fieldAddr (H rfl) (T1 rfl) fd101_1 sz55 (by decide) sb101_1) rfl ?_
 refine st (OpT.loadA (H rfl) (T1 rfl) ag55 sz55) rfl ?_
 refine st (OpT.c1 (ms := [.flat]) (c_impl_Mask_holes _) (H rfl) (Af (T1 rfl) rfl rfl <| An) rfl rfl) rfl ?_
 refine st (OpT.len (H rfl) (T1 rfl) el75) rfl ?_
 refine st (mvI rfl) rfl ?_
 refine ng ?_
 refine AW.block ?_
 refine AW.loop (fun z : Nat => z ≤ (hol x.2 96).length) (fun z : Nat => keep [(3, .cel Kd.str (((hol x.2 96).take z).foldl cdF x.1)), (10, .cel (Kd.slice (Kd.int .i64)) (hol x.2 96)), (11, .cel (Kd.int .i64) ((hol x.2 96).length : Int)), (12, .cel (Kd.int .i64) (z : Int))]) (fun z : Nat => (hol x.2 96).length - z) (0) (Nat.zero_le _) (Kc 3 _ (Kv rfl rfl) <| Kc 10 _ (Kv rfl rfl) <| Kc 11 _ (Kv rfl rfl) <| Kc 12 _ (Kv rfl rfl) <| Kn) ?_
 intro z hI
 have hts := cdF_at x.2 x.1 z
 have hq := hol_len x.2 96
 refine sr ?_
 refine st (OpT.lss (H rfl) (T1 rfl) (T1 rfl)) rfl ?_
 refine ng ?_
 refine AW.seq ?_
 refine cd rfl (fun hc1 => ?_) fun hc1 => ?_
 ·
  obtain ⟨hc1, hc1'⟩ := pT hc1
  obtain ⟨v, hv⟩ := getI (x := hol x.2 96) (z := z) (by omega)
  have hvr := hol_mem (mem_getI hv)
  obtain ⟨n, rfl⟩ := Int.eq_ofNat_of_zero_le hvr.1
  have hds := decB_size (n := n) (by omega)
  refine AW.skip ?_
  refine AX.go ?_
  refine AW.seq ?_
  refine AW.block ?_
  refine sr ?_
  refine st (OpT.indexAddr (H rfl) (T1 rfl) (T1 rfl) el75 sz2 (by omega) (by assumption)) rfl ?_
  refine st (OpT.load (H rfl) (T1 rfl) ag2 rfl) rfl ?_
  refine st (asT rfl) rfl ?_
  refine ng ?_
  refine AW.region ?_
  refine st (mvT rfl) rfl ?_
  refine st (mvT rfl) rfl ?_
  refine st (OpT.c1 (ms := [.flat, .flat]) (c_strconv_FormatInt n (by omega)) (H rfl) (Af (T1 rfl) rfl rfl <| Af (I rfl) rfl rfl <| An) rfl rfl) rfl ?_
  refine st (OpT.sadd (H rfl) (Opd.str (by decide)) (T1 rfl) (by simp only [ByteArray.size_append, bsz, bOf_size, List.size_toArray, List.length_cons, List.length_nil, List.length_set, List.length_replicate]; omega)) rfl ?_
  refine st (OpT.sadd (H rfl) (T1 rfl) (T1 rfl) (by simp only [ByteArray.size_append, bsz, bOf_size, List.size_toArray, List.length_cons, List.length_nil, List.length_set, List.length_replicate]; omega)) rfl ?_
  refine st (asT rfl) rfl ?_
  refine nn ?_
  refine AX.normal_block ?_
  refine AX.go ?_
  refine AW.region ?_
  refine st (OpT.add (H rfl) (T1 rfl) (I rfl) (nw (by omega))) rfl ?_
  refine st (mvT rfl) rfl ?_
  refine nn ?_
  exact AX.again (z + 1) (by omega) (by omega) (Kc 3 _ (Kv rfl (by rw [← foldl_more (f := cdF) hv, cdF]; rfl)) <| Kc 10 _ (Kv rfl rfl) <| Kc 11 _ (Kv rfl rfl) <| Kc 12 _ (Kv rfl (by omega)) <| Kn)
 ·
  obtain ⟨hc1, hc1'⟩ := pF hc1
  refine AW.exit ?_
  refine xT <| xT <| AX.exit_hit ?_
  refine AX.go ?_
  refine sr ?_
  refine st (mvT rfl) rfl ?_
  refine st (asT rfl) rfl ?_
  refine ng ?_
  refine AW.ret ?_
  exact rt1 rfl (.inl rfl) (by rw [cdT, List.take_of_length_le (by omega)])

/-- spec.l01Text -/
theorem c_spec_l01Text (x : DCard) (h : x.1.size ≤ 16) : AC Tryd.prog 129 [.cel (Kd.ptr kCard) x] [.cel Kd.str (cdT x)] [] := by
 refine acI (N := 30) Tryd.func129 (Nat.le_of_ble_eq_true rfl) rfl fun w0 hd s0 ar => ?_
 refine AW.to (kc 0 rfl <| Kn) ?_
 refine sr ?_
 refine st (OpT.move (A := .cel _ _) (.inr rfl) rfl (ok' rfl) (Opd.str (by decide)) rfl) rfl ?_
 refine ng ?_
 refine sr ?_
 refine st (mvT rfl) rfl ?_
 refine st (OpT.nilCheck (H rfl) (T1 rfl)) rfl ?_
 refine st (OpT.fieldAddr (H rfl) (T1 rfl) fd101_0 sz9 (by decide) sb101_0) rfl ?_
 refine st (OpT.load (H rfl) (T1 rfl) ag9 rfl) rfl ?_
 refine st (asT rfl) rfl ?_
 refine ng ?_
 refine sr ?_
 refine st (mvT rfl) rfl ?_
 refine st (OpT.nilCheck (H rfl) (T1 rfl)) rfl ?_
 refine st (OpT.fieldAddr (H rfl) (T1 rfl) fd101_1 sz55 (by decide) sb101_1) rfl ?_
 refine st (OpT.loadA (H rfl) (T1 rfl) ag55 sz55) rfl ?_
 refine st (OpT.c1 (ms := [.flat]) (c_spec_l01Holes _) (H rfl) (Af (T1 rfl) rfl rfl <| An) rfl rfl) rfl ?_
 refine st (asT rfl) rfl ?_
 refine ng ?_
 refine AW.seq ?_
 refine sr ?_
 refine st (asI rfl) rfl ?_
 refine ng ?_
 refine AW.block ?_
 refine AW.loop (fun z : Nat => z ≤ (hol x.2 96).length) (fun z : Nat => keep [(3, .cel Kd.str (((hol x.2 96).take z).foldl cdF x.1)), (4, .cel (Kd.slice (Kd.int .i64)) (hol x.2 96)), (5, .cel (Kd.int .i64) (z : Int))]) (fun z : Nat => (hol x.2 96).length - z) (0) (Nat.zero_le _) (Kc 3 _ (Kv rfl rfl) <| Kc 4 _ (Kv rfl rfl) <| Kc 5 _ (Kv rfl rfl) <| Kn) ?_
 intro z hI
 have hts := cdF_at x.2 x.1 z
 have hq := hol_len x.2 96
 refine AW.seq ?_
 refine sr ?_
 refine st (mvT rfl) rfl ?_
 refine st (mvT rfl) rfl ?_
 refine st (OpT.len (H rfl) (T1 rfl) el75) rfl ?_
 refine st (OpT.lss (H rfl) (T1 rfl) (T1 rfl)) rfl ?_
 refine ng ?_
 refine cd rfl (fun hc1 => ?_) fun hc1 => ?_
 ·
  obtain ⟨hc1, hc1'⟩ := pT hc1
  obtain ⟨v, hv⟩ := getI (x := hol x.2 96) (z := z) (by omega)
  have hvr := hol_mem (mem_getI hv)
  obtain ⟨n, rfl⟩ := Int.eq_ofNat_of_zero_le hvr.1
  have hds := decB_size (n := n) (by omega)
  refine AW.skip ?_
  refine AX.go ?_
  refine AW.seq ?_
  refine AW.block ?_
  refine AW.region ?_
  refine st (mvT rfl) rfl ?_
  refine st (mvT rfl) rfl ?_
  refine st (mvT rfl) rfl ?_
  refine st (OpT.indexAddr (H rfl) (T1 rfl) (T1 rfl) el75 sz2 (by omega) (by assumption)) rfl ?_
  refine st (OpT.load (H rfl) (T1 rfl) ag2 rfl) rfl ?_
  refine st (OpT.c1 (ms := [.flat]) (c_spec_Decimal n) (H rfl) (Af (T1 rfl) rfl rfl <| An) rfl rfl) rfl ?_
  refine st (OpT.sadd (H rfl) (Opd.str (by decide)) (T1 rfl) (by simp only [ByteArray.size_append, bsz, bOf_size, List.size_toArray, List.length_cons, List.length_nil, List.length_set, List.length_replicate]; omega)) rfl ?_
  refine st (OpT.sadd (H rfl) (T1 rfl) (T1 rfl) (by simp only [ByteArray.size_append, bsz, bOf_size, List.size_toArray, List.length_cons, List.length_nil, List.length_set, List.length_replicate]; omega)) rfl ?_
  refine st (asT rfl) rfl ?_
  refine nn ?_
  refine AX.normal_block ?_
  refine AX.go ?_
  refine AW.region ?_
  refine st (mvT rfl) rfl ?_
  refine st (OpT.add (H rfl) (T1 rfl) (I rfl) (nw (by omega))) rfl ?_
  refine st (asT rfl) rfl ?_
  refine nn ?_
  exact AX.again (z + 1) (by omega) (by omega) (Kc 3 _ (Kv rfl (by rw [← foldl_more (f := cdF) hv, cdF]; rfl)) <| Kc 4 _ (Kv rfl rfl) <| Kc 5 _ (Kv rfl (by omega)) <| Kn)
 ·
  obtain ⟨hc1, hc1'⟩ := pF hc1
  refine AW.exit ?_
  refine xT <| xT <| AX.exit_hit ?_
  refine AX.go ?_
  refine sr ?_
  refine st (mvT rfl) rfl ?_
  refine st (asT rfl) rfl ?_
  refine ng ?_
  refine AW.ret ?_
  exact rt1 rfl (.inl rfl) (by rw [cdT, List.take_of_length_le (by omega)])

/-- spec.l07Words -/
theorem c_spec_l07Words  : AC Tryd.prog 128 [] [.cel (Kd.slice Kd.str) edWL] [] := by
 refine acI (N := 2) Tryd.func128 (Nat.le_of_ble_eq_true rfl) rfl fun w0 hd s0 ar => ?_
 refine AW.to (Kn) ?_
 refine sr ?_
 refine st (OpT.move (A := .cel _ _) (.inr rfl) rfl (ok' rfl) (Opd.nilslice Kd.str) rfl) rfl ?_
 refine ng ?_
 refine sr ?_
 refine st (OpT.buildSlice (H rfl) el33 zr9 sz9 rfl (by decide) zk9 (by decide) (Built.cel (Opd.str (by decide)) rfl rfl (sub_arr (by decide) (.empty : ByteArray)) (Built.cel (Opd.str (by decide)) rfl rfl (sub_arr (by decide) (.empty : ByteArray)) (Built.cel (Opd.str (by decide)) rfl rfl (sub_arr (by decide) (.empty : ByteArray)) (Built.cel (Opd.str (by decide)) rfl rfl (sub_arr (by decide) (.empty : ByteArray)) (Built.cel (Opd.str (by decide)) rfl rfl (sub_arr (by decide) (.empty : ByteArray)) (Built.nil _))))))) rfl ?_
 refine sg (OpT.take (.inl rfl) rfl (ok' rfl) (Root.self (by decide)) rfl rfl (by decide)) (ko 0 rfl <| Kn) rfl ?_
 refine ng ?_
 refine AW.ret ?_
 refine AX.freeze (t := 0) rfl ?_
 refine AX.pr (kc 0 rfl <| Kn) ?_
 exact rt1 rfl (.inl rfl) rfl

/-- impl.editText -/
theorem c_impl_editText (e : DEdit) (he : editB e = true) : AC Tryd.prog 83 [.agg kEdit e] [.cel Kd.str (edW e.1 ++ bsp ++ edR e)] [] := by
 refine acI (N := 37) Tryd.func83 (Nat.le_of_ble_eq_true rfl) rfl fun w0 hd s0 ar => ?_
 refine AW.to (ka 0 rfl <| Kn) ?_
 have hkd := edit_kind he
 have hnm := edit_name he
 have hww := edW_size hkd
 have hrs := edR_size he
 have hxg := edX_get hkd
 have hxs : (edXL.getD e.1.toNat .empty).size ≤ 6 := by rw [hxg, ByteArray.size_append]; have : bsp.size = 1 := rfl; omega
 have hcs := cdT_size (e.2.1, e.2.2.2)
 refine sr ?_
 refine st (OpT.frz (OpT.boxA (E := 57) (H rfl) (T1 rfl))) rfl ?_
 refine st (OpT.move (A := .cel _ _) (.inr rfl) rfl (ok' rfl) (Opd.str (by decide)) rfl) rfl ?_
 refine ng ?_
 refine sr ?_
 refine st (OpT.buildA (H rfl) ar163 sz9 zr163 zk163 (Built.cel (Opd.str (by decide)) rfl rfl (sub_arr (by decide) (.empty : ByteArray)) (Built.cel (Opd.str (by decide)) rfl rfl (sub_arr (by decide) (.empty : ByteArray)) (Built.cel (Opd.str (by decide)) rfl rfl (sub_arr (by decide) (.empty : ByteArray)) (Built.cel (Opd.str (by decide)) rfl rfl (sub_arr (by decide) (.empty : ByteArray)) (Built.cel (Opd.str (by decide)) rfl rfl (sub_arr (by decide) (.empty : ByteArray)) (Built.nil _))))))) rfl ?_
 refine st (OpT.alloc (H rfl) zr163 zk163) rfl ?_
 refine sk (OpT.storeBA rfl rfl (Opd.whole (Root.self (t := 3) (by decide)) rfl) rfl sz163 (by decide) (T1 rfl)) rfl ?_
 refine ng ?_
 refine AW.seq ?_
 refine sr ?_
 refine st (OpT.fieldAddr (H rfl) (T1 rfl) fd57_0 sz47 (by decide) sb57_0) rfl ?_
 refine st (OpT.load (H rfl) (T1 rfl) ag47 rfl) rfl ?_
 refine st (OpT.eql (H rfl) (T1 rfl) (I rfl)) rfl ?_
 refine st (mvT rfl) rfl ?_
 apply AWl.or (d := 12) (t := 8) rfl
 ·
  intro hb1 Q1 k1
  have hb1' := lF hb1
  refine rs hb1 (OpT.fieldAddr (H rfl) (T1 rfl) fd57_0 sz47 (by decide) sb57_0) rfl ?_
  refine rs hb1 (OpT.load (H rfl) (T1 rfl) ag47 rfl) rfl ?_
  refine rs hb1 (OpT.eql (H rfl) (T1 rfl) (I rfl)) rfl ?_
  refine st (OpT.pickF (A := .cel _ _) (H rfl) (T1 rfl) hb1 (T1 rfl) rfl) rfl ?_
  exact AWl.to (junk 3 rfl) k1
 ·
  intro hb1 Q1 k1
  refine ps hb1 rfl ?_
  refine ps hb1 rfl ?_
  refine ps hb1 rfl ?_
  refine st (OpT.pickT (A := .cel _ _) (H rfl) (T1 rfl) hb1 Opd.bool rfl) rfl ?_
  exact k1
 refine AWl.to (kc 12 rfl <| kb 3 rfl <| kc2 2 1 rfl <| Kn) ?_
 refine ng ?_
 refine cd rfl (fun hc1 => ?_) fun hc1 => ?_
 ·
  obtain ⟨hc1, hc1'⟩ := pT hc1
  refine AW.seq ?_
  refine dh fomo ?_
  refine d1 [1] (fun ve h => OpT.fieldAddr (H rfl) (D1 h rfl) fd57_0 sz47 (by decide) sb57_0) rfl ?_
  refine d1 [13] (fun ve h => OpT.load (H rfl) (D1 h rfl) ag47 rfl) rfl ?_
  refine d1 [3, 14] (fun ve h => OpT.indexAddrB (H rfl) (Root.self (t := 3) (by decide)) ((h _ (List.elem_iff.1 rfl)).trans rfl) (by decide) (D1 h rfl) ar163 sz9 (by omega) (sub_arr (by omega) (.empty : ByteArray))) rfl ?_
  refine d1 [3, 15] (fun ve h => OpT.loadP (H rfl) (D1 h rfl) (.inl ⟨_, ((h _ (List.elem_iff.1 rfl)).trans rfl), rfl⟩) ag9 rfl) rfl ?_
  refine d1 [1] (fun ve h => OpT.fieldAddr (H rfl) (D1 h rfl) fd57_1 sz9 (by decide) sb57_1) rfl ?_
  refine d1 [17] (fun ve h => OpT.load (H rfl) (D1 h rfl) ag9 rfl) rfl ?_
  refine d1 [1] (fun ve h => OpT.fieldAddr (H rfl) (D1 h rfl) fd57_3 sz55 (by decide) sb57_3) rfl ?_
  refine d1 [19] (fun ve h => OpT.loadA (H rfl) (D1 h rfl) ag55 sz55) rfl ?_
  refine d1 [18, 20] (fun ve h => OpT.build (H rfl) pl101 zr101 zk101 (Built.cel (D1 h rfl) rfl rfl sb101_0 (Built.agg (D1 h rfl) rfl (by decide) sb101_1 (Built.nil _)))) rfl ?_
  refine d1 [21] (fun ve h => OpT.c1 (ms := [.flat]) (c_impl_cardText _ hnm) (H rfl) (Af (D1 h rfl) rfl rfl <| An) rfl rfl) rfl ?_
  refine d1 [16, 22] (fun ve h => OpT.sadd (H rfl) (D1 h rfl) (D1 h rfl) (by show (edXL.getD e.1.toNat .empty).size + (cdT (e.2.1, e.2.2.2)).size ≤ _; simp only [] at hcs; omega)) rfl ?_
  refine d1 [23] (fun ve h => OpT.move (A := .cel _ _) (.inr rfl) rfl (ok' rfl) (D1 h rfl) rfl) rfl ?_
  refine dn ⟨by kernel_rfl, by kernel_rfl, ?_⟩
  refine AX.pr (kc 2 rfl <| kb 3 rfl <| kc 1 rfl <| Kn) ?_
  refine AX.go ?_
  refine AW.ret ?_
  refine rT ?_
  exact rt1 rfl (.inl rfl) (by first | (rw [← hxg, edR_12 (by omega)]; rfl) | (rw [← hxg, edR_34 (by omega), show e.2.2.1.toNat = n by omega]; show edXL.getD e.1.toNat .empty ++ e.2.1 ++ bsp ++ decB n = _; simp only [ByteArray.append_assoc]))
 ·
  obtain ⟨hc1, hc1'⟩ := pF hc1
  have hho := edit_hole he (by omega) (by omega)
  obtain ⟨n, hn⟩ := Int.eq_ofNat_of_zero_le hho.1
  have hds := decB_size (n := n) (by omega)
  refine AW.skip ?_
  refine AX.pr (kb 3 rfl <| kc2 2 1 rfl <| Kn) ?_
  refine AX.go ?_
  refine AW.seq ?_
  refine dh fomo ?_
  refine d1 [1] (fun ve h => OpT.fieldAddr (H rfl) (D1 h rfl) fd57_0 sz47 (by decide) sb57_0) rfl ?_
  refine d1 [24] (fun ve h => OpT.load (H rfl) (D1 h rfl) ag47 rfl) rfl ?_
  refine d1 [3, 25] (fun ve h => OpT.indexAddrB (H rfl) (Root.self (t := 3) (by decide)) ((h _ (List.elem_iff.1 rfl)).trans rfl) (by decide) (D1 h rfl) ar163 sz9 (by omega) (sub_arr (by omega) (.empty : ByteArray))) rfl ?_
  refine d1 [3, 26] (fun ve h => OpT.loadP (H rfl) (D1 h rfl) (.inl ⟨_, ((h _ (List.elem_iff.1 rfl)).trans rfl), rfl⟩) ag9 rfl) rfl ?_
  refine d1 [1] (fun ve h => OpT.fieldAddr (H rfl) (D1 h rfl) fd57_1 sz9 (by decide) sb57_1) rfl ?_
  refine d1 [28] (fun ve h => OpT.load (H rfl) (D1 h rfl) ag9 rfl) rfl ?_
  refine d1 [27, 29] (fun ve h => OpT.sadd (H rfl) (D1 h rfl) (D1 h rfl) (by show (edXL.getD e.1.toNat .empty).size + e.2.1.size ≤ _; omega)) rfl ?_
  refine d1 [30] (fun ve h => OpT.sadd (H rfl) (D1 h rfl) (Opd.str (by decide)) (by show (edXL.getD e.1.toNat .empty ++ e.2.1).size + 1 ≤ _; rw [ByteArray.size_append]; omega)) rfl ?_
  refine d1 [1] (fun ve h => OpT.fieldAddr (H rfl) (D1 h rfl) fd57_2 sz48 (by decide) sb57_2) rfl ?_
  refine d1 [32] (fun ve h => OpT.load (H rfl) (D1 h rfl) ag48 rfl) rfl ?_
  refine d1 [33] (fun ve h => OpT.conv (H rfl) us48 Tryd.underlying3 (D1 h rfl) (nw (by omega))) rfl ?_
  refine d1 [34] (fun ve h => OpT.c1 (ms := [.flat]) (by rw [hn]; exact c_strconv_Itoa n (by omega)) (H rfl) (Af (D1 h rfl) rfl rfl <| An) rfl rfl) rfl ?_
  refine d1 [31, 35] (fun ve h => OpT.sadd (H rfl) (D1 h rfl) (D1 h rfl) (by show (edXL.getD e.1.toNat .empty ++ e.2.1 ++ bsp).size + (decB n).size ≤ _; rw [ByteArray.size_append, ByteArray.size_append]; have : bsp.size = 1 := rfl; omega)) rfl ?_
  refine d1 [36] (fun ve h => OpT.move (A := .cel _ _) (.inr rfl) rfl (ok' rfl) (D1 h rfl) rfl) rfl ?_
  refine dn ⟨by kernel_rfl, by kernel_rfl, ?_⟩
  refine AX.pr (kc 2 rfl <| Kn) ?_
  refine AX.go ?_
  refine AW.ret ?_
  exact rt1 rfl (.inl rfl) (by first | (rw [← hxg, edR_12 (by omega)]; rfl) | (rw [← hxg, edR_34 (by omega), show e.2.2.1.toNat = n by omega]; show edXL.getD e.1.toNat .empty ++ e.2.1 ++ bsp ++ decB n = _; simp only [ByteArray.append_assoc]))

/-- impl.EditsText -/
theorem c_impl_EditsText (x : List DEdit) : AC Tryd.prog 41 [.cel (Kd.slice kEdit) x] [.cel Kd.str (txtS x)] [] := by
 refine acI (N := 27) Tryd.func41 (Nat.le_of_ble_eq_true rfl) rfl fun w0 hd s0 ar => ?_
 refine AW.to (kc 0 rfl <| Kn) ?_
 refine AW.fact (fun a w hr => (ok_slice (R_ok (t := 0) rfl hr)).2) (fun hl0 => ?_)
 refine sr ?_
 refine st (OpT.move (A := .cel _ _) (.inr rfl) rfl (ok' rfl) (Opd.str (by decide)) rfl) rfl ?_
 refine ng ?_
 refine AW.seq ?_
 refine sr ?_
 refine st (mvT rfl) rfl ?_
 refine st (OpT.c1 (ms := [.flat]) (c_impl_areEdits _) (H rfl) (Af (T1 rfl) rfl rfl <| An) rfl rfl) rfl ?_
 refine st (OpT.not (H rfl) (T1 rfl)) rfl ?_
 refine st (mvT rfl) rfl ?_
 apply AWl.or (d := 13) (t := 9) rfl
 ·
  intro hb1 Q1 k1
  have hb1' := lF hb1
  refine rs hb1 (mvT rfl) rfl ?_
  refine rs hb1 (OpT.len (H rfl) (T1 rfl) el24) rfl ?_
  refine rs hb1 (OpT.gtr (H rfl) (T1 rfl) (I rfl)) rfl ?_
  refine st (OpT.pickF (A := .cel _ _) (H rfl) (T1 rfl) hb1 (T1 rfl) rfl) rfl ?_
  exact AWl.to (junk 3 rfl) k1
 ·
  intro hb1 Q1 k1
  refine ps hb1 rfl ?_
  refine ps hb1 rfl ?_
  refine ps hb1 rfl ?_
  refine st (OpT.pickT (A := .cel _ _) (H rfl) (T1 rfl) hb1 Opd.bool rfl) rfl ?_
  exact k1
 refine ng ?_
 refine cd rfl (fun hc1 => ?_) fun hc1 => ?_
 ·
  obtain ⟨hc1, hc1'⟩ := pT hc1
  refine sr ?_
  refine st (OpT.move (A := .cel _ _) (.inr rfl) rfl (ok' rfl) (Opd.str (by decide)) rfl) rfl ?_
  refine ng ?_
  refine AW.ret ?_
  refine rT ?_
  exact rt1 rfl (.inl rfl) (by first | (rw [txt_no hc1]; first | done | rfl) | (rw [txt_yes hc1, edT, List.take_of_length_le (by omega)]))
 ·
  obtain ⟨hc1, hc1'⟩ := pF hc1
  have hin := txt_in hc1
  have hok := hin.1
  have hl2 := hin.2
  refine AW.skip ?_
  refine AX.go ?_
  refine sr ?_
  refine st (OpT.move (A := .cel _ _) (.inr rfl) rfl (ok' rfl) (Opd.str (by decide)) rfl) rfl ?_
  refine ng ?_
  refine AW.seq ?_
  refine sr ?_
  refine st (mvT rfl) rfl ?_
  refine st (OpT.len (H rfl) (T1 rfl) el24) rfl ?_
  refine st (mvI rfl) rfl ?_
  refine ng ?_
  refine AW.block ?_
  refine AW.loop (fun z : Nat => z ≤ x.length) (fun z : Nat => keep [(3, .cel Kd.str ((x.take z).foldl edF .empty)), (14, .cel (Kd.slice kEdit) x), (15, .cel (Kd.int .i64) (x.length : Int)), (16, .cel (Kd.int .i64) (z : Int))]) (fun z : Nat => x.length - z) (0) (Nat.zero_le _) (Kc 3 _ (Kv rfl rfl) <| Kc 14 _ (Kv rfl rfl) <| Kc 15 _ (Kv rfl rfl) <| Kc 16 _ (Kv rfl rfl) <| Kn) ?_
  intro z hI
  have hts := edT_at hok hl2 z
  refine sr ?_
  refine st (OpT.lss (H rfl) (T1 rfl) (T1 rfl)) rfl ?_
  refine ng ?_
  refine AW.seq ?_
  refine cd rfl (fun hc2 => ?_) fun hc2 => ?_
  ·
   obtain ⟨hc2, hc2'⟩ := pT hc2
   obtain ⟨e, he⟩ := getI (x := x) (z := z) (by omega)
   have hed := all_get hok he
   have hkd := edit_kind hed
   have hww := edW_size hkd
   have hrs := edR_size hed
   refine AW.skip ?_
   refine AX.go ?_
   refine AW.seq ?_
   refine AW.block ?_
   refine sr ?_
   refine st (OpT.indexAddr (H rfl) (T1 rfl) (T1 rfl) el24 sz57 (by omega) (by assumption)) rfl ?_
   refine st (OpT.loadA (H rfl) (T1 rfl) ag57 sz57) rfl ?_
   refine st (OpT.alloc (H rfl) zr57 zk57) rfl ?_
   refine sk (OpT.storeBA rfl rfl (Opd.whole (Root.self (t := 5) (by decide)) rfl) rfl sz57 (by decide) (T1 rfl)) rfl ?_
   refine ng ?_
   refine AW.region ?_
   refine st (mvT rfl) rfl ?_
   refine st (OpT.loadB (H rfl) (Root.self (t := 5) (by decide)) rfl ag57 sz57) rfl ?_
   refine st (OpT.c1 (ms := [.flat]) (c_impl_editText _ hed) (H rfl) (Af (T1 rfl) rfl rfl <| An) rfl rfl) rfl ?_
   refine st (OpT.sadd (H rfl) (T1 rfl) (Opd.str (by decide)) (by have : bsp.size = 1 := rfl; simp only [ByteArray.size_append, bsz, List.size_toArray, List.length_cons, List.length_nil]; omega)) rfl ?_
   refine st (OpT.sadd (H rfl) (T1 rfl) (T1 rfl) (by have : bsp.size = 1 := rfl; simp only [ByteArray.size_append, bsz, List.size_toArray, List.length_cons, List.length_nil]; omega)) rfl ?_
   refine st (asT rfl) rfl ?_
   refine nn ?_
   refine AX.normal_block ?_
   refine AX.go ?_
   refine AW.region ?_
   refine st (OpT.add (H rfl) (T1 rfl) (I rfl) (nw (by omega))) rfl ?_
   refine st (mvT rfl) rfl ?_
   refine nn ?_
   exact AX.again (z + 1) (by omega) (by omega) (Kc 3 _ (Kv rfl (by rw [← foldl_more (f := edF) he]; exact edF_impl _ _)) <| Kc 14 _ (Kv rfl rfl) <| Kc 15 _ (Kv rfl rfl) <| Kc 16 _ (Kv rfl (by omega)) <| Kn)
  ·
   obtain ⟨hc2, hc2'⟩ := pF hc2
   refine AW.exit ?_
   refine xT <| xT <| AX.exit_hit ?_
   refine AX.go ?_
   refine sr ?_
   refine st (mvT rfl) rfl ?_
   refine st (asT rfl) rfl ?_
   refine ng ?_
   refine AW.ret ?_
   exact rt1 rfl (.inl rfl) (by first | (rw [txt_no hc1]; first | done | rfl) | (rw [txt_yes hc1, edT, List.take_of_length_le (by omega)]))

/-- spec.l07Text -/
theorem c_spec_l07Text (x : List DEdit) (hok : x.all editB = true) (hl2 : x.length ≤ 200) : AC Tryd.prog 82 [.cel (Kd.slice kEdit) x] [.cel Kd.str (edT x)] [] := by
 refine acI (N := 67) Tryd.func82 (Nat.le_of_ble_eq_true rfl) rfl fun w0 hd s0 ar => ?_
 refine AW.to (kc 0 rfl <| Kn) ?_
 refine AW.fact (fun a w hr => (ok_slice (R_ok (t := 0) rfl hr)).2) (fun hl0 => ?_)
 refine sr ?_
 refine st (OpT.move (A := .cel _ _) (.inr rfl) rfl (ok' rfl) (Opd.str (by decide)) rfl) rfl ?_
 refine ng ?_
 refine sr ?_
 refine st (OpT.move (A := .cel _ _) (.inr rfl) rfl (ok' rfl) (Opd.str (by decide)) rfl) rfl ?_
 refine ng ?_
 refine AW.seq ?_
 refine sr ?_
 refine st (asI rfl) rfl ?_
 refine ng ?_
 refine AW.block ?_
 refine AW.loop (fun z : Nat => z ≤ x.length) (fun z : Nat => keep [(0, .cel (Kd.slice kEdit) x), (3, .cel Kd.str ((x.take z).foldl edF .empty)), (4, .cel (Kd.int .i64) (z : Int))]) (fun z : Nat => x.length - z) (0) (Nat.zero_le _) (Kc 0 _ (Kv rfl rfl) <| Kc 3 _ (Kv rfl rfl) <| Kc 4 _ (Kv rfl rfl) <| Kn) ?_
 intro z hI
 have hts := edT_at hok hl2 z
 refine AW.seq ?_
 refine sr ?_
 refine st (mvT rfl) rfl ?_
 refine st (mvT rfl) rfl ?_
 refine st (OpT.len (H rfl) (T1 rfl) el24) rfl ?_
 refine st (OpT.lss (H rfl) (T1 rfl) (T1 rfl)) rfl ?_
 refine ng ?_
 refine cd rfl (fun hc1 => ?_) fun hc1 => ?_
 ·
  obtain ⟨hc1, hc1'⟩ := pT hc1
  obtain ⟨e, he⟩ := getI (x := x) (z := z) (by omega)
  have hed := all_get hok he
  have hkd := edit_kind hed
  have hww := edW_size hkd
  have hnm := edit_name hed
  have hwg := edW_get hkd
  refine AW.skip ?_
  refine AX.go ?_
  refine AW.seq ?_
  refine AW.block ?_
  refine sr ?_
  refine st (mvT rfl) rfl ?_
  refine st (mvT rfl) rfl ?_
  refine st (OpT.indexAddr (H rfl) (T1 rfl) (T1 rfl) el24 sz57 (by omega) (by assumption)) rfl ?_
  refine st (asT rfl) rfl ?_
  refine ng ?_
  refine AW.seq ?_
  refine dh fomo ?_
  refine d1 [3] (fun ve h => OpT.move (A := .cel _ _) (.inl rfl) rfl (ok' rfl) (D1 h rfl) rfl) rfl ?_
  refine d1 [] (fun ve h => OpT.c1 (ms := []) (c_spec_l07Words ) (H rfl) (An) rfl rfl) rfl ?_
  refine d1 [5] (fun ve h => OpT.move (A := .cel _ _) (.inl rfl) rfl (ok' rfl) (D1 h rfl) rfl) rfl ?_
  refine d1 [17] (fun ve h => OpT.nilCheck (H rfl) (D1 h rfl)) rfl ?_
  refine d1 [18] (fun ve h => OpT.fieldAddr (H rfl) (D1 h rfl) fd57_0 sz47 (by decide) sb57_0) rfl ?_
  refine d1 [19] (fun ve h => OpT.load (H rfl) (D1 h rfl) ag47 rfl) rfl ?_
  refine d1 [16, 20] (fun ve h => OpT.indexAddr (H rfl) (D1 h rfl) (D1 h rfl) el33 sz9 (by omega) (by assumption)) rfl ?_
  refine d1 [21] (fun ve h => OpT.load (H rfl) (D1 h rfl) ag9 rfl) rfl ?_
  refine d1 [22] (fun ve h => OpT.sadd (H rfl) (D1 h rfl) (Opd.str (by decide)) (by have : bsp.size = 1 := rfl; have hcs := cdT_size (e.2.1, e.2.2.2); simp only [] at hcs; simp only [ByteArray.size_append, bsz, List.size_toArray, List.length_cons, List.length_nil]; omega)) rfl ?_
  refine d1 [15, 23] (fun ve h => OpT.sadd (H rfl) (D1 h rfl) (D1 h rfl) (by have : bsp.size = 1 := rfl; have hcs := cdT_size (e.2.1, e.2.2.2); simp only [] at hcs; simp only [ByteArray.size_append, bsz, List.size_toArray, List.length_cons, List.length_nil]; omega)) rfl ?_
  refine d1 [24] (fun ve h => OpT.move (A := .cel _ _) (.inr rfl) rfl (ok' rfl) (D1 h rfl) rfl) rfl ?_
  refine dn ⟨by kernel_rfl, by kernel_rfl, ?_⟩
  refine AX.go ?_
  refine sr ?_
  refine st (mvT rfl) rfl ?_
  refine st (OpT.nilCheck (H rfl) (T1 rfl)) rfl ?_
  refine st (OpT.fieldAddr (H rfl) (T1 rfl) fd57_0 sz47 (by decide) sb57_0) rfl ?_
  refine st (OpT.load (H rfl) (T1 rfl) ag47 rfl) rfl ?_
  refine st (OpT.eql (H rfl) (T1 rfl) (I rfl)) rfl ?_
  refine st (mvT rfl) rfl ?_
  apply AWl.or (d := 36) (t := 30) rfl
  ·
   intro hb1 Q1 k1
   have hb1' := lF hb1
   refine rs hb1 (mvT rfl) rfl ?_
   refine rs hb1 (OpT.nilCheck (H rfl) (T1 rfl)) rfl ?_
   refine rs hb1 (OpT.fieldAddr (H rfl) (T1 rfl) fd57_0 sz47 (by decide) sb57_0) rfl ?_
   refine rs hb1 (OpT.load (H rfl) (T1 rfl) ag47 rfl) rfl ?_
   refine rs hb1 (OpT.eql (H rfl) (T1 rfl) (I rfl)) rfl ?_
   refine st (OpT.pickF (A := .cel _ _) (H rfl) (T1 rfl) hb1 (T1 rfl) rfl) rfl ?_
   exact AWl.to (junk 5 rfl) k1
  ·
   intro hb1 Q1 k1
   refine ps hb1 rfl ?_
   refine ps hb1 rfl ?_
   refine ps hb1 rfl ?_
   refine ps hb1 rfl ?_
   refine ps hb1 rfl ?_
   refine st (OpT.pickT (A := .cel _ _) (H rfl) (T1 rfl) hb1 Opd.bool rfl) rfl ?_
   exact k1
  refine AWl.to (kc4 36 30 29 28 rfl <| kc4 27 26 25 3 rfl <| kc4 24 23 22 21 rfl <| kc4 20 19 18 17 rfl <| kc4 16 15 5 14 rfl <| kc4 13 12 9 8 rfl <| kc4 7 6 0 4 rfl <| Kn) ?_
  refine ng ?_
  refine cd rfl (fun hc2 => ?_) fun hc2 => ?_
  ·
   obtain ⟨hc2, hc2'⟩ := pT hc2
   refine dh fomo ?_
   refine d1 [3] (fun ve h => OpT.move (A := .cel _ _) (.inl rfl) rfl (ok' rfl) (D1 h rfl) rfl) rfl ?_
   refine d1 [5] (fun ve h => OpT.move (A := .cel _ _) (.inl rfl) rfl (ok' rfl) (D1 h rfl) rfl) rfl ?_
   refine d1 [38] (fun ve h => OpT.nilCheck (H rfl) (D1 h rfl)) rfl ?_
   refine d1 [39] (fun ve h => OpT.fieldAddr (H rfl) (D1 h rfl) fd57_1 sz9 (by decide) sb57_1) rfl ?_
   refine d1 [40] (fun ve h => OpT.load (H rfl) (D1 h rfl) ag9 rfl) rfl ?_
   refine d1 [5] (fun ve h => OpT.move (A := .cel _ _) (.inl rfl) rfl (ok' rfl) (D1 h rfl) rfl) rfl ?_
   refine d1 [42] (fun ve h => OpT.nilCheck (H rfl) (D1 h rfl)) rfl ?_
   refine d1 [43] (fun ve h => OpT.fieldAddr (H rfl) (D1 h rfl) fd57_3 sz55 (by decide) sb57_3) rfl ?_
   refine d1 [44] (fun ve h => OpT.loadA (H rfl) (D1 h rfl) ag55 sz55) rfl ?_
   refine d1 [41, 45] (fun ve h => OpT.build (H rfl) pl101 zr101 zk101 (Built.cel (D1 h rfl) rfl rfl sb101_0 (Built.agg (D1 h rfl) rfl (by decide) sb101_1 (Built.nil _)))) rfl ?_
   refine d1 [46] (fun ve h => OpT.frz (OpT.boxA (E := 101) (H rfl) (D1 h rfl))) rfl ?_
   refine d1 [47] (fun ve h => OpT.c1 (ms := [.flat]) (c_spec_l01Text _ hnm) (H rfl) (Af (D1 h rfl) rfl rfl <| An) rfl rfl) rfl ?_
   refine d1 [48] (fun ve h => OpT.sadd (H rfl) (D1 h rfl) (Opd.str (by decide)) (by have : bsp.size = 1 := rfl; have hcs := cdT_size (e.2.1, e.2.2.2); simp only [] at hcs; simp only [ByteArray.size_append, bsz, List.size_toArray, List.length_cons, List.length_nil]; omega)) rfl ?_
   refine d1 [37, 49] (fun ve h => OpT.sadd (H rfl) (D1 h rfl) (D1 h rfl) (by have : bsp.size = 1 := rfl; have hcs := cdT_size (e.2.1, e.2.2.2); simp only [] at hcs; simp only [ByteArray.size_append, bsz, List.size_toArray, List.length_cons, List.length_nil]; omega)) rfl ?_
   refine d1 [50] (fun ve h => OpT.move (A := .cel _ _) (.inr rfl) rfl (ok' rfl) (D1 h rfl) rfl) rfl ?_
   refine dn ⟨by kernel_rfl, by kernel_rfl, ?_⟩
   refine AX.normal_block ?_
   refine AX.go ?_
   refine AW.region ?_
   refine st (mvT rfl) rfl ?_
   refine st (OpT.add (H rfl) (T1 rfl) (I rfl) (nw (by omega))) rfl ?_
   refine st (asT rfl) rfl ?_
   refine nn ?_
   exact AX.again (z + 1) (by omega) (by omega) (Kc 0 _ (Kv rfl rfl) <| Kc 3 _ (Kv rfl (by rw [← foldl_more (f := edF) he, edF]; first | (rw [edR_12 (by omega)]; rfl) | (rw [edR_34 (by omega), show e.2.2.1.toNat = n by omega]; rfl))) <| Kc 4 _ (Kv rfl (by omega)) <| Kn)
  ·
   obtain ⟨hc2, hc2'⟩ := pF hc2
   have hho := edit_hole hed (by omega) (by omega)
   obtain ⟨n, hn⟩ := Int.eq_ofNat_of_zero_le hho.1
   have hds := decB_size (n := n) (by omega)
   refine dh fomo ?_
   refine d1 [3] (fun ve h => OpT.move (A := .cel _ _) (.inl rfl) rfl (ok' rfl) (D1 h rfl) rfl) rfl ?_
   refine d1 [5] (fun ve h => OpT.move (A := .cel _ _) (.inl rfl) rfl (ok' rfl) (D1 h rfl) rfl) rfl ?_
   refine d1 [52] (fun ve h => OpT.nilCheck (H rfl) (D1 h rfl)) rfl ?_
   refine d1 [53] (fun ve h => OpT.fieldAddr (H rfl) (D1 h rfl) fd57_1 sz9 (by decide) sb57_1) rfl ?_
   refine d1 [54] (fun ve h => OpT.load (H rfl) (D1 h rfl) ag9 rfl) rfl ?_
   refine d1 [55] (fun ve h => OpT.sadd (H rfl) (D1 h rfl) (Opd.str (by decide)) (by have : bsp.size = 1 := rfl; have hcs := cdT_size (e.2.1, e.2.2.2); simp only [] at hcs; simp only [ByteArray.size_append, bsz, List.size_toArray, List.length_cons, List.length_nil]; omega)) rfl ?_
   refine d1 [5] (fun ve h => OpT.move (A := .cel _ _) (.inl rfl) rfl (ok' rfl) (D1 h rfl) rfl) rfl ?_
   refine d1 [57] (fun ve h => OpT.nilCheck (H rfl) (D1 h rfl)) rfl ?_
   refine d1 [58] (fun ve h => OpT.fieldAddr (H rfl) (D1 h rfl) fd57_2 sz48 (by decide) sb57_2) rfl ?_
   refine d1 [59] (fun ve h => OpT.load (H rfl) (D1 h rfl) ag48 rfl) rfl ?_
   refine d1 [60] (fun ve h => OpT.conv (H rfl) us48 Tryd.underlying2 (D1 h rfl) (nw (by omega))) rfl ?_
   refine d1 [61] (fun ve h => OpT.c1 (ms := [.flat]) (by rw [hn]; exact c_spec_Decimal n) (H rfl) (Af (D1 h rfl) rfl rfl <| An) rfl rfl) rfl ?_
   refine d1 [56, 62] (fun ve h => OpT.sadd (H rfl) (D1 h rfl) (D1 h rfl) (by have : bsp.size = 1 := rfl; have hcs := cdT_size (e.2.1, e.2.2.2); simp only [] at hcs; simp only [ByteArray.size_append, bsz, List.size_toArray, List.length_cons, List.length_nil]; omega)) rfl ?_
   refine d1 [63] (fun ve h => OpT.sadd (H rfl) (D1 h rfl) (Opd.str (by decide)) (by have : bsp.size = 1 := rfl; have hcs := cdT_size (e.2.1, e.2.2.2); simp only [] at hcs; simp only [ByteArray.size_append, bsz, List.size_toArray, List.length_cons, List.length_nil]; omega)) rfl ?_
   refine d1 [51, 64] (fun ve h => OpT.sadd (H rfl) (D1 h rfl) (D1 h rfl) (by have : bsp.size = 1 := rfl; have hcs := cdT_size (e.2.1, e.2.2.2); simp only [] at hcs; simp only [ByteArray.size_append, bsz, List.size_toArray, List.length_cons, List.length_nil]; omega)) rfl ?_
   refine d1 [65] (fun ve h => OpT.move (A := .cel _ _) (.inr rfl) rfl (ok' rfl) (D1 h rfl) rfl) rfl ?_
   refine dn ⟨by kernel_rfl, by kernel_rfl, ?_⟩
   refine AX.normal_block ?_
   refine AX.go ?_
   refine AW.region ?_
   refine st (mvT rfl) rfl ?_
   refine st (OpT.add (H rfl) (T1 rfl) (I rfl) (nw (by omega))) rfl ?_
   refine st (asT rfl) rfl ?_
   refine nn ?_
   exact AX.again (z + 1) (by omega) (by omega) (Kc 0 _ (Kv rfl rfl) <| Kc 3 _ (Kv rfl (by rw [← foldl_more (f := edF) he, edF]; first | (rw [edR_12 (by omega)]; rfl) | (rw [edR_34 (by omega), show e.2.2.1.toNat = n by omega]; rfl))) <| Kc 4 _ (Kv rfl (by omega)) <| Kn)
 ·
  obtain ⟨hc1, hc1'⟩ := pF hc1
  refine AW.exit ?_
  refine xT <| xT <| AX.exit_hit ?_
  refine AX.go ?_
  refine sr ?_
  refine st (mvT rfl) rfl ?_
  refine st (asT rfl) rfl ?_
  refine ng ?_
  refine AW.ret ?_
  exact rt1 rfl (.inl rfl) (by rw [edT, List.take_of_length_le (by omega)])

/-- spec.EditsText -/
theorem c_spec_EditsText (x : List DEdit) : AC Tryd.prog 40 [.cel (Kd.slice kEdit) x] [.cel Kd.str (txtS x)] [] := by
 refine acI (N := 13) Tryd.func40 (Nat.le_of_ble_eq_true rfl) rfl fun w0 hd s0 ar => ?_
 refine AW.to (kc 0 rfl <| Kn) ?_
 refine sr ?_
 refine st (OpT.move (A := .cel _ _) (.inr rfl) rfl (ok' rfl) (Opd.str (by decide)) rfl) rfl ?_
 refine ng ?_
 refine AW.seq ?_
 refine sr ?_
 refine st (mvT rfl) rfl ?_
 refine st (OpT.c1 (ms := [.flat]) (c_spec_l07Edits _) (H rfl) (Af (T1 rfl) rfl rfl <| An) rfl rfl) rfl ?_
 refine st (OpT.not (H rfl) (T1 rfl)) rfl ?_
 refine st (mvT rfl) rfl ?_
 apply AWl.or (d := 10) (t := 6) rfl
 ·
  intro hb1 Q1 k1
  have hb1' := lF hb1
  refine rs hb1 (mvT rfl) rfl ?_
  refine rs hb1 (OpT.len (H rfl) (T1 rfl) el24) rfl ?_
  refine rs hb1 (OpT.gtr (H rfl) (T1 rfl) (I rfl)) rfl ?_
  refine st (OpT.pickF (A := .cel _ _) (H rfl) (T1 rfl) hb1 (T1 rfl) rfl) rfl ?_
  exact AWl.to (junk 3 rfl) k1
 ·
  intro hb1 Q1 k1
  refine ps hb1 rfl ?_
  refine ps hb1 rfl ?_
  refine ps hb1 rfl ?_
  refine st (OpT.pickT (A := .cel _ _) (H rfl) (T1 rfl) hb1 Opd.bool rfl) rfl ?_
  exact k1
 refine ng ?_
 refine cd rfl (fun hc1 => ?_) fun hc1 => ?_
 ·
  obtain ⟨hc1, hc1'⟩ := pT hc1
  refine sr ?_
  refine st (OpT.move (A := .cel _ _) (.inr rfl) rfl (ok' rfl) (Opd.str (by decide)) rfl) rfl ?_
  refine ng ?_
  refine AW.ret ?_
  refine rT ?_
  exact rt1 rfl (.inl rfl) (by first | (rw [txt_no hc1]; first | done | rfl) | rw [txt_yes hc1])
 ·
  obtain ⟨hc1, hc1'⟩ := pF hc1
  have hin := txt_in hc1
  refine AW.skip ?_
  refine AX.go ?_
  refine sr ?_
  refine st (mvT rfl) rfl ?_
  refine st (OpT.c1 (ms := [.flat]) (c_spec_l07Text _ hin.1 hin.2) (H rfl) (Af (T1 rfl) rfl rfl <| An) rfl rfl) rfl ?_
  refine st (asT rfl) rfl ?_
  refine ng ?_
  refine AW.ret ?_
  exact rt1 rfl (.inl rfl) (by first | (rw [txt_no hc1]; first | done | rfl) | rw [txt_yes hc1])

/-- laws.FnExactEditsText -/
theorem c_laws_FnExactEditsText (x : List DEdit) : AC Tryd.prog 9 [.cel (Kd.slice kEdit) x] [.cel Kd.bool true] [] := by
 refine acI (N := 27) Tryd.func9 (Nat.le_of_ble_eq_true rfl) rfl fun w0 hd s0 ar => ?_
 refine AW.to (kc 0 rfl <| Kn) ?_
 refine sr ?_
 refine st (asB rfl) rfl ?_
 refine ng ?_
 refine sr ?_
 refine st (asI rfl) rfl ?_
 refine ng ?_
 refine sr ?_
 refine st (mvT rfl) rfl ?_
 refine st (mvT rfl) rfl ?_
 refine st (OpT.c1 (ms := [.flat, .flat]) (c_laws_szEditS _ _ (by omega)) (H rfl) (Af (T1 rfl) rfl rfl <| Af (T1 rfl) rfl rfl <| An) rfl rfl) rfl ?_
 refine st (asT rfl) rfl ?_
 refine ng ?_
 refine AW.seq ?_
 refine sr ?_
 refine st (mvT rfl) rfl ?_
 refine st (OpT.lss (H rfl) (T1 rfl) (I rfl)) rfl ?_
 refine ng ?_
 refine cd rfl (fun hc1 => ?_) fun hc1 => ?_
 ·
  replace hc1 := oT hc1
  refine sr ?_
  refine st (asB rfl) rfl ?_
  refine ng ?_
  refine AW.ret ?_
  refine rT ?_
  exact rt1 rfl (.inl rfl) (by simp_all [eqv_self])
 ·
  replace hc1 := oF hc1
  have k0 := okSz_list okSzE x 1048576 (by omega)
  have k1 := k0.2.2 (by omega)
  refine AW.skip ?_
  refine AX.go ?_
  refine sr ?_
  refine st (mvT rfl) rfl ?_
  refine st (OpT.c1 (ms := [.flat]) (c_laws_toEditS x (by omega)) (H rfl) (Af (T1 rfl) rfl rfl <| An) rfl rfl) rfl ?_
  refine st (OpT.c1 (ms := [.flat]) (c_spec_EditsText _) (H rfl) (Af (T1 rfl) rfl rfl <| An) rfl rfl) rfl ?_
  refine st (asT rfl) rfl ?_
  refine ng ?_
  refine sr ?_
  refine st (mvT rfl) rfl ?_
  refine st (OpT.c1 (ms := [.flat]) (c_laws_toEditS x (by omega)) (H rfl) (Af (T1 rfl) rfl rfl <| An) rfl rfl) rfl ?_
  refine st (asT rfl) rfl ?_
  refine AWl.to (kc4 5 4 2 0 rfl <| Kn) ?_
  refine ng ?_
  refine sr ?_
  refine st (mvT rfl) rfl ?_
  refine st (OpT.c1 (ms := [.flat]) (c_impl_EditsText _) (H rfl) (Af (T1 rfl) rfl rfl <| An) rfl rfl) rfl ?_
  refine st (asT rfl) rfl ?_
  refine ng ?_
  refine AW.seq ?_
  refine sr ?_
  refine st (mvT rfl) rfl ?_
  refine st (mvT rfl) rfl ?_
  refine st (OpT.snev (H rfl) (T1 rfl) (T1 rfl)) rfl ?_
  refine ng ?_
  refine cd rfl (fun hc2 => ?_) fun hc2 => ?_
  ·
   replace hc2 := oT hc2
   refine sr ?_
   refine st (asB rfl) rfl ?_
   refine ng ?_
   refine AW.ret ?_
   refine rT ?_
   exact rt1 rfl (.inl rfl) (by simp_all [eqv_self])
  ·
   replace hc2 := oF hc2
   refine AW.skip ?_
   refine AX.go ?_
   refine AW.seq ?_
   refine sr ?_
   refine st (mvT rfl) rfl ?_
   refine st (mvT rfl) rfl ?_
   refine st (OpT.c1 (ms := [.flat]) (c_laws_toEditS x (by omega)) (H rfl) (Af (T1 rfl) rfl rfl <| An) rfl rfl) rfl ?_
   refine st (OpT.c1 (ms := [.flat, .flat]) (c_laws_eqEditS _ _) (H rfl) (Af (T1 rfl) rfl rfl <| Af (T1 rfl) rfl rfl <| An) rfl rfl) rfl ?_
   refine st (OpT.not (H rfl) (T1 rfl)) rfl ?_
   refine AWl.to (kc2 26 2 rfl <| Kn) ?_
   refine ng ?_
   refine cd rfl (fun hc3 => ?_) fun hc3 => ?_
   ·
    replace hc3 := oT hc3
    refine sr ?_
    refine st (asB rfl) rfl ?_
    refine ng ?_
    refine AW.ret ?_
    refine rT ?_
    exact rt1 rfl (.inl rfl) (by simp_all [eqv_self])
   ·
    replace hc3 := oF hc3
    refine AW.skip ?_
    refine AX.go ?_
    refine sr ?_
    refine st (asB rfl) rfl ?_
    refine ng ?_
    refine AW.ret ?_
    exact rt1 rfl (.inl rfl) (by simp_all [eqv_self])
end Go.Proofs.YtfnkphllkbkfaaaDoor.VL
