/- Proved here: what some functions of the program take and give: walks with the words of VA..VQ. Printed by program. -/
import Derived.Test.YtkgboidjghcegaaGreatDoorWT
import Derived.Test.YtkgboidjghcegaaGreatDoorBpa
import Derived.Test.YtkgboidjghcegaaGreatDoorPXT
import Derived.Test.YtkgboidjghcegaaGreatDoorWA
import Derived.Test.YtkgboidjghcegaaGreatDoorWB
import Derived.Test.YtkgboidjghcegaaGreatDoorWTL
set_option linter.unusedVariables false
set_option linter.unusedSimpArgs false
set_option maxRecDepth 4000
namespace Go.Proofs.YtkgboidjghcegaaGreatDoor.VL
open Go
/-- spec.l01Name -/
theorem c_spec_l01Name (s : ByteArray) : AC Tryz.prog 109 [.cel Kd.str s] [.cel Kd.bool (tt (nameOK s))] [] := by
 refine acI (N := 23) Tryz.func109 (Nat.le_of_ble_eq_true rfl) rfl fun w0 hd s0 ar => ?_
 refine AW.to (kc 0 rfl <| Kn) ?_
 refine AW.fact (fun a w hr => ok_str (R_ok (t := 0) rfl hr)) (fun hs0 => ?_)
 refine sr ?_
 refine st (asB rfl) rfl ?_
 refine ng ?_
 refine AW.seq ?_
 refine sr ?_
 refine st (asI rfl) rfl ?_
 refine ng ?_
 refine AW.block ?_
 refine AW.loop (fun z : Nat => z ≤ s.size ∧ ∀ i, i < z → lowI s i) (fun z : Nat => keep [(0, .cel Kd.str s), (3, .cel (Kd.int .i64) (z : Int))]) (fun z : Nat => s.size - z) (0) ⟨Nat.zero_le _, all_none⟩ (Kc 0 _ (Kv rfl rfl) <| Kc 3 _ (Kv rfl rfl) <| Kn) ?_
 intro z hI
 refine AW.seq ?_
 refine sr ?_
 refine st (mvT rfl) rfl ?_
 refine st (mvT rfl) rfl ?_
 refine st (OpT.lenS (H rfl) (T1 rfl) Tryz.underlying9) rfl ?_
 refine st (OpT.lss (H rfl) (T1 rfl) (T1 rfl)) rfl ?_
 refine ng ?_
 refine cd rfl (fun hc1 => ?_) fun hc1 => ?_
 ·
  obtain ⟨hc1, hc1'⟩ := pT hc1
  obtain ⟨b, hb⟩ := byteI (s := s) (z := z) (by omega); have hbl := b.toNat_lt
  refine AW.skip ?_
  refine AX.go ?_
  refine AW.seq ?_
  refine AW.block ?_
  refine sr ?_
  refine st (mvT rfl) rfl ?_
  refine st (mvT rfl) rfl ?_
  refine st (OpT.indexS (H rfl) (T1 rfl) (T1 rfl) Tryz.underlying9 (by omega) (by assumption)) rfl ?_
  refine st (OpT.lss (H rfl) (T1 rfl) (I rfl)) rfl ?_
  refine st (mvT rfl) rfl ?_
  apply AWl.or (d := 19) (t := 14) rfl
  ·
   intro hb1 Q1 k1
   have hb1' := lF hb1
   refine rs hb1 (mvT rfl) rfl ?_
   refine rs hb1 (mvT rfl) rfl ?_
   refine rs hb1 (OpT.indexS (H rfl) (T1 rfl) (T1 rfl) Tryz.underlying9 (by omega) (by assumption)) rfl ?_
   refine rs hb1 (OpT.gtr (H rfl) (T1 rfl) (I rfl)) rfl ?_
   refine st (OpT.pickF (A := .cel _ _) (H rfl) (T1 rfl) hb1 (T1 rfl) rfl) rfl ?_
   exact AWl.to (junk 4 rfl) k1
  ·
   intro hb1 Q1 k1
   refine ps hb1 rfl ?_
   refine ps hb1 rfl ?_
   refine ps hb1 rfl ?_
   refine ps hb1 rfl ?_
   refine st (OpT.pickT (A := .cel _ _) (H rfl) (T1 rfl) hb1 Opd.bool rfl) rfl ?_
   exact k1
  refine ng ?_
  refine cd rfl (fun hc2 => ?_) fun hc2 => ?_
  ·
   obtain ⟨hc2, hc2'⟩ := pT hc2
   refine sr ?_
   refine st (asB rfl) rfl ?_
   refine ng ?_
   refine AW.ret ?_
   refine rK <| rT <| rT <| rK <| rT ?_
   exact rt1 rfl (.inl rfl) (by first | exact name_no (z := z) (by omega) (mt (lowI_iff hb).1 (by omega)) | exact name_end hI.2 (by omega))
  ·
   obtain ⟨hc2, hc2'⟩ := pF hc2
   refine AW.skip ?_
   refine AX.normal_block ?_
   refine AX.go ?_
   refine AW.region ?_
   refine st (mvT rfl) rfl ?_
   refine st (OpT.add (H rfl) (T1 rfl) (I rfl) (nw (by omega))) rfl ?_
   refine st (asT rfl) rfl ?_
   refine nn ?_
   exact AX.again (z + 1) ⟨by omega, all_step hI.2 ((lowI_iff hb).2 (by omega))⟩ (by omega) (Kc 0 _ (Kv rfl rfl) <| Kc 3 _ (Kv rfl (by omega)) <| Kn)
 ·
  obtain ⟨hc1, hc1'⟩ := pF hc1
  refine AW.exit ?_
  refine xT <| xT <| AX.exit_hit ?_
  refine AX.go ?_
  refine sr ?_
  refine st (mvT rfl) rfl ?_
  refine st (OpT.lenS (H rfl) (T1 rfl) Tryz.underlying9) rfl ?_
  refine st (OpT.c1 (ms := [.flat, .flat, .flat]) (c_spec_l00In _ _ _) (H rfl) (Af (T1 rfl) rfl rfl <| Af (I rfl) rfl rfl <| Af (I rfl) rfl rfl <| An) rfl rfl) rfl ?_
  refine st (asT rfl) rfl ?_
  refine ng ?_
  refine AW.ret ?_
  exact rt1 rfl (.inl rfl) (by first | exact name_no (z := z) (by omega) (mt (lowI_iff hb).1 (by omega)) | exact name_end hI.2 (by omega))

/-- spec.l01Ok -/
theorem c_spec_l01Ok (x : DCard) : AC Tryz.prog 79 [.cel (Kd.ptr kCard) x] [.cel Kd.bool (tt (cardOK x))] [] := by
 refine acI (N := 15) Tryz.func79 (Nat.le_of_ble_eq_true rfl) rfl fun w0 hd s0 ar => ?_
 refine AW.to (kc 0 rfl <| Kn) ?_
 refine sr ?_
 refine st (asB rfl) rfl ?_
 refine ng ?_
 refine sr ?_
 refine st (mvT rfl) rfl ?_
 refine st (OpT.nilCheck (H rfl) (T1 rfl)) rfl ?_
 refine st (OpT.fieldAddr (H rfl) (T1 rfl) fd86_0 sz9 (by decide) sb86_0) rfl ?_
 refine st (OpT.load (H rfl) (T1 rfl) ag9 rfl) rfl ?_
 refine st (OpT.c1 (ms := [.flat]) (c_spec_l01Name _) (H rfl) (Af (T1 rfl) rfl rfl <| An) rfl rfl) rfl ?_
 refine st (mvT rfl) rfl ?_
 apply AWl.and (d := 14) (t := 8) rfl
 ·
  intro hb1 Q1 k1
  refine rs hb1 (mvT rfl) rfl ?_
  refine rs hb1 (OpT.nilCheck (H rfl) (T1 rfl)) rfl ?_
  refine rs hb1 (OpT.fieldAddr (H rfl) (T1 rfl) fd86_1 sz84 (by decide) sb86_1) rfl ?_
  refine rs hb1 (OpT.loadA (H rfl) (T1 rfl) ag84 sz84) rfl ?_
  refine rs hb1 (OpT.c1 (ms := [.flat]) (c_spec_l01Mask _) (H rfl) (Af (T1 rfl) rfl rfl <| An) rfl rfl) rfl ?_
  refine st (OpT.pickT (A := .cel _ _) (H rfl) (T1 rfl) hb1 (T1 rfl) rfl) rfl ?_
  exact AWl.to (junk 5 rfl) k1
 ·
  intro hb1 Q1 k1
  refine ps hb1 rfl ?_
  refine ps hb1 rfl ?_
  refine ps hb1 rfl ?_
  refine ps hb1 rfl ?_
  refine ps hb1 rfl ?_
  refine st (OpT.pickF (A := .cel _ _) (H rfl) (T1 rfl) hb1 Opd.bool rfl) rfl ?_
  exact k1
 refine st (asT rfl) rfl ?_
 refine ng ?_
 refine AW.ret ?_
 exact rt1 rfl (.inl rfl) (card_and x)

/-- strings.makeASCIISet -/
theorem c_strings_makeASCIISet (s : ByteArray) (T : List Bool) (hl : ∀ (z : Nat) b, s[Int.toNat ((z : Nat) : Int)]? = some b → b.toNat < 128) (hT : asP s s.size = T) : AC Tryz.prog 144 [.cel Kd.str s] [.agg (Kd.arr 256 Kd.bool) T, .cel Kd.bool true] [] := by
 refine acI (N := 21) Tryz.func144 (Nat.le_of_ble_eq_true rfl) rfl fun w0 hd s0 ar => ?_
 refine AW.to (kc 0 rfl <| Kn) ?_
 refine AW.fact (fun a w hr => ok_str (R_ok (t := 0) rfl hr)) (fun hs0 => ?_)
 refine sr ?_
 refine st (OpT.alloc (H rfl) zr190 zk190) rfl ?_
 refine st (asB rfl) rfl ?_
 refine ng ?_
 refine AW.seq ?_
 refine sr ?_
 refine st (asI rfl) rfl ?_
 refine ng ?_
 refine AW.block ?_
 refine AW.loop (fun z : Nat => z ≤ s.size) (fun z : Nat => keep [(0, .cel Kd.str s), (2, .box 190 (Kd.arr 256 Kd.bool) (asP s z)), (4, .cel (Kd.int .i64) (z : Int))]) (fun z : Nat => s.size - z) (0) (Nat.zero_le _) (Kc 0 _ (Kv rfl rfl) <| Kc 2 _ (Kb rfl rfl) <| Kc 4 _ (Kv rfl rfl) <| Kn) ?_
 intro z hI
 refine AW.seq ?_
 refine sr ?_
 refine st (mvT rfl) rfl ?_
 refine st (mvT rfl) rfl ?_
 refine st (OpT.lenS (H rfl) (T1 rfl) Tryz.underlying9) rfl ?_
 refine st (OpT.lss (H rfl) (T1 rfl) (T1 rfl)) rfl ?_
 refine ng ?_
 refine cd rfl (fun hc1 => ?_) fun hc1 => ?_
 ·
  obtain ⟨hc1, hc1'⟩ := pT hc1
  obtain ⟨b, hb⟩ := byteI (s := s) (z := z) (by omega); have hbl := b.toNat_lt
  have hbs := hl z b hb
  refine AW.skip ?_
  refine AX.go ?_
  refine AW.seq ?_
  refine AW.block ?_
  refine sr ?_
  refine st (mvT rfl) rfl ?_
  refine st (mvT rfl) rfl ?_
  refine st (OpT.indexS (H rfl) (T1 rfl) (T1 rfl) Tryz.underlying9 (by omega) (by assumption)) rfl ?_
  refine st (asT rfl) rfl ?_
  refine ng ?_
  refine AW.seq ?_
  refine sr ?_
  refine st (mvT rfl) rfl ?_
  refine st (OpT.geq (H rfl) (T1 rfl) (I rfl)) rfl ?_
  refine ng ?_
  refine cd rfl (fun hc2 => ?_) fun hc2 => ?_
  ·
   obtain ⟨hc2, hc2'⟩ := pT hc2
   exact (show False from (by omega)).elim
  ·
   obtain ⟨hc2, hc2'⟩ := pF hc2
   refine AW.skip ?_
   refine AX.go ?_
   refine AW.region ?_
   refine st (mvT rfl) rfl ?_
   refine st (OpT.indexAddrB (H rfl) (Root.self (t := 2) (by decide)) rfl (by decide) (T1 rfl) ar190 sz4 (by omega) (sub_arr (by omega) (false : Bool))) rfl ?_
   refine sk (OpT.storeB rfl rfl (T1 rfl) rfl sz4 rfl Opd.bool) rfl ?_
   refine nn ?_
   refine AX.normal_block ?_
   refine AX.go ?_
   refine AW.region ?_
   refine st (mvT rfl) rfl ?_
   refine st (OpT.add (H rfl) (T1 rfl) (I rfl) (nw (by omega))) rfl ?_
   refine st (asT rfl) rfl ?_
   refine nn ?_
   exact AX.again (z + 1) (by omega) (by omega) (Kc 0 _ (Kv rfl rfl) <| Kc 2 _ (Kb rfl (asP_step hb)) <| Kc 4 _ (Kv rfl (by omega)) <| Kn)
 ·
  obtain ⟨hc1, hc1'⟩ := pF hc1
  refine AW.exit ?_
  refine xT <| xT <| AX.exit_hit ?_
  refine AX.go ?_
  refine sr ?_
  refine st (OpT.loadB (H rfl) (Root.self (t := 2) (by decide)) rfl ag190 sz190) rfl ?_
  refine sk (OpT.storeBA rfl rfl (Opd.whole (Root.self (t := 2) (by decide)) rfl) rfl sz190 (by decide) (T1 rfl)) rfl ?_
  refine st (asB rfl) rfl ?_
  refine ng ?_
  refine AW.ret ?_
  exact AX.rt (rs := [.cell 2 190, .tmp 3]) (ts := [none, some 3]) (.inl rfl) rfl (ROs.cons (RO.cellA (by decide) (Kb rfl (by rw [show z = s.size by omega]; exact hT)) ag190 sz190) <| ROs.cons (RO.tmp (At.self (by decide)) (Kv rfl rfl) rfl) <| ROs.nil) (by decide) OutsOK.nil

/-- (*strings.asciiSet).contains -/
theorem c_strings_asciiSet_contains (q : List Bool) (x : Int) (hx : 0 ≤ x ∧ x < 256) : AC Tryz.prog 150 [.cel (Kd.ptr (Kd.arr 256 Kd.bool)) q, .cel (Kd.int .u8) x] [.cel Kd.bool (q.getD x.toNat false)] [] := by
 refine acI (N := 10) Tryz.func150 (Nat.le_of_ble_eq_true rfl) rfl fun w0 hd s0 ar => ?_
 refine AW.to (kc2 0 1 rfl <| Kn) ?_
 refine sr ?_
 refine st (asB rfl) rfl ?_
 refine ng ?_
 refine sr ?_
 refine st (mvT rfl) rfl ?_
 refine st (mvT rfl) rfl ?_
 refine st (OpT.nilCheck (H rfl) (T1 rfl)) rfl ?_
 refine st (OpT.indexAddrP (H rfl) (T1 rfl) (T1 rfl) ar190 sz4 (by omega) (sub_arr (by omega) (false : Bool))) rfl ?_
 refine st (OpT.load (H rfl) (T1 rfl) ag4 rfl) rfl ?_
 refine st (asT rfl) rfl ?_
 refine ng ?_
 refine AW.ret ?_
 exact rt1 rfl (.inl rfl) rfl

/-- strings.trimRightASCII -/
theorem c_strings_trimRightASCII (s : ByteArray) (T : List Bool) : AC Tryz.prog 146 [.cel Kd.str s, .cel (Kd.ptr (Kd.arr 256 Kd.bool)) T] [.cel Kd.str (trimRT T s)] [] := by
 refine acI (N := 22) Tryz.func146 (Nat.le_of_ble_eq_true rfl) rfl fun w0 hd s0 ar => ?_
 refine AW.to (kc2 0 1 rfl <| Kn) ?_
 refine AW.fact (fun a w hr => ok_str (R_ok (t := 0) rfl hr)) (fun hs0 => ?_)
 refine sr ?_
 refine st (OpT.move (A := .cel _ _) (.inr rfl) rfl (ok' rfl) (Opd.str (by decide)) rfl) rfl ?_
 refine ng ?_
 refine AW.seq ?_
 refine AW.block ?_
 refine AW.loop (fun z : Nat => z ≤ s.size ∧ ∀ i, z ≤ i → i < s.size → inT T s i) (fun z : Nat => keep [(0, .cel Kd.str (s.extract 0 z)), (1, .cel (Kd.ptr (Kd.arr 256 Kd.bool)) T)]) (fun z : Nat => z) (s.size) ⟨Nat.le_refl _, fun i h1 h2 => absurd h1 (by omega)⟩ (Kc 0 _ (Kv rfl (ext_all s).symm) <| Kc 1 _ (Kv rfl rfl) <| Kn) ?_
 intro z hI
 have hz := ext_size (s := s) (i := 0) hI.1
 refine AW.seq ?_
 refine sr ?_
 refine st (mvT rfl) rfl ?_
 refine st (OpT.lenS (H rfl) (T1 rfl) Tryz.underlying9) rfl ?_
 refine st (OpT.gtr (H rfl) (T1 rfl) (I rfl)) rfl ?_
 refine ng ?_
 refine cd rfl (fun hc1 => ?_) fun hc1 => ?_
 ·
  obtain ⟨hc1, hc1'⟩ := pT hc1
  obtain ⟨y, rfl⟩ : ∃ y, z = y + 1 := ⟨z - 1, by omega⟩
  obtain ⟨b, hb0⟩ := byteI (s := s) (z := y) (by omega); have hbl := b.toNat_lt
  have hb : (s.extract 0 (y + 1))[Int.toNat (((s.extract 0 (y + 1)).size : Int) - 1)]? = some b := by (rw [hz, show Int.toNat (((y + 1 - 0 : Nat) : Int) - 1) = y by omega, ext_get (by omega) hI.1, Nat.zero_add]; exact hb0)
  have hlow := inT_iff (T := T) hb0
  refine AW.skip ?_
  refine AX.go ?_
  refine AW.block ?_
  refine AW.seq ?_
  refine sr ?_
  refine st (mvT rfl) rfl ?_
  refine st (mvT rfl) rfl ?_
  refine st (mvT rfl) rfl ?_
  refine st (OpT.lenS (H rfl) (T1 rfl) Tryz.underlying9) rfl ?_
  refine st (OpT.sub (H rfl) (T1 rfl) (I rfl) (nw (by omega))) rfl ?_
  refine st (OpT.indexS (H rfl) (T1 rfl) (T1 rfl) Tryz.underlying9 (by omega) (by assumption)) rfl ?_
  refine st (OpT.c1 (ms := [.flat, .flat]) (c_strings_asciiSet_contains _ _ (by omega)) (H rfl) (Af (T1 rfl) rfl rfl <| Af (T1 rfl) rfl rfl <| An) rfl rfl) rfl ?_
  refine st (OpT.not (H rfl) (T1 rfl)) rfl ?_
  refine ng ?_
  refine cd rfl (fun hc2 => ?_) fun hc2 => ?_
  ·
   obtain ⟨hc2, hc2'⟩ := pT hc2
   have hbt := mt hlow.1 (by rw [hc2']; simp)
   refine AW.exit ?_
   refine xT <| xM rfl <| xT <| AX.exit_hit ?_
   refine AX.pr (kc 0 rfl <| Kn) ?_
   refine AX.go ?_
   refine sr ?_
   refine st (mvT rfl) rfl ?_
   refine st (asT rfl) rfl ?_
   refine ng ?_
   refine AW.ret ?_
   exact rt1 rfl (.inl rfl) (by first | exact congrArg (s.extract 0) (rkp_at hI.1 hI.2 (.inr hbt)).symm | exact congrArg (s.extract 0) (rkp_at hI.1 hI.2 (.inl (by omega))).symm)
  ·
   obtain ⟨hc2, hc2'⟩ := pF hc2
   have hbt := hlow.2 hc2'
   refine AW.skip ?_
   refine AX.go ?_
   refine AW.region ?_
   refine st (mvT rfl) rfl ?_
   refine st (mvT rfl) rfl ?_
   refine st (OpT.lenS (H rfl) (T1 rfl) Tryz.underlying9) rfl ?_
   refine st (OpT.sub (H rfl) (T1 rfl) (I rfl) (nw (by omega))) rfl ?_
   refine st (OpT.cutSH (H rfl) (T1 rfl) (T1 rfl) Tryz.underlying9 (by omega)) rfl ?_
   refine st (asT rfl) rfl ?_
   refine nn ?_
   refine AX.normal_block ?_
   exact AX.again (y) ⟨by omega, fun i h1 h2 => by rcases Nat.lt_or_ge y i with h3 | h3; exact hI.2 i h3 h2; obtain rfl : i = y := (by omega); exact hbt⟩ (by omega) (Kc 0 _ (Kv rfl (by rw [ext_ext hI.1 (by omega), hz]; congr 1; omega)) <| Kc 1 _ (Kv rfl rfl) <| Kn)
 ·
  obtain ⟨hc1, hc1'⟩ := pF hc1
  refine AW.exit ?_
  refine xT <| xT <| AX.exit_hit ?_
  refine AX.go ?_
  refine sr ?_
  refine st (mvT rfl) rfl ?_
  refine st (asT rfl) rfl ?_
  refine ng ?_
  refine AW.ret ?_
  exact rt1 rfl (.inl rfl) (by first | exact congrArg (s.extract 0) (rkp_at hI.1 hI.2 (.inr hbt)).symm | exact congrArg (s.extract 0) (rkp_at hI.1 hI.2 (.inl (by omega))).symm)

/-- strings.trimLeftASCII -/
theorem c_strings_trimLeftASCII (s : ByteArray) (T : List Bool) : AC Tryz.prog 145 [.cel Kd.str s, .cel (Kd.ptr (Kd.arr 256 Kd.bool)) T] [.cel Kd.str (trimLT T s)] [] := by
 refine acI (N := 16) Tryz.func145 (Nat.le_of_ble_eq_true rfl) rfl fun w0 hd s0 ar => ?_
 refine AW.to (kc2 0 1 rfl <| Kn) ?_
 refine AW.fact (fun a w hr => ok_str (R_ok (t := 0) rfl hr)) (fun hs0 => ?_)
 refine sr ?_
 refine st (OpT.move (A := .cel _ _) (.inr rfl) rfl (ok' rfl) (Opd.str (by decide)) rfl) rfl ?_
 refine ng ?_
 refine AW.seq ?_
 refine AW.block ?_
 refine AW.loop (fun z : Nat => z ≤ s.size ∧ ∀ i, i < z → inT T s i) (fun z : Nat => keep [(0, .cel Kd.str (s.extract z s.size)), (1, .cel (Kd.ptr (Kd.arr 256 Kd.bool)) T)]) (fun z : Nat => s.size - z) (0) ⟨Nat.zero_le _, all_none⟩ (Kc 0 _ (Kv rfl (ext_all s).symm) <| Kc 1 _ (Kv rfl rfl) <| Kn) ?_
 intro z hI
 have hz := ext_size (s := s) (i := z) (Nat.le_refl _)
 refine AW.seq ?_
 refine sr ?_
 refine st (mvT rfl) rfl ?_
 refine st (OpT.lenS (H rfl) (T1 rfl) Tryz.underlying9) rfl ?_
 refine st (OpT.gtr (H rfl) (T1 rfl) (I rfl)) rfl ?_
 refine ng ?_
 refine cd rfl (fun hc1 => ?_) fun hc1 => ?_
 ·
  obtain ⟨hc1, hc1'⟩ := pT hc1
  obtain ⟨b, hb0⟩ := byteI (s := s) (z := z) (by omega); have hbl := b.toNat_lt
  have hb : (s.extract z s.size)[Int.toNat 0]? = some b := by (show (s.extract z s.size)[0]? = some b; rw [ext_get (by omega) (Nat.le_refl _), Nat.add_zero]; exact hb0)
  have hlow := inT_iff (T := T) hb0
  refine AW.skip ?_
  refine AX.go ?_
  refine AW.block ?_
  refine AW.seq ?_
  refine sr ?_
  refine st (mvT rfl) rfl ?_
  refine st (mvT rfl) rfl ?_
  refine st (OpT.indexS (H rfl) (T1 rfl) (I rfl) Tryz.underlying9 (by omega) (by assumption)) rfl ?_
  refine st (OpT.c1 (ms := [.flat, .flat]) (c_strings_asciiSet_contains _ _ (by omega)) (H rfl) (Af (T1 rfl) rfl rfl <| Af (T1 rfl) rfl rfl <| An) rfl rfl) rfl ?_
  refine st (OpT.not (H rfl) (T1 rfl)) rfl ?_
  refine ng ?_
  refine cd rfl (fun hc2 => ?_) fun hc2 => ?_
  ·
   obtain ⟨hc2, hc2'⟩ := pT hc2
   have hbt := mt hlow.1 (by rw [hc2']; simp)
   refine AW.exit ?_
   refine xT <| xM rfl <| xT <| AX.exit_hit ?_
   refine AX.go ?_
   refine sr ?_
   refine st (mvT rfl) rfl ?_
   refine st (asT rfl) rfl ?_
   refine AWl.to (kc 4 rfl <| Kn) ?_
   refine ng ?_
   refine AW.ret ?_
   exact rt1 rfl (.inl rfl) (by first | exact congrArg (fun j => s.extract j s.size) (pre_at hI.2 hbt (by omega)).symm | exact congrArg (fun j => s.extract j s.size) ((show z = s.size by omega).trans (pre_all (all_end hI.2 (by omega))).symm))
  ·
   obtain ⟨hc2, hc2'⟩ := pF hc2
   have hbt := hlow.2 hc2'
   refine AW.skip ?_
   refine AX.go ?_
   refine AW.region ?_
   refine st (mvT rfl) rfl ?_
   refine st (OpT.cutSL (H rfl) (T1 rfl) (I rfl) Tryz.underlying9 (by omega)) rfl ?_
   refine st (asT rfl) rfl ?_
   refine nn ?_
   refine AX.normal_block ?_
   exact AX.again (z + 1) ⟨by omega, all_step hI.2 hbt⟩ (by omega) (Kc 0 _ (Kv rfl (by rw [ext_ext (Nat.le_refl _) (by omega), hz]; congr 1; show z + (s.size - z) = s.size; omega)) <| Kc 1 _ (Kv rfl rfl) <| Kn)
 ·
  obtain ⟨hc1, hc1'⟩ := pF hc1
  refine AW.exit ?_
  refine xT <| xT <| AX.exit_hit ?_
  refine AX.go ?_
  refine sr ?_
  refine st (mvT rfl) rfl ?_
  refine st (asT rfl) rfl ?_
  refine ng ?_
  refine AW.ret ?_
  exact rt1 rfl (.inl rfl) (by first | exact congrArg (fun j => s.extract j s.size) (pre_at hI.2 hbt (by omega)).symm | exact congrArg (fun j => s.extract j s.size) ((show z = s.size by omega).trans (pre_all (all_end hI.2 (by omega))).symm))

/-- strings.Trim -/
theorem c_strings_Trim (s cs : ByteArray) (T : List Bool) (h : cutOK cs T) : AC Tryz.prog 136 [.cel Kd.str s, .cel Kd.str cs] [.cel Kd.str (trimT T s)] [] := by
 refine acI (N := 43) Tryz.func136 (Nat.le_of_ble_eq_true rfl) rfl fun w0 hd s0 ar => ?_
 refine AW.to (kc2 0 1 rfl <| Kn) ?_
 refine AW.fact (fun a w hr => ok_str (R_ok (t := 0) rfl hr)) (fun hs0 => ?_)
 have h2s := h.1
 refine sr ?_
 refine st (OpT.move (A := .cel _ _) (.inr rfl) rfl (ok' rfl) (Opd.str (by decide)) rfl) rfl ?_
 refine ng ?_
 refine AW.seq ?_
 refine sr ?_
 refine st (mvT rfl) rfl ?_
 refine st (OpT.seqv (H rfl) (T1 rfl) (Opd.str (by decide))) rfl ?_
 refine st (mvT rfl) rfl ?_
 apply AWl.or (d := 12) (t := 9) rfl
 ·
  intro hb1 Q1 k1
  refine rs hb1 (mvT rfl) rfl ?_
  refine rs hb1 (OpT.seqv (H rfl) (T1 rfl) (Opd.str (by decide))) rfl ?_
  refine st (OpT.pickF (A := .cel _ _) (H rfl) (T1 rfl) hb1 (T1 rfl) rfl) rfl ?_
  exact AWl.to (junk 2 rfl) k1
 ·
  intro hb1 Q1 k1
  refine ps hb1 rfl ?_
  refine ps hb1 rfl ?_
  refine st (OpT.pickT (A := .cel _ _) (H rfl) (T1 rfl) hb1 Opd.bool rfl) rfl ?_
  exact k1
 refine ng ?_
 refine cd rfl (fun hc1 => ?_) fun hc1 => ?_
 ·
  replace hc1 := oT hc1
  have hf := trimT_none h hc1
  refine sr ?_
  refine st (mvT rfl) rfl ?_
  refine st (asT rfl) rfl ?_
  refine ng ?_
  refine AW.ret ?_
  refine rT ?_
  exact rt1 rfl (.inl rfl) hf
 ·
  replace hc1 := oF hc1
  have hf := trimT_some (T := T) hc1
  refine AW.skip ?_
  refine AX.go ?_
  refine AW.seq ?_
  refine sr ?_
  refine st (mvT rfl) rfl ?_
  refine st (OpT.lenS (H rfl) (T1 rfl) Tryz.underlying9) rfl ?_
  refine st (OpT.eql (H rfl) (T1 rfl) (I rfl)) rfl ?_
  refine st (mvT rfl) rfl ?_
  apply AWl.and (d := 21) (t := 17) rfl
  ·
   intro hb2 Q1 k1
   have h97 := hdB_get (cs := cs) (by omega)
   refine rs hb2 (mvT rfl) rfl ?_
   refine rs hb2 (OpT.indexS (H rfl) (T1 rfl) (I rfl) Tryz.underlying9 (by omega) (by assumption)) rfl ?_
   refine rs hb2 (OpT.lss (H rfl) (T1 rfl) (I rfl)) rfl ?_
   refine st (OpT.pickT (A := .cel _ _) (H rfl) (T1 rfl) hb2 (T1 rfl) rfl) rfl ?_
   exact AWl.to (junk 3 rfl) k1
  ·
   intro hb2 Q1 k1
   refine ps hb2 rfl ?_
   refine ps hb2 rfl ?_
   refine ps hb2 rfl ?_
   refine st (OpT.pickF (A := .cel _ _) (H rfl) (T1 rfl) hb2 Opd.bool rfl) rfl ?_
   exact k1
  refine AWl.to (kc4 21 4 0 1 rfl <| Kn) ?_
  refine ng ?_
  refine cd rfl (fun hc2 => ?_) fun hc2 => ?_
  ·
   replace hc2 := oT hc2
   exact (show False from (by simp at hc2; omega)).elim
  ·
   replace hc2 := oF hc2
   refine AW.skip ?_
   refine AX.go ?_
   refine AW.seq ?_
   refine sr ?_
   refine st (mvT rfl) rfl ?_
   refine s2 (OpT.c2 (ms := [.flat]) (c_strings_makeASCIISet cs T h.2.1 h.2.2) (H rfl) (Af (T1 rfl) rfl rfl <| An) rfl rfl rfl) rfl ?_
   refine st (OpT.alias (H rfl) (by decide) (by decide)) rfl ?_
   refine st (OpT.extractV (m := 10031) (H rfl) rfl rfl rfl rfl rfl rfl rfl) rfl ?_
   refine st (OpT.extractV (m := 20031) (H rfl) rfl rfl rfl rfl rfl rfl rfl) rfl ?_
   refine st (OpT.alloc (H rfl) zr190 zk190) rfl ?_
   refine sk (OpT.storeBA rfl rfl (Opd.whole (Root.self (t := 5) (by decide)) rfl) rfl sz190 (by decide) (T1 rfl)) rfl ?_
   refine st (asT rfl) rfl ?_
   refine ng ?_
   refine sr ?_
   refine st (mvT rfl) rfl ?_
   refine ng ?_
   refine cd rfl (fun hc3 => ?_) fun hc3 => ?_
   ·
    replace hc3 := oT hc3
    refine sr ?_
    refine st (mvT rfl) rfl ?_
    refine st (cb1 (ms := [.flat, .bor 5]) (c_strings_trimRightASCII s T) (H rfl) (Af (T1 rfl) rfl rfl <| Abx (Root.self (t := 5) (by decide)) rfl <| An) rfl (indC fun _ _ _ _ h => h)) rfl ?_
    refine st (cb1 (ms := [.flat, .bor 5]) (c_strings_trimLeftASCII (trimRT T s) T) (H rfl) (Af (T1 rfl) rfl rfl <| Abx (Root.self (t := 5) (by decide)) rfl <| An) rfl (indC fun _ _ _ _ h => h)) rfl ?_
    refine st (asT rfl) rfl ?_
    refine AWl.to (kc3 4 0 1 rfl <| Kn) ?_
    refine ng ?_
    refine AW.ret ?_
    refine rT ?_
    exact rt1 rfl (.inl rfl) hf
   ·
    replace hc3 := oF hc3
    exact (show False from (by simp at hc3)).elim

/-- impl.isName -/
theorem c_impl_isName (s : ByteArray) : AC Tryz.prog 113 [.cel Kd.str s] [.cel Kd.bool (tt (nameOK s))] [] := by
 refine acI (N := 16) Tryz.func113 (Nat.le_of_ble_eq_true rfl) rfl fun w0 hd s0 ar => ?_
 refine AW.to (kc 0 rfl <| Kn) ?_
 refine sr ?_
 refine st (asB rfl) rfl ?_
 refine ng ?_
 refine sr ?_
 refine st (mvT rfl) rfl ?_
 refine st (OpT.lenS (H rfl) (T1 rfl) Tryz.underlying9) rfl ?_
 refine st (OpT.geq (H rfl) (T1 rfl) (I rfl)) rfl ?_
 refine st (mvT rfl) rfl ?_
 apply AWl.and (d := 10) (t := 6) rfl
 ·
  intro hb1 Q1 k1
  refine rs hb1 (mvT rfl) rfl ?_
  refine rs hb1 (OpT.lenS (H rfl) (T1 rfl) Tryz.underlying9) rfl ?_
  refine rs hb1 (OpT.leq (H rfl) (T1 rfl) (I rfl)) rfl ?_
  refine st (OpT.pickT (A := .cel _ _) (H rfl) (T1 rfl) hb1 (T1 rfl) rfl) rfl ?_
  exact AWl.to (junk 3 rfl) k1
 ·
  intro hb1 Q1 k1
  refine ps hb1 rfl ?_
  refine ps hb1 rfl ?_
  refine ps hb1 rfl ?_
  refine st (OpT.pickF (A := .cel _ _) (H rfl) (T1 rfl) hb1 Opd.bool rfl) rfl ?_
  exact k1
 refine st (mvT rfl) rfl ?_
 apply AWl.and (d := 15) (t := 11) rfl
 ·
  intro hb2 Q1 k1
  refine rs hb2 (mvT rfl) rfl ?_
  refine rs hb2 (OpT.c1 (ms := [.flat, .flat]) (c_strings_Trim s abc lowT cut_abc) (H rfl) (Af (T1 rfl) rfl rfl <| Af (Opd.str (by decide)) rfl rfl <| An) rfl rfl) rfl ?_
  refine rs hb2 (OpT.seqv (H rfl) (T1 rfl) (Opd.str (by decide))) rfl ?_
  refine st (OpT.pickT (A := .cel _ _) (H rfl) (T1 rfl) hb2 (T1 rfl) rfl) rfl ?_
  exact AWl.to (junk 3 rfl) k1
 ·
  intro hb2 Q1 k1
  refine ps hb2 rfl ?_
  refine ps hb2 rfl ?_
  refine ps hb2 rfl ?_
  refine st (OpT.pickF (A := .cel _ _) (H rfl) (T1 rfl) hb2 Opd.bool rfl) rfl ?_
  exact k1
 refine st (asT rfl) rfl ?_
 refine ng ?_
 refine AW.ret ?_
 exact rt1 rfl (.inl rfl) (name_trimT s)

/-- impl.isCard -/
theorem c_impl_isCard (x : DCard) : AC Tryz.prog 90 [.agg kCard x] [.cel Kd.bool (tt (cardOK x))] [] := by
 refine acI (N := 11) Tryz.func90 (Nat.le_of_ble_eq_true rfl) rfl fun w0 hd s0 ar => ?_
 refine AW.to (ka 0 rfl <| Kn) ?_
 refine sr ?_
 refine st (OpT.frz (OpT.boxA (E := 86) (H rfl) (T1 rfl))) rfl ?_
 refine st (asB rfl) rfl ?_
 refine ng ?_
 refine sr ?_
 refine st (OpT.fieldAddr (H rfl) (T1 rfl) fd86_0 sz9 (by decide) sb86_0) rfl ?_
 refine st (OpT.load (H rfl) (T1 rfl) ag9 rfl) rfl ?_
 refine st (OpT.c1 (ms := [.flat]) (c_impl_isName _) (H rfl) (Af (T1 rfl) rfl rfl <| An) rfl rfl) rfl ?_
 refine st (mvT rfl) rfl ?_
 apply AWl.and (d := 10) (t := 6) rfl
 ·
  intro hb1 Q1 k1
  refine rs hb1 (OpT.fieldAddr (H rfl) (T1 rfl) fd86_1 sz84 (by decide) sb86_1) rfl ?_
  refine rs hb1 (OpT.loadA (H rfl) (T1 rfl) ag84 sz84) rfl ?_
  refine rs hb1 (OpT.c1 (ms := [.flat]) (c_impl_isMask _) (H rfl) (Af (T1 rfl) rfl rfl <| An) rfl rfl) rfl ?_
  refine st (OpT.pickT (A := .cel _ _) (H rfl) (T1 rfl) hb1 (T1 rfl) rfl) rfl ?_
  exact AWl.to (junk 3 rfl) k1
 ·
  intro hb1 Q1 k1
  refine ps hb1 rfl ?_
  refine ps hb1 rfl ?_
  refine ps hb1 rfl ?_
  refine st (OpT.pickF (A := .cel _ _) (H rfl) (T1 rfl) hb1 Opd.bool rfl) rfl ?_
  exact k1
 refine st (asT rfl) rfl ?_
 refine ng ?_
 refine AW.ret ?_
 exact rt1 rfl (.inl rfl) (card_and x)

end Go.Proofs.YtkgboidjghcegaaGreatDoor.VL
