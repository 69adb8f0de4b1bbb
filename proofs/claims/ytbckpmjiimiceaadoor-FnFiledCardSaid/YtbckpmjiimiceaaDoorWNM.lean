/- Proved here: what some functions of the program take and give: walks with the words of VA..VQ. Printed by program. -/
import Derived.Test.YtbckpmjiimiceaaDoorWT
import Derived.Test.YtbckpmjiimiceaaDoorPXF
import Derived.Test.YtbckpmjiimiceaaDoorVLF
import Derived.Test.YtbckpmjiimiceaaDoorVLE
import Derived.Test.YtbckpmjiimiceaaDoorLSP
import Derived.Test.YtbckpmjiimiceaaDoorWTL
import Derived.Test.YtbckpmjiimiceaaDoorWK
import Derived.Test.YtbckpmjiimiceaaDoorWSP
import Derived.Test.YtbckpmjiimiceaaDoorWSL
import Derived.Test.YtbckpmjiimiceaaDoorWA
import Derived.Test.YtbckpmjiimiceaaDoorWO
import Derived.Test.YtbckpmjiimiceaaDoorWSS
set_option linter.unusedVariables false
set_option linter.unusedSimpArgs false
set_option maxRecDepth 4000
namespace Go.Proofs.YtbckpmjiimiceaaDoor.VL
open Go
theorem c_strings_Compare (x y : ByteArray) : AC Tryd.prog 55 [.cel Kd.str x, .cel Kd.str y] [.cel (Kd.int .i64) (cmpB x y)] [] := AC.compare Tryd.cmpL rfl x y Tryd.func55 rfl


/-- cmp.isNaN[int] -/
theorem c_cmp_isNaN_int (x : Int) : AC Tryd.prog 86 [.cel (Kd.int .i64) x] [.cel Kd.bool false] [] := by
 refine acI (N := 6) Tryd.func86 (Nat.le_of_ble_eq_true rfl) rfl fun w0 hd s0 ar => ?_
 refine AW.to (kc 0 rfl <| Kn) ?_
 refine sr ?_
 refine st (asB rfl) rfl ?_
 refine ng ?_
 refine sr ?_
 refine st (mvT rfl) rfl ?_
 refine st (mvT rfl) rfl ?_
 refine st (OpT.neq (H rfl) (T1 rfl) (T1 rfl)) rfl ?_
 refine st (asT rfl) rfl ?_
 refine ng ?_
 refine AW.ret ?_
 exact rt1 rfl (.inl rfl) (by simp)

/-- cmp.Compare[int] -/
theorem c_cmp_Compare_int (x y : Int) : AC Tryd.prog 73 [.cel (Kd.int .i64) x, .cel (Kd.int .i64) y] [.cel (Kd.int .i64) (Lib.compareInt x y)] [] := by
 refine acI (N := 20) Tryd.func73 (Nat.le_of_ble_eq_true rfl) rfl fun w0 hd s0 ar => ?_
 refine AW.to (kc2 0 1 rfl <| Kn) ?_
 refine sr ?_
 refine st (asI rfl) rfl ?_
 refine ng ?_
 refine sr ?_
 refine st (mvT rfl) rfl ?_
 refine st (OpT.c1 (ms := [.flat]) (c_cmp_isNaN_int _) (H rfl) (Af (T1 rfl) rfl rfl <| An) rfl rfl) rfl ?_
 refine st (asT rfl) rfl ?_
 refine ng ?_
 refine sr ?_
 refine st (mvT rfl) rfl ?_
 refine st (OpT.c1 (ms := [.flat]) (c_cmp_isNaN_int _) (H rfl) (Af (T1 rfl) rfl rfl <| An) rfl rfl) rfl ?_
 refine st (asT rfl) rfl ?_
 refine ng ?_
 refine AW.seq ?_
 refine sr ?_
 refine st (mvT rfl) rfl ?_
 refine ng ?_
 refine cd rfl (fun hc1 => ?_) fun hc1 => ?_
 ·
  obtain ⟨hc1, hc1'⟩ := pT hc1
  exact absurd hc1 (by decide)
 ·
  obtain ⟨hc1, hc1'⟩ := pF hc1
  refine AW.skip ?_
  refine AX.go ?_
  refine AW.seq ?_
  refine sr ?_
  refine st (mvT rfl) rfl ?_
  refine ng ?_
  refine cd rfl (fun hc2 => ?_) fun hc2 => ?_
  ·
   obtain ⟨hc2, hc2'⟩ := pT hc2
   exact absurd hc2 (by decide)
  ·
   obtain ⟨hc2, hc2'⟩ := pF hc2
   refine AW.skip ?_
   refine AX.go ?_
   refine AW.seq ?_
   refine sr ?_
   refine st (mvT rfl) rfl ?_
   refine st (mvT rfl) rfl ?_
   refine st (OpT.lss (H rfl) (T1 rfl) (T1 rfl)) rfl ?_
   refine ng ?_
   refine cd rfl (fun hc3 => ?_) fun hc3 => ?_
   ·
    obtain ⟨hc3, hc3'⟩ := pT hc3
    refine sr ?_
    refine st (asI rfl) rfl ?_
    refine AWl.to (kc3 4 0 1 rfl <| Kn) ?_
    refine ng ?_
    refine AW.ret ?_
    refine rT ?_
    exact rt1 rfl (.inl rfl) (by unfold Lib.compareInt; split <;> (try split) <;> omega)
   ·
    obtain ⟨hc3, hc3'⟩ := pF hc3
    refine AW.skip ?_
    refine AX.pr (kc3 4 0 1 rfl <| Kn) ?_
    refine AX.go ?_
    refine AW.seq ?_
    refine sr ?_
    refine st (mvT rfl) rfl ?_
    refine st (mvT rfl) rfl ?_
    refine st (OpT.gtr (H rfl) (T1 rfl) (T1 rfl)) rfl ?_
    refine ng ?_
    refine cd rfl (fun hc4 => ?_) fun hc4 => ?_
    ·
     obtain ⟨hc4, hc4'⟩ := pT hc4
     refine sr ?_
     refine st (asI rfl) rfl ?_
     refine ng ?_
     refine AW.ret ?_
     refine rT ?_
     exact rt1 rfl (.inl rfl) (by unfold Lib.compareInt; split <;> (try split) <;> omega)
    ·
     obtain ⟨hc4, hc4'⟩ := pF hc4
     refine AW.skip ?_
     refine AX.go ?_
     refine sr ?_
     refine st (asI rfl) rfl ?_
     refine ng ?_
     refine AW.ret ?_
     exact rt1 rfl (.inl rfl) (by unfold Lib.compareInt; split <;> (try split) <;> omega)

/-- cmp.Or[int] -/
theorem c_cmp_Or_int (l : List Int) : AC Tryd.prog 51 [.cel (Kd.slice (Kd.int .i64)) l] [.cel (Kd.int .i64) (orL l)] [] := by
 refine acI (N := 18) Tryd.func51 (Nat.le_of_ble_eq_true rfl) rfl fun w0 hd s0 ar => ?_
 refine AW.to (kc 0 rfl <| Kn) ?_
 refine AW.fact (fun a w hr => (ok_slice (R_ok (t := 0) rfl hr)).2) (fun hl0 => ?_)
 refine sr ?_
 refine st (asI rfl) rfl ?_
 refine ng ?_
 refine sr ?_
 refine st (asI rfl) rfl ?_
 refine ng ?_
 refine AW.seq ?_
 refine sr ?_
 refine st (mvT rfl) rfl ?_
 refine st (OpT.len (H rfl) (T1 rfl) el82) rfl ?_
 refine st (mvI rfl) rfl ?_
 refine ng ?_
 refine AW.block ?_
 refine AW.loop (fun z : Nat => z ≤ l.length ∧ orL l = orL (l.drop z)) (fun z : Nat => keep [(3, .cel (Kd.int .i64) (0 : Int)), (6, .cel (Kd.slice (Kd.int .i64)) l), (7, .cel (Kd.int .i64) (l.length : Int)), (8, .cel (Kd.int .i64) (z : Int))]) (fun z : Nat => l.length - z) (0) ⟨Nat.zero_le _, rfl⟩ (Kc 3 _ (Kv rfl rfl) <| Kc 6 _ (Kv rfl rfl) <| Kc 7 _ (Kv rfl rfl) <| Kc 8 _ (Kv rfl rfl) <| Kn) ?_
 intro z hI
 refine sr ?_
 refine st (OpT.lss (H rfl) (T1 rfl) (T1 rfl)) rfl ?_
 refine ng ?_
 refine AW.seq ?_
 refine cd rfl (fun hc1 => ?_) fun hc1 => ?_
 ·
  obtain ⟨hc1, hc1'⟩ := pT hc1
  obtain ⟨a, ha⟩ := getI (x := l) (z := z) (by omega)
  refine AW.skip ?_
  refine AX.go ?_
  refine AW.seq ?_
  refine AW.block ?_
  refine sr ?_
  refine st (OpT.indexAddr (H rfl) (T1 rfl) (T1 rfl) el82 sz3 (by omega) (by assumption)) rfl ?_
  refine st (OpT.load (H rfl) (T1 rfl) ag3 rfl) rfl ?_
  refine st (asT rfl) rfl ?_
  refine ng ?_
  refine sr ?_
  refine st (mvT rfl) rfl ?_
  refine st (mvT rfl) rfl ?_
  refine st (OpT.neq (H rfl) (T1 rfl) (T1 rfl)) rfl ?_
  refine ng ?_
  refine cd rfl (fun hc2 => ?_) fun hc2 => ?_
  ·
   obtain ⟨hc2, hc2'⟩ := pT hc2
   refine sr ?_
   refine st (mvT rfl) rfl ?_
   refine st (asT rfl) rfl ?_
   refine ng ?_
   refine AW.ret ?_
   refine rK <| rT <| rT <| rK <| rT ?_
   exact rt1 rfl (.inl rfl) (by first | exact orL_at ha hI.2 (by omega) | exact orL_end hI.2 (by omega))
  ·
   obtain ⟨hc2, hc2'⟩ := pF hc2
   refine AW.skip ?_
   refine AX.normal_block ?_
   refine AX.go ?_
   refine AW.region ?_
   refine st (OpT.add (H rfl) (T1 rfl) (I rfl) (nw (by omega))) rfl ?_
   refine st (mvT rfl) rfl ?_
   refine nn ?_
   exact AX.again (z + 1) ⟨by omega, orL_step ha hI.2 (by omega)⟩ (by omega) (Kc 3 _ (Kv rfl rfl) <| Kc 6 _ (Kv rfl rfl) <| Kc 7 _ (Kv rfl rfl) <| Kc 8 _ (Kv rfl (by omega)) <| Kn)
 ·
  obtain ⟨hc1, hc1'⟩ := pF hc1
  refine AW.exit ?_
  refine xT <| xT <| AX.exit_hit ?_
  refine AX.go ?_
  refine sr ?_
  refine st (mvT rfl) rfl ?_
  refine st (asT rfl) rfl ?_
  refine ng ?_
  refine AW.ret ?_
  exact rt1 rfl (.inl rfl) (by first | exact orL_at ha hI.2 (by omega) | exact orL_end hI.2 (by omega))

/-- spec.l05Value -/
theorem c_spec_l05Value (s : ByteArray) : AC Tryd.prog 76 [.cel Kd.str s] [.cel Kd.str (zer s)] [] := by
 refine acI (N := 14) Tryd.func76 (Nat.le_of_ble_eq_true rfl) rfl fun w0 hd s0 ar => ?_
 refine AW.to (kc 0 rfl <| Kn) ?_
 refine AW.fact (fun a w hr => ok_str (R_ok (t := 0) rfl hr)) (fun hs0 => ?_)
 refine sr ?_
 refine st (OpT.move (A := .cel _ _) (.inr rfl) rfl (ok' rfl) (Opd.str (by decide)) rfl) rfl ?_
 refine ng ?_
 refine AW.seq ?_
 refine AW.block ?_
 refine AW.loop (fun z : Nat => z ≤ s.size ∧ ∀ i, i < z → inT zrT s i) (fun z : Nat => keep [(0, .cel Kd.str (s.extract z s.size))]) (fun z : Nat => s.size - z) (0) ⟨Nat.zero_le _, all_none⟩ (Kc 0 _ (Kv rfl (ext_all s).symm) <| Kn) ?_
 intro z hI
 have hz := ext_size (s := s) (i := z) (Nat.le_refl _)
 refine AW.seq ?_
 refine sr ?_
 refine st (mvT rfl) rfl ?_
 refine st (OpT.lenS (H rfl) (T1 rfl) Tryd.underlying9) rfl ?_
 refine st (OpT.gtr (H rfl) (T1 rfl) (I rfl)) rfl ?_
 refine st (mvT rfl) rfl ?_
 apply AWl.and (d := 10) (t := 6) rfl
 ·
  intro hb1 Q1 k1
  have hb1' := lT hb1
  have hb0 := bt_get (s := s) (z := z) (by omega)
  have hb : (s.extract z s.size)[Int.toNat 0]? = some (bytA s z) := by (show (s.extract z s.size)[0]? = some (bytA s z); rw [ext_get (by omega) (Nat.le_refl _), Nat.add_zero]; exact hb0)
  refine rs hb1 (mvT rfl) rfl ?_
  refine rs hb1 (OpT.indexS (H rfl) (T1 rfl) (I rfl) Tryd.underlying9 (by omega) (by assumption)) rfl ?_
  refine rs hb1 (OpT.eql (H rfl) (T1 rfl) (I rfl)) rfl ?_
  refine st (OpT.pickT (A := .cel _ _) (H rfl) (T1 rfl) hb1 (T1 rfl) rfl) rfl ?_
  exact AWl.to (junk 3 rfl) k1
 ·
  intro hb1 Q1 k1
  refine ps hb1 rfl ?_
  refine ps hb1 rfl ?_
  refine ps hb1 rfl ?_
  refine st (OpT.pickF (A := .cel _ _) (H rfl) (T1 rfl) hb1 Opd.bool rfl) rfl ?_
  exact k1
 refine ng ?_
 refine cd rfl (fun hc1 => ?_) fun hc1 => ?_
 ·
  obtain ⟨hc1, hc1'⟩ := pT hc1
  rw [Bool.and_eq_true, decide_eq_true_eq, beq_iff_eq] at hc1
  have hb0 := bt_get (s := s) (z := z) (by omega)
  have hbt : inT zrT s z := (inT_iff hb0).2 ((zrT_iff _).2 (by omega))
  refine AW.skip ?_
  refine AX.go ?_
  refine AW.block ?_
  refine AW.region ?_
  refine st (mvT rfl) rfl ?_
  refine st (OpT.cutSL (H rfl) (T1 rfl) (I rfl) Tryd.underlying9 (by omega)) rfl ?_
  refine st (asT rfl) rfl ?_
  refine nn ?_
  refine AX.normal_block ?_
  exact AX.again (z + 1) ⟨by omega, all_step hI.2 hbt⟩ (by omega) (Kc 0 _ (Kv rfl (by rw [ext_ext (Nat.le_refl _) (by omega), hz]; congr 1; show z + (s.size - z) = s.size; omega)) <| Kn)
 ·
  obtain ⟨hc1, hc1'⟩ := pF hc1
  rw [Bool.and_eq_false_iff, decide_eq_false_iff_not, beq_eq_false_iff_ne] at hc1
  have hbt : z < s.size → ¬ inT zrT s z := fun hl h9 => by (have h8 := (zrT_iff _).1 ((inT_iff (bt_get (s := s) (z := z) hl)).1 h9); omega)
  refine AW.exit ?_
  refine xT <| xT <| AX.exit_hit ?_
  refine AX.go ?_
  refine sr ?_
  refine st (mvT rfl) rfl ?_
  refine st (asT rfl) rfl ?_
  refine ng ?_
  refine AW.ret ?_
  exact rt1 rfl (.inl rfl) (by by_cases h9 : z < s.size; exact congrArg (fun j => s.extract j s.size) (pre_at hI.2 (hbt h9) (by omega)).symm; exact congrArg (fun j => s.extract j s.size) ((show z = s.size by omega).trans (pre_all (all_end hI.2 (by omega))).symm))

/-- strings.TrimLeft -/
theorem c_strings_TrimLeft (s : ByteArray) : AC Tryd.prog 72 [.cel Kd.str s, .cel Kd.str ⟨#[48]⟩] [.cel Kd.str (zer s)] [] := by
 refine acI (N := 37) Tryd.func72 (Nat.le_of_ble_eq_true rfl) rfl fun w0 hd s0 ar => ?_
 refine AW.to (kc2 0 1 rfl <| Kn) ?_
 refine AW.fact (fun a w hr => ok_str (R_ok (t := 0) rfl hr)) (fun hs0 => ?_)
 refine sr ?_
 refine st (OpT.move (A := .cel _ _) (.inr rfl) rfl (ok' rfl) (Opd.str (by decide)) rfl) rfl ?_
 refine ng ?_
 refine AW.seq ?_
 refine sr ?_
 refine st (mvT rfl) rfl ?_
 refine st (OpT.seqv (H rfl) (T1 rfl) (Opd.str (by decide))) rfl ?_
 refine st (mvT rfl) rfl ?_
 apply AWl.or (d := 12) (t := 9) rfl
 ·
  intro hb1 Q1 k1
  refine rs hb1 (mvT rfl) rfl ?_
  refine rs hb1 (OpT.seqv (H rfl) (T1 rfl) (Opd.str (by decide))) rfl ?_
  refine st (OpT.pickF (A := .cel _ _) (H rfl) (T1 rfl) hb1 (T1 rfl) rfl) rfl ?_
  exact AWl.to (junk 2 rfl) k1
 ·
  intro hb1 Q1 k1
  refine ps hb1 rfl ?_
  refine ps hb1 rfl ?_
  refine st (OpT.pickT (A := .cel _ _) (H rfl) (T1 rfl) hb1 Opd.bool rfl) rfl ?_
  exact k1
 refine ng ?_
 refine cd rfl (fun hc1 => ?_) fun hc1 => ?_
 ·
  replace hc1 := oT hc1
  have hf := zer_nil (s := s) (by rcases (Bool.or_eq_true _ _).mp hc1 with h9 | h9; exact eqv_iff.1 h9; exact absurd (congrArg ByteArray.size (eqv_iff.1 h9)) (by decide))
  refine sr ?_
  refine st (mvT rfl) rfl ?_
  refine st (asT rfl) rfl ?_
  refine ng ?_
  refine AW.ret ?_
  refine rT ?_
  exact rt1 rfl (.inl rfl) (by first | exact hf.symm | rfl)
 ·
  replace hc1 := oF hc1
  refine AW.skip ?_
  refine AX.go ?_
  refine AW.seq ?_
  refine sr ?_
  refine st (mvT rfl) rfl ?_
  refine st (OpT.lenS (H rfl) (T1 rfl) Tryd.underlying9) rfl ?_
  refine st (OpT.eql (H rfl) (T1 rfl) (I rfl)) rfl ?_
  refine st (mvT rfl) rfl ?_
  apply AWl.and (d := 21) (t := 17) rfl
  ·
   intro hb2 Q1 k1
   refine rs hb2 (mvT rfl) rfl ?_
   refine rs hb2 (OpT.indexS (H rfl) (T1 rfl) (I rfl) Tryd.underlying9 (by omega) (show (⟨#[48]⟩ : ByteArray)[Int.toNat 0]? = some 48 from rfl)) rfl ?_
   refine rs hb2 (OpT.lss (H rfl) (T1 rfl) (I rfl)) rfl ?_
   refine st (OpT.pickT (A := .cel _ _) (H rfl) (T1 rfl) hb2 (T1 rfl) rfl) rfl ?_
   exact AWl.to (junk 3 rfl) k1
  ·
   intro hb2 Q1 k1
   refine ps hb2 rfl ?_
   refine ps hb2 rfl ?_
   refine ps hb2 rfl ?_
   refine st (OpT.pickF (A := .cel _ _) (H rfl) (T1 rfl) hb2 Opd.bool rfl) rfl ?_
   exact k1
  refine ng ?_
  refine cd rfl (fun hc2 => ?_) fun hc2 => ?_
  ·
   replace hc2 := oT hc2
   refine sr ?_
   refine st (mvT rfl) rfl ?_
   refine st (mvT rfl) rfl ?_
   refine st (OpT.indexS (H rfl) (T1 rfl) (I rfl) Tryd.underlying9 (by omega) (show (⟨#[48]⟩ : ByteArray)[Int.toNat 0]? = some 48 from rfl)) rfl ?_
   refine st (OpT.c1 (ms := [.flat, .flat]) (c_strings_trimLeftByte s) (H rfl) (Af (T1 rfl) rfl rfl <| Af (T1 rfl) rfl rfl <| An) rfl rfl) rfl ?_
   refine st (asT rfl) rfl ?_
   refine AWl.to (kc3 4 0 1 rfl <| Kn) ?_
   refine ng ?_
   refine AW.ret ?_
   refine rT ?_
   exact rt1 rfl (.inl rfl) (by first | exact hf.symm | rfl)
  ·
   replace hc2 := oF hc2
   exact (show False from (absurd hc2 (by decide))).elim

/-- slices.CompareFunc[[]string,[]string,string,string] -/
theorem c_slices_CompareFunc_string_string_string_string {γ : Type} {g : FuncId} {kg : Kd γ} {y : γ} {cs : List As} (f : ByteArray → ByteArray → Int) (hcs : CloArgs kg y cs) (hg : ∀ a b, AC Tryd.prog g ([.cel Kd.str a, .cel Kd.str b] ++ cs) [.cel (Kd.int .i64) (f a b)] []) (l m : List ByteArray) : AC Tryd.prog 52 [.cel (Kd.slice Kd.str) l, .cel (Kd.slice Kd.str) m, .clo g kg y] [.cel (Kd.int .i64) (cmpL f l m)] [] := by
 refine acI (N := 39) Tryd.func52 (Nat.le_of_ble_eq_true rfl) rfl fun w0 hd s0 ar => ?_
 refine AW.to (kc2 0 1 rfl <| Kc 2 (.clo _ _ _) rfl <| Kn) ?_
 refine AW.fact (fun a w hr => (ok_slice (R_ok (t := 0) rfl hr)).2) (fun hl0 => ?_)
 refine AW.fact (fun a w hr => (ok_slice (R_ok (t := 1) rfl hr)).2) (fun hl1 => ?_)
 refine sr ?_
 refine st (asI rfl) rfl ?_
 refine ng ?_
 refine AW.seq ?_
 refine sr ?_
 refine st (mvT rfl) rfl ?_
 refine st (OpT.len (H rfl) (T1 rfl) el24) rfl ?_
 refine st (mvI rfl) rfl ?_
 refine ng ?_
 refine AW.block ?_
 refine AW.loop (fun z : Nat => z ≤ l.length ∧ z ≤ m.length ∧ ∀ i u v, i < z → l[i]? = some u → m[i]? = some v → f u v = 0) (fun z : Nat => keep [(0, .cel (Kd.slice Kd.str) l), (1, .cel (Kd.slice Kd.str) m), (2, .clo g kg y), (11, .cel (Kd.slice Kd.str) l), (12, .cel (Kd.int .i64) (l.length : Int)), (13, .cel (Kd.int .i64) (z : Int))]) (fun z : Nat => l.length - z) (0) ⟨Nat.zero_le _, Nat.zero_le _, fun i u v h => absurd h (Nat.not_lt_zero i)⟩ (Kc 0 _ (Kv rfl rfl) <| Kc 1 _ (Kv rfl rfl) <| Kc 2 _ (rfl) <| Kc 11 _ (Kv rfl rfl) <| Kc 12 _ (Kv rfl rfl) <| Kc 13 _ (Kv rfl rfl) <| Kn) ?_
 intro z hI
 refine sr ?_
 refine st (OpT.lss (H rfl) (T1 rfl) (T1 rfl)) rfl ?_
 refine ng ?_
 refine AW.seq ?_
 refine cd rfl (fun hc1 => ?_) fun hc1 => ?_
 ·
  obtain ⟨hc1, hc1'⟩ := pT hc1
  obtain ⟨a, ha⟩ := getI (x := l) (z := z) (by omega)
  refine AW.skip ?_
  refine AX.go ?_
  refine AW.seq ?_
  refine AW.block ?_
  refine sr ?_
  refine st (mvT rfl) rfl ?_
  refine st (OpT.indexAddr (H rfl) (T1 rfl) (T1 rfl) el24 sz9 (by omega) ha) rfl ?_
  refine st (OpT.load (H rfl) (T1 rfl) ag9 rfl) rfl ?_
  refine st (asT rfl) rfl ?_
  refine st (asT rfl) rfl ?_
  refine ng ?_
  refine AW.seq ?_
  refine sr ?_
  refine st (mvT rfl) rfl ?_
  refine st (mvT rfl) rfl ?_
  refine st (OpT.len (H rfl) (T1 rfl) el24) rfl ?_
  refine st (OpT.geq (H rfl) (T1 rfl) (T1 rfl)) rfl ?_
  refine ng ?_
  refine cd rfl (fun hc2 => ?_) fun hc2 => ?_
  ·
   obtain ⟨hc2, hc2'⟩ := pT hc2
   refine sr ?_
   refine st (asI rfl) rfl ?_
   refine ng ?_
   refine AW.ret ?_
   refine rT <| rK <| rT <| rT <| rK <| rT ?_
   exact rt1 rfl (.inl rfl) (by first | exact (cl_ne (by rw [toN] at ha; exact ha) (by rw [toN] at hb; exact hb) hI.2.2 hne).symm | (rw [cl_len hI.2.2 (by omega)]; split <;> (try split) <;> omega))
  ·
   obtain ⟨hc2, hc2'⟩ := pF hc2
   obtain ⟨b, hb⟩ := getI (x := m) (z := z) (by omega)
   refine AW.skip ?_
   refine AX.go ?_
   refine sr ?_
   refine st (mvT rfl) rfl ?_
   refine st (mvT rfl) rfl ?_
   refine st (OpT.indexAddr (H rfl) (T1 rfl) (T1 rfl) el24 sz9 (by omega) hb) rfl ?_
   refine st (OpT.load (H rfl) (T1 rfl) ag9 rfl) rfl ?_
   refine st (asT rfl) rfl ?_
   refine ng ?_
   refine sr ?_
   refine st (OpT.move (A := .clo _ _ _) (.inl rfl) rfl (ok' rfl) (T1 rfl) rfl) rfl ?_
   refine st (mvT rfl) rfl ?_
   refine st (mvT rfl) rfl ?_
   refine st (OpT.vg (ms := [.flat, .flat]) (T1 rfl) hcs ((hg _ _)) (H rfl) (Af (T1 rfl) rfl rfl <| Af (T1 rfl) rfl rfl <| An) rfl rfl) rfl ?_
   refine st (asT rfl) rfl ?_
   refine ng ?_
   refine sr ?_
   refine st (mvT rfl) rfl ?_
   refine st (OpT.neq (H rfl) (T1 rfl) (I rfl)) rfl ?_
   refine ng ?_
   refine cd rfl (fun hc3 => ?_) fun hc3 => ?_
   ·
    obtain ⟨hc3, hc3'⟩ := pT hc3
    have hne : f a b ≠ 0 := by simpa using hc3
    refine sr ?_
    refine st (mvT rfl) rfl ?_
    refine st (asT rfl) rfl ?_
    refine ng ?_
    refine AW.ret ?_
    refine rK <| rT <| rT <| rK <| rT ?_
    exact rt1 rfl (.inl rfl) (by first | exact (cl_ne (by rw [toN] at ha; exact ha) (by rw [toN] at hb; exact hb) hI.2.2 hne).symm | (rw [cl_len hI.2.2 (by omega)]; split <;> (try split) <;> omega))
   ·
    obtain ⟨hc3, hc3'⟩ := pF hc3
    have heq : f a b = 0 := by simpa using hc3
    refine AW.skip ?_
    refine AX.normal_block ?_
    refine AX.go ?_
    refine AW.region ?_
    refine st (OpT.add (H rfl) (T1 rfl) (I rfl) (nw (by omega))) rfl ?_
    refine st (mvT rfl) rfl ?_
    refine nn ?_
    exact AX.again (z + 1) ⟨by omega, by omega, cf_step hI.2.2 ha hb heq⟩ (by omega) (Kc 0 _ (Kv rfl rfl) <| Kc 1 _ (Kv rfl rfl) <| Kc 2 _ (rfl) <| Kc 11 _ (Kv rfl rfl) <| Kc 12 _ (Kv rfl rfl) <| Kc 13 _ (Kv rfl (by omega)) <| Kn)
 ·
  obtain ⟨hc1, hc1'⟩ := pF hc1
  refine AW.exit ?_
  refine xT <| xT <| AX.exit_hit ?_
  refine AX.go ?_
  refine AW.seq ?_
  refine sr ?_
  refine st (mvT rfl) rfl ?_
  refine st (OpT.len (H rfl) (T1 rfl) el24) rfl ?_
  refine st (mvT rfl) rfl ?_
  refine st (OpT.len (H rfl) (T1 rfl) el24) rfl ?_
  refine st (OpT.lss (H rfl) (T1 rfl) (T1 rfl)) rfl ?_
  refine AWl.to (kc 38 rfl <| Kn) ?_
  refine ng ?_
  refine cd rfl (fun hc4 => ?_) fun hc4 => ?_
  ·
   obtain ⟨hc4, hc4'⟩ := pT hc4
   refine sr ?_
   refine st (asI rfl) rfl ?_
   refine ng ?_
   refine AW.ret ?_
   refine rT ?_
   exact rt1 rfl (.inl rfl) (by first | exact (cl_ne (by rw [toN] at ha; exact ha) (by rw [toN] at hb; exact hb) hI.2.2 hne).symm | (rw [cl_len hI.2.2 (by omega)]; split <;> (try split) <;> omega))
  ·
   obtain ⟨hc4, hc4'⟩ := pF hc4
   refine AW.skip ?_
   refine AX.go ?_
   refine sr ?_
   refine st (asI rfl) rfl ?_
   refine ng ?_
   refine AW.ret ?_
   exact rt1 rfl (.inl rfl) (by first | exact (cl_ne (by rw [toN] at ha; exact ha) (by rw [toN] at hb; exact hb) hI.2.2 hne).symm | (rw [cl_len hI.2.2 (by omega)]; split <;> (try split) <;> omega))

/-- impl.filedWords -/
theorem c_impl_filedWords (x : ByteArray) (hx : x.size ≤ 1000000000) : AC Tryd.prog 53 [.cel Kd.str x] [.cel (Kd.slice Kd.str) (fwP x)] [] := by
 refine acI (N := 30) Tryd.func53 (Nat.le_of_ble_eq_true rfl) rfl fun w0 hd s0 ar => ?_
 refine AW.to (kc 0 rfl <| Kn) ?_
 refine sr ?_
 refine st (OpT.move (A := .cel _ _) (.inr rfl) rfl (ok' rfl) (Opd.nilslice Kd.str) rfl) rfl ?_
 refine ng ?_
 refine sr ?_
 refine st (mvT rfl) rfl ?_
 refine st (OpT.c1 (ms := [.flat, .flat]) (c_strings_Split x 32 hx) (H rfl) (Af (T1 rfl) rfl rfl <| Af (Opd.str (by decide)) rfl rfl <| An) rfl rfl) rfl ?_
 refine st (asT rfl) rfl ?_
 refine ng ?_
 refine AW.seq ?_
 refine sr ?_
 refine st (mvT rfl) rfl ?_
 refine st (OpT.len (H rfl) (T1 rfl) el24) rfl ?_
 refine st (OpT.gtr (H rfl) (T1 rfl) (I rfl)) rfl ?_
 refine st (mvT rfl) rfl ?_
 apply AWl.and (d := 26) (t := 9) rfl
 ·
  intro hb1 Q1 k1
  refine rs hb1 (mvT rfl) rfl ?_
  refine rs hb1 (OpT.indexAddr (H rfl) (T1 rfl) (I rfl) el24 sz9 (by omega) (fst_get x)) rfl ?_
  refine rs hb1 (OpT.load (H rfl) (T1 rfl) ag9 rfl) rfl ?_
  refine rs hb1 (OpT.seqv (H rfl) (T1 rfl) (Opd.str (by decide))) rfl ?_
  refine rs hb1 (mvT rfl) rfl ?_
  apply AWl.or (d := 19) (t := 14) rfl
  ·
   intro hb2 Q1 k1
   refine rs hb2 (mvT rfl) rfl ?_
   refine rs hb2 (OpT.indexAddr (H rfl) (T1 rfl) (I rfl) el24 sz9 (by omega) (fst_get x)) rfl ?_
   refine rs hb2 (OpT.load (H rfl) (T1 rfl) ag9 rfl) rfl ?_
   refine rs hb2 (OpT.seqv (H rfl) (T1 rfl) (Opd.str (by decide))) rfl ?_
   refine rs hb1 (OpT.pickF (A := .cel _ _) (H rfl) (T1 rfl) hb2 (T1 rfl) rfl) rfl ?_
   exact AWl.to (junk 4 rfl) k1
  ·
   intro hb2 Q1 k1
   refine ps hb2 rfl ?_
   refine ps hb2 rfl ?_
   refine ps hb2 rfl ?_
   refine ps hb2 rfl ?_
   refine rs hb1 (OpT.pickT (A := .cel _ _) (H rfl) (T1 rfl) hb2 Opd.bool rfl) rfl ?_
   exact k1
  refine rs hb1 (mvT rfl) rfl ?_
  apply AWl.or (d := 25) (t := 20) rfl
  ·
   intro hb3 Q1 k1
   refine rs hb3 (mvT rfl) rfl ?_
   refine rs hb3 (OpT.indexAddr (H rfl) (T1 rfl) (I rfl) el24 sz9 (by omega) (fst_get x)) rfl ?_
   refine rs hb3 (OpT.load (H rfl) (T1 rfl) ag9 rfl) rfl ?_
   refine rs hb3 (OpT.seqv (H rfl) (T1 rfl) (Opd.str (by decide))) rfl ?_
   refine rs hb1 (OpT.pickF (A := .cel _ _) (H rfl) (T1 rfl) hb3 (T1 rfl) rfl) rfl ?_
   exact AWl.to (junk 4 rfl) k1
  ·
   intro hb3 Q1 k1
   refine ps hb3 rfl ?_
   refine ps hb3 rfl ?_
   refine ps hb3 rfl ?_
   refine ps hb3 rfl ?_
   refine rs hb1 (OpT.pickT (A := .cel _ _) (H rfl) (T1 rfl) hb3 Opd.bool rfl) rfl ?_
   exact k1
  refine st (OpT.pickT (A := .cel _ _) (H rfl) (T1 rfl) hb1 (T1 rfl) rfl) rfl ?_
  exact AWl.to (junk 8 rfl) k1
 ·
  intro hb1 Q1 k1
  refine ps hb1 rfl ?_
  refine ps hb1 rfl ?_
  refine ps hb1 rfl ?_
  refine ps hb1 rfl ?_
  refine AWl.pasv rfl rfl rfl rfl hb1 rfl (ok' rfl) rfl ?_
  refine AWl.pasu rfl rfl rfl rfl rfl (ok' rfl) rfl ?_
  refine AWl.pasu rfl rfl rfl rfl rfl (ok' rfl) rfl ?_
  refine AWl.pasu rfl rfl rfl rfl rfl (ok' rfl) rfl ?_
  refine AWl.pasu rfl rfl rfl rfl rfl (ok' rfl) rfl ?_
  refine ps hb1 rfl ?_
  refine AWl.pasv rfl rfl rfl rfl hb1 rfl (ok' rfl) rfl ?_
  refine AWl.pasu rfl rfl rfl rfl rfl (ok' rfl) rfl ?_
  refine AWl.pasu rfl rfl rfl rfl rfl (ok' rfl) rfl ?_
  refine AWl.pasu rfl rfl rfl rfl rfl (ok' rfl) rfl ?_
  refine AWl.pasu rfl rfl rfl rfl rfl (ok' rfl) rfl ?_
  refine ps hb1 rfl ?_
  refine st (OpT.pickF (A := .cel _ _) (H rfl) (T1 rfl) hb1 Opd.bool rfl) rfl ?_
  exact AWl.to (junk 10 rfl) k1
 refine ng ?_
 refine cd rfl (fun hc1 => ?_) fun hc1 => ?_
 ·
  replace hc1 := oT hc1
  refine sr ?_
  refine st (mvT rfl) rfl ?_
  refine st (OpT.cutL (H rfl) (T1 rfl) (I rfl) el24 sz9 (by have h9 := (Bool.and_eq_true _ _).mp hc1; have h8 := of_decide_eq_true h9.1; omega)) rfl ?_
  refine st (asT rfl) rfl ?_
  refine AWl.to (kc2 2 3 rfl <| Kn) ?_
  refine ng ?_
  refine AW.ret ?_
  refine rT ?_
  exact rt1 rfl (.inl rfl) (by first | exact (fw_yes hc1).symm | exact (fw_no hc1).symm)
 ·
  replace hc1 := oF hc1
  refine AW.skip ?_
  refine AX.go ?_
  refine sr ?_
  refine st (mvT rfl) rfl ?_
  refine st (asT rfl) rfl ?_
  refine AWl.to (kc 2 rfl <| Kn) ?_
  refine ng ?_
  refine AW.ret ?_
  exact rt1 rfl (.inl rfl) (by first | exact (fw_yes hc1).symm | exact (fw_no hc1).symm)

/-- spec.l05Words -/
theorem c_spec_l05Words (x : ByteArray) (hx : x.size ≤ 1000000000) : AC Tryd.prog 58 [.cel Kd.str x] [.cel (Kd.slice Kd.str) (fwP x)] [] := by
 refine acI (N := 30) Tryd.func58 (Nat.le_of_ble_eq_true rfl) rfl fun w0 hd s0 ar => ?_
 refine AW.to (kc 0 rfl <| Kn) ?_
 refine sr ?_
 refine st (OpT.move (A := .cel _ _) (.inr rfl) rfl (ok' rfl) (Opd.nilslice Kd.str) rfl) rfl ?_
 refine ng ?_
 refine sr ?_
 refine st (mvT rfl) rfl ?_
 refine st (OpT.c1 (ms := [.flat, .flat]) (c_spec_l01Split x 32 32 hx rfl) (H rfl) (Af (T1 rfl) rfl rfl <| Af (I rfl) rfl rfl <| An) rfl rfl) rfl ?_
 refine st (asT rfl) rfl ?_
 refine ng ?_
 refine AW.seq ?_
 refine sr ?_
 refine st (mvT rfl) rfl ?_
 refine st (OpT.len (H rfl) (T1 rfl) el24) rfl ?_
 refine st (OpT.gtr (H rfl) (T1 rfl) (I rfl)) rfl ?_
 refine st (mvT rfl) rfl ?_
 apply AWl.and (d := 26) (t := 9) rfl
 ·
  intro hb1 Q1 k1
  refine rs hb1 (mvT rfl) rfl ?_
  refine rs hb1 (OpT.indexAddr (H rfl) (T1 rfl) (I rfl) el24 sz9 (by omega) (fst_get x)) rfl ?_
  refine rs hb1 (OpT.load (H rfl) (T1 rfl) ag9 rfl) rfl ?_
  refine rs hb1 (OpT.seqv (H rfl) (T1 rfl) (Opd.str (by decide))) rfl ?_
  refine rs hb1 (mvT rfl) rfl ?_
  apply AWl.or (d := 19) (t := 14) rfl
  ·
   intro hb2 Q1 k1
   refine rs hb2 (mvT rfl) rfl ?_
   refine rs hb2 (OpT.indexAddr (H rfl) (T1 rfl) (I rfl) el24 sz9 (by omega) (fst_get x)) rfl ?_
   refine rs hb2 (OpT.load (H rfl) (T1 rfl) ag9 rfl) rfl ?_
   refine rs hb2 (OpT.seqv (H rfl) (T1 rfl) (Opd.str (by decide))) rfl ?_
   refine rs hb1 (OpT.pickF (A := .cel _ _) (H rfl) (T1 rfl) hb2 (T1 rfl) rfl) rfl ?_
   exact AWl.to (junk 4 rfl) k1
  ·
   intro hb2 Q1 k1
   refine ps hb2 rfl ?_
   refine ps hb2 rfl ?_
   refine ps hb2 rfl ?_
   refine ps hb2 rfl ?_
   refine rs hb1 (OpT.pickT (A := .cel _ _) (H rfl) (T1 rfl) hb2 Opd.bool rfl) rfl ?_
   exact k1
  refine rs hb1 (mvT rfl) rfl ?_
  apply AWl.or (d := 25) (t := 20) rfl
  ·
   intro hb3 Q1 k1
   refine rs hb3 (mvT rfl) rfl ?_
   refine rs hb3 (OpT.indexAddr (H rfl) (T1 rfl) (I rfl) el24 sz9 (by omega) (fst_get x)) rfl ?_
   refine rs hb3 (OpT.load (H rfl) (T1 rfl) ag9 rfl) rfl ?_
   refine rs hb3 (OpT.seqv (H rfl) (T1 rfl) (Opd.str (by decide))) rfl ?_
   refine rs hb1 (OpT.pickF (A := .cel _ _) (H rfl) (T1 rfl) hb3 (T1 rfl) rfl) rfl ?_
   exact AWl.to (junk 4 rfl) k1
  ·
   intro hb3 Q1 k1
   refine ps hb3 rfl ?_
   refine ps hb3 rfl ?_
   refine ps hb3 rfl ?_
   refine ps hb3 rfl ?_
   refine rs hb1 (OpT.pickT (A := .cel _ _) (H rfl) (T1 rfl) hb3 Opd.bool rfl) rfl ?_
   exact k1
  refine st (OpT.pickT (A := .cel _ _) (H rfl) (T1 rfl) hb1 (T1 rfl) rfl) rfl ?_
  exact AWl.to (junk 8 rfl) k1
 ·
  intro hb1 Q1 k1
  refine ps hb1 rfl ?_
  refine ps hb1 rfl ?_
  refine ps hb1 rfl ?_
  refine ps hb1 rfl ?_
  refine AWl.pasv rfl rfl rfl rfl hb1 rfl (ok' rfl) rfl ?_
  refine AWl.pasu rfl rfl rfl rfl rfl (ok' rfl) rfl ?_
  refine AWl.pasu rfl rfl rfl rfl rfl (ok' rfl) rfl ?_
  refine AWl.pasu rfl rfl rfl rfl rfl (ok' rfl) rfl ?_
  refine AWl.pasu rfl rfl rfl rfl rfl (ok' rfl) rfl ?_
  refine ps hb1 rfl ?_
  refine AWl.pasv rfl rfl rfl rfl hb1 rfl (ok' rfl) rfl ?_
  refine AWl.pasu rfl rfl rfl rfl rfl (ok' rfl) rfl ?_
  refine AWl.pasu rfl rfl rfl rfl rfl (ok' rfl) rfl ?_
  refine AWl.pasu rfl rfl rfl rfl rfl (ok' rfl) rfl ?_
  refine AWl.pasu rfl rfl rfl rfl rfl (ok' rfl) rfl ?_
  refine ps hb1 rfl ?_
  refine st (OpT.pickF (A := .cel _ _) (H rfl) (T1 rfl) hb1 Opd.bool rfl) rfl ?_
  exact AWl.to (junk 10 rfl) k1
 refine ng ?_
 refine cd rfl (fun hc1 => ?_) fun hc1 => ?_
 ·
  replace hc1 := oT hc1
  refine sr ?_
  refine st (mvT rfl) rfl ?_
  refine st (OpT.cutL (H rfl) (T1 rfl) (I rfl) el24 sz9 (by have h9 := (Bool.and_eq_true _ _).mp hc1; have h8 := of_decide_eq_true h9.1; omega)) rfl ?_
  refine st (asT rfl) rfl ?_
  refine AWl.to (kc2 2 3 rfl <| Kn) ?_
  refine ng ?_
  refine AW.ret ?_
  refine rT ?_
  exact rt1 rfl (.inl rfl) (by first | exact (fw_yes hc1).symm | exact (fw_no hc1).symm)
 ·
  replace hc1 := oF hc1
  refine AW.skip ?_
  refine AX.go ?_
  refine sr ?_
  refine st (mvT rfl) rfl ?_
  refine st (asT rfl) rfl ?_
  refine AWl.to (kc 2 rfl <| Kn) ?_
  refine ng ?_
  refine AW.ret ?_
  exact rt1 rfl (.inl rfl) (by first | exact (fw_yes hc1).symm | exact (fw_no hc1).symm)

/-- impl.compareWords -/
theorem c_impl_compareWords (x y : ByteArray) : AC Tryd.prog 54 [.cel Kd.str x, .cel Kd.str y] [.cel (Kd.int .i64) (cwP x y)] [] := by
 refine acI (N := 39) Tryd.func54 (Nat.le_of_ble_eq_true rfl) rfl fun w0 hd s0 ar => ?_
 refine AW.to (kc2 0 1 rfl <| Kn) ?_
 refine sr ?_
 refine st (asI rfl) rfl ?_
 refine ng ?_
 refine sr ?_
 refine st (mvT rfl) rfl ?_
 refine st (OpT.c1 (ms := [.flat, .flat]) (c_strings_Trim x dgsB digT cut_dgs) (H rfl) (Af (T1 rfl) rfl rfl <| Af (Opd.str (by decide)) rfl rfl <| An) rfl rfl) rfl ?_
 refine st (OpT.seqv (H rfl) (T1 rfl) (Opd.str (by decide))) rfl ?_
 refine st (mvT rfl) rfl ?_
 refine st (OpT.c1 (ms := [.flat, .flat]) (c_strings_Trim y dgsB digT cut_dgs) (H rfl) (Af (T1 rfl) rfl rfl <| Af (Opd.str (by decide)) rfl rfl <| An) rfl rfl) rfl ?_
 refine st (OpT.seqv (H rfl) (T1 rfl) (Opd.str (by decide))) rfl ?_
 refine st (asT rfl) rfl ?_
 refine st (asT rfl) rfl ?_
 refine ng ?_
 refine AW.seq ?_
 refine AW.block ?_
 refine sr ?_
 refine st (mvT rfl) rfl ?_
 refine st (mvT rfl) rfl ?_
 apply AWl.and (d := 17) (t := 15) rfl
 ·
  intro hb1 Q1 k1
  refine rs hb1 (mvT rfl) rfl ?_
  refine st (OpT.pickT (A := .cel _ _) (H rfl) (T1 rfl) hb1 (T1 rfl) rfl) rfl ?_
  exact AWl.to (junk 1 rfl) k1
 ·
  intro hb1 Q1 k1
  refine ps hb1 rfl ?_
  refine st (OpT.pickF (A := .cel _ _) (H rfl) (T1 rfl) hb1 Opd.bool rfl) rfl ?_
  exact k1
 refine st (asT rfl) rfl ?_
 refine ng ?_
 refine cd rfl (fun hc1 => ?_) fun hc1 => ?_
 ·
  replace hc1 := oT hc1
  have h1 : (isDw x && isDw y) = true := hc1
  refine sr ?_
  refine st (mvT rfl) rfl ?_
  refine st (OpT.c1 (ms := [.flat, .flat]) (c_strings_TrimLeft x) (H rfl) (Af (T1 rfl) rfl rfl <| Af (Opd.str (by decide)) rfl rfl <| An) rfl rfl) rfl ?_
  refine st (mvT rfl) rfl ?_
  refine st (OpT.c1 (ms := [.flat, .flat]) (c_strings_TrimLeft y) (H rfl) (Af (T1 rfl) rfl rfl <| Af (Opd.str (by decide)) rfl rfl <| An) rfl rfl) rfl ?_
  refine st (asT rfl) rfl ?_
  refine st (asT rfl) rfl ?_
  refine AWl.to (kc3 1 0 4 rfl <| Kn) ?_
  refine ng ?_
  refine sr ?_
  refine st (mvT rfl) rfl ?_
  refine st (OpT.lenS (H rfl) (T1 rfl) Tryd.underlying9) rfl ?_
  refine st (mvT rfl) rfl ?_
  refine st (OpT.lenS (H rfl) (T1 rfl) Tryd.underlying9) rfl ?_
  refine st (OpT.c1 (ms := [.flat, .flat]) (c_cmp_Compare_int _ _) (H rfl) (Af (T1 rfl) rfl rfl <| Af (T1 rfl) rfl rfl <| An) rfl rfl) rfl ?_
  refine st (mvT rfl) rfl ?_
  refine st (mvT rfl) rfl ?_
  refine st (OpT.c1 (ms := [.flat, .flat]) (c_strings_Compare _ _) (H rfl) (Af (T1 rfl) rfl rfl <| Af (T1 rfl) rfl rfl <| An) rfl rfl) rfl ?_
  refine st (OpT.buildSlice (H rfl) el82 zr3 sz3 rfl (by decide) zk3 (by decide) (Built.cel (T1 rfl) rfl rfl (sub_arr (by decide) (0 : Int)) (Built.cel (T1 rfl) rfl rfl (sub_arr (by decide) (0 : Int)) (Built.nil _)))) rfl ?_
  refine st (cb1 (ms := [.bor 30]) (c_cmp_Or_int _) (H rfl) (Ab (Root.self (t := 30) (by decide)) rfl <| An) rfl (indC fun _ _ _ _ h => h)) rfl ?_
  refine st (asT rfl) rfl ?_
  refine AWl.to (kc3 4 1 0 rfl <| Kn) ?_
  refine ng ?_
  refine AW.ret ?_
  refine rK <| rT ?_
  exact rt1 rfl (.inl rfl) (by first | exact (orL_two _ _).trans (cw_two h1).symm | exact (cw_one h1 h2).symm | exact (cw_oth h1 h2 h3).symm | exact (cw_no h1 h2 h3).symm)
 ·
  replace hc1 := oF hc1
  have h1 : (isDw x && isDw y) = false := hc1
  refine sr ?_
  refine st (mvT rfl) rfl ?_
  refine st (asT rfl) rfl ?_
  refine AWl.to (kc4 32 6 4 0 rfl <| kc 1 rfl <| Kn) ?_
  refine ng ?_
  refine cd rfl (fun hc2 => ?_) fun hc2 => ?_
  ·
   replace hc2 := oT hc2
   have h2 : isDw x = true := hc2
   refine sr ?_
   refine st (asI rfl) rfl ?_
   refine ng ?_
   refine AW.ret ?_
   refine rK <| rT ?_
   exact rt1 rfl (.inl rfl) (by first | exact (orL_two _ _).trans (cw_two h1).symm | exact (cw_one h1 h2).symm | exact (cw_oth h1 h2 h3).symm | exact (cw_no h1 h2 h3).symm)
  ·
   replace hc2 := oF hc2
   have h2 : isDw x = false := hc2
   refine sr ?_
   refine st (mvT rfl) rfl ?_
   refine st (asT rfl) rfl ?_
   refine ng ?_
   refine cd rfl (fun hc3 => ?_) fun hc3 => ?_
   ·
    replace hc3 := oT hc3
    have h3 : isDw y = true := hc3
    refine sr ?_
    refine st (asI rfl) rfl ?_
    refine ng ?_
    refine AW.ret ?_
    refine rK <| rT ?_
    exact rt1 rfl (.inl rfl) (by first | exact (orL_two _ _).trans (cw_two h1).symm | exact (cw_one h1 h2).symm | exact (cw_oth h1 h2 h3).symm | exact (cw_no h1 h2 h3).symm)
   ·
    replace hc3 := oF hc3
    have h3 : isDw y = false := hc3
    refine AW.skip ?_
    refine AX.normal_block ?_
    refine AX.go ?_
    refine sr ?_
    refine st (mvT rfl) rfl ?_
    refine st (mvT rfl) rfl ?_
    refine st (OpT.c1 (ms := [.flat, .flat]) (c_strings_Compare _ _) (H rfl) (Af (T1 rfl) rfl rfl <| Af (T1 rfl) rfl rfl <| An) rfl rfl) rfl ?_
    refine st (asT rfl) rfl ?_
    refine ng ?_
    refine AW.ret ?_
    exact rt1 rfl (.inl rfl) (by first | exact (orL_two _ _).trans (cw_two h1).symm | exact (cw_one h1 h2).symm | exact (cw_oth h1 h2 h3).symm | exact (cw_no h1 h2 h3).symm)

/-- impl.compareNames -/
theorem c_impl_compareNames (x y : ByteArray) (hx : x.size ≤ 1000000000 ∧ y.size ≤ 1000000000) : AC Tryd.prog 37 [.cel Kd.str x, .cel Kd.str y] [.cel (Kd.int .i64) (cnP x y)] [] := by
 refine acI (N := 15) Tryd.func37 (Nat.le_of_ble_eq_true rfl) rfl fun w0 hd s0 ar => ?_
 refine AW.to (kc2 0 1 rfl <| Kn) ?_
 refine sr ?_
 refine st (asI rfl) rfl ?_
 refine ng ?_
 refine sr ?_
 refine st (mvT rfl) rfl ?_
 refine st (OpT.c1 (ms := [.flat]) (c_impl_filedWords x hx.1) (H rfl) (Af (T1 rfl) rfl rfl <| An) rfl rfl) rfl ?_
 refine st (mvT rfl) rfl ?_
 refine st (OpT.c1 (ms := [.flat]) (c_impl_filedWords y hx.2) (H rfl) (Af (T1 rfl) rfl rfl <| An) rfl rfl) rfl ?_
 refine st (OpT.c1 (ms := [.flat, .flat, .flat]) (c_slices_CompareFunc_string_string_string_string cwP CloArgs.unit (fun a b => c_impl_compareWords a b) _ _) (H rfl) (Af (T1 rfl) rfl rfl <| Af (T1 rfl) rfl rfl <| Af Opd.func rfl rfl <| An) rfl rfl) rfl ?_
 refine st (mvT rfl) rfl ?_
 refine st (mvT rfl) rfl ?_
 refine st (OpT.c1 (ms := [.flat, .flat]) (c_strings_Compare _ _) (H rfl) (Af (T1 rfl) rfl rfl <| Af (T1 rfl) rfl rfl <| An) rfl rfl) rfl ?_
 refine st (OpT.buildSlice (H rfl) el82 zr3 sz3 rfl (by decide) zk3 (by decide) (Built.cel (T1 rfl) rfl rfl (sub_arr (by decide) (0 : Int)) (Built.cel (T1 rfl) rfl rfl (sub_arr (by decide) (0 : Int)) (Built.nil _)))) rfl ?_
 refine st (cb1 (ms := [.bor 13]) (c_cmp_Or_int _) (H rfl) (Ab (Root.self (t := 13) (by decide)) rfl <| An) rfl (indC fun _ _ _ _ h => h)) rfl ?_
 refine st (asT rfl) rfl ?_
 refine AWl.to (kc 4 rfl <| Kn) ?_
 refine ng ?_
 refine AW.ret ?_
 exact rt1 rfl (.inl rfl) (orL_two _ _)

/-- impl.isEntryName -/
theorem c_impl_isEntryName (x : ByteArray) : AC Tryd.prog 36 [.cel Kd.str x] [.cel Kd.bool (tt (enOK x))] [] := by
 refine acI (N := 28) Tryd.func36 (Nat.le_of_ble_eq_true rfl) rfl fun w0 hd s0 ar => ?_
 refine AW.to (kc 0 rfl <| Kn) ?_
 refine AW.fact (fun a w hr => ok_str (R_ok (t := 0) rfl hr)) (fun hs0 => ?_)
 have hsl := splB_len 32 x
 have hcn := cnB_le 32 x
 refine sr ?_
 refine st (asB rfl) rfl ?_
 refine ng ?_
 refine AW.seq ?_
 refine sr ?_
 refine st (mvT rfl) rfl ?_
 refine st (OpT.lenS (H rfl) (T1 rfl) Tryd.underlying9) rfl ?_
 refine st (OpT.lss (H rfl) (T1 rfl) (I rfl)) rfl ?_
 refine st (mvT rfl) rfl ?_
 apply AWl.or (d := 12) (t := 8) rfl
 ·
  intro hb1 Q1 k1
  have hb1' := lF hb1
  refine rs hb1 (mvT rfl) rfl ?_
  refine rs hb1 (OpT.lenS (H rfl) (T1 rfl) Tryd.underlying9) rfl ?_
  refine rs hb1 (OpT.gtr (H rfl) (T1 rfl) (I rfl)) rfl ?_
  refine st (OpT.pickF (A := .cel _ _) (H rfl) (T1 rfl) hb1 (T1 rfl) rfl) rfl ?_
  exact AWl.to (junk 3 rfl) k1
 ·
  intro hb1 Q1 k1
  refine ps hb1 rfl ?_
  refine ps hb1 rfl ?_
  refine ps hb1 rfl ?_
  refine st (OpT.pickT (A := .cel _ _) (H rfl) (T1 rfl) hb1 Opd.bool rfl) rfl ?_
  exact k1
 refine ng ?_
 refine cd rfl (fun hc1 => ?_) fun hc1 => ?_
 ·
  obtain ⟨hc1, hc1'⟩ := pT hc1
  have hsz := hc1'
  refine sr ?_
  refine st (asB rfl) rfl ?_
  refine ng ?_
  refine AW.ret ?_
  refine rT ?_
  exact rt1 rfl (.inl rfl) (by first | exact en_size (by omega) | exact en_bad hw hbad | exact en_yes (by omega) (by omega) hI.2 (by omega))
 ·
  obtain ⟨hc1, hc1'⟩ := pF hc1
  have hsz := hc1'
  refine AW.skip ?_
  refine AX.go ?_
  refine AW.seq ?_
  refine sr ?_
  refine st (mvT rfl) rfl ?_
  refine st (OpT.c1 (ms := [.flat, .flat]) (c_strings_Split x 32 (by omega)) (H rfl) (Af (T1 rfl) rfl rfl <| Af (Opd.str (by decide)) rfl rfl <| An) rfl rfl) rfl ?_
  refine st (OpT.len (H rfl) (T1 rfl) el24) rfl ?_
  refine st (mvI rfl) rfl ?_
  refine ng ?_
  refine AW.block ?_
  refine AW.loop (fun z : Nat => z ≤ (splB 32 x).length ∧ ∀ w ∈ (splB 32 x).take z, enW w) (fun z : Nat => keep [(14, .cel (Kd.slice Kd.str) (splB 32 x)), (15, .cel (Kd.int .i64) ((splB 32 x).length : Int)), (16, .cel (Kd.int .i64) (z : Int))]) (fun z : Nat => (splB 32 x).length - z) (0) ⟨Nat.zero_le _, by simp⟩ (Kc 14 _ (Kv rfl rfl) <| Kc 15 _ (Kv rfl rfl) <| Kc 16 _ (Kv rfl rfl) <| Kn) ?_
  intro z hI
  refine sr ?_
  refine st (OpT.lss (H rfl) (T1 rfl) (T1 rfl)) rfl ?_
  refine ng ?_
  refine AW.seq ?_
  refine cd rfl (fun hc2 => ?_) fun hc2 => ?_
  ·
   obtain ⟨hc2, hc2'⟩ := pT hc2
   obtain ⟨w, hw⟩ := getI (x := splB 32 x) (z := z) (by omega)
   refine AW.skip ?_
   refine AX.go ?_
   refine AW.seq ?_
   refine AW.block ?_
   refine sr ?_
   refine st (OpT.indexAddr (H rfl) (T1 rfl) (T1 rfl) el24 sz9 (by omega) hw) rfl ?_
   refine st (OpT.load (H rfl) (T1 rfl) ag9 rfl) rfl ?_
   refine st (asT rfl) rfl ?_
   refine ng ?_
   refine sr ?_
   refine st (mvT rfl) rfl ?_
   refine st (OpT.seqv (H rfl) (T1 rfl) (Opd.str (by decide))) rfl ?_
   refine st (mvT rfl) rfl ?_
   apply AWl.or (d := 26) (t := 22) rfl
   ·
    intro hb2 Q1 k1
    have hb2' := lF hb2
    refine rs hb2 (mvT rfl) rfl ?_
    refine rs hb2 (OpT.c1 (ms := [.flat, .flat]) (c_strings_Trim w alnB alnT cut_aln) (H rfl) (Af (T1 rfl) rfl rfl <| Af (Opd.str (by decide)) rfl rfl <| An) rfl rfl) rfl ?_
    refine rs hb2 (OpT.snev (H rfl) (T1 rfl) (Opd.str (by decide))) rfl ?_
    refine st (OpT.pickF (A := .cel _ _) (H rfl) (T1 rfl) hb2 (T1 rfl) rfl) rfl ?_
    exact AWl.to (junk 3 rfl) k1
   ·
    intro hb2 Q1 k1
    refine ps hb2 rfl ?_
    refine ps hb2 rfl ?_
    refine ps hb2 rfl ?_
    refine st (OpT.pickT (A := .cel _ _) (H rfl) (T1 rfl) hb2 Opd.bool rfl) rfl ?_
    exact k1
   refine ng ?_
   refine cd rfl (fun hc3 => ?_) fun hc3 => ?_
   ·
    obtain ⟨hc3, hc3'⟩ := pT hc3
    have hbad : ¬ enW w := fun h9 => by (have h8 := enW_trim.2 h9; rw [show _ = true from hc3] at h8; cases h8)
    refine sr ?_
    refine st (asB rfl) rfl ?_
    refine ng ?_
    refine AW.ret ?_
    refine rK <| rT <| rT <| rK <| rT ?_
    exact rt1 rfl (.inl rfl) (by first | exact en_size (by omega) | exact en_bad hw hbad | exact en_yes (by omega) (by omega) hI.2 (by omega))
   ·
    obtain ⟨hc3, hc3'⟩ := pF hc3
    have hgd : enW w := enW_trim.1 hc3
    refine AW.skip ?_
    refine AX.normal_block ?_
    refine AX.go ?_
    refine AW.region ?_
    refine st (OpT.add (H rfl) (T1 rfl) (I rfl) (nw (by omega))) rfl ?_
    refine st (mvT rfl) rfl ?_
    refine nn ?_
    exact AX.again (z + 1) ⟨by omega, en_more hw hI.2 hgd⟩ (by omega) (Kc 14 _ (Kv rfl rfl) <| Kc 15 _ (Kv rfl rfl) <| Kc 16 _ (Kv rfl (by omega)) <| Kn)
  ·
   obtain ⟨hc2, hc2'⟩ := pF hc2
   refine AW.exit ?_
   refine xT <| xT <| AX.exit_hit ?_
   refine AX.go ?_
   refine sr ?_
   refine st (asB rfl) rfl ?_
   refine ng ?_
   refine AW.ret ?_
   exact rt1 rfl (.inl rfl) (by first | exact en_size (by omega) | exact en_bad hw hbad | exact en_yes (by omega) (by omega) hI.2 (by omega))

/-- spec.l05Plain -/
theorem c_spec_l05Plain (k : Int) : AC Tryd.prog 57 [.cel (Kd.int .u8) k] [.cel Kd.bool (plB k)] [] := by
 refine acI (N := 17) Tryd.func57 (Nat.le_of_ble_eq_true rfl) rfl fun w0 hd s0 ar => ?_
 refine AW.to (kc 0 rfl <| Kn) ?_
 refine sr ?_
 refine st (asB rfl) rfl ?_
 refine ng ?_
 refine sr ?_
 refine st (mvT rfl) rfl ?_
 refine st (OpT.geq (H rfl) (T1 rfl) (I rfl)) rfl ?_
 refine st (mvT rfl) rfl ?_
 apply AWl.and (d := 8) (t := 5) rfl
 ·
  intro hb1 Q1 k1
  refine rs hb1 (mvT rfl) rfl ?_
  refine rs hb1 (OpT.leq (H rfl) (T1 rfl) (I rfl)) rfl ?_
  refine st (OpT.pickT (A := .cel _ _) (H rfl) (T1 rfl) hb1 (T1 rfl) rfl) rfl ?_
  exact AWl.to (junk 2 rfl) k1
 ·
  intro hb1 Q1 k1
  refine ps hb1 rfl ?_
  refine ps hb1 rfl ?_
  refine st (OpT.pickF (A := .cel _ _) (H rfl) (T1 rfl) hb1 Opd.bool rfl) rfl ?_
  exact k1
 refine st (mvT rfl) rfl ?_
 apply AWl.or (d := 16) (t := 9) rfl
 ·
  intro hb2 Q1 k1
  refine rs hb2 (mvT rfl) rfl ?_
  refine rs hb2 (OpT.geq (H rfl) (T1 rfl) (I rfl)) rfl ?_
  refine rs hb2 (mvT rfl) rfl ?_
  apply AWl.and (d := 15) (t := 12) rfl
  ·
   intro hb3 Q1 k1
   refine rs hb3 (mvT rfl) rfl ?_
   refine rs hb3 (OpT.leq (H rfl) (T1 rfl) (I rfl)) rfl ?_
   refine rs hb2 (OpT.pickT (A := .cel _ _) (H rfl) (T1 rfl) hb3 (T1 rfl) rfl) rfl ?_
   exact AWl.to (junk 2 rfl) k1
  ·
   intro hb3 Q1 k1
   refine ps hb3 rfl ?_
   refine ps hb3 rfl ?_
   refine rs hb2 (OpT.pickF (A := .cel _ _) (H rfl) (T1 rfl) hb3 Opd.bool rfl) rfl ?_
   exact k1
  refine st (OpT.pickF (A := .cel _ _) (H rfl) (T1 rfl) hb2 (T1 rfl) rfl) rfl ?_
  exact AWl.to (junk 4 rfl) k1
 ·
  intro hb2 Q1 k1
  refine ps hb2 rfl ?_
  refine ps hb2 rfl ?_
  refine AWl.pasv rfl rfl rfl rfl hb2 rfl (ok' rfl) rfl ?_
  refine AWl.pasu rfl rfl rfl rfl rfl (ok' rfl) rfl ?_
  refine AWl.pasu rfl rfl rfl rfl rfl (ok' rfl) rfl ?_
  refine ps hb2 rfl ?_
  refine st (OpT.pickT (A := .cel _ _) (H rfl) (T1 rfl) hb2 Opd.bool rfl) rfl ?_
  exact AWl.to (junk 3 rfl) k1
 refine st (asT rfl) rfl ?_
 refine ng ?_
 refine AW.ret ?_
 exact rt1 rfl (.inl rfl) rfl

/-- spec.l05Name -/
theorem c_spec_l05Name (x : ByteArray) : AC Tryd.prog 41 [.cel Kd.str x] [.cel Kd.bool (tt (enOK x))] [] := by
 refine acI (N := 40) Tryd.func41 (Nat.le_of_ble_eq_true rfl) rfl fun w0 hd s0 ar => ?_
 refine AW.to (kc 0 rfl <| Kn) ?_
 refine AW.fact (fun a w hr => ok_str (R_ok (t := 0) rfl hr)) (fun hs0 => ?_)
 have hsl := splB_len 32 x
 have hcn := cnB_le 32 x
 refine sr ?_
 refine st (asB rfl) rfl ?_
 refine ng ?_
 refine AW.seq ?_
 refine sr ?_
 refine st (mvT rfl) rfl ?_
 refine st (OpT.lenS (H rfl) (T1 rfl) Tryd.underlying9) rfl ?_
 refine st (OpT.c1 (ms := [.flat, .flat, .flat]) (c_spec_l00In _ _ _) (H rfl) (Af (T1 rfl) rfl rfl <| Af (I rfl) rfl rfl <| Af (I rfl) rfl rfl <| An) rfl rfl) rfl ?_
 refine st (OpT.not (H rfl) (T1 rfl)) rfl ?_
 refine ng ?_
 refine cd rfl (fun hc1 => ?_) fun hc1 => ?_
 ·
  obtain ⟨hc1, hc1'⟩ := pT hc1
  have hsz : inb (x.size : Int) 1 24 = false := by simpa using hc1
  have hs2 : x.size < 1 ∨ x.size > 24 := by (simp only [inb, Bool.and_eq_false_iff, decide_eq_false_iff_not] at hsz; omega)
  refine sr ?_
  refine st (asB rfl) rfl ?_
  refine ng ?_
  refine AW.ret ?_
  refine rT ?_
  exact rt1 rfl (.inl rfl) (by first | exact en_size hs2 | exact en_bad hw hbad | exact en_byte hw hkz hnp | exact en_yes (by omega) (by omega) hI.2 (by omega))
 ·
  obtain ⟨hc1, hc1'⟩ := pF hc1
  have hsz : inb (x.size : Int) 1 24 = true := by simpa using hc1
  have hs2 := inb_all.1 hsz
  refine AW.skip ?_
  refine AX.go ?_
  refine sr ?_
  refine st (mvT rfl) rfl ?_
  refine st (OpT.c1 (ms := [.flat, .flat]) (c_spec_l01Split x 32 32 (by omega) rfl) (H rfl) (Af (T1 rfl) rfl rfl <| Af (I rfl) rfl rfl <| An) rfl rfl) rfl ?_
  refine st (asT rfl) rfl ?_
  refine ng ?_
  refine AW.seq ?_
  refine sr ?_
  refine st (asI rfl) rfl ?_
  refine ng ?_
  refine AW.block ?_
  refine AW.loop (fun z : Nat => z ≤ (splB 32 x).length ∧ ∀ w ∈ (splB 32 x).take z, enW w) (fun z : Nat => keep [(3, .cel (Kd.slice Kd.str) (splB 32 x)), (4, .cel (Kd.int .i64) (z : Int))]) (fun z : Nat => (splB 32 x).length - z) (0) ⟨Nat.zero_le _, by simp⟩ (Kc 3 _ (Kv rfl rfl) <| Kc 4 _ (Kv rfl rfl) <| Kn) ?_
  intro z hI
  have hIz := hI
  refine AW.seq ?_
  refine sr ?_
  refine st (mvT rfl) rfl ?_
  refine st (mvT rfl) rfl ?_
  refine st (OpT.len (H rfl) (T1 rfl) el24) rfl ?_
  refine st (OpT.lss (H rfl) (T1 rfl) (T1 rfl)) rfl ?_
  refine ng ?_
  refine cd rfl (fun hc2 => ?_) fun hc2 => ?_
  ·
   obtain ⟨hc2, hc2'⟩ := pT hc2
   obtain ⟨w, hw⟩ := getI (x := splB 32 x) (z := z) (by omega)
   have hws := splB_size (mem_getI hw)
   refine AW.skip ?_
   refine AX.go ?_
   refine AW.seq ?_
   refine AW.block ?_
   refine AW.seq ?_
   refine sr ?_
   refine st (mvT rfl) rfl ?_
   refine st (mvT rfl) rfl ?_
   refine st (OpT.indexAddr (H rfl) (T1 rfl) (T1 rfl) el24 sz9 (by omega) hw) rfl ?_
   refine st (OpT.load (H rfl) (T1 rfl) ag9 rfl) rfl ?_
   refine st (OpT.seqv (H rfl) (T1 rfl) (Opd.str (by decide))) rfl ?_
   refine ng ?_
   refine cd rfl (fun hc3 => ?_) fun hc3 => ?_
   ·
    obtain ⟨hc3, hc3'⟩ := pT hc3
    have hbad : ¬ enW w := fun h9 => h9.1 (eqv_iff.1 hc3)
    refine sr ?_
    refine st (asB rfl) rfl ?_
    refine ng ?_
    refine AW.ret ?_
    refine rT <| rK <| rT <| rT <| rK <| rT ?_
    exact rt1 rfl (.inl rfl) (by first | exact en_size hs2 | exact en_bad hw hbad | exact en_byte hw hkz hnp | exact en_yes (by omega) (by omega) hI.2 (by omega))
   ·
    obtain ⟨hc3, hc3'⟩ := pF hc3
    have hne : w ≠ .empty := eqv_false_iff.1 hc3
    refine AW.skip ?_
    refine AX.go ?_
    refine sr ?_
    refine st (asI rfl) rfl ?_
    refine ng ?_
    refine AW.block ?_
    refine AW.loop (fun k : Nat => k ≤ w.size ∧ ∀ i, i < k → inT alnT w i) (fun k : Nat => keep [(3, .cel (Kd.slice Kd.str) (splB 32 x)), (4, .cel (Kd.int .i64) (z : Int)), (5, .cel (Kd.int .i64) (k : Int))]) (fun k : Nat => w.size - k) (0) ⟨Nat.zero_le _, all_none⟩ (Kc 3 _ (Kv rfl rfl) <| Kc 4 _ (Kv rfl rfl) <| Kc 5 _ (Kv rfl rfl) <| Kn) ?_
    intro k hI
    refine AW.seq ?_
    refine sr ?_
    refine st (mvT rfl) rfl ?_
    refine st (mvT rfl) rfl ?_
    refine st (mvT rfl) rfl ?_
    refine st (OpT.indexAddr (H rfl) (T1 rfl) (T1 rfl) el24 sz9 (by omega) hw) rfl ?_
    refine st (OpT.load (H rfl) (T1 rfl) ag9 rfl) rfl ?_
    refine st (OpT.lenS (H rfl) (T1 rfl) Tryd.underlying9) rfl ?_
    refine st (OpT.lss (H rfl) (T1 rfl) (T1 rfl)) rfl ?_
    refine ng ?_
    refine cd rfl (fun hc4 => ?_) fun hc4 => ?_
    ·
     obtain ⟨hc4, hc4'⟩ := pT hc4
     have hkz : k < w.size := by omega
     have hbk := bt_get hkz
     refine AW.skip ?_
     refine AX.go ?_
     refine AW.seq ?_
     refine AW.block ?_
     refine sr ?_
     refine st (mvT rfl) rfl ?_
     refine st (mvT rfl) rfl ?_
     refine st (OpT.indexAddr (H rfl) (T1 rfl) (T1 rfl) el24 sz9 (by omega) hw) rfl ?_
     refine st (OpT.load (H rfl) (T1 rfl) ag9 rfl) rfl ?_
     refine st (mvT rfl) rfl ?_
     refine st (OpT.indexS (H rfl) (T1 rfl) (T1 rfl) Tryd.underlying9 (by omega) (bt_get (z := k) (by omega))) rfl ?_
     refine st (OpT.c1 (ms := [.flat]) (c_spec_l05Plain _) (H rfl) (Af (T1 rfl) rfl rfl <| An) rfl rfl) rfl ?_
     refine st (OpT.not (H rfl) (T1 rfl)) rfl ?_
     refine ng ?_
     refine cd rfl (fun hc5 => ?_) fun hc5 => ?_
     ·
      obtain ⟨hc5, hc5'⟩ := pT hc5
      have hnp : ¬ inT alnT w k := fun h9 => by (have h8 := (plB_iff hbk).2 h9; simp [h8] at hc5)
      refine sr ?_
      refine st (asB rfl) rfl ?_
      refine ng ?_
      refine AW.ret ?_
      refine rK <| rT <| rT <| rK <| rK <| rT <| rT <| rK <| rT ?_
      exact rt1 rfl (.inl rfl) (by first | exact en_size hs2 | exact en_bad hw hbad | exact en_byte hw hkz hnp | exact en_yes (by omega) (by omega) hI.2 (by omega))
     ·
      obtain ⟨hc5, hc5'⟩ := pF hc5
      have hyp : inT alnT w k := (plB_iff hbk).1 (by simpa using hc5)
      refine AW.skip ?_
      refine AX.normal_block ?_
      refine AX.go ?_
      refine AW.region ?_
      refine st (mvT rfl) rfl ?_
      refine st (OpT.add (H rfl) (T1 rfl) (I rfl) (nw (by omega))) rfl ?_
      refine st (asT rfl) rfl ?_
      refine nn ?_
      exact AX.again (k + 1) ⟨by omega, all_step hI.2 hyp⟩ (by omega) (Kc 3 _ (Kv rfl rfl) <| Kc 4 _ (Kv rfl rfl) <| Kc 5 _ (Kv rfl (by omega)) <| Kn)
    ·
     obtain ⟨hc4, hc4'⟩ := pF hc4
     have hgd : enW w := ⟨hne, fun i hi => hI.2 i (by omega)⟩
     refine AW.exit ?_
     refine xT <| xT <| AX.exit_hit ?_
     refine AX.normal_block ?_
     refine AX.go ?_
     refine AW.region ?_
     refine st (mvT rfl) rfl ?_
     refine st (OpT.add (H rfl) (T1 rfl) (I rfl) (nw (by omega))) rfl ?_
     refine st (asT rfl) rfl ?_
     refine nn ?_
     exact AX.again (z + 1) ⟨by omega, en_more hw hIz.2 hgd⟩ (by omega) (Kc 3 _ (Kv rfl rfl) <| Kc 4 _ (Kv rfl (by omega)) <| Kn)
  ·
   obtain ⟨hc2, hc2'⟩ := pF hc2
   refine AW.exit ?_
   refine xT <| xT <| AX.exit_hit ?_
   refine AX.go ?_
   refine sr ?_
   refine st (asB rfl) rfl ?_
   refine ng ?_
   refine AW.ret ?_
   exact rt1 rfl (.inl rfl) (by first | exact en_size hs2 | exact en_bad hw hbad | exact en_byte hw hkz hnp | exact en_yes (by omega) (by omega) hI.2 (by omega))

/-- spec.l05Digits -/
theorem c_spec_l05Digits (s : ByteArray) : AC Tryd.prog 75 [.cel Kd.str s] [.cel Kd.bool (spD s)] [] := by
 refine acI (N := 14) Tryd.func75 (Nat.le_of_ble_eq_true rfl) rfl fun w0 hd s0 ar => ?_
 refine AW.to (kc 0 rfl <| Kn) ?_
 refine AW.fact (fun a w hr => ok_str (R_ok (t := 0) rfl hr)) (fun hs0 => ?_)
 refine sr ?_
 refine st (asB rfl) rfl ?_
 refine ng ?_
 refine AW.seq ?_
 refine sr ?_
 refine st (asI rfl) rfl ?_
 refine ng ?_
 refine AW.block ?_
 refine AW.loop (fun z : Nat => z ≤ s.size ∧ ∀ i, i < z → ((bytA s i).toNat : Int) ≤ 57) (fun z : Nat => keep [(0, .cel Kd.str s), (3, .cel (Kd.int .i64) (z : Int))]) (fun z : Nat => s.size - z) (0) ⟨Nat.zero_le _, fun i h => absurd h (Nat.not_lt_zero i)⟩ (Kc 0 _ (Kv rfl rfl) <| Kc 3 _ (Kv rfl rfl) <| Kn) ?_
 intro z hI
 refine AW.seq ?_
 refine sr ?_
 refine st (mvT rfl) rfl ?_
 refine st (mvT rfl) rfl ?_
 refine st (OpT.lenS (H rfl) (T1 rfl) Tryd.underlying9) rfl ?_
 refine st (OpT.lss (H rfl) (T1 rfl) (T1 rfl)) rfl ?_
 refine ng ?_
 refine cd rfl (fun hc1 => ?_) fun hc1 => ?_
 ·
  obtain ⟨hc1, hc1'⟩ := pT hc1
  refine AW.skip ?_
  refine AX.go ?_
  refine AW.seq ?_
  refine AW.block ?_
  refine sr ?_
  refine st (mvT rfl) rfl ?_
  refine st (mvT rfl) rfl ?_
  refine st (OpT.indexS (H rfl) (T1 rfl) (T1 rfl) Tryd.underlying9 (by omega) (bt_get (z := z) (by omega))) rfl ?_
  refine st (OpT.gtr (H rfl) (T1 rfl) (I rfl)) rfl ?_
  refine ng ?_
  refine cd rfl (fun hc2 => ?_) fun hc2 => ?_
  ·
   obtain ⟨hc2, hc2'⟩ := pT hc2
   refine sr ?_
   refine st (asB rfl) rfl ?_
   refine ng ?_
   refine AW.ret ?_
   refine rK <| rT <| rT <| rK <| rT ?_
   exact rt1 rfl (.inl rfl) (by first | exact spD_no (z := z) (by omega) (by omega) | exact spD_yes (z := z) (by omega) hI.2)
  ·
   obtain ⟨hc2, hc2'⟩ := pF hc2
   refine AW.skip ?_
   refine AX.normal_block ?_
   refine AX.go ?_
   refine AW.region ?_
   refine st (mvT rfl) rfl ?_
   refine st (OpT.add (H rfl) (T1 rfl) (I rfl) (nw (by omega))) rfl ?_
   refine st (asT rfl) rfl ?_
   refine nn ?_
   exact AX.again (z + 1) ⟨by omega, fun i hi => by rcases Nat.lt_or_ge i z with h9 | h9; exact hI.2 i h9; obtain rfl : i = z := (by omega); omega⟩ (by omega) (Kc 0 _ (Kv rfl rfl) <| Kc 3 _ (Kv rfl (by omega)) <| Kn)
 ·
  obtain ⟨hc1, hc1'⟩ := pF hc1
  refine AW.exit ?_
  refine xT <| xT <| AX.exit_hit ?_
  refine AX.go ?_
  refine sr ?_
  refine st (asB rfl) rfl ?_
  refine ng ?_
  refine AW.ret ?_
  exact rt1 rfl (.inl rfl) (by first | exact spD_no (z := z) (by omega) (by omega) | exact spD_yes (z := z) (by omega) hI.2)

/-- spec.l05Order -/
theorem c_spec_l05Order (x y : ByteArray) : AC Tryd.prog 61 [.cel Kd.str x, .cel Kd.str y] [.cel (Kd.int .i64) (cmpB x y)] [] := by
 refine acI (N := 11) Tryd.func61 (Nat.le_of_ble_eq_true rfl) rfl fun w0 hd s0 ar => ?_
 refine AW.to (kc2 0 1 rfl <| Kn) ?_
 have hcb := cmpB_in x y
 refine sr ?_
 refine st (asI rfl) rfl ?_
 refine ng ?_
 refine AW.seq ?_
 refine sr ?_
 refine st (mvT rfl) rfl ?_
 refine st (mvT rfl) rfl ?_
 refine st (OpT.slss (H rfl) (T1 rfl) (T1 rfl)) rfl ?_
 refine ng ?_
 refine cd rfl (fun hc1 => ?_) fun hc1 => ?_
 ·
  obtain ⟨hc1, hc1'⟩ := pT hc1
  refine sr ?_
  refine st (asI rfl) rfl ?_
  refine ng ?_
  refine AW.ret ?_
  refine rT ?_
  exact rt1 rfl (.inl rfl) (by omega)
 ·
  obtain ⟨hc1, hc1'⟩ := pF hc1
  refine AW.skip ?_
  refine AX.go ?_
  refine AW.seq ?_
  refine sr ?_
  refine st (mvT rfl) rfl ?_
  refine st (mvT rfl) rfl ?_
  refine st (OpT.sgtr (H rfl) (T1 rfl) (T1 rfl)) rfl ?_
  refine ng ?_
  refine cd rfl (fun hc2 => ?_) fun hc2 => ?_
  ·
   obtain ⟨hc2, hc2'⟩ := pT hc2
   refine sr ?_
   refine st (asI rfl) rfl ?_
   refine ng ?_
   refine AW.ret ?_
   refine rT ?_
   exact rt1 rfl (.inl rfl) (by omega)
  ·
   obtain ⟨hc2, hc2'⟩ := pF hc2
   refine AW.skip ?_
   refine AX.go ?_
   refine sr ?_
   refine st (asI rfl) rfl ?_
   refine ng ?_
   refine AW.ret ?_
   exact rt1 rfl (.inl rfl) (by omega)

/-- spec.l05Sign -/
theorem c_spec_l05Sign (n : Int) : AC Tryd.prog 60 [.cel (Kd.int .i64) n] [.cel (Kd.int .i64) (sgn n)] [] := by
 refine acI (N := 7) Tryd.func60 (Nat.le_of_ble_eq_true rfl) rfl fun w0 hd s0 ar => ?_
 refine AW.to (kc 0 rfl <| Kn) ?_
 refine sr ?_
 refine st (asI rfl) rfl ?_
 refine ng ?_
 refine AW.seq ?_
 refine sr ?_
 refine st (mvT rfl) rfl ?_
 refine st (OpT.lss (H rfl) (T1 rfl) (I rfl)) rfl ?_
 refine ng ?_
 refine cd rfl (fun hc1 => ?_) fun hc1 => ?_
 ·
  obtain ⟨hc1, hc1'⟩ := pT hc1
  refine sr ?_
  refine st (asI rfl) rfl ?_
  refine ng ?_
  refine AW.ret ?_
  refine rT ?_
  exact rt1 rfl (.inl rfl) (by unfold sgn; split <;> (try split) <;> omega)
 ·
  obtain ⟨hc1, hc1'⟩ := pF hc1
  refine AW.skip ?_
  refine AX.go ?_
  refine AW.seq ?_
  refine sr ?_
  refine st (mvT rfl) rfl ?_
  refine st (OpT.gtr (H rfl) (T1 rfl) (I rfl)) rfl ?_
  refine ng ?_
  refine cd rfl (fun hc2 => ?_) fun hc2 => ?_
  ·
   obtain ⟨hc2, hc2'⟩ := pT hc2
   refine sr ?_
   refine st (asI rfl) rfl ?_
   refine ng ?_
   refine AW.ret ?_
   refine rT ?_
   exact rt1 rfl (.inl rfl) (by unfold sgn; split <;> (try split) <;> omega)
  ·
   obtain ⟨hc2, hc2'⟩ := pF hc2
   refine AW.skip ?_
   refine AX.go ?_
   refine sr ?_
   refine st (asI rfl) rfl ?_
   refine ng ?_
   refine AW.ret ?_
   exact rt1 rfl (.inl rfl) (by unfold sgn; split <;> (try split) <;> omega)

/-- spec.l05Word -/
theorem c_spec_l05Word (x y : ByteArray) : AC Tryd.prog 59 [.cel Kd.str x, .cel Kd.str y] [.cel (Kd.int .i64) (cwS x y)] [] := by
 refine acI (N := 40) Tryd.func59 (Nat.le_of_ble_eq_true rfl) rfl fun w0 hd s0 ar => ?_
 refine AW.to (kc2 0 1 rfl <| Kn) ?_
 refine AW.fact (fun a w hr => ok_str (R_ok (t := 0) rfl hr)) (fun hs0 => ?_)
 refine AW.fact (fun a w hr => ok_str (R_ok (t := 1) rfl hr)) (fun hs1 => ?_)
 have hzx := zer_le x
 have hzy := zer_le y
 refine sr ?_
 refine st (asI rfl) rfl ?_
 refine ng ?_
 refine sr ?_
 refine st (mvT rfl) rfl ?_
 refine st (OpT.c1 (ms := [.flat]) (c_spec_l05Digits _) (H rfl) (Af (T1 rfl) rfl rfl <| An) rfl rfl) rfl ?_
 refine st (asT rfl) rfl ?_
 refine ng ?_
 refine sr ?_
 refine st (mvT rfl) rfl ?_
 refine st (OpT.c1 (ms := [.flat]) (c_spec_l05Digits _) (H rfl) (Af (T1 rfl) rfl rfl <| An) rfl rfl) rfl ?_
 refine st (asT rfl) rfl ?_
 refine ng ?_
 refine AW.seq ?_
 refine sr ?_
 refine st (mvT rfl) rfl ?_
 refine st (mvT rfl) rfl ?_
 apply AWl.and (d := 16) (t := 14) rfl
 ·
  intro hb1 Q1 k1
  have hb1' := lT hb1
  refine rs hb1 (mvT rfl) rfl ?_
  refine st (OpT.pickT (A := .cel _ _) (H rfl) (T1 rfl) hb1 (T1 rfl) rfl) rfl ?_
  exact AWl.to (junk 1 rfl) k1
 ·
  intro hb1 Q1 k1
  refine ps hb1 rfl ?_
  refine st (OpT.pickF (A := .cel _ _) (H rfl) (T1 rfl) hb1 Opd.bool rfl) rfl ?_
  exact k1
 refine ng ?_
 refine cd rfl (fun hc1 => ?_) fun hc1 => ?_
 ·
  obtain ⟨hc1, hc1'⟩ := pT hc1
  have h1 : (spD x && spD y) = true := hc1
  refine sr ?_
  refine st (mvT rfl) rfl ?_
  refine st (OpT.c1 (ms := [.flat]) (c_spec_l05Value _) (H rfl) (Af (T1 rfl) rfl rfl <| An) rfl rfl) rfl ?_
  refine st (asT rfl) rfl ?_
  refine ng ?_
  refine sr ?_
  refine st (mvT rfl) rfl ?_
  refine st (OpT.c1 (ms := [.flat]) (c_spec_l05Value _) (H rfl) (Af (T1 rfl) rfl rfl <| An) rfl rfl) rfl ?_
  refine st (asT rfl) rfl ?_
  refine AWl.to (kc4 8 7 6 5 rfl <| kc3 4 0 1 rfl <| Kn) ?_
  refine ng ?_
  refine AW.seq ?_
  refine sr ?_
  refine st (mvT rfl) rfl ?_
  refine st (OpT.lenS (H rfl) (T1 rfl) Tryd.underlying9) rfl ?_
  refine st (mvT rfl) rfl ?_
  refine st (OpT.lenS (H rfl) (T1 rfl) Tryd.underlying9) rfl ?_
  refine st (OpT.neq (H rfl) (T1 rfl) (T1 rfl)) rfl ?_
  refine ng ?_
  refine cd rfl (fun hc2 => ?_) fun hc2 => ?_
  ·
   obtain ⟨hc2, hc2'⟩ := pT hc2
   have hne : ((zer x).size : Int) ≠ (zer y).size := hc2'
   refine sr ?_
   refine st (mvT rfl) rfl ?_
   refine st (OpT.lenS (H rfl) (T1 rfl) Tryd.underlying9) rfl ?_
   refine st (mvT rfl) rfl ?_
   refine st (OpT.lenS (H rfl) (T1 rfl) Tryd.underlying9) rfl ?_
   refine st (OpT.sub (H rfl) (T1 rfl) (T1 rfl) (nw (by omega))) rfl ?_
   refine st (OpT.c1 (ms := [.flat]) (c_spec_l05Sign _) (H rfl) (Af (T1 rfl) rfl rfl <| An) rfl rfl) rfl ?_
   refine st (asT rfl) rfl ?_
   refine AWl.to (kc4 4 8 7 6 rfl <| kc3 5 0 1 rfl <| Kn) ?_
   refine ng ?_
   refine AW.ret ?_
   refine rT <| rT ?_
   exact rt1 rfl (.inl rfl) (by first | (rw [cwS_two h1, or2_ne (ci_ne hne), sgn_len]; done) | (rw [cwS_two h1, or2_eq (ci_eq hqe)]; done) | exact (cwS_one h1 h2).symm | exact (cwS_oth h1 h2 h3).symm | exact (cwS_no h1 h2 h3).symm)
  ·
   obtain ⟨hc2, hc2'⟩ := pF hc2
   have hqe : ((zer x).size : Int) = (zer y).size := by omega
   refine AW.skip ?_
   refine AX.go ?_
   refine sr ?_
   refine st (mvT rfl) rfl ?_
   refine st (mvT rfl) rfl ?_
   refine st (OpT.c1 (ms := [.flat, .flat]) (c_spec_l05Order _ _) (H rfl) (Af (T1 rfl) rfl rfl <| Af (T1 rfl) rfl rfl <| An) rfl rfl) rfl ?_
   refine st (asT rfl) rfl ?_
   refine AWl.to (kc4 4 6 5 0 rfl <| kc 1 rfl <| Kn) ?_
   refine ng ?_
   refine AW.ret ?_
   refine rT ?_
   exact rt1 rfl (.inl rfl) (by first | (rw [cwS_two h1, or2_ne (ci_ne hne), sgn_len]; done) | (rw [cwS_two h1, or2_eq (ci_eq hqe)]; done) | exact (cwS_one h1 h2).symm | exact (cwS_oth h1 h2 h3).symm | exact (cwS_no h1 h2 h3).symm)
 ·
  obtain ⟨hc1, hc1'⟩ := pF hc1
  have h1 : (spD x && spD y) = false := hc1
  refine AW.skip ?_
  refine AX.go ?_
  refine AW.seq ?_
  refine sr ?_
  refine st (mvT rfl) rfl ?_
  refine ng ?_
  refine cd rfl (fun hc3 => ?_) fun hc3 => ?_
  ·
   obtain ⟨hc3, hc3'⟩ := pT hc3
   have h2 : spD x = true := hc3
   refine sr ?_
   refine st (asI rfl) rfl ?_
   refine ng ?_
   refine AW.ret ?_
   refine rT ?_
   exact rt1 rfl (.inl rfl) (by first | (rw [cwS_two h1, or2_ne (ci_ne hne), sgn_len]; done) | (rw [cwS_two h1, or2_eq (ci_eq hqe)]; done) | exact (cwS_one h1 h2).symm | exact (cwS_oth h1 h2 h3).symm | exact (cwS_no h1 h2 h3).symm)
  ·
   obtain ⟨hc3, hc3'⟩ := pF hc3
   have h2 : spD x = false := hc3
   refine AW.skip ?_
   refine AX.go ?_
   refine AW.seq ?_
   refine sr ?_
   refine st (mvT rfl) rfl ?_
   refine ng ?_
   refine cd rfl (fun hc4 => ?_) fun hc4 => ?_
   ·
    obtain ⟨hc4, hc4'⟩ := pT hc4
    have h3 : spD y = true := hc4
    refine sr ?_
    refine st (asI rfl) rfl ?_
    refine AWl.to (kc3 4 0 1 rfl <| Kn) ?_
    refine ng ?_
    refine AW.ret ?_
    refine rT ?_
    exact rt1 rfl (.inl rfl) (by first | (rw [cwS_two h1, or2_ne (ci_ne hne), sgn_len]; done) | (rw [cwS_two h1, or2_eq (ci_eq hqe)]; done) | exact (cwS_one h1 h2).symm | exact (cwS_oth h1 h2 h3).symm | exact (cwS_no h1 h2 h3).symm)
   ·
    obtain ⟨hc4, hc4'⟩ := pF hc4
    have h3 : spD y = false := hc4
    refine AW.skip ?_
    refine AX.pr (kc3 4 0 1 rfl <| Kn) ?_
    refine AX.go ?_
    refine sr ?_
    refine st (mvT rfl) rfl ?_
    refine st (mvT rfl) rfl ?_
    refine st (OpT.c1 (ms := [.flat, .flat]) (c_spec_l05Order _ _) (H rfl) (Af (T1 rfl) rfl rfl <| Af (T1 rfl) rfl rfl <| An) rfl rfl) rfl ?_
    refine st (asT rfl) rfl ?_
    refine ng ?_
    refine AW.ret ?_
    exact rt1 rfl (.inl rfl) (by first | (rw [cwS_two h1, or2_ne (ci_ne hne), sgn_len]; done) | (rw [cwS_two h1, or2_eq (ci_eq hqe)]; done) | exact (cwS_one h1 h2).symm | exact (cwS_oth h1 h2 h3).symm | exact (cwS_no h1 h2 h3).symm)

/-- spec.l05Compare -/
theorem c_spec_l05Compare (x y : ByteArray) (hx : x.size ≤ 1000000000 ∧ y.size ≤ 1000000000) : AC Tryd.prog 42 [.cel Kd.str x, .cel Kd.str y] [.cel (Kd.int .i64) (cnS x y)] [] := by
 refine acI (N := 51) Tryd.func42 (Nat.le_of_ble_eq_true rfl) rfl fun w0 hd s0 ar => ?_
 refine AW.to (kc2 0 1 rfl <| Kn) ?_
 have hlx := fwP_len x
 have hly := fwP_len y
 refine sr ?_
 refine st (asI rfl) rfl ?_
 refine ng ?_
 refine sr ?_
 refine st (mvT rfl) rfl ?_
 refine st (OpT.c1 (ms := [.flat]) (c_spec_l05Words x hx.1) (H rfl) (Af (T1 rfl) rfl rfl <| An) rfl rfl) rfl ?_
 refine st (asT rfl) rfl ?_
 refine ng ?_
 refine sr ?_
 refine st (mvT rfl) rfl ?_
 refine st (OpT.c1 (ms := [.flat]) (c_spec_l05Words y hx.2) (H rfl) (Af (T1 rfl) rfl rfl <| An) rfl rfl) rfl ?_
 refine st (asT rfl) rfl ?_
 refine ng ?_
 refine AW.seq ?_
 refine sr ?_
 refine st (asI rfl) rfl ?_
 refine ng ?_
 refine AW.block ?_
 refine AW.loop (fun z : Nat => z ≤ (fwP x).length ∧ z ≤ (fwP y).length ∧ ∀ i u v, i < z → (fwP x)[i]? = some u → (fwP y)[i]? = some v → cwS u v = 0) (fun z : Nat => keep [(0, .cel Kd.str x), (1, .cel Kd.str y), (5, .cel (Kd.slice Kd.str) (fwP x)), (6, .cel (Kd.slice Kd.str) (fwP y)), (7, .cel (Kd.int .i64) (z : Int))]) (fun z : Nat => (fwP x).length - z) (0) ⟨Nat.zero_le _, Nat.zero_le _, fun i u v h => absurd h (Nat.not_lt_zero i)⟩ (Kc 0 _ (Kv rfl rfl) <| Kc 1 _ (Kv rfl rfl) <| Kc 5 _ (Kv rfl rfl) <| Kc 6 _ (Kv rfl rfl) <| Kc 7 _ (Kv rfl rfl) <| Kn) ?_
 intro z hI
 refine AW.seq ?_
 refine sr ?_
 refine st (mvT rfl) rfl ?_
 refine st (mvT rfl) rfl ?_
 refine st (OpT.len (H rfl) (T1 rfl) el24) rfl ?_
 refine st (OpT.lss (H rfl) (T1 rfl) (T1 rfl)) rfl ?_
 refine st (mvT rfl) rfl ?_
 apply AWl.and (d := 22) (t := 17) rfl
 ·
  intro hb1 Q1 k1
  have hb1' := lT hb1
  refine rs hb1 (mvT rfl) rfl ?_
  refine rs hb1 (mvT rfl) rfl ?_
  refine rs hb1 (OpT.len (H rfl) (T1 rfl) el24) rfl ?_
  refine rs hb1 (OpT.lss (H rfl) (T1 rfl) (T1 rfl)) rfl ?_
  refine st (OpT.pickT (A := .cel _ _) (H rfl) (T1 rfl) hb1 (T1 rfl) rfl) rfl ?_
  exact AWl.to (junk 4 rfl) k1
 ·
  intro hb1 Q1 k1
  refine ps hb1 rfl ?_
  refine ps hb1 rfl ?_
  refine ps hb1 rfl ?_
  refine ps hb1 rfl ?_
  refine st (OpT.pickF (A := .cel _ _) (H rfl) (T1 rfl) hb1 Opd.bool rfl) rfl ?_
  exact k1
 refine ng ?_
 refine cd rfl (fun hc1 => ?_) fun hc1 => ?_
 ·
  obtain ⟨hc1, hc1'⟩ := pT hc1
  have h22 := hc1
  rw [Bool.and_eq_true, decide_eq_true_eq, decide_eq_true_eq] at h22
  obtain ⟨a, ha⟩ := getI (x := fwP x) (z := z) (by omega)
  obtain ⟨b, hb⟩ := getI (x := fwP y) (z := z) (by omega)
  refine AW.skip ?_
  refine AX.go ?_
  refine AW.seq ?_
  refine AW.block ?_
  refine AW.seq ?_
  refine dh fomo ?_
  refine d1 [5] (fun ve h => OpT.move (A := .cel _ _) (.inl rfl) rfl (ok' rfl) (D1 h rfl) rfl) rfl ?_
  refine d1 [7] (fun ve h => OpT.move (A := .cel _ _) (.inl rfl) rfl (ok' rfl) (D1 h rfl) rfl) rfl ?_
  refine d1 [25, 26] (fun ve h => OpT.indexAddr (H rfl) (D1 h rfl) (D1 h rfl) el24 sz9 (by omega) ha) rfl ?_
  refine d1 [27] (fun ve h => OpT.load (H rfl) (D1 h rfl) ag9 rfl) rfl ?_
  refine d1 [6] (fun ve h => OpT.move (A := .cel _ _) (.inl rfl) rfl (ok' rfl) (D1 h rfl) rfl) rfl ?_
  refine d1 [7] (fun ve h => OpT.move (A := .cel _ _) (.inl rfl) rfl (ok' rfl) (D1 h rfl) rfl) rfl ?_
  refine d1 [29, 30] (fun ve h => OpT.indexAddr (H rfl) (D1 h rfl) (D1 h rfl) el24 sz9 (by omega) hb) rfl ?_
  refine d1 [31] (fun ve h => OpT.load (H rfl) (D1 h rfl) ag9 rfl) rfl ?_
  refine d1 [28, 32] (fun ve h => OpT.c1 (ms := [.flat, .flat]) (c_spec_l05Word _ _) (H rfl) (Af (D1 h rfl) rfl rfl <| Af (D1 h rfl) rfl rfl <| An) rfl rfl) rfl ?_
  refine d1 [33] (fun ve h => OpT.move (A := .cel _ _) (.inr rfl) rfl (ok' rfl) (D1 h rfl) rfl) rfl ?_
  refine dn ⟨by kernel_rfl, by kernel_rfl, ?_⟩
  refine AX.go ?_
  refine sr ?_
  refine st (mvT rfl) rfl ?_
  refine st (OpT.neq (H rfl) (T1 rfl) (I rfl)) rfl ?_
  refine ng ?_
  refine cd rfl (fun hc2 => ?_) fun hc2 => ?_
  ·
   obtain ⟨hc2, hc2'⟩ := pT hc2
   have hne : cwS a b ≠ 0 := by simpa using hc2
   refine sr ?_
   refine st (mvT rfl) rfl ?_
   refine st (asT rfl) rfl ?_
   refine ng ?_
   refine AW.ret ?_
   refine rK <| rT <| rT <| rK <| rT ?_
   exact rt1 rfl (.inl rfl) (by first | exact cnS_ne ha hb hI.2.2 hne | exact cnS_len (z := z) hI.2.2 (by omega) hln | exact cnS_last (z := z) hI.2.2 (by omega) hln)
  ·
   obtain ⟨hc2, hc2'⟩ := pF hc2
   have heq : cwS a b = 0 := by simpa using hc2
   refine AW.skip ?_
   refine AX.normal_block ?_
   refine AX.go ?_
   refine AW.region ?_
   refine st (mvT rfl) rfl ?_
   refine st (OpT.add (H rfl) (T1 rfl) (I rfl) (nw (by omega))) rfl ?_
   refine st (asT rfl) rfl ?_
   refine nn ?_
   exact AX.again (z + 1) ⟨by omega, by omega, cf_step hI.2.2 ha hb heq⟩ (by omega) (Kc 0 _ (Kv rfl rfl) <| Kc 1 _ (Kv rfl rfl) <| Kc 5 _ (Kv rfl rfl) <| Kc 6 _ (Kv rfl rfl) <| Kc 7 _ (Kv rfl (by omega)) <| Kn)
 ·
  obtain ⟨hc1, hc1'⟩ := pF hc1
  have h22 := hc1
  rw [Bool.and_eq_false_iff, decide_eq_false_iff_not, decide_eq_false_iff_not] at h22
  refine AW.exit ?_
  refine xT <| xT <| AX.exit_hit ?_
  refine AX.go ?_
  refine AW.seq ?_
  refine sr ?_
  refine st (mvT rfl) rfl ?_
  refine st (OpT.len (H rfl) (T1 rfl) el24) rfl ?_
  refine st (mvT rfl) rfl ?_
  refine st (OpT.len (H rfl) (T1 rfl) el24) rfl ?_
  refine st (OpT.neq (H rfl) (T1 rfl) (T1 rfl)) rfl ?_
  refine AWl.to (kc4 41 0 1 5 rfl <| kc 6 rfl <| Kn) ?_
  refine ng ?_
  refine cd rfl (fun hc3 => ?_) fun hc3 => ?_
  ·
   obtain ⟨hc3, hc3'⟩ := pT hc3
   have hln : ((fwP x).length : Int) ≠ (fwP y).length := hc3'
   refine sr ?_
   refine st (mvT rfl) rfl ?_
   refine st (OpT.len (H rfl) (T1 rfl) el24) rfl ?_
   refine st (mvT rfl) rfl ?_
   refine st (OpT.len (H rfl) (T1 rfl) el24) rfl ?_
   refine st (OpT.sub (H rfl) (T1 rfl) (T1 rfl) (nw (by omega))) rfl ?_
   refine st (OpT.c1 (ms := [.flat]) (c_spec_l05Sign _) (H rfl) (Af (T1 rfl) rfl rfl <| An) rfl rfl) rfl ?_
   refine st (asT rfl) rfl ?_
   refine ng ?_
   refine AW.ret ?_
   refine rT ?_
   exact rt1 rfl (.inl rfl) (by first | exact cnS_ne ha hb hI.2.2 hne | exact cnS_len (z := z) hI.2.2 (by omega) hln | exact cnS_last (z := z) hI.2.2 (by omega) hln)
  ·
   obtain ⟨hc3, hc3'⟩ := pF hc3
   have hln : ((fwP x).length : Int) = (fwP y).length := by omega
   refine AW.skip ?_
   refine AX.go ?_
   refine sr ?_
   refine st (mvT rfl) rfl ?_
   refine st (mvT rfl) rfl ?_
   refine st (OpT.c1 (ms := [.flat, .flat]) (c_spec_l05Order _ _) (H rfl) (Af (T1 rfl) rfl rfl <| Af (T1 rfl) rfl rfl <| An) rfl rfl) rfl ?_
   refine st (asT rfl) rfl ?_
   refine ng ?_
   refine AW.ret ?_
   exact rt1 rfl (.inl rfl) (by first | exact cnS_ne ha hb hI.2.2 hne | exact cnS_len (z := z) hI.2.2 (by omega) hln | exact cnS_last (z := z) hI.2.2 (by omega) hln)

/-- spec.l05Filed -/
theorem c_spec_l05Filed_o (names : List ByteArray) (hN : okNs names ∧ names.length ≤ 100) : AC Tryd.prog 34 [.cel (Kd.slice Kd.str) names] [.own 2 (Kd.int .i64) (filS names)] [] := by
 refine acI (N := 60) Tryd.func34 (Nat.le_of_ble_eq_true rfl) rfl fun w0 hd s0 ar => ?_
 refine AW.to (kc 0 rfl <| Kn) ?_
 refine sr ?_
 refine st (nilO (E := 2) (Kd.int .i64) rfl (.inl rfl)) rfl ?_
 refine ng ?_
 refine sr ?_
 refine st (OpT.buildSlice0 (m := 0) (z := .bool false) (Kd.int .i64) (H rfl) el26 sz2 (by decide)) rfl ?_
 refine sg (OpT.take (.inl rfl) rfl (ok' rfl) (Root.self (by decide)) rfl rfl (by decide)) (ko 3 rfl <| ko 2 rfl <| kc 0 rfl <| Kn) rfl ?_
 refine ng ?_
 refine AW.seq ?_
 refine sr ?_
 refine st (asI rfl) rfl ?_
 refine ng ?_
 refine AW.block ?_
 refine AW.loop (fun i : Nat => i ≤ names.length) (fun i : Nat => keep [(0, .cel (Kd.slice Kd.str) names), (3, .own 2 (Kd.int .i64) (isort (qS names) (idN i))), (4, .cel (Kd.int .i64) (i : Int))]) (fun i : Nat => names.length - i) (0) (Nat.zero_le _) (Kc 0 _ (Kv rfl rfl) <| Kc 3 _ (Ko rfl rfl) <| Kc 4 _ (Kv rfl rfl) <| Kn) ?_
 intro i hI
 refine AW.seq ?_
 refine sr ?_
 refine st (mvT rfl) rfl ?_
 refine st (mvT rfl) rfl ?_
 refine st (OpT.len (H rfl) (T1 rfl) el24) rfl ?_
 refine st (OpT.lss (H rfl) (T1 rfl) (T1 rfl)) rfl ?_
 refine ng ?_
 refine cd rfl (fun hc1 => ?_) fun hc1 => ?_
 ·
  obtain ⟨hc1, hc1'⟩ := pT hc1
  have hT : (isR (qS names) (idN i)).length = i := by (rw [isR, isR_len, idN_len]; simp)
  have hnl : names.length ≤ 100 := hN.2
  refine AW.skip ?_
  refine AX.go ?_
  refine AW.seq ?_
  refine AW.block ?_
  refine sr ?_
  refine st (OpT.alias (H rfl) (by decide) (by decide)) rfl ?_
  refine st (mvT rfl) rfl ?_
  refine st (OpT.buildSlice (H rfl) el26 zr2 sz2 rfl (by decide) zk2 (by decide) (Built.cel (T1 rfl) rfl rfl (sub_arr (by decide) (0 : Int)) (Built.nil _))) rfl ?_
  refine sg (OpT.append (H rfl) (Root.ali rfl (by decide) (by decide)) rfl (Src.own (Root.self (t := 16) (by decide)) rfl) (by decide) el26 zr2 rfl sz2 by2 (by decide) (by simp only [isort_len, idN_len, List.length_cons, List.length_nil, List.length_set, List.length_replicate]; omega)) (ko 17 rfl <| ko 16 rfl <| kc4 15 11 10 9 rfl <| kc3 8 0 4 rfl <| Kn) rfl ?_
  refine sg (OpT.take (.inl rfl) rfl (ok' rfl) (Root.self (by decide)) rfl rfl (by decide)) (ko 3 rfl <| ko 16 rfl <| kc4 15 11 10 9 rfl <| kc3 8 0 4 rfl <| Kn) rfl ?_
  refine ng ?_
  refine sr ?_
  refine st (mvT rfl) rfl ?_
  refine st (asT rfl) rfl ?_
  refine ng ?_
  refine AW.block ?_
  refine AW.loop (fun k : Nat => k ≤ i ∧ ∀ z ∈ (isR (qS names) (idN i)).take k, qS names (i : Int) z < 0) (fun k : Nat => keep [(0, .cel (Kd.slice Kd.str) names), (3, .own 2 (Kd.int .i64) (midS (isR (qS names) (idN i)) k (i : Int))), (4, .cel (Kd.int .i64) (i : Int)), (5, .cel (Kd.int .i64) ((i : Int) - (k : Int)))]) (fun k : Nat => i - k) (0) ⟨Nat.zero_le _, by simp⟩ (Kc 0 _ (Kv rfl rfl) <| Kc 3 _ (Ko rfl (mid_zero _ _).symm) <| Kc 4 _ (Kv rfl rfl) <| Kc 5 _ (Kv rfl (by omega)) <| Kn) ?_
  intro k hI
  refine AW.seq ?_
  refine AW.seq ?_
  rcases Bool.eq_false_or_eq_true (decide (((i : Int) - (k : Int)) > (0 : Int))) with hd1 | hd1
  ·
   have hd1' := lT hd1
   have hka : k < i := by omega
   obtain ⟨w, hw⟩ := getI (x := (isR (qS names) (idN i))) (z := k) (by omega)
   have hwi := isR_idN (by omega : i ≤ names.length) (mem_getI hw)
   have hw0 := hwi.1
   obtain ⟨m1, m2, m3⟩ := mid_step0 (x := (i : Int)) hw (i := i - k - 1) (by omega)
   have x1 : (midS (isR (qS names) (idN i)) k (i : Int))[Int.toNat ((i : Int) - (k : Int))]? = some (i : Int) := atN m2 (by omega)
   have y1 : (midS (isR (qS names) (idN i)) k (i : Int))[Int.toNat ((i : Int) - (k : Int) - 1)]? = some w := atN m1 (by omega)
   have y2 : ((midS (isR (qS names) (idN i)) k (i : Int)).set (Int.toNat ((i : Int) - (k : Int))) w)[Int.toNat ((i : Int) - (k : Int) - 1)]? = some w := setN m1 (by omega) (by omega)
   refine dhm [0, 1, 3, 7, 7, 7, 55, 119, 255, 511, 7, 7, 7, 4103, 14343, 30727, 64519, 130055, 262143, 524287, 1048575] [(33, 3), (30, 3), (25, 3), (23, 3)] fomo ?_
   refine d1 [5] (fun ve h => OpT.move (A := .cel _ _) (.inl rfl) rfl (ok' rfl) (D1 h rfl) rfl) rfl ?_
   refine d1 [19] (fun ve h => OpT.gtr (H rfl) (D1 h rfl) (I rfl)) rfl ?_
   refine d1 [20] (fun ve h => OpT.move (A := .cel _ _) (.inl rfl) rfl (ok' rfl) (D1 h rfl) rfl) rfl ?_
   refine dr [0, 21] hd1 (fun ve h => OpT.move (A := .cel _ _) (.inl rfl) rfl (ok' rfl) (D1 h rfl) rfl) rfl ?_
   refine dr [21] hd1 (fun ve h => OpT.alias (H rfl) (by decide) (by decide)) rfl ?_
   refine dr [5, 21] hd1 (fun ve h => OpT.move (A := .cel _ _) (.inl rfl) rfl (ok' rfl) (D1 h rfl) rfl) rfl ?_
   refine dr [3, 21, 23, 24] hd1 (fun ve h => OpT.indexAddrO (H rfl) (Root.ali ((h _ (List.elem_iff.1 rfl)).trans rfl) (by decide) (by decide)) ((h _ (List.elem_iff.1 rfl)).trans rfl) (by decide) (D1 h rfl) el26 sz2 (by omega) x1) rfl ?_
   refine dr [3, 21, 25] hd1 (fun ve h => OpT.loadP (H rfl) (D1 h rfl) (.inr ⟨_, _, ((h _ (List.elem_iff.1 rfl)).trans rfl), (by assumption)⟩) ag2 rfl) rfl ?_
   refine dr [21, 22, 26] hd1 (fun ve h => OpT.indexAddr (H rfl) (D1 h rfl) (D1 h rfl) el24 sz9 (by omega) (nth_get ⟨by omega, by omega⟩)) rfl ?_
   refine dr [21, 27] hd1 (fun ve h => OpT.load (H rfl) (D1 h rfl) ag9 rfl) rfl ?_
   refine dr [0, 21] hd1 (fun ve h => OpT.move (A := .cel _ _) (.inl rfl) rfl (ok' rfl) (D1 h rfl) rfl) rfl ?_
   refine dr [21] hd1 (fun ve h => OpT.alias (H rfl) (by decide) (by decide)) rfl ?_
   refine dr [5, 21] hd1 (fun ve h => OpT.move (A := .cel _ _) (.inl rfl) rfl (ok' rfl) (D1 h rfl) rfl) rfl ?_
   refine dr [21, 31] hd1 (fun ve h => OpT.sub (H rfl) (D1 h rfl) (I rfl) (nw (by omega))) rfl ?_
   refine dr [3, 21, 30, 32] hd1 (fun ve h => OpT.indexAddrO (H rfl) (Root.ali ((h _ (List.elem_iff.1 rfl)).trans rfl) (by decide) (by decide)) ((h _ (List.elem_iff.1 rfl)).trans rfl) (by decide) (D1 h rfl) el26 sz2 (by omega) y1) rfl ?_
   refine dr [3, 21, 33] hd1 (fun ve h => OpT.loadP (H rfl) (D1 h rfl) (.inr ⟨_, _, ((h _ (List.elem_iff.1 rfl)).trans rfl), (by assumption)⟩) ag2 rfl) rfl ?_
   refine dr [21, 29, 34] hd1 (fun ve h => OpT.indexAddr (H rfl) (D1 h rfl) (D1 h rfl) el24 sz9 (by omega) (nth_get hwi)) rfl ?_
   refine dr [21, 35] hd1 (fun ve h => OpT.load (H rfl) (D1 h rfl) ag9 rfl) rfl ?_
   refine dr [21, 28, 36] hd1 (fun ve h => OpT.c1 (ms := [.flat, .flat]) (c_spec_l05Compare (nth names (i : Int)) (nth names w) ⟨okNs_size hN.1 ⟨by omega, by omega⟩, okNs_size hN.1 hwi⟩) (H rfl) (Af (D1 h rfl) rfl rfl <| Af (D1 h rfl) rfl rfl <| An) rfl rfl) rfl ?_
   refine dr [21, 37] hd1 (fun ve h => OpT.lss (H rfl) (D1 h rfl) (I rfl)) rfl ?_
   refine d1 [21, 38] (fun ve h => OpT.pickT (A := .cel _ _) (H rfl) (D1 h rfl) hd1 (D1 h rfl) rfl) rfl ?_
   refine dn ⟨by kernel_rfl, by kernel_rfl, ?_⟩
   refine AX.go ?_
   refine cd rfl (fun hc2 => ?_) fun hc2 => ?_
   ·
    obtain ⟨hc2, hc2'⟩ := pT hc2
    have hlt : qS names (i : Int) w < 0 := by simpa [qS] using hc2
    refine AW.skip ?_
    refine AX.go ?_
    refine AW.seq ?_
    refine AW.block ?_
    refine sr ?_
    refine st (OpT.alias (H rfl) (by decide) (by decide)) rfl ?_
    refine st (mvT rfl) rfl ?_
    refine st (OpT.indexAddrO (H rfl) (Root.ali rfl (by decide) (by decide)) rfl (by decide) (T1 rfl) el26 sz2 (by omega) (by assumption)) rfl ?_
    refine st (OpT.loadP (H rfl) (T1 rfl) (.inr ⟨_, _, rfl, (by assumption)⟩) ag2 rfl) rfl ?_
    refine st (asT rfl) rfl ?_
    refine ng ?_
    refine sr ?_
    refine st (OpT.alias (H rfl) (by decide) (by decide)) rfl ?_
    refine st (mvT rfl) rfl ?_
    refine st (OpT.alias (H rfl) (by decide) (by decide)) rfl ?_
    refine st (mvT rfl) rfl ?_
    refine st (OpT.sub (H rfl) (T1 rfl) (I rfl) (nw (by omega))) rfl ?_
    refine st (OpT.indexAddrO (H rfl) (Root.ali rfl (by decide) (by decide)) rfl (by decide) (T1 rfl) el26 sz2 (by omega) (by assumption)) rfl ?_
    refine st (OpT.loadP (H rfl) (T1 rfl) (.inr ⟨_, _, rfl, (by assumption)⟩) ag2 rfl) rfl ?_
    refine st (OpT.indexAddrO (H rfl) (Root.ali rfl (by decide) (by decide)) rfl (by decide) (T1 rfl) el26 sz2 (by omega) (by assumption)) rfl ?_
    refine sk (OpT.storeO rfl rfl (T1 rfl) rfl (by assumption) sz2 rfl (T1 rfl)) rfl ?_
    refine ng ?_
    refine AW.region ?_
    refine st (OpT.alias (H rfl) (by decide) (by decide)) rfl ?_
    refine st (mvT rfl) rfl ?_
    refine st (OpT.sub (H rfl) (T1 rfl) (I rfl) (nw (by omega))) rfl ?_
    refine st (mvT rfl) rfl ?_
    refine st (OpT.indexAddrO (H rfl) (Root.ali rfl (by decide) (by decide)) rfl (by decide) (T1 rfl) el26 sz2 (by omega) (by assumption)) rfl ?_
    refine sk (OpT.storeO rfl rfl (T1 rfl) rfl (by assumption) sz2 rfl (T1 rfl)) rfl ?_
    refine nn ?_
    refine AX.normal_block ?_
    refine AX.go ?_
    refine AW.region ?_
    refine st (mvT rfl) rfl ?_
    refine st (OpT.sub (H rfl) (T1 rfl) (I rfl) (nw (by omega))) rfl ?_
    refine st (asT rfl) rfl ?_
    refine nn ?_
    exact AX.again (k + 1) ⟨by omega, all_more hI.2 hw hlt⟩ (by omega) (Kc 0 _ (Kv rfl rfl) <| Kc 3 _ (Ko rfl (by rw [show Int.toNat ((i : Int) - (k : Int)) = i - k - 1 + 1 by omega, show Int.toNat ((i : Int) - (k : Int) - 1) = i - k - 1 by omega]; exact m3)) <| Kc 4 _ (Kv rfl rfl) <| Kc 5 _ (Kv rfl (by omega)) <| Kn)
   ·
    obtain ⟨hc2, hc2'⟩ := pF hc2
    have hge : ¬ qS names (i : Int) w < 0 := by simpa [qS] using hc2
    refine AW.exit ?_
    refine xT <| xT <| AX.exit_hit ?_
    refine AX.normal_block ?_
    refine AX.go ?_
    refine AW.region ?_
    refine st (mvT rfl) rfl ?_
    refine st (OpT.add (H rfl) (T1 rfl) (I rfl) (nw (by omega))) rfl ?_
    refine st (asT rfl) rfl ?_
    refine nn ?_
    exact AX.again (i + 1) (by omega) (by omega) (Kc 0 _ (Kv rfl rfl) <| Kc 3 _ (Ko rfl (by first | exact fil_next hI.2 (.inl (by omega)) | exact fil_next hI.2 (.inr ⟨w, hw, hge⟩))) <| Kc 4 _ (Kv rfl (by omega)) <| Kn)
  ·
   have hd1' := lF hd1
   refine dhm [0, 1, 3, 7, 7, 7, 55, 119, 255, 511, 7, 7, 7, 4103, 14343, 30727, 64519, 130055, 262143, 524287, 1048575] [] fomo ?_
   refine d1 [5] (fun ve h => OpT.move (A := .cel _ _) (.inl rfl) rfl (ok' rfl) (D1 h rfl) rfl) rfl ?_
   refine d1 [19] (fun ve h => OpT.gtr (H rfl) (D1 h rfl) (I rfl)) rfl ?_
   refine d1 [20] (fun ve h => OpT.move (A := .cel _ _) (.inl rfl) rfl (ok' rfl) (D1 h rfl) rfl) rfl ?_
   refine dp hd1 rfl ?_
   refine dp hd1 rfl ?_
   refine dp hd1 rfl ?_
   refine dp hd1 rfl ?_
   refine dp hd1 rfl ?_
   refine dp hd1 rfl ?_
   refine dp hd1 rfl ?_
   refine dp hd1 rfl ?_
   refine dp hd1 rfl ?_
   refine dp hd1 rfl ?_
   refine dp hd1 rfl ?_
   refine dp hd1 rfl ?_
   refine dp hd1 rfl ?_
   refine dp hd1 rfl ?_
   refine dp hd1 rfl ?_
   refine dp hd1 rfl ?_
   refine dp hd1 rfl ?_
   refine d1 [21] (fun ve h => OpT.pickF (A := .cel _ _) (H rfl) (D1 h rfl) hd1 Opd.bool rfl) rfl ?_
   refine dn ⟨by kernel_rfl, by kernel_rfl, ?_⟩
   refine AX.go ?_
   refine cd rfl (fun hc3 => ?_) fun hc3 => ?_
   ·
    obtain ⟨hc3, hc3'⟩ := pT hc3
    exact absurd hc3 (by decide)
   ·
    obtain ⟨hc3, hc3'⟩ := pF hc3
    refine AW.exit ?_
    refine xT <| xT <| AX.exit_hit ?_
    refine AX.normal_block ?_
    refine AX.go ?_
    refine AW.region ?_
    refine st (mvT rfl) rfl ?_
    refine st (OpT.add (H rfl) (T1 rfl) (I rfl) (nw (by omega))) rfl ?_
    refine st (asT rfl) rfl ?_
    refine nn ?_
    exact AX.again (i + 1) (by omega) (by omega) (Kc 0 _ (Kv rfl rfl) <| Kc 3 _ (Ko rfl (by first | exact fil_next hI.2 (.inl (by omega)) | exact fil_next hI.2 (.inr ⟨w, hw, hge⟩))) <| Kc 4 _ (Kv rfl (by omega)) <| Kn)
 ·
  obtain ⟨hc1, hc1'⟩ := pF hc1
  refine AW.exit ?_
  refine xT <| xT <| AX.exit_hit ?_
  refine AX.go ?_
  refine sr ?_
  refine st (OpT.alias (H rfl) (by decide) (by decide)) rfl ?_
  refine sg (OpT.take (.inl rfl) rfl (ok' rfl) (Root.ali rfl (by decide) (by decide)) rfl rfl (by decide)) (ko 2 rfl <| kc4 11 10 9 8 rfl <| kc2 0 4 rfl <| Kn) rfl ?_
  refine ng ?_
  refine AW.ret ?_
  exact AX.rt (rs := [.tmp 2]) (ts := [some 2]) (.inl rfl) rfl (ROs.cons (RO.tmp (At.self (by decide)) (Ko rfl (by rw [show i = names.length by omega]; rfl)) rfl) <| ROs.nil) (by decide) OutsOK.nil
theorem c_spec_l05Filed (names : List ByteArray) (hN : okNs names ∧ names.length ≤ 100) : AC Tryd.prog 34 [.cel (Kd.slice Kd.str) names] [.cel (Kd.slice (Kd.int .i64)) (filS names)] [] := (c_spec_l05Filed_o names hN).frz rfl

/-- spec.l05Names -/
theorem c_spec_l05Names (names : List ByteArray) (per : Int) : AC Tryd.prog 33 [.cel (Kd.slice Kd.str) names, .cel (Kd.int .i64) per] [.cel (Kd.int .i64) (ckS names per)] [] := by
 refine acI (N := 24) Tryd.func33 (Nat.le_of_ble_eq_true rfl) rfl fun w0 hd s0 ar => ?_
 refine AW.to (kc2 0 1 rfl <| Kn) ?_
 refine AW.fact (fun a w hr => (ok_slice (R_ok (t := 0) rfl hr)).2) (fun hl0 => ?_)
 refine sr ?_
 refine st (asI rfl) rfl ?_
 refine ng ?_
 refine AW.seq ?_
 refine sr ?_
 refine st (asI rfl) rfl ?_
 refine ng ?_
 refine AW.block ?_
 refine AW.loop (fun z : Nat => z ≤ names.length ∧ ∀ a ∈ names.take z, enOK a) (fun z : Nat => keep [(0, .cel (Kd.slice Kd.str) names), (1, .cel (Kd.int .i64) per), (5, .cel (Kd.int .i64) (z : Int))]) (fun z : Nat => names.length - z) (0) ⟨Nat.zero_le _, by simp⟩ (Kc 0 _ (Kv rfl rfl) <| Kc 1 _ (Kv rfl rfl) <| Kc 5 _ (Kv rfl rfl) <| Kn) ?_
 intro z hI
 refine AW.seq ?_
 refine sr ?_
 refine st (mvT rfl) rfl ?_
 refine st (mvT rfl) rfl ?_
 refine st (OpT.len (H rfl) (T1 rfl) el24) rfl ?_
 refine st (OpT.lss (H rfl) (T1 rfl) (T1 rfl)) rfl ?_
 refine ng ?_
 refine cd rfl (fun hc1 => ?_) fun hc1 => ?_
 ·
  obtain ⟨hc1, hc1'⟩ := pT hc1
  obtain ⟨a, ha⟩ := getI (x := names) (z := z) (by omega)
  refine AW.skip ?_
  refine AX.go ?_
  refine AW.seq ?_
  refine AW.block ?_
  refine sr ?_
  refine st (mvT rfl) rfl ?_
  refine st (mvT rfl) rfl ?_
  refine st (OpT.indexAddr (H rfl) (T1 rfl) (T1 rfl) el24 sz9 (by omega) ha) rfl ?_
  refine st (OpT.load (H rfl) (T1 rfl) ag9 rfl) rfl ?_
  refine st (OpT.c1 (ms := [.flat]) (c_spec_l05Name _) (H rfl) (Af (T1 rfl) rfl rfl <| An) rfl rfl) rfl ?_
  refine st (OpT.not (H rfl) (T1 rfl)) rfl ?_
  refine ng ?_
  refine cd rfl (fun hc2 => ?_) fun hc2 => ?_
  ·
   obtain ⟨hc2, hc2'⟩ := pT hc2
   have hbd := badN_at ha (by simpa using hc2)
   refine sr ?_
   refine st (asI rfl) rfl ?_
   refine ng ?_
   refine AW.ret ?_
   refine rK <| rT <| rT <| rK <| rT ?_
   exact rt1 rfl (.inl rfl) (by first | exact (ckS_bad hbd).symm | exact (ckS_long hbn (by omega)).symm | exact (ckS_per hbn (by omega) hpr).symm | exact (ckS_ok hbn (by omega) hpr).symm)
  ·
   obtain ⟨hc2, hc2'⟩ := pF hc2
   have hgd : tt (enOK a) = true := by simpa using hc2
   refine AW.skip ?_
   refine AX.normal_block ?_
   refine AX.go ?_
   refine AW.region ?_
   refine st (mvT rfl) rfl ?_
   refine st (OpT.add (H rfl) (T1 rfl) (I rfl) (nw (by omega))) rfl ?_
   refine st (asT rfl) rfl ?_
   refine nn ?_
   exact AX.again (z + 1) ⟨by omega, ok_more ha hI.2 (tt_iff.1 hgd)⟩ (by omega) (Kc 0 _ (Kv rfl rfl) <| Kc 1 _ (Kv rfl rfl) <| Kc 5 _ (Kv rfl (by omega)) <| Kn)
 ·
  obtain ⟨hc1, hc1'⟩ := pF hc1
  have hbn : badN names = false := badN_all hI.2 (by omega)
  refine AW.exit ?_
  refine xT <| xT <| AX.exit_hit ?_
  refine AX.go ?_
  refine AW.seq ?_
  refine sr ?_
  refine st (mvT rfl) rfl ?_
  refine st (OpT.len (H rfl) (T1 rfl) el24) rfl ?_
  refine st (OpT.gtr (H rfl) (T1 rfl) (I rfl)) rfl ?_
  refine ng ?_
  refine cd rfl (fun hc3 => ?_) fun hc3 => ?_
  ·
   obtain ⟨hc3, hc3'⟩ := pT hc3
   have hlg := hc3'
   refine sr ?_
   refine st (asI rfl) rfl ?_
   refine ng ?_
   refine AW.ret ?_
   refine rT ?_
   exact rt1 rfl (.inl rfl) (by first | exact (ckS_bad hbd).symm | exact (ckS_long hbn (by omega)).symm | exact (ckS_per hbn (by omega) hpr).symm | exact (ckS_ok hbn (by omega) hpr).symm)
  ·
   obtain ⟨hc3, hc3'⟩ := pF hc3
   refine AW.skip ?_
   refine AX.go ?_
   refine AW.seq ?_
   refine sr ?_
   refine st (mvT rfl) rfl ?_
   refine st (OpT.c1 (ms := [.flat, .flat, .flat]) (c_spec_l00In _ _ _) (H rfl) (Af (T1 rfl) rfl rfl <| Af (I rfl) rfl rfl <| Af (I rfl) rfl rfl <| An) rfl rfl) rfl ?_
   refine st (OpT.not (H rfl) (T1 rfl)) rfl ?_
   refine AWl.to (kc 23 rfl <| Kn) ?_
   refine ng ?_
   refine cd rfl (fun hc4 => ?_) fun hc4 => ?_
   ·
    obtain ⟨hc4, hc4'⟩ := pT hc4
    have hpr : inb per 1 100 = false := by simpa using hc4
    refine sr ?_
    refine st (asI rfl) rfl ?_
    refine ng ?_
    refine AW.ret ?_
    refine rT ?_
    exact rt1 rfl (.inl rfl) (by first | exact (ckS_bad hbd).symm | exact (ckS_long hbn (by omega)).symm | exact (ckS_per hbn (by omega) hpr).symm | exact (ckS_ok hbn (by omega) hpr).symm)
   ·
    obtain ⟨hc4, hc4'⟩ := pF hc4
    have hpr : inb per 1 100 = true := by simpa using hc4
    refine AW.skip ?_
    refine AX.go ?_
    refine sr ?_
    refine st (asI rfl) rfl ?_
    refine ng ?_
    refine AW.ret ?_
    exact rt1 rfl (.inl rfl) (by first | exact (ckS_bad hbd).symm | exact (ckS_long hbn (by omega)).symm | exact (ckS_per hbn (by omega) hpr).symm | exact (ckS_ok hbn (by omega) hpr).symm)

/-- spec.FileOrder -/
theorem c_spec_FileOrder_o (names : List ByteArray) : AC Tryd.prog 10 [.cel (Kd.slice Kd.str) names] [.own 2 (Kd.int .i64) (filR names).1, .cel (Kd.int .i64) (filR names).2] [] := by
 refine acI (N := 13) Tryd.func10 (Nat.le_of_ble_eq_true rfl) rfl fun w0 hd s0 ar => ?_
 refine AW.to (kc 0 rfl <| Kn) ?_
 refine sr ?_
 refine st (nilO (E := 2) (Kd.int .i64) rfl (.inl rfl)) rfl ?_
 refine st (asI rfl) rfl ?_
 refine ng ?_
 refine AW.seq ?_
 refine sr ?_
 refine st (mvT rfl) rfl ?_
 refine st (OpT.c1 (ms := [.flat, .flat]) (c_spec_l05Names _ _) (H rfl) (Af (T1 rfl) rfl rfl <| Af (I rfl) rfl rfl <| An) rfl rfl) rfl ?_
 refine st (asT rfl) rfl ?_
 refine ng ?_
 refine sr ?_
 refine st (mvT rfl) rfl ?_
 refine st (OpT.neq (H rfl) (T1 rfl) (I rfl)) rfl ?_
 refine ng ?_
 refine cd rfl (fun hc1 => ?_) fun hc1 => ?_
 ·
  obtain ⟨hc1, hc1'⟩ := pT hc1
  have hn : ckN names ≠ 0 := hc1'
  refine sr ?_
  refine st (OpT.buildSlice0 (m := 0) (z := .bool false) (Kd.int .i64) (H rfl) el26 sz2 (by decide)) rfl ?_
  refine st (mvT rfl) rfl ?_
  refine sg (OpT.take (.inl rfl) rfl (ok' rfl) (Root.self (by decide)) rfl rfl (by decide)) (ko 2 rfl <| kc4 10 8 7 4 rfl <| kc4 6 5 3 0 rfl <| Kn) rfl ?_
  refine st (asT rfl) rfl ?_
  refine ng ?_
  refine AW.ret ?_
  refine rT ?_
  exact AX.rt (rs := [.tmp 2, .tmp 3]) (ts := [some 2, some 3]) (.inl rfl) rfl (ROs.cons (RO.tmp (At.self (by decide)) (Ko rfl (by first | (rw [filR_no hn]; done) | (rw [filR_yes hn, fil_same hz.1]; done) | (rw [filR_yes hn]; done) | (rw [filR_no hn]; rfl))) rfl) <| ROs.cons (RO.tmp (At.self (by decide)) (Kv rfl (by first | (rw [filR_no hn]; done) | (rw [filR_yes hn, fil_same hz.1]; done) | (rw [filR_yes hn]; done) | (rw [filR_no hn]; rfl))) rfl) <| ROs.nil) (by decide) OutsOK.nil
 ·
  obtain ⟨hc1, hc1'⟩ := pF hc1
  have hn : ckN names = 0 := by (show ckS names 1 = 0; omega)
  have hz := ckS_zero hn
  refine AW.skip ?_
  refine AX.go ?_
  refine sr ?_
  refine st (mvT rfl) rfl ?_
  refine st (OpT.c1 (ms := [.flat]) (c_spec_l05Filed_o names ⟨hz.1, hz.2.1⟩) (H rfl) (Af (T1 rfl) rfl rfl <| An) rfl rfl) rfl ?_
  refine sg (OpT.take (.inl rfl) rfl (ok' rfl) (Root.self (by decide)) rfl rfl (by decide)) (ko 2 rfl <| kc4 11 8 7 4 rfl <| kc4 6 5 3 0 rfl <| Kn) rfl ?_
  refine st (asI rfl) rfl ?_
  refine ng ?_
  refine AW.ret ?_
  exact AX.rt (rs := [.tmp 2, .tmp 3]) (ts := [some 2, some 3]) (.inl rfl) rfl (ROs.cons (RO.tmp (At.self (by decide)) (Ko rfl (by first | (rw [filR_no hn]; done) | (rw [filR_yes hn, fil_same hz.1]; done) | (rw [filR_yes hn]; done) | (rw [filR_no hn]; rfl))) rfl) <| ROs.cons (RO.tmp (At.self (by decide)) (Kv rfl (by first | (rw [filR_no hn]; done) | (rw [filR_yes hn, fil_same hz.1]; done) | (rw [filR_yes hn]; done) | (rw [filR_no hn]; rfl))) rfl) <| ROs.nil) (by decide) OutsOK.nil
theorem c_spec_FileOrder (names : List ByteArray) : AC Tryd.prog 10 [.cel (Kd.slice Kd.str) names] [.cel (Kd.slice (Kd.int .i64)) (filR names).1, .cel (Kd.int .i64) (filR names).2] [] := (c_spec_FileOrder_o names).frz rfl

/-- impl.checkNames$1 -/
theorem c_impl_checkNames_1 (x : ByteArray) : AC Tryd.prog 45 [.cel Kd.str x] [.cel Kd.bool (!(tt (enOK x)))] [] := by
 refine acI (N := 6) Tryd.func45 (Nat.le_of_ble_eq_true rfl) rfl fun w0 hd s0 ar => ?_
 refine AW.to (kc 0 rfl <| Kn) ?_
 refine sr ?_
 refine st (asB rfl) rfl ?_
 refine ng ?_
 refine sr ?_
 refine st (mvT rfl) rfl ?_
 refine st (OpT.c1 (ms := [.flat]) (c_impl_isEntryName _) (H rfl) (Af (T1 rfl) rfl rfl <| An) rfl rfl) rfl ?_
 refine st (OpT.not (H rfl) (T1 rfl)) rfl ?_
 refine st (asT rfl) rfl ?_
 refine ng ?_
 refine AW.ret ?_
 exact rt1 rfl (.inl rfl) rfl

/-- impl.checkNames -/
theorem c_impl_checkNames (names : List ByteArray) : AC Tryd.prog 31 [.cel (Kd.slice Kd.str) names] [.cel (Kd.int .i64) (ckN names)] [] := by
 refine acI (N := 10) Tryd.func31 (Nat.le_of_ble_eq_true rfl) rfl fun w0 hd s0 ar => ?_
 refine AW.to (kc 0 rfl <| Kn) ?_
 refine sr ?_
 refine st (asI rfl) rfl ?_
 refine ng ?_
 refine AW.seq ?_
 refine AW.block ?_
 refine sr ?_
 refine st (mvT rfl) rfl ?_
 refine st (OpT.c1 (ms := [.flat, .flat]) (c_slices_ContainsFunc_string_string (fun x => !(tt (enOK x))) CloArgs.unit (fun x => c_impl_checkNames_1 x) _) (H rfl) (Af (T1 rfl) rfl rfl <| Af Opd.func rfl rfl <| An) rfl rfl) rfl ?_
 refine st (asT rfl) rfl ?_
 refine ng ?_
 refine cd rfl (fun hc1 => ?_) fun hc1 => ?_
 ·
  obtain ⟨hc1, hc1'⟩ := pT hc1
  have hb : badN names = true := hc1
  refine sr ?_
  refine st (asI rfl) rfl ?_
  refine ng ?_
  refine AW.ret ?_
  refine rK <| rT ?_
  exact rt1 rfl (.inl rfl) (by first | exact (ckS_bad hb).symm | exact (ckS_long hb (by omega)).symm | exact (ckS_ok hb (by omega) (by decide)).symm)
 ·
  obtain ⟨hc1, hc1'⟩ := pF hc1
  have hb : badN names = false := hc1
  refine sr ?_
  refine st (mvT rfl) rfl ?_
  refine st (OpT.len (H rfl) (T1 rfl) el24) rfl ?_
  refine st (OpT.gtr (H rfl) (T1 rfl) (I rfl)) rfl ?_
  refine st (asT rfl) rfl ?_
  refine ng ?_
  refine cd rfl (fun hc2 => ?_) fun hc2 => ?_
  ·
   obtain ⟨hc2, hc2'⟩ := pT hc2
   refine sr ?_
   refine st (asI rfl) rfl ?_
   refine ng ?_
   refine AW.ret ?_
   refine rK <| rT ?_
   exact rt1 rfl (.inl rfl) (by first | exact (ckS_bad hb).symm | exact (ckS_long hb (by omega)).symm | exact (ckS_ok hb (by omega) (by decide)).symm)
  ·
   obtain ⟨hc2, hc2'⟩ := pF hc2
   refine AW.skip ?_
   refine AX.normal_block ?_
   refine AX.go ?_
   refine sr ?_
   refine st (asI rfl) rfl ?_
   refine ng ?_
   refine AW.ret ?_
   exact rt1 rfl (.inl rfl) (by first | exact (ckS_bad hb).symm | exact (ckS_long hb (by omega)).symm | exact (ckS_ok hb (by omega) (by decide)).symm)

/-- impl.fileOrder$1 -/
theorem c_impl_fileOrder_1 (i k : Int) (names : List ByteArray) (hp : inN names.length i ∧ inN names.length k ∧ okNs names) : AC Tryd.prog 47 [.cel (Kd.int .i64) i, .cel (Kd.int .i64) k, .cel (Kd.ptr (Kd.slice Kd.str)) names] [.cel (Kd.int .i64) (qN names i k)] [] := by
 refine acI (N := 15) Tryd.func47 (Nat.le_of_ble_eq_true rfl) rfl fun w0 hd s0 ar => ?_
 refine AW.to (kc3 0 1 2 rfl <| Kn) ?_
 have hi0 := hp.1.1
 have hk0 := hp.2.1.1
 refine sr ?_
 refine st (asI rfl) rfl ?_
 refine ng ?_
 refine AW.seq ?_
 refine dh fomo ?_
 refine d1 [2] (fun ve h => OpT.load (H rfl) (D1 h rfl) ag24 rfl) rfl ?_
 refine d1 [0] (fun ve h => OpT.move (A := .cel _ _) (.inl rfl) rfl (ok' rfl) (D1 h rfl) rfl) rfl ?_
 refine d1 [6, 7] (fun ve h => OpT.indexAddr (H rfl) (D1 h rfl) (D1 h rfl) el24 sz9 (by omega) (nth_get hp.1)) rfl ?_
 refine d1 [8] (fun ve h => OpT.load (H rfl) (D1 h rfl) ag9 rfl) rfl ?_
 refine d1 [2] (fun ve h => OpT.load (H rfl) (D1 h rfl) ag24 rfl) rfl ?_
 refine d1 [1] (fun ve h => OpT.move (A := .cel _ _) (.inl rfl) rfl (ok' rfl) (D1 h rfl) rfl) rfl ?_
 refine d1 [10, 11] (fun ve h => OpT.indexAddr (H rfl) (D1 h rfl) (D1 h rfl) el24 sz9 (by omega) (nth_get hp.2.1)) rfl ?_
 refine d1 [12] (fun ve h => OpT.load (H rfl) (D1 h rfl) ag9 rfl) rfl ?_
 refine d1 [9, 13] (fun ve h => OpT.c1 (ms := [.flat, .flat]) (c_impl_compareNames (nth names i) (nth names k) ⟨okNs_size hp.2.2 hp.1, okNs_size hp.2.2 hp.2.1⟩) (H rfl) (Af (D1 h rfl) rfl rfl <| Af (D1 h rfl) rfl rfl <| An) rfl rfl) rfl ?_
 refine d1 [14] (fun ve h => OpT.move (A := .cel _ _) (.inr rfl) rfl (ok' rfl) (D1 h rfl) rfl) rfl ?_
 refine dn ⟨by kernel_rfl, by kernel_rfl, ?_⟩
 refine AX.pr (kc 5 rfl <| Kn) ?_
 refine AX.go ?_
 refine AW.ret ?_
 exact rt1 rfl (.inl rfl) rfl

/-- impl.fileOrder -/
theorem c_impl_fileOrder_o (names : List ByteArray) (hN : okNs names ∧ names.length ≤ 100) : AC Tryd.prog 32 [.cel (Kd.slice Kd.str) names] [.own 2 (Kd.int .i64) (filP names)] [] := by
 refine acI (N := 20) Tryd.func32 (Nat.le_of_ble_eq_true rfl) rfl fun w0 hd s0 ar => ?_
 refine AW.to (kc 0 rfl <| Kn) ?_
 refine sr ?_
 refine st (OpT.frz (OpT.box (E := 24) (H rfl) (T1 rfl))) rfl ?_
 refine st (nilO (E := 2) (Kd.int .i64) rfl (.inl rfl)) rfl ?_
 refine ng ?_
 refine sr ?_
 refine st (OpT.buildSlice0 (m := 0) (z := .bool false) (Kd.int .i64) (H rfl) el26 sz2 (by decide)) rfl ?_
 refine sg (OpT.take (.inl rfl) rfl (ok' rfl) (Root.self (by decide)) rfl rfl (by decide)) (ko 3 rfl <| ko 2 rfl <| kc2 1 0 rfl <| Kn) rfl ?_
 refine ng ?_
 refine AW.seq ?_
 refine sr ?_
 refine st (OpT.load (H rfl) (T1 rfl) ag24 rfl) rfl ?_
 refine st (OpT.len (H rfl) (T1 rfl) el24) rfl ?_
 refine st (mvI rfl) rfl ?_
 refine ng ?_
 refine AW.block ?_
 refine AW.loop (fun z : Nat => z ≤ names.length) (fun z : Nat => keep [(1, .cel (Kd.ptr (Kd.slice Kd.str)) names), (3, .own 2 (Kd.int .i64) (idN z)), (7, .cel (Kd.int .i64) (names.length : Int)), (8, .cel (Kd.int .i64) (z : Int))]) (fun z : Nat => names.length - z) (0) (Nat.zero_le _) (Kc 1 _ (Kv rfl rfl) <| Kc 3 _ (Ko rfl rfl) <| Kc 7 _ (Kv rfl rfl) <| Kc 8 _ (Kv rfl rfl) <| Kn) ?_
 intro z hI
 refine sr ?_
 refine st (OpT.lss (H rfl) (T1 rfl) (T1 rfl)) rfl ?_
 refine ng ?_
 refine AW.seq ?_
 refine cd rfl (fun hc1 => ?_) fun hc1 => ?_
 ·
  obtain ⟨hc1, hc1'⟩ := pT hc1
  refine AW.skip ?_
  refine AX.go ?_
  refine AW.seq ?_
  refine AW.block ?_
  refine sr ?_
  refine st (mvT rfl) rfl ?_
  refine st (asT rfl) rfl ?_
  refine ng ?_
  refine AW.region ?_
  refine st (OpT.alias (H rfl) (by decide) (by decide)) rfl ?_
  refine st (mvT rfl) rfl ?_
  refine st (OpT.buildSlice (H rfl) el26 zr2 sz2 rfl (by decide) zk2 (by decide) (Built.cel (T1 rfl) rfl rfl (sub_arr (by decide) (0 : Int)) (Built.nil _))) rfl ?_
  refine sg (OpT.append (H rfl) (Root.ali rfl (by decide) (by decide)) rfl (Src.own (Root.self (t := 13) (by decide)) rfl) (by decide) el26 zr2 rfl sz2 by2 (by decide) (by simp only [idN_len, List.length_cons, List.length_nil, List.length_set, List.length_replicate]; omega)) (ko 14 rfl <| ko 13 rfl <| kc4 12 4 10 9 rfl <| kc3 1 7 8 rfl <| Kn) rfl ?_
  refine sg (OpT.take (.inl rfl) rfl (ok' rfl) (Root.self (by decide)) rfl rfl (by decide)) (ko 3 rfl <| ko 13 rfl <| kc4 12 4 10 9 rfl <| kc3 1 7 8 rfl <| Kn) rfl ?_
  refine nn ?_
  refine AX.normal_block ?_
  refine AX.go ?_
  refine AW.region ?_
  refine st (OpT.add (H rfl) (T1 rfl) (I rfl) (nw (by omega))) rfl ?_
  refine st (mvT rfl) rfl ?_
  refine nn ?_
  exact AX.again (z + 1) (by omega) (by omega) (Kc 1 _ (Kv rfl rfl) <| Kc 3 _ (Ko rfl (by rw [idN_more]; rfl)) <| Kc 7 _ (Kv rfl rfl) <| Kc 8 _ (Kv rfl (by omega)) <| Kn)
 ·
  obtain ⟨hc1, hc1'⟩ := pF hc1
  refine AW.exit ?_
  refine xT <| xT <| AX.exit_hit ?_
  refine AX.go ?_
  refine sr ?_
  refine st (OpT.alias (H rfl) (by decide) (by decide)) rfl ?_
  refine st (OpT.mkF1 (H rfl) (T1 rfl)) rfl ?_
  refine AWl.to (Kc 3 _ (Ko rfl (show _ = idN names.length from by rw [show z = names.length by omega])) <| (Kc 17 (.clo _ _ _) rfl <| Kc 16 (.ali _) rfl <| kc4 9 1 7 8 rfl <| Kn)) ?_
  refine sg (OpT.cr (ms := [.root 3, .flat]) (c_slices_SortStableFunc_int64_int64 (qN names) (inN names.length) (CloArgs.ptr _ _) (fun i k hi hk => c_impl_fileOrder_1 i k names ⟨hi, hk, hN.1⟩) (qN_pre names _) (idN names.length) (fun x hx => idN_in hx) (by rw [idN_len]; omega)) (H rfl) (Ar (Root.ali rfl (by decide) (by decide)) rfl rfl rfl <| Af (T1 rfl) rfl rfl <| An) rfl (.inl rfl) rfl) (ko 3 rfl <| Kc 17 (.clo _ _ _) rfl <| Kc 16 (.ali _) rfl <| kc4 9 1 7 8 rfl <| Kn) rfl ?_
  refine ng ?_
  refine sr ?_
  refine st (OpT.alias (H rfl) (by decide) (by decide)) rfl ?_
  refine sg (OpT.take (.inl rfl) rfl (ok' rfl) (Root.ali rfl (by decide) (by decide)) rfl rfl (by decide)) (ko 2 rfl <| Kc 17 (.clo _ _ _) rfl <| kc4 9 1 7 8 rfl <| Kn) rfl ?_
  refine ng ?_
  refine AW.ret ?_
  exact AX.rt (rs := [.tmp 2]) (ts := [some 2]) (.inl rfl) rfl (ROs.cons (RO.tmp (At.self (by decide)) (Ko rfl rfl) rfl) <| ROs.nil) (by decide) OutsOK.nil
theorem c_impl_fileOrder (names : List ByteArray) (hN : okNs names ∧ names.length ≤ 100) : AC Tryd.prog 32 [.cel (Kd.slice Kd.str) names] [.cel (Kd.slice (Kd.int .i64)) (filP names)] [] := (c_impl_fileOrder_o names hN).frz rfl

/-- impl.FileOrder -/
theorem c_impl_FileOrder_o (names : List ByteArray) : AC Tryd.prog 9 [.cel (Kd.slice Kd.str) names] [.own 2 (Kd.int .i64) (filR names).1, .cel (Kd.int .i64) (filR names).2] [] := by
 refine acI (N := 12) Tryd.func9 (Nat.le_of_ble_eq_true rfl) rfl fun w0 hd s0 ar => ?_
 refine AW.to (kc 0 rfl <| Kn) ?_
 refine sr ?_
 refine st (nilO (E := 2) (Kd.int .i64) rfl (.inl rfl)) rfl ?_
 refine st (asI rfl) rfl ?_
 refine ng ?_
 refine AW.seq ?_
 refine sr ?_
 refine st (mvT rfl) rfl ?_
 refine st (OpT.c1 (ms := [.flat]) (c_impl_checkNames _) (H rfl) (Af (T1 rfl) rfl rfl <| An) rfl rfl) rfl ?_
 refine st (asT rfl) rfl ?_
 refine ng ?_
 refine sr ?_
 refine st (mvT rfl) rfl ?_
 refine st (OpT.neq (H rfl) (T1 rfl) (I rfl)) rfl ?_
 refine ng ?_
 refine cd rfl (fun hc1 => ?_) fun hc1 => ?_
 ·
  obtain ⟨hc1, hc1'⟩ := pT hc1
  have hn : ckN names ≠ 0 := hc1'
  refine sr ?_
  refine st (mvT rfl) rfl ?_
  refine st (nilO (E := 2) (Kd.int .i64) rfl (.inl rfl)) rfl ?_
  refine st (asT rfl) rfl ?_
  refine ng ?_
  refine AW.ret ?_
  refine rT ?_
  exact AX.rt (rs := [.tmp 2, .tmp 3]) (ts := [some 2, some 3]) (.inl rfl) rfl (ROs.cons (RO.tmp (At.self (by decide)) (Ko rfl (by first | (rw [filR_no hn]; done) | (rw [filR_yes hn]; done) | (rw [filR_no hn]; rfl))) rfl) <| ROs.cons (RO.tmp (At.self (by decide)) (Kv rfl (by first | (rw [filR_no hn]; done) | (rw [filR_yes hn]; done) | (rw [filR_no hn]; rfl))) rfl) <| ROs.nil) (by decide) OutsOK.nil
 ·
  obtain ⟨hc1, hc1'⟩ := pF hc1
  have hn : ckN names = 0 := by omega
  have hz := ckS_zero hn
  refine AW.skip ?_
  refine AX.go ?_
  refine sr ?_
  refine st (mvT rfl) rfl ?_
  refine st (OpT.c1 (ms := [.flat]) (c_impl_fileOrder_o names ⟨hz.1, hz.2.1⟩) (H rfl) (Af (T1 rfl) rfl rfl <| An) rfl rfl) rfl ?_
  refine sg (OpT.take (.inl rfl) rfl (ok' rfl) (Root.self (by decide)) rfl rfl (by decide)) (ko 2 rfl <| kc4 10 8 7 4 rfl <| kc4 6 5 3 0 rfl <| Kn) rfl ?_
  refine st (asI rfl) rfl ?_
  refine ng ?_
  refine AW.ret ?_
  exact AX.rt (rs := [.tmp 2, .tmp 3]) (ts := [some 2, some 3]) (.inl rfl) rfl (ROs.cons (RO.tmp (At.self (by decide)) (Ko rfl (by first | (rw [filR_no hn]; done) | (rw [filR_yes hn]; done) | (rw [filR_no hn]; rfl))) rfl) <| ROs.cons (RO.tmp (At.self (by decide)) (Kv rfl (by first | (rw [filR_no hn]; done) | (rw [filR_yes hn]; done) | (rw [filR_no hn]; rfl))) rfl) <| ROs.nil) (by decide) OutsOK.nil
theorem c_impl_FileOrder (names : List ByteArray) : AC Tryd.prog 9 [.cel (Kd.slice Kd.str) names] [.cel (Kd.slice (Kd.int .i64)) (filR names).1, .cel (Kd.int .i64) (filR names).2] [] := (c_impl_FileOrder_o names).frz rfl

/-- impl.guides -/
theorem c_impl_guides_o (names : List ByteArray) (per : Int) (hN : okNs names ∧ names.length ≤ 100 ∧ 1 ≤ per ∧ per ≤ 100) : AC Tryd.prog 38 [.cel (Kd.slice Kd.str) names, .cel (Kd.int .i64) per] [.own 9 Kd.str (gdP names per names.length)] [] := by
 refine acI (N := 30) Tryd.func38 (Nat.le_of_ble_eq_true rfl) rfl fun w0 hd s0 ar => ?_
 refine AW.to (kc2 0 1 rfl <| Kn) ?_
 have hfl := filP_len names
 refine sr ?_
 refine st (nilO (E := 9) Kd.str rfl (.inl rfl)) rfl ?_
 refine ng ?_
 refine sr ?_
 refine st (OpT.buildSlice0 (m := 0) (z := .bool false) Kd.str (H rfl) el24 sz9 (by decide)) rfl ?_
 refine sg (OpT.take (.inl rfl) rfl (ok' rfl) (Root.self (by decide)) rfl rfl (by decide)) (ko 5 rfl <| ko 4 rfl <| kc2 0 1 rfl <| Kn) rfl ?_
 refine ng ?_
 refine AW.seq ?_
 refine sr ?_
 refine st (mvT rfl) rfl ?_
 refine st (OpT.c1 (ms := [.flat]) (c_impl_fileOrder names ⟨hN.1, hN.2.1⟩) (H rfl) (Af (T1 rfl) rfl rfl <| An) rfl rfl) rfl ?_
 refine st (OpT.len (H rfl) (T1 rfl) el26) rfl ?_
 refine st (mvI rfl) rfl ?_
 refine ng ?_
 refine AW.block ?_
 refine AW.loop (fun z : Nat => z ≤ names.length) (fun z : Nat => keep [(0, .cel (Kd.slice Kd.str) names), (1, .cel (Kd.int .i64) per), (5, .own 9 Kd.str (gdP names per z)), (10, .cel (Kd.slice (Kd.int .i64)) (filP names)), (11, .cel (Kd.int .i64) ((filP names).length : Int)), (12, .cel (Kd.int .i64) (z : Int))]) (fun z : Nat => names.length - z) (0) (Nat.zero_le _) (Kc 0 _ (Kv rfl rfl) <| Kc 1 _ (Kv rfl rfl) <| Kc 5 _ (Ko rfl rfl) <| Kc 10 _ (Kv rfl rfl) <| Kc 11 _ (Kv rfl rfl) <| Kc 12 _ (Kv rfl rfl) <| Kn) ?_
 intro z hI
 refine sr ?_
 refine st (OpT.lss (H rfl) (T1 rfl) (T1 rfl)) rfl ?_
 refine ng ?_
 refine AW.seq ?_
 refine cd rfl (fun hc1 => ?_) fun hc1 => ?_
 ·
  obtain ⟨hc1, hc1'⟩ := pT hc1
  have hz : z < names.length := by omega
  have hz0 := (gdF_in hz).2.1.1
  refine AW.skip ?_
  refine AX.go ?_
  refine AW.seq ?_
  refine AW.block ?_
  refine sr ?_
  refine st (mvT rfl) rfl ?_
  refine st (OpT.indexAddr (H rfl) (T1 rfl) (T1 rfl) el26 sz2 (by omega) (gdF_in hz).1) rfl ?_
  refine st (OpT.load (H rfl) (T1 rfl) ag2 rfl) rfl ?_
  refine st (asT rfl) rfl ?_
  refine st (asT rfl) rfl ?_
  refine ng ?_
  refine sr ?_
  refine st (mvT rfl) rfl ?_
  refine st (mvT rfl) rfl ?_
  refine st (OpT.rem (H rfl) (T1 rfl) (T1 rfl) (by omega)) rfl ?_
  refine st (OpT.eql (H rfl) (T1 rfl) (I rfl)) rfl ?_
  refine ng ?_
  refine cd rfl (fun hc2 => ?_) fun hc2 => ?_
  ·
   obtain ⟨hc2, hc2'⟩ := pT hc2
   have hm := hc2
   refine AW.region ?_
   refine st (OpT.alias (H rfl) (by decide) (by decide)) rfl ?_
   refine st (mvT rfl) rfl ?_
   refine st (mvT rfl) rfl ?_
   refine st (OpT.indexAddr (H rfl) (T1 rfl) (T1 rfl) el24 sz9 (by omega) (nth_get (gdF_in hz).2.1)) rfl ?_
   refine st (OpT.load (H rfl) (T1 rfl) ag9 rfl) rfl ?_
   refine st (OpT.buildSlice (H rfl) el24 zr9 sz9 rfl (by decide) zk9 (by decide) (Built.cel (T1 rfl) rfl rfl (sub_arr (by decide) (.empty : ByteArray)) (Built.nil _))) rfl ?_
   refine sg (OpT.append (H rfl) (Root.ali rfl (by decide) (by decide)) rfl (Src.own (Root.self (t := 26) (by decide)) rfl) (by decide) el24 zr9 rfl sz9 by9 (by decide) (by have h70 := gdP_len names per z; simp only [List.length_cons, List.length_nil, List.length_set, List.length_replicate]; omega)) (ko 27 rfl <| ko 26 rfl <| kc4 25 24 23 22 rfl <| kc4 20 19 18 17 rfl <| kc4 7 6 16 15 rfl <| kc4 14 13 0 1 rfl <| kc3 10 11 12 rfl <| Kn) rfl ?_
   refine sg (OpT.take (.inl rfl) rfl (ok' rfl) (Root.self (by decide)) rfl rfl (by decide)) (ko 5 rfl <| ko 26 rfl <| kc4 25 24 23 22 rfl <| kc4 20 19 18 17 rfl <| kc4 7 6 16 15 rfl <| kc4 14 13 0 1 rfl <| kc3 10 11 12 rfl <| Kn) rfl ?_
   refine nn ?_
   refine AX.normal_block ?_
   refine AX.go ?_
   refine AW.region ?_
   refine st (OpT.add (H rfl) (T1 rfl) (I rfl) (nw (by omega))) rfl ?_
   refine st (mvT rfl) rfl ?_
   refine nn ?_
   exact AX.again (z + 1) (by omega) (by omega) (Kc 0 _ (Kv rfl rfl) <| Kc 1 _ (Kv rfl rfl) <| Kc 5 _ (Ko rfl (by first | exact (gdP_more hm).symm | exact (gdP_skip hm).symm)) <| Kc 10 _ (Kv rfl rfl) <| Kc 11 _ (Kv rfl rfl) <| Kc 12 _ (Kv rfl (by omega)) <| Kn)
  ·
   obtain ⟨hc2, hc2'⟩ := pF hc2
   have hm := hc2
   refine AW.skip ?_
   refine AX.normal_block ?_
   refine AX.go ?_
   refine AW.region ?_
   refine st (OpT.add (H rfl) (T1 rfl) (I rfl) (nw (by omega))) rfl ?_
   refine st (mvT rfl) rfl ?_
   refine nn ?_
   exact AX.again (z + 1) (by omega) (by omega) (Kc 0 _ (Kv rfl rfl) <| Kc 1 _ (Kv rfl rfl) <| Kc 5 _ (Ko rfl (by first | exact (gdP_more hm).symm | exact (gdP_skip hm).symm)) <| Kc 10 _ (Kv rfl rfl) <| Kc 11 _ (Kv rfl rfl) <| Kc 12 _ (Kv rfl (by omega)) <| Kn)
 ·
  obtain ⟨hc1, hc1'⟩ := pF hc1
  refine AW.exit ?_
  refine xT <| xT <| AX.exit_hit ?_
  refine AX.go ?_
  refine sr ?_
  refine st (OpT.alias (H rfl) (by decide) (by decide)) rfl ?_
  refine sg (OpT.take (.inl rfl) rfl (ok' rfl) (Root.ali rfl (by decide) (by decide)) rfl rfl (by decide)) (ko 4 rfl <| kc4 13 0 1 10 rfl <| kc2 11 12 rfl <| Kn) rfl ?_
  refine ng ?_
  refine AW.ret ?_
  exact AX.rt (rs := [.tmp 4]) (ts := [some 4]) (.inl rfl) rfl (ROs.cons (RO.tmp (At.self (by decide)) (Ko rfl (by rw [show z = names.length by omega])) rfl) <| ROs.nil) (by decide) OutsOK.nil
theorem c_impl_guides (names : List ByteArray) (per : Int) (hN : okNs names ∧ names.length ≤ 100 ∧ 1 ≤ per ∧ per ≤ 100) : AC Tryd.prog 38 [.cel (Kd.slice Kd.str) names, .cel (Kd.int .i64) per] [.cel (Kd.slice Kd.str) (gdP names per names.length)] [] := (c_impl_guides_o names per hN).frz rfl

/-- spec.l05Guides -/
theorem c_spec_l05Guides_o (names : List ByteArray) (p : Nat) (hN : okNs names ∧ names.length ≤ 100 ∧ 1 ≤ p ∧ p ≤ 100) : AC Tryd.prog 39 [.cel (Kd.slice Kd.str) names, .cel (Kd.int .i64) (p : Int)] [.own 9 Kd.str (gdP names (p : Int) names.length)] [] := by
 refine acI (N := 29) Tryd.func39 (Nat.le_of_ble_eq_true rfl) rfl fun w0 hd s0 ar => ?_
 refine AW.to (kc2 0 1 rfl <| Kn) ?_
 have hfl := filS_len names
 refine sr ?_
 refine st (nilO (E := 9) Kd.str rfl (.inl rfl)) rfl ?_
 refine ng ?_
 refine sr ?_
 refine st (mvT rfl) rfl ?_
 refine st (OpT.c1 (ms := [.flat]) (c_spec_l05Filed names ⟨hN.1, hN.2.1⟩) (H rfl) (Af (T1 rfl) rfl rfl <| An) rfl rfl) rfl ?_
 refine st (asT rfl) rfl ?_
 refine ng ?_
 refine sr ?_
 refine st (OpT.buildSlice0 (m := 0) (z := .bool false) Kd.str (H rfl) el24 sz9 (by decide)) rfl ?_
 refine sg (OpT.take (.inl rfl) rfl (ok' rfl) (Root.self (by decide)) rfl rfl (by decide)) (ko 6 rfl <| kc3 5 9 8 rfl <| ko 4 rfl <| kc2 0 1 rfl <| Kn) rfl ?_
 refine ng ?_
 refine AW.seq ?_
 refine sr ?_
 refine st (asI rfl) rfl ?_
 refine ng ?_
 refine AW.block ?_
 refine AW.loop (fun j : Nat => ∀ t, t < j → t * p < names.length) (fun j : Nat => keep [(0, .cel (Kd.slice Kd.str) names), (1, .cel (Kd.int .i64) (p : Int)), (5, .cel (Kd.slice (Kd.int .i64)) (filS names)), (6, .own 9 Kd.str (gdS names p j)), (7, .cel (Kd.int .i64) ((j * p : Nat) : Int))]) (fun j : Nat => names.length - j * p) (0) (fun t h => absurd h (Nat.not_lt_zero t)) (Kc 0 _ (Kv rfl rfl) <| Kc 1 _ (Kv rfl rfl) <| Kc 5 _ (Kv rfl rfl) <| Kc 6 _ (Ko rfl rfl) <| Kc 7 _ (Kv rfl (by omega)) <| Kn) ?_
 intro j hI
 refine AW.seq ?_
 refine sr ?_
 refine st (mvT rfl) rfl ?_
 refine st (mvT rfl) rfl ?_
 refine st (OpT.len (H rfl) (T1 rfl) el26) rfl ?_
 refine st (OpT.lss (H rfl) (T1 rfl) (T1 rfl)) rfl ?_
 refine ng ?_
 refine cd rfl (fun hc1 => ?_) fun hc1 => ?_
 ·
  obtain ⟨hc1, hc1'⟩ := pT hc1
  have hz : j * p < names.length := by omega
  have hz0 := (gdFS_in hz).2.1
  have hjj : j ≤ j * p := Nat.le_mul_of_pos_right j (by omega)
  have hjs : (j + 1) * p = j * p + p := Nat.succ_mul j p
  refine AW.skip ?_
  refine AX.go ?_
  refine AW.seq ?_
  refine AW.block ?_
  refine AW.region ?_
  refine st (OpT.alias (H rfl) (by decide) (by decide)) rfl ?_
  refine st (mvT rfl) rfl ?_
  refine st (mvT rfl) rfl ?_
  refine st (mvT rfl) rfl ?_
  refine st (OpT.indexAddr (H rfl) (T1 rfl) (T1 rfl) el26 sz2 (by omega) (gdFS_in hz).1) rfl ?_
  refine st (OpT.load (H rfl) (T1 rfl) ag2 rfl) rfl ?_
  refine st (OpT.indexAddr (H rfl) (T1 rfl) (T1 rfl) el24 sz9 (by omega) (nth_get (gdFS_in hz).2)) rfl ?_
  refine st (OpT.load (H rfl) (T1 rfl) ag9 rfl) rfl ?_
  refine st (OpT.buildSlice (H rfl) el24 zr9 sz9 rfl (by decide) zk9 (by decide) (Built.cel (T1 rfl) rfl rfl (sub_arr (by decide) (.empty : ByteArray)) (Built.nil _))) rfl ?_
  refine sg (OpT.append (H rfl) (Root.ali rfl (by decide) (by decide)) rfl (Src.own (Root.self (t := 26) (by decide)) rfl) (by decide) el24 zr9 rfl sz9 by9 (by decide) (by rw [gdS_len]; simp only [List.length_cons, List.length_nil, List.length_set, List.length_replicate]; omega)) (ko 27 rfl <| ko 26 rfl <| kc4 25 24 23 22 rfl <| kc4 21 20 19 14 rfl <| kc4 13 12 11 0 rfl <| kc3 1 5 7 rfl <| Kn) rfl ?_
  refine sg (OpT.take (.inl rfl) rfl (ok' rfl) (Root.self (by decide)) rfl rfl (by decide)) (ko 6 rfl <| ko 26 rfl <| kc4 25 24 23 22 rfl <| kc4 21 20 19 14 rfl <| kc4 13 12 11 0 rfl <| kc3 1 5 7 rfl <| Kn) rfl ?_
  refine nn ?_
  refine AX.normal_block ?_
  refine AX.go ?_
  refine AW.region ?_
  refine st (mvT rfl) rfl ?_
  refine st (mvT rfl) rfl ?_
  refine st (OpT.add (H rfl) (T1 rfl) (T1 rfl) (nw (by omega))) rfl ?_
  refine st (asT rfl) rfl ?_
  refine nn ?_
  exact AX.again (j + 1) (fun t ht => by rcases Nat.lt_or_ge t j with h9 | h9; exact hI t h9; obtain rfl : t = j := (by omega); exact hz) (by omega) (Kc 0 _ (Kv rfl rfl) <| Kc 1 _ (Kv rfl rfl) <| Kc 5 _ (Kv rfl rfl) <| Kc 6 _ (Ko rfl (gdS_more names p j).symm) <| Kc 7 _ (Kv rfl (by omega)) <| Kn)
 ·
  obtain ⟨hc1, hc1'⟩ := pF hc1
  refine AW.exit ?_
  refine xT <| xT <| AX.exit_hit ?_
  refine AX.go ?_
  refine sr ?_
  refine st (OpT.alias (H rfl) (by decide) (by decide)) rfl ?_
  refine sg (OpT.take (.inl rfl) rfl (ok' rfl) (Root.ali rfl (by decide) (by decide)) rfl rfl (by decide)) (ko 4 rfl <| kc4 14 13 12 11 rfl <| kc4 0 1 5 7 rfl <| Kn) rfl ?_
  refine ng ?_
  refine AW.ret ?_
  exact AX.rt (rs := [.tmp 4]) (ts := [some 4]) (.inl rfl) rfl (ROs.cons (RO.tmp (At.self (by decide)) (Ko rfl (gds_same hN.1 hN.2.2.1 (by omega) hI)) rfl) <| ROs.nil) (by decide) OutsOK.nil
/-- impl.GuidesFor -/
theorem c_impl_GuidesFor_o (names : List ByteArray) (per : Int) : AC Tryd.prog 14 [.cel (Kd.slice Kd.str) names, .cel (Kd.int .i64) per] [.own 9 Kd.str (gdsR names per).1, .cel (Kd.int .i64) (gdsR names per).2] [] := by
 refine acI (N := 21) Tryd.func14 (Nat.le_of_ble_eq_true rfl) rfl fun w0 hd s0 ar => ?_
 refine AW.to (kc2 0 1 rfl <| Kn) ?_
 refine sr ?_
 refine st (nilO (E := 9) Kd.str rfl (.inl rfl)) rfl ?_
 refine st (asI rfl) rfl ?_
 refine ng ?_
 refine AW.seq ?_
 refine sr ?_
 refine st (mvT rfl) rfl ?_
 refine st (OpT.c1 (ms := [.flat]) (c_impl_checkNames _) (H rfl) (Af (T1 rfl) rfl rfl <| An) rfl rfl) rfl ?_
 refine st (asT rfl) rfl ?_
 refine ng ?_
 refine sr ?_
 refine st (mvT rfl) rfl ?_
 refine st (OpT.neq (H rfl) (T1 rfl) (I rfl)) rfl ?_
 refine ng ?_
 refine cd rfl (fun hc1 => ?_) fun hc1 => ?_
 ·
  obtain ⟨hc1, hc1'⟩ := pT hc1
  have hn : ckN names ≠ 0 := hc1'
  have hc := ckN_code (per := per) hn
  refine sr ?_
  refine st (mvT rfl) rfl ?_
  refine st (nilO (E := 9) Kd.str rfl (.inl rfl)) rfl ?_
  refine st (asT rfl) rfl ?_
  refine ng ?_
  refine AW.ret ?_
  refine rT ?_
  exact AX.rt (rs := [.tmp 4, .tmp 5]) (ts := [some 4, some 5]) (.inl rfl) rfl (ROs.cons (RO.tmp (At.self (by decide)) (Ko rfl (by first | (rw [gdsR_yes hc]; done) | (rw [gdsR_no (by omega)]; done) | (rw [gdsR_no (by omega), hc]; done))) rfl) <| ROs.cons (RO.tmp (At.self (by decide)) (Kv rfl (by first | (rw [gdsR_yes hc]; done) | (rw [gdsR_no (by omega)]; done) | (rw [gdsR_no (by omega), hc]; done))) rfl) <| ROs.nil) (by decide) OutsOK.nil
 ·
  obtain ⟨hc1, hc1'⟩ := pF hc1
  have hn : ckN names = 0 := by omega
  have hz := ckS_zero hn
  refine AW.skip ?_
  refine AX.go ?_
  refine AW.seq ?_
  refine sr ?_
  refine st (mvT rfl) rfl ?_
  refine st (OpT.lss (H rfl) (T1 rfl) (I rfl)) rfl ?_
  refine st (mvT rfl) rfl ?_
  apply AWl.or (d := 17) (t := 14) rfl
  ·
   intro hb1 Q1 k1
   have hb1' := lF hb1
   refine rs hb1 (mvT rfl) rfl ?_
   refine rs hb1 (OpT.gtr (H rfl) (T1 rfl) (I rfl)) rfl ?_
   refine st (OpT.pickF (A := .cel _ _) (H rfl) (T1 rfl) hb1 (T1 rfl) rfl) rfl ?_
   exact AWl.to (junk 2 rfl) k1
  ·
   intro hb1 Q1 k1
   refine ps hb1 rfl ?_
   refine ps hb1 rfl ?_
   refine st (OpT.pickT (A := .cel _ _) (H rfl) (T1 rfl) hb1 Opd.bool rfl) rfl ?_
   exact k1
  refine ng ?_
  refine cd rfl (fun hc2 => ?_) fun hc2 => ?_
  ·
   obtain ⟨hc2, hc2'⟩ := pT hc2
   have hc := ckN_per (per := per) hn (by omega)
   refine sr ?_
   refine st (nilO (E := 9) Kd.str rfl (.inl rfl)) rfl ?_
   refine st (asI rfl) rfl ?_
   refine AWl.to (kc 5 rfl <| ko 4 rfl <| kc2 0 1 rfl <| Kn) ?_
   refine ng ?_
   refine AW.ret ?_
   refine rT ?_
   exact AX.rt (rs := [.tmp 4, .tmp 5]) (ts := [some 4, some 5]) (.inl rfl) rfl (ROs.cons (RO.tmp (At.self (by decide)) (Ko rfl (by first | (rw [gdsR_yes hc]; done) | (rw [gdsR_no (by omega)]; done) | (rw [gdsR_no (by omega), hc]; done))) rfl) <| ROs.cons (RO.tmp (At.self (by decide)) (Kv rfl (by first | (rw [gdsR_yes hc]; done) | (rw [gdsR_no (by omega)]; done) | (rw [gdsR_no (by omega), hc]; done))) rfl) <| ROs.nil) (by decide) OutsOK.nil
  ·
   obtain ⟨hc2, hc2'⟩ := pF hc2
   have hc := ckN_ok (per := per) hn (by omega)
   have hz2 := ckS_zero hc
   refine AW.skip ?_
   refine AX.go ?_
   refine sr ?_
   refine st (mvT rfl) rfl ?_
   refine st (mvT rfl) rfl ?_
   refine st (OpT.c1 (ms := [.flat, .flat]) (c_impl_guides_o names per hz2) (H rfl) (Af (T1 rfl) rfl rfl <| Af (T1 rfl) rfl rfl <| An) rfl rfl) rfl ?_
   refine sg (OpT.take (.inl rfl) rfl (ok' rfl) (Root.self (by decide)) rfl rfl (by decide)) (ko 4 rfl <| kc4 19 18 17 14 rfl <| kc4 13 12 10 9 rfl <| kc4 6 8 7 5 rfl <| kc2 0 1 rfl <| Kn) rfl ?_
   refine st (asI rfl) rfl ?_
   refine AWl.to (kc 5 rfl <| ko 4 rfl <| Kn) ?_
   refine ng ?_
   refine AW.ret ?_
   exact AX.rt (rs := [.tmp 4, .tmp 5]) (ts := [some 4, some 5]) (.inl rfl) rfl (ROs.cons (RO.tmp (At.self (by decide)) (Ko rfl (by first | (rw [gdsR_yes hc]; done) | (rw [gdsR_no (by omega)]; done) | (rw [gdsR_no (by omega), hc]; done))) rfl) <| ROs.cons (RO.tmp (At.self (by decide)) (Kv rfl (by first | (rw [gdsR_yes hc]; done) | (rw [gdsR_no (by omega)]; done) | (rw [gdsR_no (by omega), hc]; done))) rfl) <| ROs.nil) (by decide) OutsOK.nil
theorem c_impl_GuidesFor (names : List ByteArray) (per : Int) : AC Tryd.prog 14 [.cel (Kd.slice Kd.str) names, .cel (Kd.int .i64) per] [.cel (Kd.slice Kd.str) (gdsR names per).1, .cel (Kd.int .i64) (gdsR names per).2] [] := (c_impl_GuidesFor_o names per).frz rfl

/-- spec.GuidesFor -/
theorem c_spec_GuidesFor_o (names : List ByteArray) (per : Int) : AC Tryd.prog 15 [.cel (Kd.slice Kd.str) names, .cel (Kd.int .i64) per] [.own 9 Kd.str (gdsR names per).1, .cel (Kd.int .i64) (gdsR names per).2] [] := by
 refine acI (N := 17) Tryd.func15 (Nat.le_of_ble_eq_true rfl) rfl fun w0 hd s0 ar => ?_
 refine AW.to (kc2 0 1 rfl <| Kn) ?_
 refine sr ?_
 refine st (nilO (E := 9) Kd.str rfl (.inl rfl)) rfl ?_
 refine st (asI rfl) rfl ?_
 refine ng ?_
 refine AW.seq ?_
 refine sr ?_
 refine st (mvT rfl) rfl ?_
 refine st (mvT rfl) rfl ?_
 refine st (OpT.c1 (ms := [.flat, .flat]) (c_spec_l05Names _ _) (H rfl) (Af (T1 rfl) rfl rfl <| Af (T1 rfl) rfl rfl <| An) rfl rfl) rfl ?_
 refine st (asT rfl) rfl ?_
 refine ng ?_
 refine sr ?_
 refine st (mvT rfl) rfl ?_
 refine st (OpT.neq (H rfl) (T1 rfl) (I rfl)) rfl ?_
 refine ng ?_
 refine cd rfl (fun hc1 => ?_) fun hc1 => ?_
 ·
  obtain ⟨hc1, hc1'⟩ := pT hc1
  have hc : ckS names per ≠ 0 := hc1'
  refine sr ?_
  refine st (OpT.buildSlice0 (m := 0) (z := .bool false) Kd.str (H rfl) el24 sz9 (by decide)) rfl ?_
  refine st (mvT rfl) rfl ?_
  refine sg (OpT.take (.inl rfl) rfl (ok' rfl) (Root.self (by decide)) rfl rfl (by decide)) (ko 4 rfl <| kc4 13 11 10 6 rfl <| kc4 9 8 7 5 rfl <| kc2 0 1 rfl <| Kn) rfl ?_
  refine st (asT rfl) rfl ?_
  refine ng ?_
  refine AW.ret ?_
  refine rT ?_
  exact AX.rt (rs := [.tmp 4, .tmp 5]) (ts := [some 4, some 5]) (.inl rfl) rfl (ROs.cons (RO.tmp (At.self (by decide)) (Ko rfl (by first | (rw [gdsR_yes hc]; done) | (rw [gdsR_no hc]; done) | (rw [gdsR_no hc]; rfl))) rfl) <| ROs.cons (RO.tmp (At.self (by decide)) (Kv rfl (by first | (rw [gdsR_yes hc]; done) | (rw [gdsR_no hc]; done) | (rw [gdsR_no hc]; rfl))) rfl) <| ROs.nil) (by decide) OutsOK.nil
 ·
  obtain ⟨hc1, hc1'⟩ := pF hc1
  have hc : ckS names per = 0 := by omega
  have hz := ckS_zero hc
  obtain ⟨p, rfl⟩ : ∃ p : Nat, per = (p : Int) := ⟨per.toNat, by omega⟩
  refine AW.skip ?_
  refine AX.go ?_
  refine sr ?_
  refine st (mvT rfl) rfl ?_
  refine st (mvT rfl) rfl ?_
  refine st (OpT.c1 (ms := [.flat, .flat]) (c_spec_l05Guides_o names p ⟨hz.1, hz.2.1, by omega, by omega⟩) (H rfl) (Af (T1 rfl) rfl rfl <| Af (T1 rfl) rfl rfl <| An) rfl rfl) rfl ?_
  refine sg (OpT.take (.inl rfl) rfl (ok' rfl) (Root.self (by decide)) rfl rfl (by decide)) (ko 4 rfl <| kc4 15 14 11 10 rfl <| kc4 6 9 8 7 rfl <| kc3 5 0 1 rfl <| Kn) rfl ?_
  refine st (asI rfl) rfl ?_
  refine AWl.to (kc 5 rfl <| ko 4 rfl <| Kn) ?_
  refine ng ?_
  refine AW.ret ?_
  exact AX.rt (rs := [.tmp 4, .tmp 5]) (ts := [some 4, some 5]) (.inl rfl) rfl (ROs.cons (RO.tmp (At.self (by decide)) (Ko rfl (by first | (rw [gdsR_yes hc]; done) | (rw [gdsR_no hc]; done) | (rw [gdsR_no hc]; rfl))) rfl) <| ROs.cons (RO.tmp (At.self (by decide)) (Kv rfl (by first | (rw [gdsR_yes hc]; done) | (rw [gdsR_no hc]; done) | (rw [gdsR_no hc]; rfl))) rfl) <| ROs.nil) (by decide) OutsOK.nil
theorem c_spec_GuidesFor (names : List ByteArray) (per : Int) : AC Tryd.prog 15 [.cel (Kd.slice Kd.str) names, .cel (Kd.int .i64) per] [.cel (Kd.slice Kd.str) (gdsR names per).1, .cel (Kd.int .i64) (gdsR names per).2] [] := (c_spec_GuidesFor_o names per).frz rfl

/-- impl.DrawerOf -/
theorem c_impl_DrawerOf (names : List ByteArray) (per : Int) (name : ByteArray) : AC Tryd.prog 17 [.cel (Kd.slice Kd.str) names, .cel (Kd.int .i64) per, .cel Kd.str name] [.cel (Kd.int .i64) (drwR names per name).1, .cel (Kd.int .i64) (drwR names per name).2] [] := by
 refine acI (N := 47) Tryd.func17 (Nat.le_of_ble_eq_true rfl) rfl fun w0 hd s0 ar => ?_
 refine AW.to (kc3 0 1 2 rfl <| Kn) ?_
 have hgl := gdP_len names per names.length
 refine sr ?_
 refine st (asI rfl) rfl ?_
 refine st (asI rfl) rfl ?_
 refine ng ?_
 refine AW.seq ?_
 refine sr ?_
 refine st (mvT rfl) rfl ?_
 refine st (OpT.c1 (ms := [.flat]) (c_impl_isEntryName _) (H rfl) (Af (T1 rfl) rfl rfl <| An) rfl rfl) rfl ?_
 refine st (OpT.not (H rfl) (T1 rfl)) rfl ?_
 refine ng ?_
 refine cd rfl (fun hc1 => ?_) fun hc1 => ?_
 ·
  obtain ⟨hc1, hc1'⟩ := pT hc1
  have hen : tt (enOK name) = false := by simpa using hc1
  refine sr ?_
  refine st (asI rfl) rfl ?_
  refine st (asI rfl) rfl ?_
  refine ng ?_
  refine AW.ret ?_
  refine rT ?_
  exact rt2 rfl (.inl rfl) (by first | (rw [drw_bad hen]; done) | (rw [drw_nil hen hc hnl]; done) | (rw [drw_yes hen hc hnl, show z = (gdP names per names.length).length by omega]; done) | (rw [drw_yes hen hc hnl]; done) | (rw [drw_code hen (by omega)]; done) | (rw [drw_code hen (by omega), hc]; done)) (by first | (rw [drw_bad hen]; done) | (rw [drw_nil hen hc hnl]; done) | (rw [drw_yes hen hc hnl, show z = (gdP names per names.length).length by omega]; done) | (rw [drw_yes hen hc hnl]; done) | (rw [drw_code hen (by omega)]; done) | (rw [drw_code hen (by omega), hc]; done))
 ·
  obtain ⟨hc1, hc1'⟩ := pF hc1
  have hen : tt (enOK name) = true := by simpa using hc1
  refine AW.skip ?_
  refine AX.go ?_
  refine AW.seq ?_
  refine sr ?_
  refine st (mvT rfl) rfl ?_
  refine st (OpT.c1 (ms := [.flat]) (c_impl_checkNames _) (H rfl) (Af (T1 rfl) rfl rfl <| An) rfl rfl) rfl ?_
  refine st (asT rfl) rfl ?_
  refine ng ?_
  refine sr ?_
  refine st (mvT rfl) rfl ?_
  refine st (OpT.neq (H rfl) (T1 rfl) (I rfl)) rfl ?_
  refine ng ?_
  refine cd rfl (fun hc2 => ?_) fun hc2 => ?_
  ·
   obtain ⟨hc2, hc2'⟩ := pT hc2
   have hn : ckN names ≠ 0 := hc2'
   have hc := ckN_code (per := per) hn
   refine sr ?_
   refine st (mvT rfl) rfl ?_
   refine st (asI rfl) rfl ?_
   refine st (asT rfl) rfl ?_
   refine AWl.to (kc4 7 6 0 1 rfl <| kc 2 rfl <| Kn) ?_
   refine ng ?_
   refine AW.ret ?_
   refine rT ?_
   exact rt2 rfl (.inl rfl) (by first | (rw [drw_bad hen]; done) | (rw [drw_nil hen hc hnl]; done) | (rw [drw_yes hen hc hnl, show z = (gdP names per names.length).length by omega]; done) | (rw [drw_yes hen hc hnl]; done) | (rw [drw_code hen (by omega)]; done) | (rw [drw_code hen (by omega), hc]; done)) (by first | (rw [drw_bad hen]; done) | (rw [drw_nil hen hc hnl]; done) | (rw [drw_yes hen hc hnl, show z = (gdP names per names.length).length by omega]; done) | (rw [drw_yes hen hc hnl]; done) | (rw [drw_code hen (by omega)]; done) | (rw [drw_code hen (by omega), hc]; done))
  ·
   obtain ⟨hc2, hc2'⟩ := pF hc2
   have hn : ckN names = 0 := by omega
   have hz := ckS_zero hn
   refine AW.skip ?_
   refine AX.go ?_
   refine AW.seq ?_
   refine AW.block ?_
   refine sr ?_
   refine st (mvT rfl) rfl ?_
   refine st (OpT.lss (H rfl) (T1 rfl) (I rfl)) rfl ?_
   refine st (mvT rfl) rfl ?_
   apply AWl.or (d := 26) (t := 23) rfl
   ·
    intro hb1 Q1 k1
    have hb1' := lF hb1
    refine rs hb1 (mvT rfl) rfl ?_
    refine rs hb1 (OpT.gtr (H rfl) (T1 rfl) (I rfl)) rfl ?_
    refine st (OpT.pickF (A := .cel _ _) (H rfl) (T1 rfl) hb1 (T1 rfl) rfl) rfl ?_
    exact AWl.to (junk 2 rfl) k1
   ·
    intro hb1 Q1 k1
    refine ps hb1 rfl ?_
    refine ps hb1 rfl ?_
    refine st (OpT.pickT (A := .cel _ _) (H rfl) (T1 rfl) hb1 Opd.bool rfl) rfl ?_
    exact k1
   refine st (asT rfl) rfl ?_
   refine AWl.to (kc4 20 7 6 0 rfl <| kc2 1 2 rfl <| Kn) ?_
   refine ng ?_
   refine cd rfl (fun hc3 => ?_) fun hc3 => ?_
   ·
    obtain ⟨hc3, hc3'⟩ := pT hc3
    have hc := ckN_per (per := per) hn (by omega)
    refine sr ?_
    refine st (asI rfl) rfl ?_
    refine st (asI rfl) rfl ?_
    refine ng ?_
    refine AW.ret ?_
    refine rK <| rT ?_
    exact rt2 rfl (.inl rfl) (by first | (rw [drw_bad hen]; done) | (rw [drw_nil hen hc hnl]; done) | (rw [drw_yes hen hc hnl, show z = (gdP names per names.length).length by omega]; done) | (rw [drw_yes hen hc hnl]; done) | (rw [drw_code hen (by omega)]; done) | (rw [drw_code hen (by omega), hc]; done)) (by first | (rw [drw_bad hen]; done) | (rw [drw_nil hen hc hnl]; done) | (rw [drw_yes hen hc hnl, show z = (gdP names per names.length).length by omega]; done) | (rw [drw_yes hen hc hnl]; done) | (rw [drw_code hen (by omega)]; done) | (rw [drw_code hen (by omega), hc]; done))
   ·
    obtain ⟨hc3, hc3'⟩ := pF hc3
    have hc := ckN_ok (per := per) hn (by omega)
    have hz2 := ckS_zero hc
    refine sr ?_
    refine st (mvT rfl) rfl ?_
    refine st (OpT.len (H rfl) (T1 rfl) el24) rfl ?_
    refine st (OpT.eql (H rfl) (T1 rfl) (I rfl)) rfl ?_
    refine st (asT rfl) rfl ?_
    refine ng ?_
    refine cd rfl (fun hc4 => ?_) fun hc4 => ?_
    ·
     obtain ⟨hc4, hc4'⟩ := pT hc4
     have hnl : names = [] := List.eq_nil_of_length_eq_zero (by omega)
     refine sr ?_
     refine st (asI rfl) rfl ?_
     refine st (asI rfl) rfl ?_
     refine ng ?_
     refine AW.ret ?_
     refine rK <| rT ?_
     exact rt2 rfl (.inl rfl) (by first | (rw [drw_bad hen]; done) | (rw [drw_nil hen hc hnl]; done) | (rw [drw_yes hen hc hnl, show z = (gdP names per names.length).length by omega]; done) | (rw [drw_yes hen hc hnl]; done) | (rw [drw_code hen (by omega)]; done) | (rw [drw_code hen (by omega), hc]; done)) (by first | (rw [drw_bad hen]; done) | (rw [drw_nil hen hc hnl]; done) | (rw [drw_yes hen hc hnl, show z = (gdP names per names.length).length by omega]; done) | (rw [drw_yes hen hc hnl]; done) | (rw [drw_code hen (by omega)]; done) | (rw [drw_code hen (by omega), hc]; done))
    ·
     obtain ⟨hc4, hc4'⟩ := pF hc4
     have hnl : names ≠ [] := fun h9 => by (rw [h9] at hc4'; simp at hc4')
     refine AW.skip ?_
     refine AX.normal_block ?_
     refine AX.go ?_
     refine sr ?_
     refine st (asI rfl) rfl ?_
     refine ng ?_
     refine AW.seq ?_
     refine sr ?_
     refine st (mvT rfl) rfl ?_
     refine st (mvT rfl) rfl ?_
     refine st (OpT.c1 (ms := [.flat, .flat]) (c_impl_guides names per hz2) (H rfl) (Af (T1 rfl) rfl rfl <| Af (T1 rfl) rfl rfl <| An) rfl rfl) rfl ?_
     refine st (OpT.len (H rfl) (T1 rfl) el24) rfl ?_
     refine st (mvI rfl) rfl ?_
     refine ng ?_
     refine AW.block ?_
     refine AW.loop (fun z : Nat => z ≤ (gdP names per names.length).length) (fun z : Nat => keep [(2, .cel Kd.str name), (9, .cel (Kd.int .i64) (lastI (leN name) (gdP names per names.length) z)), (33, .cel (Kd.slice Kd.str) (gdP names per names.length)), (34, .cel (Kd.int .i64) ((gdP names per names.length).length : Int)), (35, .cel (Kd.int .i64) (z : Int))]) (fun z : Nat => (gdP names per names.length).length - z) (0) (Nat.zero_le _) (Kc 2 _ (Kv rfl rfl) <| Kc 9 _ (Kv rfl rfl) <| Kc 33 _ (Kv rfl rfl) <| Kc 34 _ (Kv rfl rfl) <| Kc 35 _ (Kv rfl rfl) <| Kn) ?_
     intro z hI
     refine sr ?_
     refine st (OpT.lss (H rfl) (T1 rfl) (T1 rfl)) rfl ?_
     refine ng ?_
     refine AW.seq ?_
     refine cd rfl (fun hc5 => ?_) fun hc5 => ?_
     ·
      obtain ⟨hc5, hc5'⟩ := pT hc5
      obtain ⟨a, ha⟩ := getI (x := (gdP names per names.length)) (z := z) (by omega)
      refine AW.skip ?_
      refine AX.go ?_
      refine AW.seq ?_
      refine AW.block ?_
      refine sr ?_
      refine st (mvT rfl) rfl ?_
      refine st (OpT.indexAddr (H rfl) (T1 rfl) (T1 rfl) el24 sz9 (by omega) ha) rfl ?_
      refine st (OpT.load (H rfl) (T1 rfl) ag9 rfl) rfl ?_
      refine st (asT rfl) rfl ?_
      refine st (asT rfl) rfl ?_
      refine ng ?_
      refine sr ?_
      refine st (mvT rfl) rfl ?_
      refine st (mvT rfl) rfl ?_
      refine st (OpT.c1 (ms := [.flat, .flat]) (c_impl_compareNames a name ⟨by (have h9 := (hz2.1 a (gdP_in (mem_getI ha))).2.1; omega), by (have h9 := (tt_iff.1 hen).2.1; omega)⟩) (H rfl) (Af (T1 rfl) rfl rfl <| Af (T1 rfl) rfl rfl <| An) rfl rfl) rfl ?_
      refine st (OpT.leq (H rfl) (T1 rfl) (I rfl)) rfl ?_
      refine ng ?_
      refine cd rfl (fun hc6 => ?_) fun hc6 => ?_
      ·
       obtain ⟨hc6, hc6'⟩ := pT hc6
       have hle : leN name a = true := decide_eq_true hc6
       refine AW.region ?_
       refine st (mvT rfl) rfl ?_
       refine st (asT rfl) rfl ?_
       refine nn ?_
       refine AX.normal_block ?_
       refine AX.go ?_
       refine AW.region ?_
       refine st (OpT.add (H rfl) (T1 rfl) (I rfl) (nw (by omega))) rfl ?_
       refine st (mvT rfl) rfl ?_
       refine nn ?_
       exact AX.again (z + 1) (by omega) (by omega) (Kc 2 _ (Kv rfl rfl) <| Kc 9 _ (Kv rfl (by first | exact lastI_hit ha hle | exact lastI_miss ha hle)) <| Kc 33 _ (Kv rfl rfl) <| Kc 34 _ (Kv rfl rfl) <| Kc 35 _ (Kv rfl (by omega)) <| Kn)
      ·
       obtain ⟨hc6, hc6'⟩ := pF hc6
       have hle : leN name a = false := decide_eq_false hc6
       refine AW.skip ?_
       refine AX.normal_block ?_
       refine AX.go ?_
       refine AW.region ?_
       refine st (OpT.add (H rfl) (T1 rfl) (I rfl) (nw (by omega))) rfl ?_
       refine st (mvT rfl) rfl ?_
       refine nn ?_
       exact AX.again (z + 1) (by omega) (by omega) (Kc 2 _ (Kv rfl rfl) <| Kc 9 _ (Kv rfl (by first | exact lastI_hit ha hle | exact lastI_miss ha hle)) <| Kc 33 _ (Kv rfl rfl) <| Kc 34 _ (Kv rfl rfl) <| Kc 35 _ (Kv rfl (by omega)) <| Kn)
     ·
      obtain ⟨hc5, hc5'⟩ := pF hc5
      refine AW.exit ?_
      refine xT <| xT <| AX.exit_hit ?_
      refine AX.go ?_
      refine sr ?_
      refine st (mvT rfl) rfl ?_
      refine st (asT rfl) rfl ?_
      refine st (asI rfl) rfl ?_
      refine ng ?_
      refine AW.ret ?_
      exact rt2 rfl (.inl rfl) (by first | (rw [drw_bad hen]; done) | (rw [drw_nil hen hc hnl]; done) | (rw [drw_yes hen hc hnl, show z = (gdP names per names.length).length by omega]; done) | (rw [drw_yes hen hc hnl]; done) | (rw [drw_code hen (by omega)]; done) | (rw [drw_code hen (by omega), hc]; done)) (by first | (rw [drw_bad hen]; done) | (rw [drw_nil hen hc hnl]; done) | (rw [drw_yes hen hc hnl, show z = (gdP names per names.length).length by omega]; done) | (rw [drw_yes hen hc hnl]; done) | (rw [drw_code hen (by omega)]; done) | (rw [drw_code hen (by omega), hc]; done))

/-- impl.CompareNames -/
theorem c_impl_CompareNames (x y : ByteArray) (hxy : enOK x ∧ enOK y) : AC Tryd.prog 12 [.cel Kd.str x, .cel Kd.str y] [.cel (Kd.int .i64) (cnP x y), .cel (Kd.int .i64) (0 : Int)] [] := by
 refine acI (N := 17) Tryd.func12 (Nat.le_of_ble_eq_true rfl) rfl fun w0 hd s0 ar => ?_
 refine AW.to (kc2 0 1 rfl <| Kn) ?_
 refine sr ?_
 refine st (asI rfl) rfl ?_
 refine st (asI rfl) rfl ?_
 refine ng ?_
 refine AW.seq ?_
 refine sr ?_
 refine st (mvT rfl) rfl ?_
 refine st (OpT.c1 (ms := [.flat]) (c_impl_isEntryName _) (H rfl) (Af (T1 rfl) rfl rfl <| An) rfl rfl) rfl ?_
 refine st (OpT.not (H rfl) (T1 rfl)) rfl ?_
 refine st (mvT rfl) rfl ?_
 apply AWl.or (d := 13) (t := 9) rfl
 ·
  intro hb1 Q1 k1
  refine rs hb1 (mvT rfl) rfl ?_
  refine rs hb1 (OpT.c1 (ms := [.flat]) (c_impl_isEntryName _) (H rfl) (Af (T1 rfl) rfl rfl <| An) rfl rfl) rfl ?_
  refine rs hb1 (OpT.not (H rfl) (T1 rfl)) rfl ?_
  refine st (OpT.pickF (A := .cel _ _) (H rfl) (T1 rfl) hb1 (T1 rfl) rfl) rfl ?_
  exact AWl.to (junk 3 rfl) k1
 ·
  intro hb1 Q1 k1
  refine ps hb1 rfl ?_
  refine ps hb1 rfl ?_
  refine ps hb1 rfl ?_
  refine st (OpT.pickT (A := .cel _ _) (H rfl) (T1 rfl) hb1 Opd.bool rfl) rfl ?_
  exact k1
 refine ng ?_
 refine cd rfl (fun hc1 => ?_) fun hc1 => ?_
 ·
  replace hc1 := oT hc1
  exact (show False from (by rw [tt_iff.2 hxy.1, tt_iff.2 hxy.2] at hc1; cases hc1)).elim
 ·
  replace hc1 := oF hc1
  refine AW.skip ?_
  refine AX.go ?_
  refine sr ?_
  refine st (mvT rfl) rfl ?_
  refine st (mvT rfl) rfl ?_
  refine st (OpT.c1 (ms := [.flat, .flat]) (c_impl_compareNames x y ⟨by (have h9 := hxy.1.2.1; omega), by (have h9 := hxy.2.2.1; omega)⟩) (H rfl) (Af (T1 rfl) rfl rfl <| Af (T1 rfl) rfl rfl <| An) rfl rfl) rfl ?_
  refine st (asT rfl) rfl ?_
  refine st (asI rfl) rfl ?_
  refine AWl.to (kc2 5 4 rfl <| Kn) ?_
  refine ng ?_
  refine AW.ret ?_
  exact rt2 rfl (.inl rfl) rfl rfl
end Go.Proofs.YtbckpmjiimiceaaDoor.VL
