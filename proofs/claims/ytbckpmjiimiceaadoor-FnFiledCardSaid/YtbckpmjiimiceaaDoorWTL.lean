/- Proved here: what some functions of the program take and give: walks with the words of VA..VQ. Printed by program. -/
import Derived.Test.YtbckpmjiimiceaaDoorWT
import Derived.Test.YtbckpmjiimiceaaDoorPXF
set_option linter.unusedVariables false
set_option linter.unusedSimpArgs false
set_option maxRecDepth 4000
namespace Go.Proofs.YtbckpmjiimiceaaDoor.VL
open Go
/-- strings.trimLeftByte -/
theorem c_strings_trimLeftByte (s : ByteArray) : AC Tryd.prog 65 [.cel Kd.str s, .cel (Kd.int .u8) (48 : Int)] [.cel Kd.str (zer s)] [] := by
 refine acI (N := 17) Tryd.func65 (Nat.le_of_ble_eq_true rfl) rfl fun w0 hd s0 ar => ?_
 refine AW.to (kc2 0 1 rfl <| Kn) ?_
 refine AW.fact (fun a w hr => ok_str (R_ok (t := 0) rfl hr)) (fun hs0 => ?_)
 refine sr ?_
 refine st (OpT.move (A := .cel _ _) (.inr rfl) rfl (ok' rfl) (Opd.str (by decide)) rfl) rfl ?_
 refine ng ?_
 refine AW.seq ?_
 refine AW.block ?_
 refine AW.loop (fun z : Nat => z ≤ s.size ∧ ∀ i, i < z → inT zrT s i) (fun z : Nat => keep [(0, .cel Kd.str (s.extract z s.size)), (1, .cel (Kd.int .u8) (48 : Int))]) (fun z : Nat => s.size - z) (0) ⟨Nat.zero_le _, all_none⟩ (Kc 0 _ (Kv rfl (ext_all s).symm) <| Kc 1 _ (Kv rfl rfl) <| Kn) ?_
 intro z hI
 have hz := ext_size (s := s) (i := z) (Nat.le_refl _)
 refine AW.seq ?_
 refine sr ?_
 refine st (mvT rfl) rfl ?_
 refine st (OpT.lenS (H rfl) (T1 rfl) Tryd.underlying9) rfl ?_
 refine st (OpT.gtr (H rfl) (T1 rfl) (I rfl)) rfl ?_
 refine st (mvT rfl) rfl ?_
 apply AWl.and (d := 13) (t := 8) rfl
 ·
  intro hb1 Q1 k1
  have hb1' := lT hb1
  have hb0 := bt_get (s := s) (z := z) (by omega)
  have hb : (s.extract z s.size)[Int.toNat 0]? = some (bytA s z) := by (show (s.extract z s.size)[0]? = some (bytA s z); rw [ext_get (by omega) (Nat.le_refl _), Nat.add_zero]; exact hb0)
  refine rs hb1 (mvT rfl) rfl ?_
  refine rs hb1 (OpT.indexS (H rfl) (T1 rfl) (I rfl) Tryd.underlying9 (by omega) (by assumption)) rfl ?_
  refine rs hb1 (mvT rfl) rfl ?_
  refine rs hb1 (OpT.eql (H rfl) (T1 rfl) (T1 rfl)) rfl ?_
  refine st (OpT.pickT (A := .cel _ _) (H rfl) (T1 rfl) hb1 (T1 rfl) rfl) rfl ?_
  exact AWl.to (junk 4 rfl) k1
 ·
  intro hb1 Q1 k1
  refine ps hb1 rfl ?_
  refine ps hb1 rfl ?_
  refine ps hb1 rfl ?_
  refine ps hb1 rfl ?_
  refine st (OpT.pickF (A := .cel _ _) (H rfl) (T1 rfl) hb1 Opd.bool rfl) rfl ?_
  exact k1
 refine ng ?_
 refine cd rfl (fun hc1 => ?_) fun hc1 => ?_
 ·
  obtain ⟨hc1, hc1'⟩ := pT hc1
  rw [Bool.and_eq_true, decide_eq_true_eq, beq_iff_eq] at hc1
  have hb0 := bt_get (s := s) (z := z) (by omega)
  have hbt : inT zrT s z := (inT_iff hb0).2 ((zrT_iff _).2 (by omega))
  refine AW.skip ?_
  refine AX.go ?_
  refine AW.block ?_
  refine AW.region ?_
  refine st (mvT rfl) rfl ?_
  refine st (OpT.cutSL (H rfl) (T1 rfl) (I rfl) Tryd.underlying9 (by omega)) rfl ?_
  refine st (asT rfl) rfl ?_
  refine nn ?_
  refine AX.normal_block ?_
  exact AX.again (z + 1) ⟨by omega, all_step hI.2 hbt⟩ (by omega) (Kc 0 _ (Kv rfl (by rw [ext_ext (Nat.le_refl _) (by omega), hz]; congr 1; show z + (s.size - z) = s.size; omega)) <| Kc 1 _ (Kv rfl rfl) <| Kn)
 ·
  obtain ⟨hc1, hc1'⟩ := pF hc1
  rw [Bool.and_eq_false_iff, decide_eq_false_iff_not, beq_eq_false_iff_ne] at hc1
  have hbt : z < s.size → ¬ inT zrT s z := fun hl h9 => by (have h8 := (zrT_iff _).1 ((inT_iff (bt_get (s := s) (z := z) hl)).1 h9); omega)
  refine AW.exit ?_
  refine xT <| xT <| AX.exit_hit ?_
  refine AX.go ?_
  refine sr ?_
  refine st (mvT rfl) rfl ?_
  refine st (asT rfl) rfl ?_
  refine ng ?_
  refine AW.ret ?_
  exact rt1 rfl (.inl rfl) (by by_cases h9 : z < s.size; exact congrArg (fun j => s.extract j s.size) (pre_at hI.2 (hbt h9) (by omega)).symm; exact congrArg (fun j => s.extract j s.size) ((show z = s.size by omega).trans (pre_all (all_end hI.2 (by omega))).symm))
end Go.Proofs.YtbckpmjiimiceaaDoor.VL
