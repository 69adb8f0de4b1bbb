/- Proved here: what some functions of the program take and give: walks with the words of VA..VQ. Printed by program. -/
import Derived.Test.YtconciibbhpigaaDoorWT
import Derived.Test.YtconciibbhpigaaDoorPZQ
import Derived.Test.YtconciibbhpigaaDoorBpa
set_option linter.unusedVariables false
set_option linter.unusedSimpArgs false
set_option maxRecDepth 4000
namespace Go.Proofs.YtconciibbhpigaaDoor.VL
open Go
/-- laws.a2At -/
theorem c_laws_a2At (l : List Int) (i n : Int) (h : 0 ≤ i ∧ ∀ b ∈ l, 0 ≤ b ∧ b ≤ 255) : AC Tryd.prog 6 [.cel (Kd.slice (Kd.int .u8)) l, .cel (Kd.int .i64) i, .cel (Kd.int .i64) n] [.cel (Kd.int .i64) (atS l i n)] [] := by
 refine acI (N := 22) Tryd.func6 (Nat.le_of_ble_eq_true rfl) rfl fun w0 hd s0 ar => ?_
 refine AW.to (kc3 0 1 2 rfl <| Kn) ?_
 refine sr ?_
 refine st (asI rfl) rfl ?_
 refine ng ?_
 refine AW.seq ?_
 refine sr ?_
 refine st (mvT rfl) rfl ?_
 refine st (mvT rfl) rfl ?_
 refine st (OpT.len (H rfl) (T1 rfl) el22) rfl ?_
 refine st (OpT.geq (H rfl) (T1 rfl) (T1 rfl)) rfl ?_
 refine st (mvT rfl) rfl ?_
 apply AWl.or (d := 14) (t := 11) rfl
 ·
  intro hb1 Q1 k1
  have hb1' := lF hb1
  refine rs hb1 (mvT rfl) rfl ?_
  refine rs hb1 (OpT.lss (H rfl) (T1 rfl) (I rfl)) rfl ?_
  refine st (OpT.pickF (A := .cel _ _) (H rfl) (T1 rfl) hb1 (T1 rfl) rfl) rfl ?_
  exact AWl.to (junk 2 rfl) k1
 ·
  intro hb1 Q1 k1
  refine ps hb1 rfl ?_
  refine ps hb1 rfl ?_
  refine st (OpT.pickT (A := .cel _ _) (H rfl) (T1 rfl) hb1 Opd.bool rfl) rfl ?_
  exact k1
 refine ng ?_
 refine cd rfl (fun hc1 => ?_) fun hc1 => ?_
 ·
  obtain ⟨hc1, hc1'⟩ := pT hc1
  refine sr ?_
  refine st (asI rfl) rfl ?_
  refine ng ?_
  refine AW.ret ?_
  refine rT ?_
  exact rt1 rfl (.inl rfl) (by first | exact (atS_no (by omega)).symm | exact (atS_yes (by omega) hb).symm)
 ·
  obtain ⟨hc1, hc1'⟩ := pF hc1
  obtain ⟨b, hb⟩ : ∃ b, l[Int.toNat i]? = some b := ⟨_, List.getElem?_eq_getElem (by omega)⟩
  have hbb := h.2 b (List.mem_of_getElem? hb)
  have htm := tmod_lt' (a := b) (n := n) (by omega) (by omega)
  refine AW.skip ?_
  refine AX.go ?_
  refine sr ?_
  refine st (mvT rfl) rfl ?_
  refine st (mvT rfl) rfl ?_
  refine st (OpT.indexAddr (H rfl) (T1 rfl) (T1 rfl) el22 sz5 (by omega) hb) rfl ?_
  refine st (OpT.load (H rfl) (T1 rfl) ag5 rfl) rfl ?_
  refine st (OpT.conv (H rfl) us5 Tryd.underlying2 (T1 rfl) (nw (by omega))) rfl ?_
  refine st (mvT rfl) rfl ?_
  refine st (OpT.rem (H rfl) (T1 rfl) (T1 rfl) (by omega)) rfl ?_
  refine st (asT rfl) rfl ?_
  refine AWl.to (kc 6 rfl <| Kn) ?_
  refine ng ?_
  refine AW.ret ?_
  exact rt1 rfl (.inl rfl) (by first | exact (atS_no (by omega)).symm | exact (atS_yes (by omega) hb).symm)
end Go.Proofs.YtconciibbhpigaaDoor.VL
