/- Proved here: what some functions of the program take and give: walks with the words of VA..VQ. Printed by program. -/
import Derived.Test.YtkgboidjghcegaaGreatDoorWT
set_option linter.unusedVariables false
set_option linter.unusedSimpArgs false
set_option maxRecDepth 4000
namespace Go.Proofs.YtkgboidjghcegaaGreatDoor.VL
open Go
/-- spec.l00In -/
theorem c_spec_l00In (x lo hi : Int) : AC Tryz.prog 58 [.cel (Kd.int .i64) x, .cel (Kd.int .i64) lo, .cel (Kd.int .i64) hi] [.cel Kd.bool (inb x lo hi)] [] := by
 refine acI (N := 15) Tryz.func58 (Nat.le_of_ble_eq_true rfl) rfl fun w0 hd s0 ar => ?_
 refine AW.to (kc3 0 1 2 rfl <| Kn) ?_
 refine sr ?_
 refine st (asB rfl) rfl ?_
 refine ng ?_
 refine sr ?_
 refine st (mvT rfl) rfl ?_
 refine st (mvT rfl) rfl ?_
 refine st (OpT.geq (H rfl) (T1 rfl) (T1 rfl)) rfl ?_
 refine st (mvT rfl) rfl ?_
 apply AWl.and (d := 14) (t := 10) rfl
 ·
  intro hb1 Q1 k1
  refine rs hb1 (mvT rfl) rfl ?_
  refine rs hb1 (mvT rfl) rfl ?_
  refine rs hb1 (OpT.leq (H rfl) (T1 rfl) (T1 rfl)) rfl ?_
  refine st (OpT.pickT (A := .cel _ _) (H rfl) (T1 rfl) hb1 (T1 rfl) rfl) rfl ?_
  exact AWl.to (junk 3 rfl) k1
 ·
  intro hb1 Q1 k1
  refine ps hb1 rfl ?_
  refine ps hb1 rfl ?_
  refine ps hb1 rfl ?_
  refine st (OpT.pickF (A := .cel _ _) (H rfl) (T1 rfl) hb1 Opd.bool rfl) rfl ?_
  exact k1
 refine st (asT rfl) rfl ?_
 refine ng ?_
 refine AW.ret ?_
 exact rt1 rfl (.inl rfl) rfl
end Go.Proofs.YtkgboidjghcegaaGreatDoor.VL
