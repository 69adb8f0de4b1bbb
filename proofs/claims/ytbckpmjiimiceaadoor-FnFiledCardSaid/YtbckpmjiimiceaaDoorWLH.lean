/- Proved here: what some functions of the program take and give: walks with the words of VA..VQ. Printed by program. -/
import Derived.Test.YtbckpmjiimiceaaDoorWT
import Derived.Test.YtbckpmjiimiceaaDoorPZN
import Derived.Test.YtbckpmjiimiceaaDoorBpa
import Derived.Test.YtbckpmjiimiceaaDoorWD
set_option linter.unusedVariables false
set_option linter.unusedSimpArgs false
set_option maxRecDepth 4000
namespace Go.Proofs.YtbckpmjiimiceaaDoor.VL
open Go
/-- spec.A2Same -/
theorem c_spec_A2Same (x y : List Int) : AC Tryd.prog 11 [.cel (Kd.slice (Kd.int .i64)) x, .cel (Kd.slice (Kd.int .i64)) y] [.cel Kd.bool (eqv x y)] [] := by
 refine acI (N := 8) Tryd.func11 (Nat.le_of_ble_eq_true rfl) rfl fun w0 hd s0 ar => ?_
 refine AW.to (kc2 0 1 rfl <| Kn) ?_
 refine sr ?_
 refine st (asB rfl) rfl ?_
 refine ng ?_
 refine sr ?_
 refine st (mvT rfl) rfl ?_
 refine st (mvT rfl) rfl ?_
 refine st (OpT.c1 (ms := [.flat, .flat]) (c_spec_l00Same _ _) (H rfl) (Af (T1 rfl) rfl rfl <| Af (T1 rfl) rfl rfl <| An) rfl rfl) rfl ?_
 refine st (asT rfl) rfl ?_
 refine ng ?_
 refine AW.ret ?_
 exact rt1 rfl (.inl rfl) rfl

/-- laws.a2Long -/
theorem c_laws_a2Long (x y : List Int) : AC Tryd.prog 7 [.cel (Kd.slice (Kd.int .u8)) x, .cel (Kd.slice (Kd.int .u8)) y] [.cel Kd.bool (decide ((x.length : Int) > 3000) || decide ((y.length : Int) > 3000))] [] := by
 refine acI (N := 13) Tryd.func7 (Nat.le_of_ble_eq_true rfl) rfl fun w0 hd s0 ar => ?_
 refine AW.to (kc2 0 1 rfl <| Kn) ?_
 refine sr ?_
 refine st (asB rfl) rfl ?_
 refine ng ?_
 refine sr ?_
 refine st (mvT rfl) rfl ?_
 refine st (OpT.len (H rfl) (T1 rfl) el22) rfl ?_
 refine st (OpT.gtr (H rfl) (T1 rfl) (I rfl)) rfl ?_
 refine st (mvT rfl) rfl ?_
 apply AWl.or (d := 12) (t := 8) rfl
 ·
  intro hb1 Q1 k1
  refine rs hb1 (mvT rfl) rfl ?_
  refine rs hb1 (OpT.len (H rfl) (T1 rfl) el22) rfl ?_
  refine rs hb1 (OpT.gtr (H rfl) (T1 rfl) (I rfl)) rfl ?_
  refine st (OpT.pickF (A := .cel _ _) (H rfl) (T1 rfl) hb1 (T1 rfl) rfl) rfl ?_
  exact AWl.to (junk 3 rfl) k1
 ·
  intro hb1 Q1 k1
  refine ps hb1 rfl ?_
  refine ps hb1 rfl ?_
  refine ps hb1 rfl ?_
  refine st (OpT.pickT (A := .cel _ _) (H rfl) (T1 rfl) hb1 Opd.bool rfl) rfl ?_
  exact k1
 refine st (asT rfl) rfl ?_
 refine ng ?_
 refine AW.ret ?_
 exact rt1 rfl (.inl rfl) rfl
end Go.Proofs.YtbckpmjiimiceaaDoor.VL
