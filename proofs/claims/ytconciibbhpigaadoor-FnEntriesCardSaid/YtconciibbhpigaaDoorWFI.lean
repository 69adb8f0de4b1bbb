/- Proved here: what some functions of the program take and give: walks with the words of VA..VQ. Printed by program. -/
import Derived.Test.YtconciibbhpigaaDoorWT
import Derived.Test.YtconciibbhpigaaDoorPXI
import Derived.Test.YtconciibbhpigaaDoorPZN
import Derived.Test.YtconciibbhpigaaDoorPXD
set_option linter.unusedVariables false
set_option linter.unusedSimpArgs false
set_option maxRecDepth 4000
namespace Go.Proofs.YtconciibbhpigaaDoor.VL
open Go
/-- spec.l05Called -/
theorem c_spec_l05Called  : AC Tryd.prog 45 [] [.cel (Kd.slice Kd.str) calledL] [] := by
 refine acI (N := 2) Tryd.func45 (Nat.le_of_ble_eq_true rfl) rfl fun w0 hd s0 ar => ?_
 refine AW.to (Kn) ?_
 refine sr ?_
 refine st (OpT.move (A := .cel _ _) (.inr rfl) rfl (ok' rfl) (Opd.nilslice Kd.str) rfl) rfl ?_
 refine ng ?_
 refine sr ?_
 refine st (OpT.buildSlice (H rfl) el47 zr9 sz9 rfl (by decide) zk9 (by decide) (Built.cel (Opd.str (by decide)) rfl rfl (sub_arr (by decide) (.empty : ByteArray)) (Built.cel (Opd.str (by decide)) rfl rfl (sub_arr (by decide) (.empty : ByteArray)) (Built.cel (Opd.str (by decide)) rfl rfl (sub_arr (by decide) (.empty : ByteArray)) (Built.cel (Opd.str (by decide)) rfl rfl (sub_arr (by decide) (.empty : ByteArray)) (Built.cel (Opd.str (by decide)) rfl rfl (sub_arr (by decide) (.empty : ByteArray)) (Built.cel (Opd.str (by decide)) rfl rfl (sub_arr (by decide) (.empty : ByteArray)) (Built.cel (Opd.str (by decide)) rfl rfl (sub_arr (by decide) (.empty : ByteArray)) (Built.cel (Opd.str (by decide)) rfl rfl (sub_arr (by decide) (.empty : ByteArray)) (Built.cel (Opd.str (by decide)) rfl rfl (sub_arr (by decide) (.empty : ByteArray)) (Built.cel (Opd.str (by decide)) rfl rfl (sub_arr (by decide) (.empty : ByteArray)) (Built.cel (Opd.str (by decide)) rfl rfl (sub_arr (by decide) (.empty : ByteArray)) (Built.cel (Opd.str (by decide)) rfl rfl (sub_arr (by decide) (.empty : ByteArray)) (Built.cel (Opd.str (by decide)) rfl rfl (sub_arr (by decide) (.empty : ByteArray)) (Built.cel (Opd.str (by decide)) rfl rfl (sub_arr (by decide) (.empty : ByteArray)) (Built.cel (Opd.str (by decide)) rfl rfl (sub_arr (by decide) (.empty : ByteArray)) (Built.cel (Opd.str (by decide)) rfl rfl (sub_arr (by decide) (.empty : ByteArray)) (Built.nil _)))))))))))))))))) rfl ?_
 refine sg (OpT.take (.inl rfl) rfl (ok' rfl) (Root.self (by decide)) rfl rfl (by decide)) (ko 0 rfl <| Kn) rfl ?_
 refine ng ?_
 refine AW.ret ?_
 refine AX.freeze (t := 0) rfl ?_
 refine AX.pr (kc 0 rfl <| Kn) ?_
 exact rt1 rfl (.inl rfl) rfl
end Go.Proofs.YtconciibbhpigaaDoor.VL
