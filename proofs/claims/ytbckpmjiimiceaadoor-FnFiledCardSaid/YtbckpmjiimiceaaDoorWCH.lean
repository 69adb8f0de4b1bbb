/- Proved here: what some functions of the program take and give: walks with the words of VA..VQ. Printed by program. -/
import Derived.Test.YtbckpmjiimiceaaDoorWT
import Derived.Test.YtbckpmjiimiceaaDoorPZW
import Derived.Test.YtbckpmjiimiceaaDoorWSR
set_option linter.unusedVariables false
set_option linter.unusedSimpArgs false
set_option maxRecDepth 4000
namespace Go.Proofs.YtbckpmjiimiceaaDoor.VL
open Go
attribute [local irreducible] pick nxt

/-- spec.l00Src).text -/
theorem c_spec_l00Src_text (ss : DSrc) (l : List ByteArray) (h : srcI 999999999 ss ∧ 1 ≤ l.length) : AC Tryd.prog 29 [.box 58 (Kd.pair (Kd.slice (Kd.int .u8)) (Kd.pair (Kd.int .i64) Kd.u64)) ss, .cel (Kd.slice Kd.str) l] [.cel Kd.str (txtD ss l)] [.box 58 (Kd.pair (Kd.slice (Kd.int .u8)) (Kd.pair (Kd.int .i64) Kd.u64)) (pick ss (l.length : Int)).2, .any] := by
 refine acI (N := 12) Tryd.func29 (Nat.le_of_ble_eq_true rfl) rfl fun w0 hd s0 ar => ?_
 refine AW.to (kb 0 rfl <| kc 1 rfl <| Kn) ?_
 have hpi := pick_in h.1 (l.length : Int)
 refine sr ?_
 refine st (OpT.move (A := .cel _ _) (.inr rfl) rfl (ok' rfl) (Opd.str (by decide)) rfl) rfl ?_
 refine ng ?_
 refine sr ?_
 refine st (mvT rfl) rfl ?_
 refine st (OpT.alias (H rfl) (by decide) (by decide)) rfl ?_
 refine st (mvT rfl) rfl ?_
 refine st (OpT.len (H rfl) (T1 rfl) el24) rfl ?_
 refine sg (OpT.cr (ms := [.root 0, .flat]) (c_spec_l00Src_pick _ _ h.1) (H rfl) (Ar (Root.ali rfl (by decide) (by decide)) rfl rfl rfl <| Af (T1 rfl) rfl rfl <| An) rfl (.inl rfl) rfl) (kc3 9 8 7 rfl <| Kc 6 (.ali _) rfl <| kc2 5 4 rfl <| kb 0 rfl <| kc 1 rfl <| Kn) rfl ?_
 refine st (OpT.indexAddr (H rfl) (T1 rfl) (T1 rfl) el24 sz9 (by omega) (txtD_get h.1 h.2)) rfl ?_
 refine st (OpT.load (H rfl) (T1 rfl) ag9 rfl) rfl ?_
 refine st (asT rfl) rfl ?_
 refine ng ?_
 refine AW.ret ?_
 exact AX.rt (rs := [.tmp 4]) (ts := [some 4]) (.inl rfl) rfl (ROs.cons (RO.tmp (At.self (by decide)) (Kv rfl rfl) rfl) <| ROs.nil) (by decide) (fun i => match i with | 0 => .inr ⟨rfl, Kb rfl rfl, rfl, by decide⟩ | 1 => .inl rfl | _ + 2 => .inl rfl)
end Go.Proofs.YtbckpmjiimiceaaDoor.VL
