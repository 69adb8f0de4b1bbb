/- Proved here: what some functions of the program take and give: walks with the words of VA..VQ. Printed by program. -/
import Derived.Test.YtfnkphllkbkfaaaDoorWT
import Derived.Test.YtfnkphllkbkfaaaDoorBpa
import Derived.Test.YtfnkphllkbkfaaaDoorWM
import Derived.Test.YtfnkphllkbkfaaaDoorWZ
import Derived.Test.YtfnkphllkbkfaaaDoorWY
set_option linter.unusedVariables false
set_option linter.unusedSimpArgs false
set_option maxRecDepth 4000
namespace Go.Proofs.YtfnkphllkbkfaaaDoor.VL
open Go
/-- spec.Decimal -/
theorem c_spec_Decimal (n : Nat) : AC Tryd.prog 130 [.cel (Kd.int .i64) (n : Int)] [.cel Kd.str (decB n)] [] := by
 induction n using Nat.strongRecOn with
 | _ n ih =>
 refine acI (N := 21) Tryd.func130 (Nat.le_of_ble_eq_true rfl) rfl fun w0 hd s0 ar => ?_
 refine AW.to (kc 0 rfl <| Kn) ?_
 have htm := tmod10 n
 refine AW.fact (fun a w hr => ok_i64 (R_ok (t := 0) rfl hr)) (fun hn => ?_)
 have hdl := decB_le (n / 10)
 have htd := tdiv10 n
 refine sr ?_
 refine st (OpT.move (A := .cel _ _) (.inr rfl) rfl (ok' rfl) (Opd.str (by decide)) rfl) rfl ?_
 refine ng ?_
 refine AW.seq ?_
 refine sr ?_
 refine st (mvT rfl) rfl ?_
 refine st (OpT.lss (H rfl) (T1 rfl) (I rfl)) rfl ?_
 refine ng ?_
 refine cd rfl (fun hc1 => ?_) fun hc1 => ?_
 ·
  obtain ⟨hc1, hc1'⟩ := pT hc1
  refine sr ?_
  refine st (mvT rfl) rfl ?_
  refine st (OpT.rem (H rfl) (T1 rfl) (I rfl) (by omega)) rfl ?_
  refine st (OpT.add (H rfl) (I rfl) (T1 rfl) (nw (by omega))) rfl ?_
  refine st (OpT.conv (H rfl) us2 Tryd.underlying5 (T1 rfl) (wrap_id (by first | (simp only [inR, IntKind.min, IntKind.max, IntKind.signed, IntKind.bits]; omega)))) rfl ?_
  refine st (OpT.buildSlice (H rfl) el146 zr5 sz5 rfl (by decide) zk5 (by decide) (Built.cel (T1 rfl) rfl rfl (sub_arr (by decide) (0 : Int)) (Built.nil _))) rfl ?_
  refine st (OpT.convBS (H rfl) el146 Tryd.underlying5 Tryd.underlying9 (Src.own (Root.self (t := 9) (by decide)) rfl) (by simp)) rfl ?_
  refine st (asT rfl) rfl ?_
  refine ng ?_
  refine AW.ret ?_
  refine rT ?_
  exact rt1 rfl (.inl rfl) (by first | exact decB_lt (by omega) | exact decB_ge (by omega))
 ·
  obtain ⟨hc1, hc1'⟩ := pF hc1
  refine AW.skip ?_
  refine AX.pr (kc2 2 0 rfl <| Kn) ?_
  refine AX.go ?_
  refine AW.seq ?_
  refine dh fomo ?_
  refine d1 [0] (fun ve h => OpT.move (A := .cel _ _) (.inl rfl) rfl (ok' rfl) (D1 h rfl) rfl) rfl ?_
  refine d1 [11] (fun ve h => OpT.quo (H rfl) (D1 h rfl) (I rfl) (by omega) (nw (by omega))) rfl ?_
  refine d1 [12] (fun ve h => OpT.c1 (ms := [.flat]) (by rw [tdiv10]; exact ih (n / 10) (by omega)) (H rfl) (Af (D1 h rfl) rfl rfl <| An) rfl rfl) rfl ?_
  refine d1 [0] (fun ve h => OpT.move (A := .cel _ _) (.inl rfl) rfl (ok' rfl) (D1 h rfl) rfl) rfl ?_
  refine d1 [14] (fun ve h => OpT.rem (H rfl) (D1 h rfl) (I rfl) (by omega)) rfl ?_
  refine d1 [15] (fun ve h => OpT.add (H rfl) (I rfl) (D1 h rfl) (nw (by omega))) rfl ?_
  refine d1 [16] (fun ve h => OpT.conv (H rfl) us2 Tryd.underlying5 (D1 h rfl) (wrap_id (by first | (simp only [inR, IntKind.min, IntKind.max, IntKind.signed, IntKind.bits]; omega)))) rfl ?_
  refine d1 [17] (fun ve h => OpT.buildSlice (H rfl) el146 zr5 sz5 rfl (by decide) zk5 (by decide) (Built.cel (D1 h rfl) rfl rfl (sub_arr (by decide) (0 : Int)) (Built.nil _))) rfl ?_
  refine d1 [18] (fun ve h => OpT.convBS (H rfl) el146 Tryd.underlying5 Tryd.underlying9 (Src.own (Root.self (t := 18) (by decide)) ((h _ (List.elem_iff.1 rfl)).trans rfl)) (by simp)) rfl ?_
  refine d1 [13, 19] (fun ve h => OpT.sadd (H rfl) (D1 h rfl) (D1 h rfl) (by simp only [ByteArray.size_append, bsz, bOf_size, List.size_toArray, List.length_cons, List.length_nil, List.length_set, List.length_replicate]; omega)) rfl ?_
  refine d1 [20] (fun ve h => OpT.move (A := .cel _ _) (.inr rfl) rfl (ok' rfl) (D1 h rfl) rfl) rfl ?_
  refine dn ⟨by kernel_rfl, by kernel_rfl, ?_⟩
  refine AX.pr (kc 2 rfl <| Kn) ?_
  refine AX.go ?_
  refine AW.ret ?_
  exact rt1 rfl (.inl rfl) (by first | exact decB_lt (by omega) | exact decB_ge (by omega))

end Go.Proofs.YtfnkphllkbkfaaaDoor.VL
