/- Proved here: what some functions of the program take and give: walks with the words of VA..VQ. Printed by program. -/
import Derived.Test.YtconciibbhpigaaDoorWT
import Derived.Test.YtconciibbhpigaaDoorBpa
set_option linter.unusedVariables false
set_option linter.unusedSimpArgs false
set_option maxRecDepth 4000
namespace Go.Proofs.YtconciibbhpigaaDoor.VL
open Go
/-- spec.l00Same -/
theorem c_spec_l00Same (x y : List (Int)) : AC Tryd.prog 41 [.cel (Kd.slice (Kd.int .i64)) x, .cel (Kd.slice (Kd.int .i64)) y] [.cel Kd.bool (eqv x y)] [] := by
 refine acI (N := 26) Tryd.func41 (Nat.le_of_ble_eq_true rfl) rfl fun w0 hd s0 ar => ?_
 refine AW.to (kc2 0 1 rfl <| Kn) ?_
 refine AW.fact (fun a w hr => (ok_slice (R_ok (t := 0) rfl hr)).2) (fun hl0 => ?_)
 refine AW.fact (fun a w hr => (ok_slice (R_ok (t := 1) rfl hr)).2) (fun hl1 => ?_)
 refine sr ?_
 refine st (asB rfl) rfl ?_
 refine ng ?_
 refine AW.seq ?_
 refine sr ?_
 refine st (mvT rfl) rfl ?_
 refine st (OpT.len (H rfl) (T1 rfl) el32) rfl ?_
 refine st (mvT rfl) rfl ?_
 refine st (OpT.len (H rfl) (T1 rfl) el32) rfl ?_
 refine st (OpT.neq (H rfl) (T1 rfl) (T1 rfl)) rfl ?_
 refine ng ?_
 refine cd rfl (fun hc1 => ?_) fun hc1 => ?_
 ·
  replace hc1 := oT hc1
  try simp only [bne_iff_ne, ne_eq, bne_eq_false_iff_eq] at hc1
  refine sr ?_
  refine st (asB rfl) rfl ?_
  refine ng ?_
  refine AW.ret ?_
  refine rT ?_
  exact rt1 rfl (.inl rfl) (by first | exact eqs_len (by omega) | exact eqs_ne ha hb (by simpa [eqv_iff, eqv_false_iff] using hc3) | exact eqs_all hI.2 (by omega) (by omega))
 ·
  replace hc1 := oF hc1
  try simp only [bne_iff_ne, ne_eq, bne_eq_false_iff_eq] at hc1
  refine AW.skip ?_
  refine AX.go ?_
  refine AW.seq ?_
  refine sr ?_
  refine st (asI rfl) rfl ?_
  refine ng ?_
  refine AW.block ?_
  refine AW.loop (fun z : Nat => z ≤ x.length ∧ x.take z = y.take z) (fun z : Nat => keep [(0, .cel (Kd.slice (Kd.int .i64)) x), (1, .cel (Kd.slice (Kd.int .i64)) y), (5, .cel (Kd.int .i64) (z : Int))]) (fun z : Nat => x.length - z) (0) ⟨Nat.zero_le _, rfl⟩ (Kc 0 _ (Kv rfl rfl) <| Kc 1 _ (Kv rfl rfl) <| Kc 5 _ (Kv rfl rfl) <| Kn) ?_
  intro z hI
  refine AW.seq ?_
  refine sr ?_
  refine st (mvT rfl) rfl ?_
  refine st (mvT rfl) rfl ?_
  refine st (OpT.len (H rfl) (T1 rfl) el32) rfl ?_
  refine st (OpT.lss (H rfl) (T1 rfl) (T1 rfl)) rfl ?_
  refine ng ?_
  refine cd rfl (fun hc2 => ?_) fun hc2 => ?_
  ·
   replace hc2 := oT hc2
   obtain ⟨a, ha⟩ := getI (x := x) (z := z) (by omega); obtain ⟨b, hb⟩ := getI (x := y) (z := z) (by omega)
   refine AW.skip ?_
   refine AX.go ?_
   refine AW.seq ?_
   refine AW.block ?_
   refine AW.seq ?_
   refine dh fomo ?_
   refine d1 [0] (fun ve h => OpT.move (A := .cel _ _) (.inl rfl) rfl (ok' rfl) (D1 h rfl) rfl) rfl ?_
   refine d1 [5] (fun ve h => OpT.move (A := .cel _ _) (.inl rfl) rfl (ok' rfl) (D1 h rfl) rfl) rfl ?_
   refine d1 [17, 18] (fun ve h => OpT.indexAddr (H rfl) (D1 h rfl) (D1 h rfl) el32 sz2 (by omega) (by assumption)) rfl ?_
   refine d1 [19] (fun ve h => OpT.load (H rfl) (D1 h rfl) ag2 rfl) rfl ?_
   refine d1 [1] (fun ve h => OpT.move (A := .cel _ _) (.inl rfl) rfl (ok' rfl) (D1 h rfl) rfl) rfl ?_
   refine d1 [5] (fun ve h => OpT.move (A := .cel _ _) (.inl rfl) rfl (ok' rfl) (D1 h rfl) rfl) rfl ?_
   refine d1 [21, 22] (fun ve h => OpT.indexAddr (H rfl) (D1 h rfl) (D1 h rfl) el32 sz2 (by omega) (by assumption)) rfl ?_
   refine d1 [23] (fun ve h => OpT.load (H rfl) (D1 h rfl) ag2 rfl) rfl ?_
   refine d1 [20, 24] (fun ve h => OpT.neq (H rfl) (D1 h rfl) (D1 h rfl)) rfl ?_
   refine dn ⟨by kernel_rfl, by kernel_rfl, ?_⟩
   refine AX.go ?_
   refine cd rfl (fun hc3 => ?_) fun hc3 => ?_
   ·
    replace hc3 := oT hc3
    refine sr ?_
    refine st (asB rfl) rfl ?_
    refine ng ?_
    refine AW.ret ?_
    refine rK <| rT <| rT <| rK <| rT ?_
    exact rt1 rfl (.inl rfl) (by first | exact eqs_len (by omega) | exact eqs_ne ha hb (by simpa [eqv_iff, eqv_false_iff] using hc3) | exact eqs_all hI.2 (by omega) (by omega))
   ·
    replace hc3 := oF hc3
    refine AW.skip ?_
    refine AX.normal_block ?_
    refine AX.go ?_
    refine AW.region ?_
    refine st (mvT rfl) rfl ?_
    refine st (OpT.add (H rfl) (T1 rfl) (I rfl) (nw (by omega))) rfl ?_
    refine st (asT rfl) rfl ?_
    refine nn ?_
    exact AX.again (z + 1) ⟨by omega, eqs_step hI.2 ha hb (by simpa [eqv_iff, eqv_false_iff] using hc3)⟩ (by omega) (Kc 0 _ (Kv rfl rfl) <| Kc 1 _ (Kv rfl rfl) <| Kc 5 _ (Kv rfl (by omega)) <| Kn)
  ·
   replace hc2 := oF hc2
   refine AW.exit ?_
   refine xT <| xT <| AX.exit_hit ?_
   refine AX.go ?_
   refine sr ?_
   refine st (asB rfl) rfl ?_
   refine ng ?_
   refine AW.ret ?_
   exact rt1 rfl (.inl rfl) (by first | exact eqs_len (by omega) | exact eqs_ne ha hb (by simpa [eqv_iff, eqv_false_iff] using hc3) | exact eqs_all hI.2 (by omega) (by omega))
end Go.Proofs.YtconciibbhpigaaDoor.VL
