/- Proved here: what some functions of the program take and give: walks with the words of VA..VQ. Printed by program. -/
import Derived.Test.YtkgboidjghcegaaGreatDoorWT
set_option linter.unusedVariables false
set_option linter.unusedSimpArgs false
set_option maxRecDepth 4000
namespace Go.Proofs.YtkgboidjghcegaaGreatDoor.VL
open Go
/-- cmp.isNaN[int64] -/
theorem c_cmp_isNaN_int64 (x : Int) : AC Tryz.prog 67 [.cel (Kd.int .i64) x] [.cel Kd.bool false] [] := by
 refine acI (N := 6) Tryz.func67 (Nat.le_of_ble_eq_true rfl) rfl fun w0 hd s0 ar => ?_
 refine AW.to (kc 0 rfl <| Kn) ?_
 refine sr ?_
 refine st (asB rfl) rfl ?_
 refine ng ?_
 refine sr ?_
 refine st (mvT rfl) rfl ?_
 refine st (mvT rfl) rfl ?_
 refine st (OpT.neq (H rfl) (T1 rfl) (T1 rfl)) rfl ?_
 refine st (asT rfl) rfl ?_
 refine ng ?_
 refine AW.ret ?_
 exact rt1 rfl (.inl rfl) (by simp)

/-- cmp.Compare[int64] -/
theorem c_cmp_Compare_int64 (x y : Int) : AC Tryz.prog 43 [.cel (Kd.int .i64) x, .cel (Kd.int .i64) y] [.cel (Kd.int .i64) (cmpI x y)] [] := by
 refine acI (N := 20) Tryz.func43 (Nat.le_of_ble_eq_true rfl) rfl fun w0 hd s0 ar => ?_
 refine AW.to (kc2 0 1 rfl <| Kn) ?_
 refine sr ?_
 refine st (asI rfl) rfl ?_
 refine ng ?_
 refine sr ?_
 refine st (mvT rfl) rfl ?_
 refine st (OpT.c1 (ms := [.flat]) (c_cmp_isNaN_int64 _) (H rfl) (Af (T1 rfl) rfl rfl <| An) rfl rfl) rfl ?_
 refine st (asT rfl) rfl ?_
 refine ng ?_
 refine sr ?_
 refine st (mvT rfl) rfl ?_
 refine st (OpT.c1 (ms := [.flat]) (c_cmp_isNaN_int64 _) (H rfl) (Af (T1 rfl) rfl rfl <| An) rfl rfl) rfl ?_
 refine st (asT rfl) rfl ?_
 refine ng ?_
 refine AW.seq ?_
 refine sr ?_
 refine st (mvT rfl) rfl ?_
 refine ng ?_
 refine cd rfl (fun hc1 => ?_) fun hc1 => ?_
 ·
  replace hc1 := oT hc1
  refine AW.seq ?_
  refine sr ?_
  refine st (mvT rfl) rfl ?_
  refine ng ?_
  refine cd rfl (fun hc2 => ?_) fun hc2 => ?_
  ·
   replace hc2 := oT hc2
   refine sr ?_
   refine st (asI rfl) rfl ?_
   refine ng ?_
   refine AW.ret ?_
   refine rT <| rT ?_
   exact rt1 rfl (.inl rfl) (by unfold cmpI; split <;> (try split) <;> first | rfl | omega | simp_all)
  ·
   replace hc2 := oF hc2
   refine AW.skip ?_
   refine AX.go ?_
   refine sr ?_
   refine st (asI rfl) rfl ?_
   refine ng ?_
   refine AW.ret ?_
   refine rT ?_
   exact rt1 rfl (.inl rfl) (by unfold cmpI; split <;> (try split) <;> first | rfl | omega | simp_all)
 ·
  replace hc1 := oF hc1
  refine AW.skip ?_
  refine AX.go ?_
  refine AW.seq ?_
  refine sr ?_
  refine st (mvT rfl) rfl ?_
  refine ng ?_
  refine cd rfl (fun hc3 => ?_) fun hc3 => ?_
  ·
   replace hc3 := oT hc3
   refine sr ?_
   refine st (asI rfl) rfl ?_
   refine ng ?_
   refine AW.ret ?_
   refine rT ?_
   exact rt1 rfl (.inl rfl) (by unfold cmpI; split <;> (try split) <;> first | rfl | omega | simp_all)
  ·
   replace hc3 := oF hc3
   refine AW.skip ?_
   refine AX.go ?_
   refine AW.seq ?_
   refine sr ?_
   refine st (mvT rfl) rfl ?_
   refine st (mvT rfl) rfl ?_
   refine st (OpT.lss (H rfl) (T1 rfl) (T1 rfl)) rfl ?_
   refine ng ?_
   refine cd rfl (fun hc4 => ?_) fun hc4 => ?_
   ·
    replace hc4 := oT hc4
    refine sr ?_
    refine st (asI rfl) rfl ?_
    refine AWl.to (kc3 4 0 1 rfl <| Kn) ?_
    refine ng ?_
    refine AW.ret ?_
    refine rT ?_
    exact rt1 rfl (.inl rfl) (by unfold cmpI; split <;> (try split) <;> first | rfl | omega | simp_all)
   ·
    replace hc4 := oF hc4
    refine AW.skip ?_
    refine AX.pr (kc3 4 0 1 rfl <| Kn) ?_
    refine AX.go ?_
    refine AW.seq ?_
    refine sr ?_
    refine st (mvT rfl) rfl ?_
    refine st (mvT rfl) rfl ?_
    refine st (OpT.gtr (H rfl) (T1 rfl) (T1 rfl)) rfl ?_
    refine ng ?_
    refine cd rfl (fun hc5 => ?_) fun hc5 => ?_
    ·
     replace hc5 := oT hc5
     refine sr ?_
     refine st (asI rfl) rfl ?_
     refine ng ?_
     refine AW.ret ?_
     refine rT ?_
     exact rt1 rfl (.inl rfl) (by unfold cmpI; split <;> (try split) <;> first | rfl | omega | simp_all)
    ·
     replace hc5 := oF hc5
     refine AW.skip ?_
     refine AX.go ?_
     refine sr ?_
     refine st (asI rfl) rfl ?_
     refine ng ?_
     refine AW.ret ?_
     exact rt1 rfl (.inl rfl) (by unfold cmpI; split <;> (try split) <;> first | rfl | omega | simp_all)

end Go.Proofs.YtkgboidjghcegaaGreatDoor.VL
