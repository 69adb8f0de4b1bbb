/- Proved here: what some functions of the program take and give: walks with the words of VA..VQ. Printed by program. -/
import Derived.Test.YtkgboidjghcegaaGreatDoorWT
set_option linter.unusedVariables false
set_option linter.unusedSimpArgs false
set_option maxRecDepth 4000
namespace Go.Proofs.YtkgboidjghcegaaGreatDoor.VL
open Go
/-- impl.gcd -/
theorem c_impl_gcd (a b : Int) (h : 0 ≤ a ∧ 0 ≤ b) : AC Tryz.prog 75 [.cel (Kd.int .i64) a, .cel (Kd.int .i64) b] [.cel (Kd.int .i64) ((Int.gcd a b : Nat) : Int)] [] := by
 refine acI (N := 12) Tryz.func75 (Nat.le_of_ble_eq_true rfl) rfl fun w0 hd s0 ar => ?_
 refine AW.to (kc2 0 1 rfl <| Kn) ?_
 refine sr ?_
 refine st (asI rfl) rfl ?_
 refine ng ?_
 refine AW.seq ?_
 refine AW.block ?_
 refine AW.loop (fun p : Int × Int => 0 ≤ p.1 ∧ 0 ≤ p.2 ∧ Int.gcd p.1 p.2 = Int.gcd a b) (fun p : Int × Int => keep [(0, .cel (Kd.int .i64) p.1), (1, .cel (Kd.int .i64) p.2)]) (fun p : Int × Int => p.2.toNat) ((a, b)) ⟨h.1, h.2, rfl⟩ (Kc 0 _ (Kv rfl rfl) <| Kc 1 _ (Kv rfl rfl) <| Kn) ?_
 intro p hI
 refine AW.seq ?_
 refine sr ?_
 refine st (mvT rfl) rfl ?_
 refine st (OpT.gtr (H rfl) (T1 rfl) (I rfl)) rfl ?_
 refine ng ?_
 refine cd rfl (fun hc1 => ?_) fun hc1 => ?_
 ·
  replace hc1 := oT hc1
  refine AW.skip ?_
  refine AX.go ?_
  refine AW.block ?_
  refine dh fomo ?_
  refine d1 [1] (fun ve h => OpT.move (A := .cel _ _) (.inl rfl) rfl (ok' rfl) (D1 h rfl) rfl) rfl ?_
  refine d1 [0] (fun ve h => OpT.move (A := .cel _ _) (.inl rfl) rfl (ok' rfl) (D1 h rfl) rfl) rfl ?_
  refine d1 [1] (fun ve h => OpT.move (A := .cel _ _) (.inl rfl) rfl (ok' rfl) (D1 h rfl) rfl) rfl ?_
  refine d1 [8, 9] (fun ve h => OpT.rem (H rfl) (D1 h rfl) (D1 h rfl) (by have := hI.2.1; (try simp at hc1); omega)) rfl ?_
  refine d1 [7] (fun ve h => OpT.move (A := .cel _ _) (.inr rfl) rfl (ok' rfl) (D1 h rfl) rfl) rfl ?_
  refine d1 [10] (fun ve h => OpT.move (A := .cel _ _) (.inr rfl) rfl (ok' rfl) (D1 h rfl) rfl) rfl ?_
  refine dn ⟨by kernel_rfl, by kernel_rfl, ?_⟩
  refine AX.normal_block ?_
  exact AX.again ((p.2, p.1.tmod p.2)) (gcd_inv hI (by have := hI.2.1; (try simp at hc1); omega)) (gcd_dec hI (by have := hI.2.1; (try simp at hc1); omega)) (Kc 0 _ (Kv rfl rfl) <| Kc 1 _ (Kv rfl rfl) <| Kn)
 ·
  replace hc1 := oF hc1
  refine AW.exit ?_
  refine xT <| xT <| AX.exit_hit ?_
  refine AX.go ?_
  refine sr ?_
  refine st (mvT rfl) rfl ?_
  refine st (asT rfl) rfl ?_
  refine ng ?_
  refine AW.ret ?_
  exact rt1 rfl (.inl rfl) (gcd_end hI (by have := hI.2.1; (try simp at hc1); omega))

/-- impl.isShare -/
theorem c_impl_isShare (x : Int × Int) : AC Tryz.prog 55 [.agg kShare x] [.cel Kd.bool (toldS x)] [] := by
 refine acI (N := 31) Tryz.func55 (Nat.le_of_ble_eq_true rfl) rfl fun w0 hd s0 ar => ?_
 refine AW.to (ka 0 rfl <| Kn) ?_
 refine sr ?_
 refine st (OpT.frz (OpT.boxA (E := 60) (H rfl) (T1 rfl))) rfl ?_
 refine st (asB rfl) rfl ?_
 refine ng ?_
 refine sr ?_
 refine st (OpT.fieldAddr (H rfl) (T1 rfl) fd60_1 sz2 (by decide) sb60_1) rfl ?_
 refine st (OpT.load (H rfl) (T1 rfl) ag2 rfl) rfl ?_
 refine st (OpT.geq (H rfl) (T1 rfl) (I rfl)) rfl ?_
 refine st (mvT rfl) rfl ?_
 apply AWl.and (d := 10) (t := 6) rfl
 ·
  intro hb1 Q1 k1
  refine rs hb1 (OpT.fieldAddr (H rfl) (T1 rfl) fd60_1 sz2 (by decide) sb60_1) rfl ?_
  refine rs hb1 (OpT.load (H rfl) (T1 rfl) ag2 rfl) rfl ?_
  refine rs hb1 (OpT.leq (H rfl) (T1 rfl) (I rfl)) rfl ?_
  refine st (OpT.pickT (A := .cel _ _) (H rfl) (T1 rfl) hb1 (T1 rfl) rfl) rfl ?_
  exact AWl.to (junk 3 rfl) k1
 ·
  intro hb1 Q1 k1
  refine ps hb1 rfl ?_
  refine ps hb1 rfl ?_
  refine ps hb1 rfl ?_
  refine st (OpT.pickF (A := .cel _ _) (H rfl) (T1 rfl) hb1 Opd.bool rfl) rfl ?_
  exact k1
 refine st (mvT rfl) rfl ?_
 apply AWl.and (d := 15) (t := 11) rfl
 ·
  intro hb2 Q1 k1
  refine rs hb2 (OpT.fieldAddr (H rfl) (T1 rfl) fd60_0 sz2 (by decide) sb60_0) rfl ?_
  refine rs hb2 (OpT.load (H rfl) (T1 rfl) ag2 rfl) rfl ?_
  refine rs hb2 (OpT.geq (H rfl) (T1 rfl) (I rfl)) rfl ?_
  refine st (OpT.pickT (A := .cel _ _) (H rfl) (T1 rfl) hb2 (T1 rfl) rfl) rfl ?_
  exact AWl.to (junk 3 rfl) k1
 ·
  intro hb2 Q1 k1
  refine ps hb2 rfl ?_
  refine ps hb2 rfl ?_
  refine ps hb2 rfl ?_
  refine st (OpT.pickF (A := .cel _ _) (H rfl) (T1 rfl) hb2 Opd.bool rfl) rfl ?_
  exact k1
 refine st (mvT rfl) rfl ?_
 apply AWl.and (d := 22) (t := 16) rfl
 ·
  intro hb3 Q1 k1
  refine rs hb3 (OpT.fieldAddr (H rfl) (T1 rfl) fd60_0 sz2 (by decide) sb60_0) rfl ?_
  refine rs hb3 (OpT.load (H rfl) (T1 rfl) ag2 rfl) rfl ?_
  refine rs hb3 (OpT.fieldAddr (H rfl) (T1 rfl) fd60_1 sz2 (by decide) sb60_1) rfl ?_
  refine rs hb3 (OpT.load (H rfl) (T1 rfl) ag2 rfl) rfl ?_
  refine rs hb3 (OpT.leq (H rfl) (T1 rfl) (T1 rfl)) rfl ?_
  refine st (OpT.pickT (A := .cel _ _) (H rfl) (T1 rfl) hb3 (T1 rfl) rfl) rfl ?_
  exact AWl.to (junk 5 rfl) k1
 ·
  intro hb3 Q1 k1
  refine ps hb3 rfl ?_
  refine ps hb3 rfl ?_
  refine ps hb3 rfl ?_
  refine ps hb3 rfl ?_
  refine ps hb3 rfl ?_
  refine st (OpT.pickF (A := .cel _ _) (H rfl) (T1 rfl) hb3 Opd.bool rfl) rfl ?_
  exact k1
 refine st (mvT rfl) rfl ?_
 apply AWl.and (d := 30) (t := 23) rfl
 ·
  intro hb4 Q1 k1
  refine rs hb4 (OpT.fieldAddr (H rfl) (T1 rfl) fd60_0 sz2 (by decide) sb60_0) rfl ?_
  refine rs hb4 (OpT.load (H rfl) (T1 rfl) ag2 rfl) rfl ?_
  refine rs hb4 (OpT.fieldAddr (H rfl) (T1 rfl) fd60_1 sz2 (by decide) sb60_1) rfl ?_
  refine rs hb4 (OpT.load (H rfl) (T1 rfl) ag2 rfl) rfl ?_
  refine rs hb4 (OpT.c1 (ms := [.flat, .flat]) (c_impl_gcd _ _ (by simp at hb4; omega)) (H rfl) (Af (T1 rfl) rfl rfl <| Af (T1 rfl) rfl rfl <| An) rfl rfl) rfl ?_
  refine rs hb4 (OpT.eql (H rfl) (T1 rfl) (I rfl)) rfl ?_
  refine st (OpT.pickT (A := .cel _ _) (H rfl) (T1 rfl) hb4 (T1 rfl) rfl) rfl ?_
  exact AWl.to (junk 6 rfl) k1
 ·
  intro hb4 Q1 k1
  refine ps hb4 rfl ?_
  refine ps hb4 rfl ?_
  refine ps hb4 rfl ?_
  refine ps hb4 rfl ?_
  refine ps hb4 rfl ?_
  refine ps hb4 rfl ?_
  refine st (OpT.pickF (A := .cel _ _) (H rfl) (T1 rfl) hb4 Opd.bool rfl) rfl ?_
  exact k1
 refine st (asT rfl) rfl ?_
 refine AWl.to (kc 2 rfl <| Kn) ?_
 refine ng ?_
 refine AW.ret ?_
 exact rt1 rfl (.inl rfl) (by simp [toldS, inb, Bool.and_assoc])

/-- cmp.isNaN[int64] -/
theorem c_cmp_isNaN_int64 (x : Int) : AC Tryz.prog 67 [.cel (Kd.int .i64) x] [.cel Kd.bool false] [] := by
 refine acI (N := 6) Tryz.func67 (Nat.le_of_ble_eq_true rfl) rfl fun w0 hd s0 ar => ?_
 refine AW.to (kc 0 rfl <| Kn) ?_
 refine sr ?_
 refine st (asB rfl) rfl ?_
 refine ng ?_
 refine sr ?_
 refine st (mvT rfl) rfl ?_
 refine st (mvT rfl) rfl ?_
 refine st (OpT.neq (H rfl) (T1 rfl) (T1 rfl)) rfl ?_
 refine st (asT rfl) rfl ?_
 refine ng ?_
 refine AW.ret ?_
 exact rt1 rfl (.inl rfl) (by simp)

/-- cmp.Compare[int64] -/
theorem c_cmp_Compare_int64 (x y : Int) : AC Tryz.prog 43 [.cel (Kd.int .i64) x, .cel (Kd.int .i64) y] [.cel (Kd.int .i64) (cmpI x y)] [] := by
 refine acI (N := 20) Tryz.func43 (Nat.le_of_ble_eq_true rfl) rfl fun w0 hd s0 ar => ?_
 refine AW.to (kc2 0 1 rfl <| Kn) ?_
 refine sr ?_
 refine st (asI rfl) rfl ?_
 refine ng ?_
 refine sr ?_
 refine st (mvT rfl) rfl ?_
 refine st (OpT.c1 (ms := [.flat]) (c_cmp_isNaN_int64 _) (H rfl) (Af (T1 rfl) rfl rfl <| An) rfl rfl) rfl ?_
 refine st (asT rfl) rfl ?_
 refine ng ?_
 refine sr ?_
 refine st (mvT rfl) rfl ?_
 refine st (OpT.c1 (ms := [.flat]) (c_cmp_isNaN_int64 _) (H rfl) (Af (T1 rfl) rfl rfl <| An) rfl rfl) rfl ?_
 refine st (asT rfl) rfl ?_
 refine ng ?_
 refine AW.seq ?_
 refine sr ?_
 refine st (mvT rfl) rfl ?_
 refine ng ?_
 refine cd rfl (fun hc1 => ?_) fun hc1 => ?_
 ·
  replace hc1 := oT hc1
  refine AW.seq ?_
  refine sr ?_
  refine st (mvT rfl) rfl ?_
  refine ng ?_
  refine cd rfl (fun hc2 => ?_) fun hc2 => ?_
  ·
   replace hc2 := oT hc2
   refine sr ?_
   refine st (asI rfl) rfl ?_
   refine ng ?_
   refine AW.ret ?_
   refine rT <| rT ?_
   exact rt1 rfl (.inl rfl) (by unfold cmpI; split <;> (try split) <;> first | rfl | omega | simp_all)
  ·
   replace hc2 := oF hc2
   refine AW.skip ?_
   refine AX.go ?_
   refine sr ?_
   refine st (asI rfl) rfl ?_
   refine ng ?_
   refine AW.ret ?_
   refine rT ?_
   exact rt1 rfl (.inl rfl) (by unfold cmpI; split <;> (try split) <;> first | rfl | omega | simp_all)
 ·
  replace hc1 := oF hc1
  refine AW.skip ?_
  refine AX.go ?_
  refine AW.seq ?_
  refine sr ?_
  refine st (mvT rfl) rfl ?_
  refine ng ?_
  refine cd rfl (fun hc3 => ?_) fun hc3 => ?_
  ·
   replace hc3 := oT hc3
   refine sr ?_
   refine st (asI rfl) rfl ?_
   refine ng ?_
   refine AW.ret ?_
   refine rT ?_
   exact rt1 rfl (.inl rfl) (by unfold cmpI; split <;> (try split) <;> first | rfl | omega | simp_all)
  ·
   replace hc3 := oF hc3
   refine AW.skip ?_
   refine AX.go ?_
   refine AW.seq ?_
   refine sr ?_
   refine st (mvT rfl) rfl ?_
   refine st (mvT rfl) rfl ?_
   refine st (OpT.lss (H rfl) (T1 rfl) (T1 rfl)) rfl ?_
   refine ng ?_
   refine cd rfl (fun hc4 => ?_) fun hc4 => ?_
   ·
    replace hc4 := oT hc4
    refine sr ?_
    refine st (asI rfl) rfl ?_
    refine AWl.to (kc3 4 0 1 rfl <| Kn) ?_
    refine ng ?_
    refine AW.ret ?_
    refine rT ?_
    exact rt1 rfl (.inl rfl) (by unfold cmpI; split <;> (try split) <;> first | rfl | omega | simp_all)
   ·
    replace hc4 := oF hc4
    refine AW.skip ?_
    refine AX.pr (kc3 4 0 1 rfl <| Kn) ?_
    refine AX.go ?_
    refine AW.seq ?_
    refine sr ?_
    refine st (mvT rfl) rfl ?_
    refine st (mvT rfl) rfl ?_
    refine st (OpT.gtr (H rfl) (T1 rfl) (T1 rfl)) rfl ?_
    refine ng ?_
    refine cd rfl (fun hc5 => ?_) fun hc5 => ?_
    ·
     replace hc5 := oT hc5
     refine sr ?_
     refine st (asI rfl) rfl ?_
     refine ng ?_
     refine AW.ret ?_
     refine rT ?_
     exact rt1 rfl (.inl rfl) (by unfold cmpI; split <;> (try split) <;> first | rfl | omega | simp_all)
    ·
     replace hc5 := oF hc5
     refine AW.skip ?_
     refine AX.go ?_
     refine sr ?_
     refine st (asI rfl) rfl ?_
     refine ng ?_
     refine AW.ret ?_
     exact rt1 rfl (.inl rfl) (by unfold cmpI; split <;> (try split) <;> first | rfl | omega | simp_all)

/-- impl.CompareShares -/
theorem c_impl_CompareShares (x y : Int × Int) : AC Tryz.prog 30 [.agg kShare x, .agg kShare y] [.cel (Kd.int .i64) (cmpS x y).1, .cel (Kd.int .i64) (cmpS x y).2] [] := by
 refine acI (N := 25) Tryz.func30 (Nat.le_of_ble_eq_true rfl) rfl fun w0 hd s0 ar => ?_
 refine AW.to (ka 0 rfl <| ka 1 rfl <| Kn) ?_
 refine sr ?_
 refine st (OpT.frz (OpT.boxA (E := 60) (H rfl) (T1 rfl))) rfl ?_
 refine st (OpT.frz (OpT.boxA (E := 60) (H rfl) (T1 rfl))) rfl ?_
 refine st (asI rfl) rfl ?_
 refine st (asI rfl) rfl ?_
 refine ng ?_
 refine AW.seq ?_
 refine sr ?_
 refine st (OpT.loadA (H rfl) (T1 rfl) ag60 sz60) rfl ?_
 refine st (OpT.c1 (ms := [.flat]) (c_impl_isShare _) (H rfl) (Af (T1 rfl) rfl rfl <| An) rfl rfl) rfl ?_
 refine st (OpT.not (H rfl) (T1 rfl)) rfl ?_
 refine st (mvT rfl) rfl ?_
 apply AWl.or (d := 13) (t := 9) rfl
 ·
  intro hb1 Q1 k1
  refine rs hb1 (OpT.loadA (H rfl) (T1 rfl) ag60 sz60) rfl ?_
  refine rs hb1 (OpT.c1 (ms := [.flat]) (c_impl_isShare _) (H rfl) (Af (T1 rfl) rfl rfl <| An) rfl rfl) rfl ?_
  refine rs hb1 (OpT.not (H rfl) (T1 rfl)) rfl ?_
  refine st (OpT.pickF (A := .cel _ _) (H rfl) (T1 rfl) hb1 (T1 rfl) rfl) rfl ?_
  exact AWl.to (junk 3 rfl) k1
 ·
  intro hb1 Q1 k1
  refine ps hb1 rfl ?_
  refine ps hb1 rfl ?_
  refine ps hb1 rfl ?_
  refine st (OpT.pickT (A := .cel _ _) (H rfl) (T1 rfl) hb1 Opd.bool rfl) rfl ?_
  exact k1
 refine ng ?_
 refine cd rfl (fun hc1 => ?_) fun hc1 => ?_
 ·
  replace hc1 := oT hc1
  refine sr ?_
  refine st (asI rfl) rfl ?_
  refine st (asI rfl) rfl ?_
  refine ng ?_
  refine AW.ret ?_
  refine rT ?_
  exact rt2 rfl (.inl rfl) (by simp_all [cmpS]) (by simp_all [cmpS])
 ·
  replace hc1 := oF hc1
  simp only [Bool.or_eq_false_iff, Bool.not_eq_false'] at hc1; have m1 := told_mul hc1.1 hc1.2; have m2 := told_mul hc1.2 hc1.1
  refine AW.skip ?_
  refine AX.go ?_
  refine sr ?_
  refine st (OpT.fieldAddr (H rfl) (T1 rfl) fd60_0 sz2 (by decide) sb60_0) rfl ?_
  refine st (OpT.load (H rfl) (T1 rfl) ag2 rfl) rfl ?_
  refine st (OpT.fieldAddr (H rfl) (T1 rfl) fd60_1 sz2 (by decide) sb60_1) rfl ?_
  refine st (OpT.load (H rfl) (T1 rfl) ag2 rfl) rfl ?_
  refine st (OpT.mul (H rfl) (T1 rfl) (T1 rfl) (nw (by omega))) rfl ?_
  refine st (OpT.fieldAddr (H rfl) (T1 rfl) fd60_0 sz2 (by decide) sb60_0) rfl ?_
  refine st (OpT.load (H rfl) (T1 rfl) ag2 rfl) rfl ?_
  refine st (OpT.fieldAddr (H rfl) (T1 rfl) fd60_1 sz2 (by decide) sb60_1) rfl ?_
  refine st (OpT.load (H rfl) (T1 rfl) ag2 rfl) rfl ?_
  refine st (OpT.mul (H rfl) (T1 rfl) (T1 rfl) (nw (by omega))) rfl ?_
  refine st (OpT.c1 (ms := [.flat, .flat]) (c_cmp_Compare_int64 _ _) (H rfl) (Af (T1 rfl) rfl rfl <| Af (T1 rfl) rfl rfl <| An) rfl rfl) rfl ?_
  refine st (asT rfl) rfl ?_
  refine st (asI rfl) rfl ?_
  refine AWl.to (kc2 5 4 rfl <| Kn) ?_
  refine ng ?_
  refine AW.ret ?_
  exact rt2 rfl (.inl rfl) (by simp_all [cmpS]) (by simp_all [cmpS])
end Go.Proofs.YtkgboidjghcegaaGreatDoor.VL
