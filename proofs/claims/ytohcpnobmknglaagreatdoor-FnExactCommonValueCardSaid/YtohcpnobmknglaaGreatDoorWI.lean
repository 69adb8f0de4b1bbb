/- Proved here: what some functions of the program take and give: walks with the words of VA..VQ. Printed by program. -/
import Derived.Test.YtohcpnobmknglaaGreatDoorWT
import Derived.Test.YtohcpnobmknglaaGreatDoorBpa
import Derived.Test.YtohcpnobmknglaaGreatDoorWC
set_option linter.unusedVariables false
set_option linter.unusedSimpArgs false
set_option maxRecDepth 4000
namespace Go.Proofs.YtohcpnobmknglaaGreatDoor.VL
open Go
/-- laws.eqShare -/
theorem c_laws_eqShare (x y : Int × Int) : AC Tryz.prog 46 [.agg kShare x, .agg kShare y] [.cel Kd.bool (eqv x y)] [] := by
 refine acI (N := 15) Tryz.func46 (Nat.le_of_ble_eq_true rfl) rfl fun w0 hd s0 ar => ?_
 refine AW.to (ka 0 rfl <| ka 1 rfl <| Kn) ?_
 refine sr ?_
 refine st (OpT.frz (OpT.boxA (E := 77) (H rfl) (T1 rfl))) rfl ?_
 refine st (OpT.frz (OpT.boxA (E := 77) (H rfl) (T1 rfl))) rfl ?_
 refine st (asB rfl) rfl ?_
 refine ng ?_
 refine AW.seq ?_
 refine sr ?_
 refine st (OpT.fieldAddr (H rfl) (T1 rfl) fd77_0 sz2 (by decide) sb77_0) rfl ?_
 refine st (OpT.load (H rfl) (T1 rfl) ag2 rfl) rfl ?_
 refine st (OpT.fieldAddr (H rfl) (T1 rfl) fd77_0 sz2 (by decide) sb77_0) rfl ?_
 refine st (OpT.load (H rfl) (T1 rfl) ag2 rfl) rfl ?_
 refine st (OpT.neq (H rfl) (T1 rfl) (T1 rfl)) rfl ?_
 refine ng ?_
 refine cd rfl (fun hc1 => ?_) fun hc1 => ?_
 ·
  replace hc1 := oT hc1
  refine sr ?_
  refine st (asB rfl) rfl ?_
  refine ng ?_
  refine AW.ret ?_
  refine rT ?_
  exact rt1 rfl (.inl rfl) (by rw [eqv_pair (x := x)]; simp_all [eqv_beq, eqv_bne, Bool.and_assoc])
 ·
  replace hc1 := oF hc1
  refine AW.skip ?_
  refine AX.go ?_
  refine AW.seq ?_
  refine sr ?_
  refine st (OpT.fieldAddr (H rfl) (T1 rfl) fd77_1 sz2 (by decide) sb77_1) rfl ?_
  refine st (OpT.load (H rfl) (T1 rfl) ag2 rfl) rfl ?_
  refine st (OpT.fieldAddr (H rfl) (T1 rfl) fd77_1 sz2 (by decide) sb77_1) rfl ?_
  refine st (OpT.load (H rfl) (T1 rfl) ag2 rfl) rfl ?_
  refine st (OpT.neq (H rfl) (T1 rfl) (T1 rfl)) rfl ?_
  refine AWl.to (kc2 14 4 rfl <| Kn) ?_
  refine ng ?_
  refine cd rfl (fun hc2 => ?_) fun hc2 => ?_
  ·
   replace hc2 := oT hc2
   refine sr ?_
   refine st (asB rfl) rfl ?_
   refine ng ?_
   refine AW.ret ?_
   refine rT ?_
   exact rt1 rfl (.inl rfl) (by rw [eqv_pair (x := x)]; simp_all [eqv_beq, eqv_bne, Bool.and_assoc])
  ·
   replace hc2 := oF hc2
   refine AW.skip ?_
   refine AX.go ?_
   refine sr ?_
   refine st (asB rfl) rfl ?_
   refine ng ?_
   refine AW.ret ?_
   exact rt1 rfl (.inl rfl) (by rw [eqv_pair (x := x)]; simp_all [eqv_beq, eqv_bne, Bool.and_assoc])

/-- spec.l06Share -/
theorem c_spec_l06Share (p q : Int) (h : 0 ≤ p ∧ 0 < q) : AC Tryz.prog 92 [.cel (Kd.int .i64) p, .cel (Kd.int .i64) q] [.agg kShare (shr p q)] [] := by
 refine acI (N := 16) Tryz.func92 (Nat.le_of_ble_eq_true rfl) rfl fun w0 hd s0 ar => ?_
 refine AW.to (kc2 0 1 rfl <| Kn) ?_
 refine AW.fact (fun a w hr => ok_i64 (R_ok (t := 0) rfl hr)) (fun hp => ?_)
 refine AW.fact (fun a w hr => ok_i64 (R_ok (t := 1) rfl hr)) (fun hq => ?_)
 have hg := gcd_pos' (p := p) h.2
 have h1 := tdiv_le' h.1 hg
 have h2 := tdiv_le' (p := q) (by omega) hg
 refine sr ?_
 refine st (OpT.alloc (H rfl) zr77 zk77) rfl ?_
 refine ng ?_
 refine sr ?_
 refine st (mvT rfl) rfl ?_
 refine st (mvT rfl) rfl ?_
 refine st (OpT.c1 (ms := [.flat, .flat]) (c_spec_l06Gcd p q (by omega)) (H rfl) (Af (T1 rfl) rfl rfl <| Af (T1 rfl) rfl rfl <| An) rfl rfl) rfl ?_
 refine st (asT rfl) rfl ?_
 refine AWl.to (kc 5 rfl <| kb 4 rfl <| kc2 0 1 rfl <| Kn) ?_
 refine ng ?_
 refine AW.seq ?_
 refine dh fomo ?_
 refine d1 [0] (fun ve h => OpT.move (A := .cel _ _) (.inl rfl) rfl (ok' rfl) (D1 h rfl) rfl) rfl ?_
 refine d1 [5] (fun ve h => OpT.move (A := .cel _ _) (.inl rfl) rfl (ok' rfl) (D1 h rfl) rfl) rfl ?_
 refine d1 [9, 10] (fun ve h => OpT.quo (H rfl) (D1 h rfl) (D1 h rfl) (by omega) (nw (by omega))) rfl ?_
 refine d1 [1] (fun ve h => OpT.move (A := .cel _ _) (.inl rfl) rfl (ok' rfl) (D1 h rfl) rfl) rfl ?_
 refine d1 [5] (fun ve h => OpT.move (A := .cel _ _) (.inl rfl) rfl (ok' rfl) (D1 h rfl) rfl) rfl ?_
 refine d1 [12, 13] (fun ve h => OpT.quo (H rfl) (D1 h rfl) (D1 h rfl) (by omega) (nw (by omega))) rfl ?_
 refine d1 [11, 14] (fun ve h => OpT.build (H rfl) pl77 zr77 zk77 (Built.cel (D1 h rfl) rfl rfl sb77_0 (Built.cel (D1 h rfl) rfl rfl sb77_1 (Built.nil _)))) rfl ?_
 refine dm (t := 4) [4, 15] (fun ve h => OpT.storeBA rfl rfl (Opd.whole (Root.self (t := 4) (by decide)) ((h _ (List.elem_iff.1 rfl)).trans rfl)) ((h _ (List.elem_iff.1 rfl)).trans rfl) sz77 (by decide) (D1 h rfl)) rfl ?_
 refine dn ⟨by kernel_rfl, by kernel_rfl, ?_⟩
 refine AX.pr (kb 4 rfl <| Kn) ?_
 refine AX.go ?_
 refine AW.ret ?_
 exact AX.rt (rs := [.cell 4 77]) (ts := [none]) (.inl rfl) rfl (ROs.cons (RO.cellA (by decide) (Kb rfl rfl) ag77 sz77) <| ROs.nil) (by decide) OutsOK.nil

/-- impl.shareOf -/
theorem c_impl_shareOf (p q : Int) (h : 0 ≤ p ∧ 0 < q) : AC Tryz.prog 93 [.cel (Kd.int .i64) p, .cel (Kd.int .i64) q] [.agg kShare (shr p q)] [] := by
 refine acI (N := 16) Tryz.func93 (Nat.le_of_ble_eq_true rfl) rfl fun w0 hd s0 ar => ?_
 refine AW.to (kc2 0 1 rfl <| Kn) ?_
 refine AW.fact (fun a w hr => ok_i64 (R_ok (t := 0) rfl hr)) (fun hp => ?_)
 refine AW.fact (fun a w hr => ok_i64 (R_ok (t := 1) rfl hr)) (fun hq => ?_)
 have hg := gcd_pos' (p := p) h.2
 have h1 := tdiv_le' h.1 hg
 have h2 := tdiv_le' (p := q) (by omega) hg
 refine sr ?_
 refine st (OpT.alloc (H rfl) zr77 zk77) rfl ?_
 refine ng ?_
 refine sr ?_
 refine st (mvT rfl) rfl ?_
 refine st (mvT rfl) rfl ?_
 refine st (OpT.c1 (ms := [.flat, .flat]) (c_impl_gcd p q (by omega)) (H rfl) (Af (T1 rfl) rfl rfl <| Af (T1 rfl) rfl rfl <| An) rfl rfl) rfl ?_
 refine st (asT rfl) rfl ?_
 refine AWl.to (kc 5 rfl <| kb 4 rfl <| kc2 0 1 rfl <| Kn) ?_
 refine ng ?_
 refine AW.seq ?_
 refine dh fomo ?_
 refine d1 [0] (fun ve h => OpT.move (A := .cel _ _) (.inl rfl) rfl (ok' rfl) (D1 h rfl) rfl) rfl ?_
 refine d1 [5] (fun ve h => OpT.move (A := .cel _ _) (.inl rfl) rfl (ok' rfl) (D1 h rfl) rfl) rfl ?_
 refine d1 [9, 10] (fun ve h => OpT.quo (H rfl) (D1 h rfl) (D1 h rfl) (by omega) (nw (by omega))) rfl ?_
 refine d1 [1] (fun ve h => OpT.move (A := .cel _ _) (.inl rfl) rfl (ok' rfl) (D1 h rfl) rfl) rfl ?_
 refine d1 [5] (fun ve h => OpT.move (A := .cel _ _) (.inl rfl) rfl (ok' rfl) (D1 h rfl) rfl) rfl ?_
 refine d1 [12, 13] (fun ve h => OpT.quo (H rfl) (D1 h rfl) (D1 h rfl) (by omega) (nw (by omega))) rfl ?_
 refine d1 [11, 14] (fun ve h => OpT.build (H rfl) pl77 zr77 zk77 (Built.cel (D1 h rfl) rfl rfl sb77_0 (Built.cel (D1 h rfl) rfl rfl sb77_1 (Built.nil _)))) rfl ?_
 refine dm (t := 4) [4, 15] (fun ve h => OpT.storeBA rfl rfl (Opd.whole (Root.self (t := 4) (by decide)) ((h _ (List.elem_iff.1 rfl)).trans rfl)) ((h _ (List.elem_iff.1 rfl)).trans rfl) sz77 (by decide) (D1 h rfl)) rfl ?_
 refine dn ⟨by kernel_rfl, by kernel_rfl, ?_⟩
 refine AX.pr (kb 4 rfl <| Kn) ?_
 refine AX.go ?_
 refine AW.ret ?_
 exact AX.rt (rs := [.cell 4 77]) (ts := [none]) (.inl rfl) rfl (ROs.cons (RO.cellA (by decide) (Kb rfl rfl) ag77 sz77) <| ROs.nil) (by decide) OutsOK.nil
end Go.Proofs.YtohcpnobmknglaaGreatDoor.VL
