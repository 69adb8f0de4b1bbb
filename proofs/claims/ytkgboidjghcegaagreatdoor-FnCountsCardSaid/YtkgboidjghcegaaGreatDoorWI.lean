/- Proved here: what some functions of the program take and give: walks with the words of VA..VQ. Printed by program. -/
import Derived.Test.YtkgboidjghcegaaGreatDoorWT
import Derived.Test.YtkgboidjghcegaaGreatDoorBpa
import Derived.Test.YtkgboidjghcegaaGreatDoorWC
set_option linter.unusedVariables false
set_option linter.unusedSimpArgs false
set_option maxRecDepth 4000
namespace Go.Proofs.YtkgboidjghcegaaGreatDoor.VL
open Go
/-- impl.shareOf -/
theorem c_impl_shareOf (p q : Int) (h : 0 ≤ p ∧ 0 < q) : AC Tryz.prog 54 [.cel (Kd.int .i64) p, .cel (Kd.int .i64) q] [.agg kShare (shr p q)] [] := by
 refine acI (N := 16) Tryz.func54 (Nat.le_of_ble_eq_true rfl) rfl fun w0 hd s0 ar => ?_
 refine AW.to (kc2 0 1 rfl <| Kn) ?_
 refine AW.fact (fun a w hr => ok_i64 (R_ok (t := 0) rfl hr)) (fun hp => ?_)
 refine AW.fact (fun a w hr => ok_i64 (R_ok (t := 1) rfl hr)) (fun hq => ?_)
 have hg := gcd_pos' (p := p) h.2
 have h1 := tdiv_le' h.1 hg
 have h2 := tdiv_le' (p := q) (by omega) hg
 refine sr ?_
 refine st (OpT.alloc (H rfl) zr60 zk60) rfl ?_
 refine ng ?_
 refine sr ?_
 refine st (mvT rfl) rfl ?_
 refine st (mvT rfl) rfl ?_
 refine st (OpT.c1 (ms := [.flat, .flat]) (c_impl_gcd p q (by omega)) (H rfl) (Af (T1 rfl) rfl rfl <| Af (T1 rfl) rfl rfl <| An) rfl rfl) rfl ?_
 refine st (asT rfl) rfl ?_
 refine AWl.to (kc 5 rfl <| kb 4 rfl <| kc2 0 1 rfl <| Kn) ?_
 refine ng ?_
 refine AW.seq ?_
 refine dh fomo ?_
 refine d1 [0] (fun ve h => OpT.move (A := .cel _ _) (.inl rfl) rfl (ok' rfl) (D1 h rfl) rfl) rfl ?_
 refine d1 [5] (fun ve h => OpT.move (A := .cel _ _) (.inl rfl) rfl (ok' rfl) (D1 h rfl) rfl) rfl ?_
 refine d1 [9, 10] (fun ve h => OpT.quo (H rfl) (D1 h rfl) (D1 h rfl) (by omega) (nw (by omega))) rfl ?_
 refine d1 [1] (fun ve h => OpT.move (A := .cel _ _) (.inl rfl) rfl (ok' rfl) (D1 h rfl) rfl) rfl ?_
 refine d1 [5] (fun ve h => OpT.move (A := .cel _ _) (.inl rfl) rfl (ok' rfl) (D1 h rfl) rfl) rfl ?_
 refine d1 [12, 13] (fun ve h => OpT.quo (H rfl) (D1 h rfl) (D1 h rfl) (by omega) (nw (by omega))) rfl ?_
 refine d1 [11, 14] (fun ve h => OpT.build (H rfl) pl60 zr60 zk60 (Built.cel (D1 h rfl) rfl rfl sb60_0 (Built.cel (D1 h rfl) rfl rfl sb60_1 (Built.nil _)))) rfl ?_
 refine dm (t := 4) [4, 15] (fun ve h => OpT.storeBA rfl rfl (Opd.whole (Root.self (t := 4) (by decide)) ((h _ (List.elem_iff.1 rfl)).trans rfl)) ((h _ (List.elem_iff.1 rfl)).trans rfl) sz60 (by decide) (D1 h rfl)) rfl ?_
 refine dn ⟨by kernel_rfl, by kernel_rfl, ?_⟩
 refine AX.pr (kb 4 rfl <| Kn) ?_
 refine AX.go ?_
 refine AW.ret ?_
 exact AX.rt (rs := [.cell 4 60]) (ts := [none]) (.inl rfl) rfl (ROs.cons (RO.cellA (by decide) (Kb rfl rfl) ag60 sz60) <| ROs.nil) (by decide) OutsOK.nil
end Go.Proofs.YtkgboidjghcegaaGreatDoor.VL
