/- Proved here: what some functions of the program take and give: walks with the words of VA..VQ. Printed by program. -/
import Derived.Test.YtohcpnobmknglaaGreatDoorWT
set_option linter.unusedVariables false
set_option linter.unusedSimpArgs false
set_option maxRecDepth 4000
namespace Go.Proofs.YtohcpnobmknglaaGreatDoor.VL
open Go
/-- spec.l06Gcd -/
theorem c_spec_l06Gcd (a b : Int) (h : 0 ≤ a ∧ 0 ≤ b) : AC Tryz.prog 119 [.cel (Kd.int .i64) a, .cel (Kd.int .i64) b] [.cel (Kd.int .i64) ((Int.gcd a b : Nat) : Int)] [] := by
 refine acI (N := 14) Tryz.func119 (Nat.le_of_ble_eq_true rfl) rfl fun w0 hd s0 ar => ?_
 refine AW.to (kc2 0 1 rfl <| Kn) ?_
 refine sr ?_
 refine st (asI rfl) rfl ?_
 refine ng ?_
 refine AW.seq ?_
 refine AW.block ?_
 refine AW.loop (fun p : Int × Int => 0 ≤ p.1 ∧ 0 ≤ p.2 ∧ Int.gcd p.1 p.2 = Int.gcd a b) (fun p : Int × Int => keep [(0, .cel (Kd.int .i64) p.1), (1, .cel (Kd.int .i64) p.2)]) (fun p : Int × Int => p.2.toNat) ((a, b)) ⟨h.1, h.2, rfl⟩ (Kc 0 _ (Kv rfl rfl) <| Kc 1 _ (Kv rfl rfl) <| Kn) ?_
 intro p hI
 refine AW.seq ?_
 refine sr ?_
 refine st (mvT rfl) rfl ?_
 refine st (OpT.neq (H rfl) (T1 rfl) (I rfl)) rfl ?_
 refine ng ?_
 refine cd rfl (fun hc1 => ?_) fun hc1 => ?_
 ·
  replace hc1 := oT hc1
  refine AW.skip ?_
  refine AX.go ?_
  refine AW.block ?_
  refine sr ?_
  refine st (mvT rfl) rfl ?_
  refine st (mvT rfl) rfl ?_
  refine st (OpT.rem (H rfl) (T1 rfl) (T1 rfl) (by have := hI.2.1; (try simp at hc1); omega)) rfl ?_
  refine st (asT rfl) rfl ?_
  refine ng ?_
  refine sr ?_
  refine st (mvT rfl) rfl ?_
  refine st (asT rfl) rfl ?_
  refine ng ?_
  refine AW.region ?_
  refine st (mvT rfl) rfl ?_
  refine st (asT rfl) rfl ?_
  refine nn ?_
  refine AX.normal_block ?_
  exact AX.again ((p.2, p.1.tmod p.2)) (gcd_inv hI (by have := hI.2.1; (try simp at hc1); omega)) (gcd_dec hI (by have := hI.2.1; (try simp at hc1); omega)) (Kc 0 _ (Kv rfl rfl) <| Kc 1 _ (Kv rfl rfl) <| Kn)
 ·
  replace hc1 := oF hc1
  refine AW.exit ?_
  refine xT <| xT <| AX.exit_hit ?_
  refine AX.go ?_
  refine sr ?_
  refine st (mvT rfl) rfl ?_
  refine st (asT rfl) rfl ?_
  refine ng ?_
  refine AW.ret ?_
  exact rt1 rfl (.inl rfl) (gcd_end hI (by have := hI.2.1; (try simp at hc1); omega))

/-- impl.gcd -/
theorem c_impl_gcd (a b : Int) (h : 0 ≤ a ∧ 0 ≤ b) : AC Tryz.prog 120 [.cel (Kd.int .i64) a, .cel (Kd.int .i64) b] [.cel (Kd.int .i64) ((Int.gcd a b : Nat) : Int)] [] := by
 refine acI (N := 12) Tryz.func120 (Nat.le_of_ble_eq_true rfl) rfl fun w0 hd s0 ar => ?_
 refine AW.to (kc2 0 1 rfl <| Kn) ?_
 refine sr ?_
 refine st (asI rfl) rfl ?_
 refine ng ?_
 refine AW.seq ?_
 refine AW.block ?_
 refine AW.loop (fun p : Int × Int => 0 ≤ p.1 ∧ 0 ≤ p.2 ∧ Int.gcd p.1 p.2 = Int.gcd a b) (fun p : Int × Int => keep [(0, .cel (Kd.int .i64) p.1), (1, .cel (Kd.int .i64) p.2)]) (fun p : Int × Int => p.2.toNat) ((a, b)) ⟨h.1, h.2, rfl⟩ (Kc 0 _ (Kv rfl rfl) <| Kc 1 _ (Kv rfl rfl) <| Kn) ?_
 intro p hI
 refine AW.seq ?_
 refine sr ?_
 refine st (mvT rfl) rfl ?_
 refine st (OpT.gtr (H rfl) (T1 rfl) (I rfl)) rfl ?_
 refine ng ?_
 refine cd rfl (fun hc1 => ?_) fun hc1 => ?_
 ·
  replace hc1 := oT hc1
  refine AW.skip ?_
  refine AX.go ?_
  refine AW.block ?_
  refine dh fomo ?_
  refine d1 [1] (fun ve h => OpT.move (A := .cel _ _) (.inl rfl) rfl (ok' rfl) (D1 h rfl) rfl) rfl ?_
  refine d1 [0] (fun ve h => OpT.move (A := .cel _ _) (.inl rfl) rfl (ok' rfl) (D1 h rfl) rfl) rfl ?_
  refine d1 [1] (fun ve h => OpT.move (A := .cel _ _) (.inl rfl) rfl (ok' rfl) (D1 h rfl) rfl) rfl ?_
  refine d1 [8, 9] (fun ve h => OpT.rem (H rfl) (D1 h rfl) (D1 h rfl) (by have := hI.2.1; (try simp at hc1); omega)) rfl ?_
  refine d1 [7] (fun ve h => OpT.move (A := .cel _ _) (.inr rfl) rfl (ok' rfl) (D1 h rfl) rfl) rfl ?_
  refine d1 [10] (fun ve h => OpT.move (A := .cel _ _) (.inr rfl) rfl (ok' rfl) (D1 h rfl) rfl) rfl ?_
  refine dn ⟨by kernel_rfl, by kernel_rfl, ?_⟩
  refine AX.normal_block ?_
  exact AX.again ((p.2, p.1.tmod p.2)) (gcd_inv hI (by have := hI.2.1; (try simp at hc1); omega)) (gcd_dec hI (by have := hI.2.1; (try simp at hc1); omega)) (Kc 0 _ (Kv rfl rfl) <| Kc 1 _ (Kv rfl rfl) <| Kn)
 ·
  replace hc1 := oF hc1
  refine AW.exit ?_
  refine xT <| xT <| AX.exit_hit ?_
  refine AX.go ?_
  refine sr ?_
  refine st (mvT rfl) rfl ?_
  refine st (asT rfl) rfl ?_
  refine ng ?_
  refine AW.ret ?_
  exact rt1 rfl (.inl rfl) (gcd_end hI (by have := hI.2.1; (try simp at hc1); omega))

end Go.Proofs.YtohcpnobmknglaaGreatDoor.VL
