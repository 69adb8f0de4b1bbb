/- Proved here: more rules of single steps, with the words of VA..VN. General: over every program. -/
import Derived.Test.YtfnkphllkbkfaaaDoorVN
import Derived.Laws.Small
set_option linter.unusedVariables false
set_option linter.unusedSimpArgs false
namespace Go.Proofs.YtfnkphllkbkfaaaDoor.VL
open Go
section
variable {C : Cx} {env : Env} {o : Oper} {T T' : TypeId} {p q : Operand} {d : Nat}
theorem U2 (n : Nat) {m : Int} (hm : Int.ofNat n = m) (h : Nat.blt n 18446744073709551616 = true) : Opd C env (.const (.int .u64 m)) (.cel Kd.u64 (BitVec.ofNat 64 n)) := by
  subst hm
  have h' : n < 18446744073709551616 := Nat.le_of_ble_eq_true h
  have := Opd.u64 (C := C) (env := env) (n := Int.ofNat n) (by constructor; exact Int.natCast_nonneg n; exact Int.ofNat_lt.2 h')
  have e : BitVec.ofInt 64 (Int.ofNat n) = BitVec.ofNat 64 n := by
    apply BitVec.eq_of_toNat_eq
    rw [BitVec.toNat_ofInt, BitVec.toNat_ofNat]
    show ((n : Int) % _).toNat = _
    omega
  rw [e] at this
  exact this
theorem OpT.urem {x y : BitVec 64} (hH : Hd C o (.binOp .rem T p q T') d) (hp : Opd C env p (.cel Kd.u64 x)) (hq : Opd C env q (.cel Kd.u64 y)) (h0 : y.toNat ≠ 0) : OpT C o env (upd env d (.cel Kd.u64 (x % y))) :=
  OpT.pure hH.2.1 hH.2.2 fun s F a w hr => by
    refine ⟨.int .u64 ((x % y).toNat : Int), ?_, ⟨rfl, fun b hb => hb⟩⟩
    have h1 : ((x.toNat : Int).tmod (y.toNat : Int)) = ((x % y).toNat : Int) := by
      rw [BitVec.toNat_umod, Int.tmod_eq_emod_of_nonneg (by omega)]; rfl
    have h3 : (y.toNat : Int) ≠ 0 := by omega
    simp only [execOp, hH.1, hp.getu hr, hq.getu hr, binOp, eqGuard, Op.intDiv, h3, if_false, h1, reduceIte]
    simp
end
end Go.Proofs.YtfnkphllkbkfaaaDoor.VL
