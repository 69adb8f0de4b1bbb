/- Proved here: more rules of single steps, with the words of VA..VN. General: over every program. -/
import Derived.Test.YtfnkphllkbkfaaaDoorVN
import Derived.Laws.Small
set_option linter.unusedVariables false
set_option linter.unusedSimpArgs false
namespace Go.Proofs.YtfnkphllkbkfaaaDoor.VL
open Go
section
variable {C : Cx} {env : Env} {o : Oper} {T T' : TypeId} {p q : Operand} {d : Nat}
theorem U2 (n : Nat) {m : Int} (hm : Int.ofNat n = m) (h : Nat.blt n 18446744073709551616 = true) : Opd C env (.const (.int .u64 m)) (.cel Kd.u64 (BitVec.ofNat 64 n)) := by
  subst hm
  have h' : n < 18446744073709551616 := Nat.le_of_ble_eq_true h
  have := Opd.u64 (C := C) (env := env) (n := Int.ofNat n) (by constructor; exact Int.natCast_nonneg n; exact Int.ofNat_lt.2 h')
  have e : BitVec.ofInt 64 (Int.ofNat n) = BitVec.ofNat 64 n := by
    apply BitVec.eq_of_toNat_eq
    rw [BitVec.toNat_ofInt, BitVec.toNat_ofNat]
    show ((n : Int) % _).toNat = _
    omega
  rw [e] at this
  exact this
end
end Go.Proofs.YtfnkphllkbkfaaaDoor.VL
