/- Proved here: more rules of single steps, with the words of VA..VN. General: over every program. -/
import Derived.Test.YtcaeabgfgofefaaDoorVN
import Derived.Laws.Small
set_option linter.unusedVariables false
set_option linter.unusedSimpArgs false
namespace Go.Proofs.YtcaeabgfgofefaaDoor.VL
open Go
section
variable {C : Cx} {env : Env} {o : Oper} {T T' : TypeId} {p q : Operand} {d : Nat}
theorem U2 (n : Nat) {m : Int} (hm : Int.ofNat n = m) (h : Nat.blt n 18446744073709551616 = true) : Opd C env (.const (.int .u64 m)) (.cel Kd.u64 (BitVec.ofNat 64 n)) := by
  subst hm
  have h' : n < 18446744073709551616 := Nat.le_of_ble_eq_true h
  have := Opd.u64 (C := C) (env := env) (n := Int.ofNat n) (by constructor; exact Int.natCast_nonneg n; exact Int.ofNat_lt.2 h')
  have e : BitVec.ofInt 64 (Int.ofNat n) = BitVec.ofNat 64 n := by
    apply BitVec.eq_of_toNat_eq
    rw [BitVec.toNat_ofInt, BitVec.toNat_ofNat]
    show ((n : Int) % _).toNat = _
    omega
  rw [e] at this
  exact this
theorem OpT.ucmp {op : BinOp} {x y : BitVec 64} {r : Bool} (hH : Hd C o (.binOp op T p q T') d)
    (hp : Opd C env p (.cel Kd.u64 x)) (hq : Opd C env q (.cel Kd.u64 y))
    (hop : op = .lss ∧ r = decide (x.toNat < y.toNat) ∨ op = .leq ∧ r = decide (x.toNat ≤ y.toNat) ∨ op = .gtr ∧ r = decide (x.toNat > y.toNat) ∨ op = .geq ∧ r = decide (x.toNat ≥ y.toNat)) : OpT C o env (upd env d (.cel Kd.bool r)) :=
  OpT.pure hH.2.1 hH.2.2 fun s F a w hr => by
    refine ⟨.bool r, ?_, ⟨rfl, fun b hb => hb⟩⟩
    rcases hop with ⟨rfl, rfl⟩ | ⟨rfl, rfl⟩ | ⟨rfl, rfl⟩ | ⟨rfl, rfl⟩ <;> simp [execOp, hH.1, hp.getu hr, hq.getu hr, binOp, eqGuard, Op.intCmp]
theorem OpT.ugtr {x y : BitVec 64} (hH : Hd C o (.binOp .gtr T p q T') d) (hp : Opd C env p (.cel Kd.u64 x)) (hq : Opd C env q (.cel Kd.u64 y)) : OpT C o env (upd env d (.cel Kd.bool (decide (x.toNat > y.toNat)))) := OpT.ucmp hH hp hq (by simp)
theorem OpT.uquo {x y : BitVec 64} (hH : Hd C o (.binOp .quo T p q T') d) (hp : Opd C env p (.cel Kd.u64 x)) (hq : Opd C env q (.cel Kd.u64 y)) (h0 : y.toNat ≠ 0) : OpT C o env (upd env d (.cel Kd.u64 (x / y))) :=
  OpT.pure hH.2.1 hH.2.2 fun s F a w hr => by
    refine ⟨.int .u64 ((x / y).toNat : Int), ?_, ⟨rfl, fun b hb => hb⟩⟩
    have h1 : ((x.toNat : Int).tdiv (y.toNat : Int)) = ((x / y).toNat : Int) := by
      rw [BitVec.toNat_udiv, Int.tdiv_eq_ediv_of_nonneg (by omega)]; rfl
    have h2 : IntKind.u64.wrap ((x / y).toNat : Int) = ((x / y).toNat : Int) := by rw [wrap_u64]; have := (x / y).isLt; omega
    have h3 : (y.toNat : Int) ≠ 0 := by omega
    simp only [execOp, hH.1, hp.getu hr, hq.getu hr, binOp, eqGuard, Op.intDiv, h3, if_false, h1, h2, reduceIte]
    simp
theorem OpT.urem {x y : BitVec 64} (hH : Hd C o (.binOp .rem T p q T') d) (hp : Opd C env p (.cel Kd.u64 x)) (hq : Opd C env q (.cel Kd.u64 y)) (h0 : y.toNat ≠ 0) : OpT C o env (upd env d (.cel Kd.u64 (x % y))) :=
  OpT.pure hH.2.1 hH.2.2 fun s F a w hr => by
    refine ⟨.int .u64 ((x % y).toNat : Int), ?_, ⟨rfl, fun b hb => hb⟩⟩
    have h1 : ((x.toNat : Int).tmod (y.toNat : Int)) = ((x % y).toNat : Int) := by
      rw [BitVec.toNat_umod, Int.tmod_eq_emod_of_nonneg (by omega)]; rfl
    have h3 : (y.toNat : Int) ≠ 0 := by omega
    simp only [execOp, hH.1, hp.getu hr, hq.getu hr, binOp, eqGuard, Op.intDiv, h3, if_false, h1, reduceIte]
    simp
theorem OpT.iand {x y : Nat} (hH : Hd C o (.binOp .and T p q T') d) (hp : Opd C env p (.cel (Kd.int .i64) (x : Int))) (hq : Opd C env q (.cel (Kd.int .i64) (y : Int))) : OpT C o env (upd env d (.cel (Kd.int .i64) ((x &&& y : Nat) : Int))) :=
  OpT.pure hH.2.1 hH.2.2 fun s F a w hr => by
    have hx := inR_i64.1 (hp.geti hr).2
    have hy := inR_i64.1 (hq.geti hr).2
    have hle : x &&& y ≤ y := Nat.and_le_right
    obtain ⟨X, rfl⟩ : ∃ X : BitVec 64, X.toNat = x := ⟨BitVec.ofNat 64 x, by rw [BitVec.toNat_ofNat]; omega⟩
    obtain ⟨Y, rfl⟩ : ∃ Y : BitVec 64, Y.toNat = y := ⟨BitVec.ofNat 64 y, by rw [BitVec.toNat_ofNat]; omega⟩
    refine ⟨.int .i64 ((X.toNat &&& Y.toNat : Nat) : Int), ?_, ⟨⟨rfl, inR_i64.2 (by omega)⟩, fun b hb => hb⟩⟩
    have h2 : IntKind.i64.wrap ((X &&& Y).toNat : Int) = ((X.toNat &&& Y.toNat : Nat) : Int) := by
      rw [BitVec.toNat_and]; exact wrap_i64 (by omega)
    simp only [execOp, hH.1, (hp.geti hr).1, (hq.geti hr).1, binOp, eqGuard, Op.intBits, IntKind.bits, ofInt_toNat]
    exact (show _ = Result.ok (Next.value (Value.int .i64 (IntKind.i64.wrap ((X &&& Y).toNat : Int)))) w from rfl).trans (by rw [h2])
end
end Go.Proofs.YtcaeabgfgofefaaDoor.VL
