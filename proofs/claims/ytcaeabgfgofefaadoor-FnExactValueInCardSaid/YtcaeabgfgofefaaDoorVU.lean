/- Proved here: bytes and texts. General: over every program. -/
import Derived.Test.YtcaeabgfgofefaaDoorVT
import Derived.Laws.BytesString
import Derived.Laws.IdiomStrings
set_option linter.unusedVariables false
set_option linter.unusedSimpArgs false
namespace Go.Proofs.YtcaeabgfgofefaaDoor.VL
open Go
theorem sub_at {α : Type} {k : Kd α} {n i : Nat} (hi : i < n) (h1 : k.sz = 1) (z : α) : Sub (Kd.arr n k) i k (fun xs => xs.getD i z) (fun xs y => xs.set i y) := by
  have := sub_arr (k := k) hi z
  rwa [h1, Nat.mul_one] at this
section
variable {C : Cx} {env : Env} {o : Oper} {p q r : Operand} {d t : Nat} {T T' S E : TypeId}
theorem OpT.ishr {k' : IntKind} {x : Nat} {y : Int} (hH : Hd C o (.binOp .shr T p q T') d) (hp : Opd C env p (.cel (Kd.int .i64) (x : Int))) (hq : Opd C env q (.cel (Kd.int k') y)) (h0 : 0 ≤ y) : OpT C o env (upd env d (.cel (Kd.int .i64) ((x >>> y.toNat : Nat) : Int))) :=
  OpT.pure hH.2.1 hH.2.2 fun s F a w hr => by
    have hx := inR_i64.1 (hp.geti hr).2
    have hle : x >>> y.toNat ≤ x := by rw [Nat.shiftRight_eq_div_pow]; exact Nat.div_le_self _ _
    have h9 : ∀ n : Nat, n ≤ x → inR .i64 (n : Int) := fun n hn => inR_i64.2 (by omega)
    refine ⟨.int .i64 ((x >>> y.toNat : Nat) : Int), ?_, ⟨rfl, h9 _ hle⟩, fun b hb => hb⟩
    have : (x : Int).fdiv (2 ^ (min y.toNat 64)) = ((x >>> y.toNat : Nat) : Int) := by
      rw [Nat.shiftRight_eq_div_pow, Int.fdiv_eq_ediv_of_nonneg _ (by exact Int.le_of_lt (Int.pow_pos (by omega)))]
      rcases Nat.lt_or_ge y.toNat 64 with h | h
      · rw [Nat.min_eq_left (by omega)]; simp
      · rw [Nat.min_eq_right h]
        have h3 : x < 2 ^ 64 := by
          have : x ≤ 9223372036854775807 := by omega
          exact Nat.lt_of_le_of_lt this (by decide)
        have h2 : x < 2 ^ y.toNat := Nat.lt_of_lt_of_le h3 (Nat.pow_le_pow_right (by omega) h)
        rw [Nat.div_eq_of_lt h2]
        have h4 : (2 : Int) ^ 64 = 18446744073709551616 := by decide
        rw [h4]
        omega
    simp only [execOp, hH.1, (hp.geti hr).1, (hq.geti hr).1, binOp, eqGuard, Op.shift, if_neg (show ¬ y < 0 by omega), IntKind.bits, this]; rfl
theorem OpT.ishl {kk k' : IntKind} {x y r : Int} (hH : Hd C o (.binOp .shl T p q T') d) (hp : Opd C env p (.cel (Kd.int kk) x)) (hq : Opd C env q (.cel (Kd.int k') y)) (h0 : 0 ≤ y) (hr : kk.wrap (x * 2 ^ (min y.toNat kk.bits)) = r) : OpT C o env (upd env d (.cel (Kd.int kk) r)) :=
  OpT.pure hH.2.1 hH.2.2 fun s F a w h => by
    subst hr
    refine ⟨.int kk (kk.wrap (x * 2 ^ (min y.toNat kk.bits))), ?_, ⟨rfl, wrap_in _ _⟩, fun b hb => hb⟩
    simp only [execOp, hH.1, (hp.geti h).1, (hq.geti h).1, binOp, eqGuard, Op.shift, if_neg (show ¬ y < 0 by omega)]; rfl
end
end Go.Proofs.YtcaeabgfgofefaaDoor.VL
