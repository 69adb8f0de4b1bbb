/- Proved here: texts compared with '<' and '>'. General: over every program. -/
import Derived.Test.YtbckpmjiimiceaaDoorPXO
import Derived.Test.YtbckpmjiimiceaaDoorBvb
set_option linter.unusedVariables false
set_option linter.unusedSimpArgs false
namespace Go.Proofs.YtbckpmjiimiceaaDoor.VL
open Go
theorem less_iff : ∀ a b : List UInt8, Op.bytesLess a b = decide (Lib.compareBytes a b < 0)
  | [], [] => rfl
  | _ :: _, [] => rfl
  | [], _ :: _ => rfl
  | a :: x, b :: y => by
    have ih := less_iff x y
    rw [Op.bytesLess, Lib.compareBytes, ih]
    by_cases h : a < b
    · simp [h]
    · by_cases h2 : b < a
      · have h3 : ¬ a = b := by rintro rfl; exact h h2
        simp [h, h2, h3]
      · have h3 : a = b := by rw [UInt8.lt_iff_toNat_lt] at h h2; exact UInt8.toNat_inj.1 (by omega)
        simp [h, h2, h3]
theorem cmp_same : ∀ a : List UInt8, Lib.compareBytes a a = 0
  | [] => rfl
  | a :: x => by rw [Lib.compareBytes, if_neg (by rw [UInt8.lt_iff_toNat_lt]; omega), if_neg (by rw [UInt8.lt_iff_toNat_lt]; omega)]; exact cmp_same x
theorem cmp_eq0 : ∀ {a b : List UInt8}, Lib.compareBytes a b = 0 → a = b
  | [], [], _ => rfl
  | [], _ :: _, h => by simp [Lib.compareBytes] at h
  | _ :: _, [], h => by simp [Lib.compareBytes] at h
  | a :: as, b :: bs, h => by
    rw [Lib.compareBytes] at h
    split at h
    · cases h
    · split at h
      · cases h
      · rename_i h1 h2
        rw [cmp_eq0 h, show a = b from UInt8.toNat_inj.1 (by rw [UInt8.lt_iff_toNat_lt] at h1 h2; omega)]
theorem gr_iff (a b : List UInt8) : (!(Op.bytesLess a b || a == b)) = decide (Lib.compareBytes a b > 0) := by
  rw [less_iff]
  by_cases h : a = b
  · subst h; simp [cmp_same]
  · have h1 : Lib.compareBytes a b ≠ 0 := fun e => h (cmp_eq0 e)
    rw [beq_eq_false_iff_ne.2 h, Bool.or_false]
    by_cases h2 : Lib.compareBytes a b < 0
    · rw [decide_eq_true h2, decide_eq_false (by omega)]; rfl
    · rw [decide_eq_false h2, decide_eq_true (by omega)]; rfl
section
variable {C : Cx} {env : Env} {o : Oper} {p q : Operand} {d : Nat} {T T' : TypeId}
theorem OpT.slss {x y : ByteArray} (hH : Hd C o (.binOp .lss T p q T') d) (hp : Opd C env p (.cel Kd.str x)) (hq : Opd C env q (.cel Kd.str y)) : OpT C o env (upd env d (.cel Kd.bool (decide (cmpB x y < 0)))) :=
  have e : Op.bytesLess x.toList y.toList = decide (cmpB x y < 0) := by rw [ByteArray.toList_eq, ByteArray.toList_eq]; exact less_iff (bL x) (bL y)
  OpT.pure hH.2.1 hH.2.2 fun s F a w hr => ⟨.bool (decide (cmpB x y < 0)), by simp [execOp, hH.1, (hp.gets hr).1, (hq.gets hr).1, binOp, eqGuard, Op.stringOp, e], ⟨rfl, fun b hb => hb⟩⟩
theorem OpT.sgtr {x y : ByteArray} (hH : Hd C o (.binOp .gtr T p q T') d) (hp : Opd C env p (.cel Kd.str x)) (hq : Opd C env q (.cel Kd.str y)) : OpT C o env (upd env d (.cel Kd.bool (decide (cmpB x y > 0)))) :=
  have e : (!(Op.bytesLess x.toList y.toList || x.toList == y.toList)) = decide (cmpB x y > 0) := by rw [ByteArray.toList_eq, ByteArray.toList_eq]; exact gr_iff (bL x) (bL y)
  OpT.pure hH.2.1 hH.2.2 fun s F a w hr => ⟨.bool (decide (cmpB x y > 0)), by simp only [execOp, hH.1, (hp.gets hr).1, (hq.gets hr).1, binOp, eqGuard, Op.stringOp, e]; simp, ⟨rfl, fun b hb => hb⟩⟩
end
end Go.Proofs.YtbckpmjiimiceaaDoor.VL
