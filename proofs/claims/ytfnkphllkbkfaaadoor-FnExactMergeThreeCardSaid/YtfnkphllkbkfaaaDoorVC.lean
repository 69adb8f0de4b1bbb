/- Proved here: rules for arithmetic, comparisons, reads of memory, structs and arrays, with the words of VA. General: over every program. -/
import Derived.Test.YtfnkphllkbkfaaaDoorVB
import Derived.Laws.StructEq
set_option linter.unusedVariables false
set_option linter.unusedSimpArgs false
namespace Go.Proofs.YtfnkphllkbkfaaaDoor.VL
open Go

theorem wrap_in (k : IntKind) (n : Int) : inR k (k.wrap n) := by
  unfold inR IntKind.wrap IntKind.min IntKind.max
  cases k <;> simp [IntKind.signed, IntKind.bits] <;> first | omega | (split <;> omega)
theorem wrap_id {k : IntKind} {n : Int} (h : inR k n) : k.wrap n = n := by
  unfold inR IntKind.min IntKind.max at h
  unfold IntKind.wrap
  cases k <;> simp [IntKind.signed, IntKind.bits] at h ⊢ <;> first | omega | (split <;> omega)
theorem wrap_u64 (n : Int) : IntKind.u64.wrap n = n % 18446744073709551616 := by
  unfold IntKind.wrap
  simp [IntKind.signed, IntKind.bits]
theorem inR_i64 {n : Int} : inR .i64 n ↔ -9223372036854775808 ≤ n ∧ n ≤ 9223372036854775807 := Iff.rfl
theorem inR_u8 {n : Int} : inR .u8 n ↔ 0 ≤ n ∧ n ≤ 255 := Iff.rfl
theorem wrap_i64 {n : Int} (h : -9223372036854775808 ≤ n ∧ n ≤ 9223372036854775807) : IntKind.i64.wrap n = n := wrap_id h

section
variable {C : Cx} {env env' : Env} {Q : Exit → Act → World → Prop} {o : Oper} {p q : Operand} {d : Nat} {T T' : TypeId}

theorem Opd.geti {k : IntKind} {n : Int} (h : Opd C env p (.cel (Kd.int k) n)) {s F a w} (hr : Rel C.N C.w0 C.hd C.pn C.s0 env s F a w) : a.eval p = .int k n ∧ inR k n := by
  have h1 := (h s F a w hr).1
  exact ⟨by have := h1.1; simpa using this, h1.2⟩
theorem Opd.getu {n : BitVec 64} (h : Opd C env p (.cel Kd.u64 n)) {s F a w} (hr : Rel C.N C.w0 C.hd C.pn C.s0 env s F a w) : a.eval p = .int .u64 (n.toNat : Int) := by
  have h1 := (h s F a w hr).1
  simpa [Kd.u64] using h1
theorem Opd.getb {n : Bool} (h : Opd C env p (.cel Kd.bool n)) {s F a w} (hr : Rel C.N C.w0 C.hd C.pn C.s0 env s F a w) : a.eval p = .bool n := by
  have h1 := (h s F a w hr).1
  simpa [Kd.bool] using h1
theorem Opd.gets {n : ByteArray} (h : Opd C env p (.cel Kd.str n)) {s F a w} (hr : Rel C.N C.w0 C.hd C.pn C.s0 env s F a w) : a.eval p = .string n ∧ n.size ≤ 9223372036854775807 := by
  have h1 := (h s F a w hr).1
  exact ⟨by have := h1.1; simpa using this, h1.2⟩

/-! ### Whole numbers -/
theorem OpT.ints {op : BinOp} {k : IntKind} {x y r : Int} (hH : Hd C o (.binOp op T p q T') d)
    (hp : Opd C env p (.cel (Kd.int k) x)) (hq : Opd C env q (.cel (Kd.int k) y))
    (hop : op = .add ∧ r = k.wrap (x + y) ∨ op = .sub ∧ r = k.wrap (x - y) ∨ op = .mul ∧ r = k.wrap (x * y)) : OpT C o env (upd env d (.cel (Kd.int k) r)) :=
  OpT.pure hH.2.1 hH.2.2 fun s F a w hr => by
    refine ⟨.int k r, ?_, ⟨⟨rfl, ?_⟩, fun b hb => hb⟩⟩
    · rcases hop with ⟨rfl, rfl⟩ | ⟨rfl, rfl⟩ | ⟨rfl, rfl⟩ <;> simp [execOp, hH.1, (hp.geti hr).1, (hq.geti hr).1, binOp, eqGuard, Op.intArith]
    · rcases hop with ⟨rfl, rfl⟩ | ⟨rfl, rfl⟩ | ⟨rfl, rfl⟩ <;> exact wrap_in _ _
theorem OpT.add {k : IntKind} {x y r : Int} (hH : Hd C o (.binOp .add T p q T') d) (hp : Opd C env p (.cel (Kd.int k) x)) (hq : Opd C env q (.cel (Kd.int k) y)) (hr : k.wrap (x + y) = r) : OpT C o env (upd env d (.cel (Kd.int k) r)) :=
  OpT.ints hH hp hq (.inl ⟨rfl, hr.symm⟩)
theorem OpT.sub {k : IntKind} {x y r : Int} (hH : Hd C o (.binOp .sub T p q T') d) (hp : Opd C env p (.cel (Kd.int k) x)) (hq : Opd C env q (.cel (Kd.int k) y)) (hr : k.wrap (x - y) = r) : OpT C o env (upd env d (.cel (Kd.int k) r)) :=
  OpT.ints hH hp hq (.inr (.inl ⟨rfl, hr.symm⟩))
theorem OpT.quo {k : IntKind} {x y r : Int} (hH : Hd C o (.binOp .quo T p q T') d) (hp : Opd C env p (.cel (Kd.int k) x)) (hq : Opd C env q (.cel (Kd.int k) y)) (h0 : y ≠ 0) (hr : k.wrap (x.tdiv y) = r) : OpT C o env (upd env d (.cel (Kd.int k) r)) :=
  OpT.pure hH.2.1 hH.2.2 fun s F a w h => by
    refine ⟨.int k r, ?_, ⟨⟨rfl, ?_⟩, fun b hb => hb⟩⟩
    · subst hr; simp [execOp, hH.1, (hp.geti h).1, (hq.geti h).1, binOp, eqGuard, Op.intDiv, h0]
    · subst hr; exact wrap_in _ _
theorem tmod_in {k : IntKind} {x y : Int} (hx : inR k x) (hy : inR k y) (h0 : y ≠ 0) : inR k (x.tmod y) := by
  have h1 : x.tmod y ≤ x.natAbs ∧ -(x.natAbs : Int) ≤ x.tmod y ∧ (0 ≤ x → 0 ≤ x.tmod y) ∧ (x ≤ 0 → x.tmod y ≤ 0) := by
    have h2 := Int.natAbs_tmod x y
    have h3 : x.natAbs % y.natAbs ≤ x.natAbs := Nat.mod_le _ _
    refine ⟨by omega, by omega, fun h => Int.tmod_nonneg y h, fun h => ?_⟩
    have := Int.tmod_nonneg y (show 0 ≤ -x by omega)
    rw [Int.neg_tmod] at this
    omega
  unfold inR IntKind.min IntKind.max at *
  cases k <;> simp [IntKind.signed, IntKind.bits] at hx hy ⊢ <;> omega
theorem OpT.rem {k : IntKind} {x y : Int} (hH : Hd C o (.binOp .rem T p q T') d) (hp : Opd C env p (.cel (Kd.int k) x)) (hq : Opd C env q (.cel (Kd.int k) y)) (h0 : y ≠ 0) : OpT C o env (upd env d (.cel (Kd.int k) (x.tmod y))) :=
  OpT.pure hH.2.1 hH.2.2 fun s F a w h => by
    refine ⟨.int k (x.tmod y), ?_, ⟨⟨rfl, tmod_in (hp.geti h).2 (hq.geti h).2 h0⟩, fun b hb => hb⟩⟩
    simp [execOp, hH.1, (hp.geti h).1, (hq.geti h).1, binOp, eqGuard, Op.intDiv, h0]
theorem OpT.cmp {op : BinOp} {k : IntKind} {x y : Int} {r : Bool} (hH : Hd C o (.binOp op T p q T') d)
    (hp : Opd C env p (.cel (Kd.int k) x)) (hq : Opd C env q (.cel (Kd.int k) y))
    (hop : op = .eql ∧ r = (x == y) ∨ op = .neq ∧ r = (x != y) ∨ op = .lss ∧ r = decide (x < y) ∨ op = .leq ∧ r = decide (x ≤ y) ∨ op = .gtr ∧ r = decide (x > y) ∨ op = .geq ∧ r = decide (x ≥ y)) : OpT C o env (upd env d (.cel Kd.bool r)) :=
  OpT.pure hH.2.1 hH.2.2 fun s F a w hr => by
    refine ⟨.bool r, ?_, ⟨rfl, fun b hb => hb⟩⟩
    rcases hop with ⟨rfl, rfl⟩ | ⟨rfl, rfl⟩ | ⟨rfl, rfl⟩ | ⟨rfl, rfl⟩ | ⟨rfl, rfl⟩ | ⟨rfl, rfl⟩ <;> simp [execOp, hH.1, (hp.geti hr).1, (hq.geti hr).1, binOp, eqGuard, Op.intCmp]
theorem OpT.eql {k : IntKind} {x y : Int} (hH : Hd C o (.binOp .eql T p q T') d) (hp : Opd C env p (.cel (Kd.int k) x)) (hq : Opd C env q (.cel (Kd.int k) y)) : OpT C o env (upd env d (.cel Kd.bool (x == y))) := OpT.cmp hH hp hq (by simp)
theorem OpT.neq {k : IntKind} {x y : Int} (hH : Hd C o (.binOp .neq T p q T') d) (hp : Opd C env p (.cel (Kd.int k) x)) (hq : Opd C env q (.cel (Kd.int k) y)) : OpT C o env (upd env d (.cel Kd.bool (x != y))) := OpT.cmp hH hp hq (by simp)
theorem OpT.lss {k : IntKind} {x y : Int} (hH : Hd C o (.binOp .lss T p q T') d) (hp : Opd C env p (.cel (Kd.int k) x)) (hq : Opd C env q (.cel (Kd.int k) y)) : OpT C o env (upd env d (.cel Kd.bool (decide (x < y)))) := OpT.cmp hH hp hq (by simp)
theorem OpT.leq {k : IntKind} {x y : Int} (hH : Hd C o (.binOp .leq T p q T') d) (hp : Opd C env p (.cel (Kd.int k) x)) (hq : Opd C env q (.cel (Kd.int k) y)) : OpT C o env (upd env d (.cel Kd.bool (decide (x ≤ y)))) := OpT.cmp hH hp hq (by simp)
theorem OpT.gtr {k : IntKind} {x y : Int} (hH : Hd C o (.binOp .gtr T p q T') d) (hp : Opd C env p (.cel (Kd.int k) x)) (hq : Opd C env q (.cel (Kd.int k) y)) : OpT C o env (upd env d (.cel Kd.bool (decide (x > y)))) := OpT.cmp hH hp hq (by simp)
theorem OpT.geq {k : IntKind} {x y : Int} (hH : Hd C o (.binOp .geq T p q T') d) (hp : Opd C env p (.cel (Kd.int k) x)) (hq : Opd C env q (.cel (Kd.int k) y)) : OpT C o env (upd env d (.cel Kd.bool (decide (x ≥ y)))) := OpT.cmp hH hp hq (by simp)
theorem OpT.not {x : Bool} (hH : Hd C o (.unOp .not T p) d) (hp : Opd C env p (.cel Kd.bool x)) : OpT C o env (upd env d (.cel Kd.bool (!x))) :=
  OpT.pure hH.2.1 hH.2.2 fun s F a w hr => ⟨.bool (!x), by simp [execOp, hH.1, hp.getb hr, Op.unary], ⟨rfl, fun b hb => hb⟩⟩
theorem OpT.conv {k k' : IntKind} {x r : Int} (hH : Hd C o (.convert T T' p) d) (hT : (C.P.underlying T).isSome = true) (hT' : C.P.underlying T' = some (.int k')) (hp : Opd C env p (.cel (Kd.int k) x)) (hr : k'.wrap x = r) : OpT C o env (upd env d (.cel (Kd.int k') r)) :=
  OpT.pure hH.2.1 hH.2.2 fun s F a w h => ⟨.int k' r, by
    subst hr
    obtain ⟨u, hu⟩ := Option.isSome_iff_exists.1 hT
    cases u <;> simp [execOp, hH.1, (hp.geti h).1, convert, underlying, program, Sem.run, hu, hT', Conv.intToInt], ⟨⟨rfl, by subst hr; exact wrap_in _ _⟩, fun b hb => hb⟩⟩

/-! ### 64 bits -/
theorem ofInt_toNat (x : BitVec 64) : BitVec.ofInt 64 (x.toNat : Int) = x := by
  apply BitVec.eq_of_toNat_eq
  rw [BitVec.toNat_ofInt]
  have := x.isLt
  omega
theorem OpT.bits {op : BinOp} {x y r : BitVec 64} (hH : Hd C o (.binOp op T p q T') d)
    (hp : Opd C env p (.cel Kd.u64 x)) (hq : Opd C env q (.cel Kd.u64 y))
    (hop : op = .and ∧ r = x &&& y ∨ op = .or ∧ r = x ||| y ∨ op = .xor ∧ r = x ^^^ y ∨ op = .andNot ∧ r = x &&& ~~~y) : OpT C o env (upd env d (.cel Kd.u64 r)) :=
  OpT.pure hH.2.1 hH.2.2 fun s F a w hr => by
    refine ⟨.int .u64 (r.toNat : Int), ?_, ⟨rfl, fun b hb => hb⟩⟩
    have hw : ∀ z : BitVec 64, IntKind.u64.wrap (z.toNat : Int) = (z.toNat : Int) := fun z => by rw [wrap_u64]; have := z.isLt; omega
    rcases hop with ⟨rfl, rfl⟩ | ⟨rfl, rfl⟩ | ⟨rfl, rfl⟩ | ⟨rfl, rfl⟩ <;> simp only [execOp, hH.1, hp.getu hr, hq.getu hr, binOp, eqGuard, Op.intBits, IntKind.bits, ofInt_toNat, hw] <;> rfl
theorem OpT.bor {x y : BitVec 64} (hH : Hd C o (.binOp .or T p q T') d) (hp : Opd C env p (.cel Kd.u64 x)) (hq : Opd C env q (.cel Kd.u64 y)) : OpT C o env (upd env d (.cel Kd.u64 (x ||| y))) := OpT.bits hH hp hq (by simp)
theorem OpT.ueql {x y : BitVec 64} (hH : Hd C o (.binOp .eql T p q T') d) (hp : Opd C env p (.cel Kd.u64 x)) (hq : Opd C env q (.cel Kd.u64 y)) : OpT C o env (upd env d (.cel Kd.bool (x == y))) :=
  OpT.pure hH.2.1 hH.2.2 fun s F a w hr => by
    refine ⟨.bool (x == y), ?_, ⟨rfl, fun b hb => hb⟩⟩
    have : ((x.toNat : Int) == (y.toNat : Int)) = (x == y) := by
      rw [Bool.eq_iff_iff]; simp; constructor
      · intro h; exact BitVec.eq_of_toNat_eq (by omega)
      · rintro rfl; rfl
    simp only [execOp, hH.1, hp.getu hr, hq.getu hr, binOp, eqGuard, Op.intCmp, this]; rfl
theorem OpT.uneq {x y : BitVec 64} (hH : Hd C o (.binOp .neq T p q T') d) (hp : Opd C env p (.cel Kd.u64 x)) (hq : Opd C env q (.cel Kd.u64 y)) : OpT C o env (upd env d (.cel Kd.bool (x != y))) :=
  OpT.pure hH.2.1 hH.2.2 fun s F a w hr => by
    refine ⟨.bool (x != y), ?_, ⟨rfl, fun b hb => hb⟩⟩
    have : ((x.toNat : Int) != (y.toNat : Int)) = (x != y) := by
      have : ((x.toNat : Int) == (y.toNat : Int)) = (x == y) := by
        rw [Bool.eq_iff_iff]; simp; constructor
        · intro h; exact BitVec.eq_of_toNat_eq (by omega)
        · rintro rfl; rfl
      unfold bne; rw [this]
    simp only [execOp, hH.1, hp.getu hr, hq.getu hr, binOp, eqGuard, Op.intCmp, this]; rfl
theorem OpT.shr {k' : IntKind} {x : BitVec 64} {y : Int} (hH : Hd C o (.binOp .shr T p q T') d) (hp : Opd C env p (.cel Kd.u64 x)) (hq : Opd C env q (.cel (Kd.int k') y)) (h0 : 0 ≤ y) : OpT C o env (upd env d (.cel Kd.u64 (x >>> y.toNat))) :=
  OpT.pure hH.2.1 hH.2.2 fun s F a w hr => by
    refine ⟨.int .u64 ((x >>> y.toNat).toNat : Int), ?_, ⟨rfl, fun b hb => hb⟩⟩
    have : (x.toNat : Int).fdiv (2 ^ (min y.toNat 64)) = ((x >>> y.toNat).toNat : Int) := by
      rw [BitVec.toNat_ushiftRight, Nat.shiftRight_eq_div_pow, Int.fdiv_eq_ediv_of_nonneg _ (by exact Int.le_of_lt (Int.pow_pos (by omega)))]
      rcases Nat.lt_or_ge y.toNat 64 with h | h
      · rw [Nat.min_eq_left (by omega)]; simp
      · rw [Nat.min_eq_right h]
        have h2 : x.toNat < 2 ^ y.toNat := Nat.lt_of_lt_of_le x.isLt (Nat.pow_le_pow_right (by omega) h)
        rw [Nat.div_eq_of_lt h2]
        have := x.isLt
        omega
    simp only [execOp, hH.1, hp.getu hr, (hq.geti hr).1, binOp, eqGuard, Op.shift, if_neg (show ¬ y < 0 by omega), IntKind.bits, this]; rfl
/-- To 64 bits without a sign. -/
theorem OpT.convu {k : IntKind} {x : Int} (hH : Hd C o (.convert T T' p) d) (hT : (C.P.underlying T).isSome = true) (hT' : C.P.underlying T' = some (.int .u64)) (hp : Opd C env p (.cel (Kd.int k) x)) : OpT C o env (upd env d (.cel Kd.u64 (BitVec.ofInt 64 x))) :=
  OpT.pure hH.2.1 hH.2.2 fun s F a w h => ⟨.int .u64 ((BitVec.ofInt 64 x).toNat : Int), by
    obtain ⟨u, hu⟩ := Option.isSome_iff_exists.1 hT
    have : IntKind.u64.wrap x = ((BitVec.ofInt 64 x).toNat : Int) := by rw [wrap_u64, BitVec.toNat_ofInt]; omega
    cases u <;> simp [execOp, hH.1, (hp.geti h).1, convert, underlying, program, Sem.run, hu, hT', Conv.intToInt, this], ⟨rfl, fun b hb => hb⟩⟩
/-! ### Texts -/
theorem OpT.seql {x y : ByteArray} (hH : Hd C o (.binOp .eql T p q T') d) (hp : Opd C env p (.cel Kd.str x)) (hq : Opd C env q (.cel Kd.str y)) : OpT C o env (upd env d (.cel Kd.bool (x.toList == y.toList))) :=
  OpT.pure hH.2.1 hH.2.2 fun s F a w hr => ⟨.bool (x.toList == y.toList), by simp [execOp, hH.1, (hp.gets hr).1, (hq.gets hr).1, binOp, eqGuard, Op.stringOp], ⟨rfl, fun b hb => hb⟩⟩
theorem OpT.sneq {x y : ByteArray} (hH : Hd C o (.binOp .neq T p q T') d) (hp : Opd C env p (.cel Kd.str x)) (hq : Opd C env q (.cel Kd.str y)) : OpT C o env (upd env d (.cel Kd.bool (!(x.toList == y.toList)))) :=
  OpT.pure hH.2.1 hH.2.2 fun s F a w hr => ⟨.bool (!(x.toList == y.toList)), by simp [execOp, hH.1, (hp.gets hr).1, (hq.gets hr).1, binOp, eqGuard, Op.stringOp], ⟨rfl, fun b hb => hb⟩⟩
theorem OpT.sadd {x y : ByteArray} (hH : Hd C o (.binOp .add T p q T') d) (hp : Opd C env p (.cel Kd.str x)) (hq : Opd C env q (.cel Kd.str y)) (hl : x.size + y.size ≤ 9223372036854775807) : OpT C o env (upd env d (.cel Kd.str (x ++ y))) :=
  OpT.pure hH.2.1 hH.2.2 fun s F a w hr => ⟨.string (x ++ y), by
    have : ¬ ((x.size + y.size : Nat) : Int) > IntKind.i64.max := by simp only [IntKind.max, IntKind.signed, IntKind.bits]; simp; omega
    simp only [execOp, hH.1, (hp.gets hr).1, (hq.gets hr).1, binOp, eqGuard, Op.stringOp, if_neg this]; rfl, ⟨⟨rfl, by rw [ByteArray.size_append]; exact hl⟩, fun b hb => hb⟩⟩
end
end Go.Proofs.YtfnkphllkbkfaaaDoor.VL
