/- Proved here: rules for walking code with the words of VA: control, and operations that touch no memory. General: over every program. -/
import Derived.Test.YtfnkphllkbkfaaaDoorVA
import Derived.RowKit
set_option linter.unusedVariables false
set_option linter.unusedSimpArgs false
namespace Go.Proofs.YtfnkphllkbkfaaaDoor.VL
open Go

structure Cx where
  P : Program
  N : Nat
  w0 : World
  hd : FS
  hN : N ≤ 10000
  pn : Nat → Option Value
  s0 : Hp
def Cx.ok (C : Cx) (d : Nat) : Prop := d < C.N ∧ C.pn d = none
/-- An operation, and where its result goes. -/
def Hd (C : Cx) (o : Oper) (X : Op) (d : Nat) : Prop := o.op = X ∧ o.dst = some d ∧ C.ok d
def Cx.R (C : Cx) (env : Env) (a : Act) (w : World) : Prop := RelE C.N C.w0 C.hd C.pn C.s0 env a w

def AW (C : Cx) (c : Code) (env : Env) (Q : Exit → Act → World → Prop) : Prop := ∀ a w, C.R env a w → c.wp C.P Q a w
def AWl (C : Cx) (ops : Array Oper) (l : List Oper) (env : Env) (Q : Exit → Act → World → Prop) : Prop := ∀ a w, C.R env a w → wpList C.P ops Q l a w
/-- What holds where a piece of code is left. -/
def AX (C : Cx) (e : Exit) (env : Env) (Q : Exit → Act → World → Prop) : Prop := ∀ a w, C.R env a w → Q e a w
def OpT (C : Cx) (o : Oper) (env env' : Env) : Prop :=
  ∀ (Q : Exit → Act → World → Prop) (K : Act → World → Prop) a w, C.R env a w → (∀ a' w', C.R env' a' w' → K a' w') → o.wp C.P a w K Q

section
variable {C : Cx} {env env' : Env} {Q : Exit → Act → World → Prop} {x y c : Code} {ops : Array Oper} {l rest : List Oper} {o : Oper} {K : Act → World → Prop}

/-! ### Control -/
theorem AW.seq (h : AW C x env (Exit.then (fun a w => y.wp C.P Q a w) Q)) : AW C (.seq x y) env Q := fun a w hr => wp_seq (h a w hr)
theorem AW.skip (h : AX C .normal env Q) : AW C .skip env Q := fun a w hr => wp_skip (h a w hr)
theorem AW.region {id : Nat} (h : AWl C l.toArray l env Q) : AW C (.region id l.toArray false) env Q := fun a w hr => wp_region_lit (h a w hr)
theorem AWl.nil (h : AX C .normal env Q) : AWl C ops [] env Q := fun a w hr => wpList_nil (h a w hr)
theorem AW.block {id : Nat} (h : AW C c env (Exit.inBlock id Q)) : AW C (.block id c) env Q := fun a w hr => wp_block (h a w hr)
theorem AW.exit {id : Nat} (h : AX C (.exit id) env Q) : AW C (.exit id) env Q := fun a w hr => wp_exit (h a w hr)
theorem AW.ret (h : AX C .ret env Q) : AW C .ret env Q := fun a w hr => wp_ret (h a w hr)
theorem AX.go (h : AW C y env Q) : AX C .normal env (Exit.then (fun a w => y.wp C.P Q a w) Q) := h
theorem AX.normal_block {id : Nat} (h : AX C .normal env Q) : AX C .normal env (Exit.inBlock id Q) := h
theorem AX.exit_hit {id : Nat} (h : AX C .normal env Q) : AX C (.exit id) env (Exit.inBlock id Q) := fun a w hr => by
  simp only [Exit.inBlock, if_true]; exact h a w hr
theorem AX.exit_miss {id id' : Nat} (hne : id ≠ id') (h : AX C (.exit id) env Q) : AX C (.exit id) env (Exit.inBlock id' Q) := fun a w hr => by
  simp only [Exit.inBlock, if_neg hne]; exact h a w hr

/-- Less is known, or the same in other words. -/
def Env.to (env env' : Env) : Prop := ∀ t, env' t = .any ∨ env' t = env t
theorem Cx.R.to {a : Act} {w : World} (h : C.R env a w) (he : env.to env') : C.R env' a w := by
  obtain ⟨s, F, hr⟩ := h
  exact hr.weaken he
theorem AW.to (he : env.to env') (h : AW C c env' Q) : AW C c env Q := fun a w hr => h a w (hr.to he)
theorem AWl.to (he : env.to env') (h : AWl C ops l env' Q) : AWl C ops l env Q := fun a w hr => h a w (hr.to he)
theorem AX.to {e : Exit} (he : env.to env') (h : AX C e env' Q) : AX C e env Q := fun a w hr => h a w (hr.to he)
/-- The slots that are kept; of all others nothing is known. -/
def keep (l : List (Nat × As)) : Env := fun t => match l with
  | [] => .any
  | (d, A) :: r => if t = d then A else keep r t
theorem Env.to_nil : env.to (keep []) := fun t => .inl rfl
theorem Env.to_cons {d : Nat} {A : As} {l : List (Nat × As)} (hA : env d = A) (h : env.to (keep l)) : env.to (keep ((d, A) :: l)) := by
  intro t
  unfold keep
  by_cases ht : t = d
  · subst ht; rw [if_pos rfl]; exact .inr hA.symm
  · rw [if_neg ht]; exact h t

theorem AW.loop {ι : Type} (I : ι → Prop) (E : ι → Env) (m : ι → Nat) (x0 : ι) (h0 : I x0) (he : env.to (E x0))
    (round : ∀ z, I z → AW C c (E z) (Exit.then (fun a w => ∃ z', I z' ∧ m z' < m z ∧ C.R (E z') a w) Q)) : AW C (.loop c) env Q := by
  intro a w hr
  refine wp_loop_ghost (fun n a w => ∃ z, I z ∧ m z = n ∧ C.R (E z) a w) (m x0) ⟨x0, h0, rfl, hr.to he⟩ ?_
  rintro n a w ⟨z, hz, rfl, hR⟩
  refine wp_mono (round z hz a w hR) ?_
  intro e a' w' hq
  cases e with
  | normal => obtain ⟨z', h1, h2, h3⟩ := hq; exact ⟨m z', h2, z', h1, rfl, h3⟩
  | _ => exact hq
theorem AX.again {ι : Type} {I : ι → Prop} {E : ι → Env} {m : ι → Nat} {z : ι} (z' : ι) (h : I z') (hm : m z' < m z) (he : env.to (E z')) :
    AX C .normal env (Exit.then (fun a w => ∃ z', I z' ∧ m z' < m z ∧ C.R (E z') a w) Q) := fun a w hr => ⟨z', h, hm, hr.to he⟩

/-! ### What a slot tells -/
def As.flat : As → Bool
  | .own .. | .box .. | .deep .. => false
  | _ => true
theorem As.flat_no {s : Hp} {w : World} {g : Nat → Value} {v : Value} {F : FS} {A : As} (h : A.holds s w g v F) (hf : A.flat = true) : A.holds s w g v FS.no := by
  cases A with
  | own => cases hf
  | box => cases hf
  | deep => cases hf
  | any => exact fun b hb => hb
  | val u => exact ⟨h.1, fun b hb => hb⟩
  | cel k x => exact ⟨h.1, fun b hb => hb⟩
  | agg k x => exact ⟨h.1, fun b hb => hb⟩
  | ali t => exact ⟨h.1, fun b hb => hb⟩
  | pel t i k o k' f h' => exact ⟨h.1, fun b hb => hb⟩
  | clo f k x => exact ⟨h.1, fun b hb => hb⟩
  | cap f ts => exact ⟨h.1, fun b hb => hb⟩
  | vw t lo hi z => exact ⟨h.1, fun b hb => hb⟩
/-- An operand's value. -/
def Opd (C : Cx) (env : Env) (x : Operand) (A : As) : Prop := ∀ s F a w, Rel C.N C.w0 C.hd C.pn C.s0 env s F a w → A.holds s w (gv a.tmps) (a.eval x) FS.no
theorem gv_lo {tmps : Array Value} {t : Nat} (h : t < 10000) : gv tmps t = tmps.getD t undef := by unfold gv; rw [if_pos h]
theorem Opd.tmp {t : Nat} {A : As} (h : env t = A) (ht : t < 10000) (hf : A.flat = true) : Opd C env (.tmp t) A := fun s F a w hr => by
  have h1 := hr.slot t
  rw [h, gv_lo ht] at h1
  exact As.flat_no h1 hf
theorem Opd.int {k : IntKind} {n : Int} (h : inR k n) : Opd C env (.const (.int k n)) (.cel (Kd.int k) n) := fun s F a w hr => ⟨⟨rfl, h⟩, fun b hb => hb⟩
theorem Opd.u64 {n : Int} (h : 0 ≤ n ∧ n < 18446744073709551616) : Opd C env (.const (.int .u64 n)) (.cel Kd.u64 (BitVec.ofInt 64 n)) := fun s F a w hr => by
  refine ⟨?_, fun b hb => hb⟩
  show [Value.int .u64 n] = [Value.int .u64 ((BitVec.ofInt 64 n).toNat : Int)]
  have : ((BitVec.ofInt 64 n).toNat : Int) = n := by
    rw [BitVec.toNat_ofInt]; omega
  rw [this]
theorem Opd.bool {b : Bool} : Opd C env (.const (.bool b)) (.cel Kd.bool b) := fun s F a w hr => ⟨rfl, fun b hb => hb⟩
theorem Opd.str {b : ByteArray} (h : b.size ≤ 9223372036854775807) : Opd C env (.const (.string b)) (.cel Kd.str b) := fun s F a w hr => ⟨⟨rfl, h⟩, fun b hb => hb⟩
theorem Opd.const {v : Value} : Opd C env (.const v) (.val v) := fun s F a w hr => ⟨rfl, fun b hb => hb⟩
theorem Opd.func {f : FuncId} : Opd C env (.func f) (.clo f Kd.unit ()) := fun s F a w hr => ⟨⟨#[], rfl, rfl⟩, fun b hb => hb⟩

/-- What is known of data that has been read. -/
def Kd.ok {α : Type} (k : Kd α) (x : α) : Prop := ∃ s cs, k.rd s cs x
theorem R_ok {α : Type} {k : Kd α} {z : α} {t : Nat} (h : env t = .cel k z) {a : Act} {w : World} (hr : C.R env a w) : k.ok z := by
  obtain ⟨s, F, hr⟩ := hr
  have h1 := hr.slot t
  rw [h] at h1
  exact ⟨s, _, h1.1⟩
theorem R_okA {α : Type} {k : Kd α} {z : α} {t : Nat} (h : env t = .agg k z) {a : Act} {w : World} (hr : C.R env a w) : k.ok z := by
  obtain ⟨s, F, hr⟩ := hr
  have h1 := hr.slot t
  rw [h] at h1
  obtain ⟨⟨cs, e, h2⟩, _⟩ := h1
  exact ⟨s, _, h2⟩
theorem RdL.ok {α : Type} {k : Kd α} {s : Hp} {xs : List α} : ∀ {cs}, RdL k s cs xs → ∀ x ∈ xs, k.ok x := by
  induction xs with
  | nil => intro cs h x hx; cases hx
  | cons x xs ih =>
    intro cs h y hy
    obtain ⟨c, d, rfl, hc, hd⟩ := h
    cases hy with
    | head => exact ⟨s, c, hc⟩
    | tail _ hy => exact ih hd y hy
theorem ok_int {k : IntKind} {n : Int} (h : (Kd.int k).ok n) : inR k n := by obtain ⟨s, cs, h⟩ := h; exact h.2
theorem ok_i64 {n : Int} (h : (Kd.int .i64).ok n) : -9223372036854775808 ≤ n ∧ n ≤ 9223372036854775807 := ok_int h
theorem ok_str {n : ByteArray} (h : Kd.str.ok n) : n.size ≤ 9223372036854775807 := by obtain ⟨s, cs, h⟩ := h; exact h.2
theorem ok_pair {α β : Type} {a : Kd α} {b : Kd β} {z : α × β} (h : (Kd.pair a b).ok z) : a.ok z.1 ∧ b.ok z.2 := by
  obtain ⟨s, cs, c, d, rfl, h1, h2⟩ := h; exact ⟨⟨s, c, h1⟩, ⟨s, d, h2⟩⟩
theorem ok_slice {α : Type} {k : Kd α} {xs : List α} (h : (Kd.slice k).ok xs) : (∀ z ∈ xs, k.ok z) ∧ xs.length ≤ 9223372036854775807 := by
  obtain ⟨s, cs, A, c, rfl, h1, h2, h3⟩ := h
  refine ⟨fun z hz => ?_, by omega⟩
  obtain ⟨ad, cells, _, h4, _⟩ := h3 (List.length_pos_of_mem hz)
  exact h4.ok z hz
theorem AW.fact {p : Prop} (hp : ∀ a w, C.R env a w → p) (h : p → AW C c env Q) : AW C c env Q := fun a w hr => h (hp a w hr) a w hr
theorem AWl.fact {p : Prop} (hp : ∀ a w, C.R env a w → p) (h : p → AWl C ops l env Q) : AWl C ops l env Q := fun a w hr => h (hp a w hr) a w hr
theorem AX.fact {e : Exit} {p : Prop} (hp : ∀ a w, C.R env a w → p) (h : p → AX C e env Q) : AX C e env Q := fun a w hr => h (hp a w hr) a w hr

theorem AW.cond {t : Nat} {b : Bool} (h : env t = .cel Kd.bool b) (ht : t < 10000) (h1 : b = true → AW C x env Q) (h2 : b = false → AW C y env Q) : AW C (.cond (.tmp t) x y) env Q := by
  intro a w hr
  obtain ⟨s, F, hr'⟩ := id hr
  have h3 := Opd.tmp (C := C) h ht rfl s F a w hr'
  have h4 : a.eval (.tmp t) = .bool b := by have := h3.1; simpa [Kd.bool] using this
  exact wp_cond_split h4 (fun hb => h1 hb a w hr) (fun hb => h2 hb a w hr)

/-! ### Operations in a row -/
theorem AWl.op (hg : o.guard = none) (h : OpT C o env env') (k : AWl C ops rest env' Q) : AWl C ops (o :: rest) env Q := fun a w hr =>
  wpList_plain hg fun K hK => h Q K a w hr (fun a' w' hr' => hK a' w' (k a' w' hr'))
theorem wanted_of {j t : Nat} {want b : Bool} (hg : o.guard = some (j, want)) (ht : (ops[j]?).bind (·.dst) = some t) (hb : env t = .cel Kd.bool b) (htl : t < 10000) {a : Act} {w : World} (hr : C.R env a w) :
    Region.wanted o (yielded ops a.tmps) = (b == want) := by
  obtain ⟨s, F, hr'⟩ := hr
  have h3 := Opd.tmp (C := C) hb htl rfl s F a w hr'
  have h4 : a.tmps.getD t undef = .bool b := by
    have h5 : a.eval (.tmp t) = .bool b := by have := h3.1; simpa [Kd.bool] using this
    exact h5
  have h5 : a.tmps[t]? = some (.bool b) := by
    rw [Array.getD_eq_getD_getElem?] at h4
    cases h6 : a.tmps[t]? with
    | none => rw [h6] at h4; cases h4
    | some u => rw [h6] at h4; simp at h4; rw [h4]
  simp only [Region.wanted, hg, yielded, ht, Option.bind_some, h5]
  cases b <;> cases want <;> rfl
theorem wanted_no {j t : Nat} {want : Bool} (hg : o.guard = some (j, want)) (ht : (ops[j]?).bind (·.dst) = some t) (hb : env t = .val undef) (htl : t < 10000) {a : Act} {w : World} (hr : C.R env a w) :
    Region.wanted o (yielded ops a.tmps) = false := by
  obtain ⟨s, F, hr'⟩ := hr
  have h3 := (Opd.tmp (C := C) hb htl rfl s F a w hr').1
  have h4 : a.tmps.getD t undef = undef := h3
  have h5 : yielded ops a.tmps j = none := by
    unfold yielded
    rw [ht, Option.bind_some]
    rw [Array.getD_eq_getD_getElem?] at h4
    cases h6 : a.tmps[t]? with
    | none => rfl
    | some u =>
      rw [h6] at h4
      simp only [Option.getD_some] at h4
      subst h4
      rfl
  simp only [Region.wanted, hg, h5]
  cases want <;> rfl
theorem AWl.run {j t : Nat} {want b : Bool} (hg : o.guard = some (j, want)) (ht : (ops[j]?).bind (·.dst) = some t) (hb : env t = .cel Kd.bool b) (htl : t < 10000) (hbw : b = want)
    (h : OpT C o env env') (k : AWl C ops rest env' Q) : AWl C ops (o :: rest) env Q := fun a w hr =>
  wpList_step fun K hK => by
    rw [if_pos (by rw [wanted_of hg ht hb htl hr, hbw]; simp)]
    exact h Q K a w hr (fun a' w' hr' => hK a' w' (k a' w' hr'))
theorem AWl.pass {j t d : Nat} {want b : Bool} (hg : o.guard = some (j, want)) (ht : (ops[j]?).bind (·.dst) = some t) (hb : env t = .cel Kd.bool b) (htl : t < 10000) (hbw : b = !want)
    (hd : o.dst = some d) (hdN : C.ok d) (k : AWl C ops rest (upd env d .any) Q) : AWl C ops (o :: rest) env Q := fun a w hr =>
  wpList_step fun K hK => by
    rw [if_neg (by rw [wanted_of hg ht hb htl hr, hbw]; cases want <;> simp)]
    rw [hd]
    obtain ⟨s, F, hr'⟩ := hr
    exact hK _ _ (k _ _ (hr'.put0 hdN.1 (Nat.lt_of_lt_of_le hdN.1 C.hN) hdN.2 (fun b hb => hb)))

/-- An operation that only computes. -/
theorem OpT.pure {d : Nat} {A : As} (hd : o.dst = some d) (hdN : C.ok d)
    (h : ∀ s F a w, Rel C.N C.w0 C.hd C.pn C.s0 env s F a w → ∃ v, (execOp a.eval o).run C.P w = .ok (.value v) w ∧ A.holds s w (gv (a.tmps.setIfInBounds d v)) v FS.no) : OpT C o env (upd env d A) := by
  intro Q K a w hr hK
  obtain ⟨s, F, hr'⟩ := hr
  obtain ⟨v, h1, h2⟩ := h s F a w hr'
  unfold Oper.wp
  rw [h1, Oper.upon_value, hd]
  exact hK _ _ (hr'.put0 hdN.1 (Nat.lt_of_lt_of_le hdN.1 C.hN) hdN.2 h2)
/-- The same where what comes out speaks of no other slot. -/
def As.free : As → Bool
  | .ali .. | .pel .. | .cap .. | .vw .. => false
  | _ => true
theorem As.holds_free {s : Hp} {w : World} {g g' : Nat → Value} {v : Value} {F : FS} {A : As} (h : A.holds s w g v F) (hf : A.free = true) : A.holds s w g' v F := by
  cases A with
  | ali => cases hf
  | pel => cases hf
  | cap => cases hf
  | vw => cases hf
  | _ => exact h
theorem OpT.move {p : Operand} {d : Nat} {A : As} (ho : o.op = .move p ∨ o.op = .assign p) (hd : o.dst = some d) (hdN : C.ok d) (hA : Opd C env p A) (hf : A.free = true) : OpT C o env (upd env d A) :=
  OpT.pure hd hdN fun s F a w hr => ⟨a.eval p, by rcases ho with ho | ho <;> simp only [execOp, ho] <;> rfl, As.holds_free (hA s F a w hr) hf⟩
/-- A copy of what is owned elsewhere. -/
theorem OpT.alias {t d : Nat} (hH : Hd C o (.move (.tmp t)) d) (htl : t < 10000) (hne : t ≠ d) : OpT C o env (upd env d (.ali t)) :=
  OpT.pure hH.2.1 hH.2.2 fun s F a w hr => ⟨a.eval (.tmp t), by simp only [execOp, hH.1]; rfl, ⟨by
    have hof : ofSlot d t = false := by simp [ofSlot, Nat.mod_eq_of_lt htl, hne]
    rw [gv_put_ne _ hof, gv_lo htl]
    rfl, htl⟩, fun b hb => hb⟩
theorem OpT.pick {p q r : Operand} {d : Nat} {b : Bool} {A B : As} (hH : Hd C o (.pick p q r) d) (hp : Opd C env p (.cel Kd.bool b))
    (hq : b = true → Opd C env q A) (hr : b = false → Opd C env r B) (hA : A.free = true) (hB : B.free = true) : OpT C o env (upd env d (if b = true then A else B)) :=
  OpT.pure hH.2.1 hH.2.2 fun s F a w h => by
    have h1 : a.eval p = .bool b := by have := (hp s F a w h).1; simpa [Kd.bool] using this
    refine ⟨if b then a.eval q else a.eval r, ?_, ?_⟩
    · simp only [execOp, hH.1, h1, asBool]; rfl
    · cases b
      · simpa using As.holds_free (hr rfl s F a w h) hB
      · simpa using As.holds_free (hq rfl s F a w h) hA
end
end Go.Proofs.YtfnkphllkbkfaaaDoor.VL
