/- Proved here: the rules of the other texts once more, with fewer words: for walks that are printed. General: over every program. -/
import Derived.Test.YtfnkphllkbkfaaaDoorVX
set_option linter.unusedVariables false
set_option linter.unusedSimpArgs false
namespace Go.Proofs.YtfnkphllkbkfaaaDoor.VL
open Go
/-! ### What a test tells -/
class Pl (b : Bool) (P Q : outParam Prop) : Prop where
  t : b = true → P
  f : b = false → Q
instance (priority := low) Pl.any (b : Bool) : Pl b (b = true) (b = false) := ⟨id, id⟩
instance Pl.dec (p : Prop) [Decidable p] : Pl (decide p) p (¬ p) := ⟨of_decide_eq_true, of_decide_eq_false⟩
instance Pl.not (b : Bool) {P Q : Prop} [h : Pl b P Q] : Pl (!b) Q P := ⟨fun e => h.f (by simpa using e), fun e => h.t (by simpa using e)⟩
instance Pl.and (a b : Bool) {P Q P' Q' : Prop} [h : Pl a P Q] [h' : Pl b P' Q'] : Pl (a && b) (P ∧ P') (Q ∨ Q') :=
  ⟨fun e => by rw [Bool.and_eq_true] at e; exact ⟨h.t e.1, h'.t e.2⟩, fun e => by rw [Bool.and_eq_false_iff] at e; exact e.imp h.f h'.f⟩
instance Pl.or (a b : Bool) {P Q P' Q' : Prop} [h : Pl a P Q] [h' : Pl b P' Q'] : Pl (a || b) (P ∨ P') (Q ∧ Q') :=
  ⟨fun e => by rw [Bool.or_eq_true] at e; exact e.imp h.t h'.t, fun e => by rw [Bool.or_eq_false_iff] at e; exact ⟨h.f e.1, h'.f e.2⟩⟩
instance Pl.beq {α : Type} [BEq α] [LawfulBEq α] (x y : α) : Pl (x == y) (x = y) (¬ x = y) := ⟨eq_of_beq, fun e => by simpa using e⟩
instance Pl.bne {α : Type} [BEq α] [LawfulBEq α] (x y : α) : Pl (x != y) (¬ x = y) (x = y) := ⟨fun e => by simpa using e, fun e => by simpa using e⟩
/-- The outermost words alone. -/
class Po (b : Bool) (P Q : outParam Prop) : Prop where
  t : b = true → P
  f : b = false → Q
instance (priority := low) Po.any (b : Bool) : Po b (b = true) (b = false) := ⟨id, id⟩
instance Po.dec (p : Prop) [Decidable p] : Po (decide p) p (¬ p) := ⟨of_decide_eq_true, of_decide_eq_false⟩
instance Po.not (b : Bool) {P Q : Prop} [h : Po b P Q] : Po (!b) Q P := ⟨fun e => h.f (by simpa using e), fun e => h.t (by simpa using e)⟩
theorem pT {b : Bool} {P Q P' Q' : Prop} [h : Po b P Q] [h' : Pl b P' Q'] (e : b = true) : P ∧ P' := ⟨h.t e, h'.t e⟩
theorem pF {b : Bool} {P Q P' Q' : Prop} [h : Po b P Q] [h' : Pl b P' Q'] (e : b = false) : Q ∧ Q' := ⟨h.f e, h'.f e⟩
theorem oT {b : Bool} {P Q : Prop} [h : Po b P Q] (e : b = true) : P := h.t e
theorem oF {b : Bool} {P Q : Prop} [h : Po b P Q] (e : b = false) : Q := h.f e
theorem lT {b : Bool} {P Q : Prop} [h : Pl b P Q] (e : b = true) : P := h.t e
theorem lF {b : Bool} {P Q : Prop} [h : Pl b P Q] (e : b = false) : Q := h.f e

/-! ### A slot that is written anew -/
def nd (d : Nat) : KL → Bool
  | [] => true
  | (t, A) :: r => (t == d || (!(ofSlot d t) && !(A.dep d))) && nd d r
theorem nd_spec {d : Nat} : ∀ {e : KL}, nd d e = true → ∀ t, t ≠ d → (ofSlot d t = true → keep e t = .any) ∧ (keep e t).dep d = false
  | [], _, t, _ => ⟨fun _ => rfl, by simp [keep, As.dep]⟩
  | (t', A) :: r, h, t, hne => by
    simp only [nd, Bool.and_eq_true, Bool.or_eq_true, Bool.not_eq_true', beq_iff_eq] at h
    obtain ⟨h1, h3⟩ := h
    have ih := nd_spec h3 t hne
    by_cases ht : t = t'
    · subst ht
      rw [keep_cons_self]
      rcases h1 with h1 | ⟨h1, h2⟩
      · exact absurd h1 hne
      · exact ⟨fun h => absurd (h1.symm.trans h) (by decide), h2⟩
    · rw [keep_cons_ne _ _ ht]; exact ih
theorem upd_nd {d : Nat} {A : As} {e : KL} (h : nd d e = true) : upd (keep e) d A = keep ((d, A) :: e) := by
  funext t
  unfold upd
  by_cases ht : t = d
  · subst ht; rw [if_pos rfl, keep_cons_self]
  · rw [if_neg ht, keep_cons_ne _ _ ht]
    obtain ⟨h1, h2⟩ := nd_spec h t ht
    split
    · rename_i h3; exact (h1 h3).symm
    · rw [h2]; simp

section
variable {C : Cx} {env env' : Env} {e e' : KL} {Q : Exit → Act → World → Prop} {K : Act → World → Prop} {o : Oper} {fn : Func} {p q r : Operand} {c x y : Code} {ops : Array Oper} {l rest : List Oper} {d t : Nat} {T T' S E : TypeId} {α β γ : Type} {k : Kd α} {k' : Kd β} {A B : As}
/-! ### Heads, and operands -/
theorem H {X : Op} (h : (o.op, o.dst, Nat.blt d C.N, C.pn d) = (X, some d, true, none)) : Hd C o X d := by
  simp only [Prod.mk.injEq] at h
  exact ⟨h.1, h.2.1, okd h.2.2.1 h.2.2.2⟩
theorem ok' (h : (Nat.blt d C.N, C.pn d) = (true, none)) : C.ok d := by
  simp only [Prod.mk.injEq] at h
  exact okd h.1 h.2
theorem T1 (h : (env t, Nat.blt t 10000, A.flat) = (A, true, true)) : Opd C env (.tmp t) A := by
  simp only [Prod.mk.injEq] at h
  exact Tm h.1 h.2.1 h.2.2
theorem D1 {nd : List Nat} (h : ∀ t ∈ nd, env' t = env t) (hm : (env t, nd.contains t, Nat.blt t 10000, A.flat) = (A, true, true, true)) : Opd C env' (.tmp t) A := by
  simp only [Prod.mk.injEq] at hm
  exact D h hm.2.1 hm.1 hm.2.2.1 hm.2.2.2

/-! ### Rows of operations -/
theorem st (h : OpT C o (keep e) (upd (keep e) d A)) (hn : (o.guard.isNone && nd d e) = true) (k : AWl C ops rest (keep ((d, A) :: e)) Q) : AWl C ops (o :: rest) (keep e) Q := by
  rw [Bool.and_eq_true] at hn
  exact AWl.op (by simpa using hn.1) h (by rw [upd_nd hn.2]; exact k)
theorem sg (h : OpT C o env env') (ht : env'.to (keep e')) (hg : o.guard.isNone = true) (k : AWl C ops rest (keep e') Q) : AWl C ops (o :: rest) env Q :=
  AWl.sg (by simpa using hg) h ht k
theorem s2 (h : OpT C o (keep e) (updRes (keep e) d [A, B])) (hn : (o.guard.isNone && nodep d e && Nat.blt d 10000) = true) (k : AWl C ops rest (keep ((d + 10000, A) :: (d + 20000, B) :: e)) Q) : AWl C ops (o :: rest) (keep e) Q := by
  rw [Bool.and_eq_true, Bool.and_eq_true] at hn
  exact AWl.st2 (by simpa using hn.1.1) h hn.1.2 hn.2 k
/-- What a slot's memory holds has changed. -/
theorem sk (h : OpT C o (keep e) (updK (keep e) d A)) (hg : o.guard.isNone = true) (k : AWl C ops rest (keep ((d, A) :: e)) Q) : AWl C ops (o :: rest) (keep e) Q :=
  AWl.op (by simpa using hg) h (by
    have : updK (keep e) d A = keep ((d, A) :: e) := by
      funext u
      by_cases hu : u = d
      · subst hu; rw [updK_self, keep_cons_self]
      · rw [updK_ne _ _ hu, keep_cons_ne _ _ hu]
    rw [this]; exact k)
theorem rs {j : Nat} {want b : Bool} {t' : Nat} (hbw : b = want) (h : OpT C o (keep e) (upd (keep e) d A)) (hg : (o.guard, (ops[j]?).bind (·.dst), keep e t', Nat.blt t' 10000, nd d e) = (some (j, want), some t', .cel Kd.bool b, true, true))
    (k : AWl C ops rest (keep ((d, A) :: e)) Q) : AWl C ops (o :: rest) (keep e) Q := by
  simp only [Prod.mk.injEq] at hg
  obtain ⟨h1, h2, h3, h4, h5⟩ := hg
  exact AWl.run h1 h2 h3 (Nat.le_of_ble_eq_true h4) hbw h (by rw [upd_nd h5]; exact k)
theorem ps {j : Nat} {want b : Bool} (hbw : b = !want) (hg : (o.guard, (ops[j]?).bind (·.dst), keep e t, Nat.blt t 10000, o.dst, Nat.blt d C.N, C.pn d, nodep d e) = (some (j, want), some t, .cel Kd.bool b, true, some d, true, none, true))
    (k : AWl C ops rest (keep e) Q) : AWl C ops (o :: rest) (keep e) Q := by
  simp only [Prod.mk.injEq] at hg
  obtain ⟨h1, h2, h3, h4, h5, h6, h7, h8⟩ := hg
  exact AWl.pas h1 h2 h3 h4 hbw h5 (okd h6 h7) h8 k
/-- A region, and what follows it. -/
theorem sr {id : Nat} (h : AWl C l.toArray l env (Exit.then (fun a w => y.wp C.P Q a w) Q)) : AW C (.seq (.region id l.toArray false) y) env Q := AW.seq (AW.region h)
theorem nn (h : AX C .normal env Q) : AWl C ops [] env Q := AWl.nil h
theorem ng (h : AW C y env Q) : AWl C ops [] env (Exit.then (fun a w => y.wp C.P Q a w) Q) := AWl.nil (AX.go h)
/-! ### Moves and other frequent steps -/
/-- A value is copied. -/
theorem mvT {x : α} (h : (o.op, o.dst, Nat.blt d C.N, C.pn d, env t, Nat.blt t 10000) = (.move (.tmp t), some d, true, none, .cel k x, true)) : OpT C o env (upd env d (.cel k x)) := by
  simp only [Prod.mk.injEq] at h
  obtain ⟨h1, h2, h3, h4, h5, h6⟩ := h
  exact OpT.move (.inl h1) h2 (okd h3 h4) (Tm h5 h6 rfl) rfl
theorem asT {x : α} (h : (o.op, o.dst, Nat.blt d C.N, C.pn d, env t, Nat.blt t 10000) = (.assign (.tmp t), some d, true, none, .cel k x, true)) : OpT C o env (upd env d (.cel k x)) := by
  simp only [Prod.mk.injEq] at h
  obtain ⟨h1, h2, h3, h4, h5, h6⟩ := h
  exact OpT.move (.inr h1) h2 (okd h3 h4) (Tm h5 h6 rfl) rfl
/-- A constant. -/
theorem mvI {kk : IntKind} {n : Int} (h : (o.op, o.dst, Nat.blt d C.N, C.pn d, inRb kk n) = (.move (.const (.int kk n)), some d, true, none, true)) : OpT C o env (upd env d (.cel (Kd.int kk) n)) := by
  simp only [Prod.mk.injEq] at h
  obtain ⟨h1, h2, h3, h4, h5⟩ := h
  exact OpT.move (.inl h1) h2 (okd h3 h4) (I h5) rfl
theorem asI {kk : IntKind} {n : Int} (h : (o.op, o.dst, Nat.blt d C.N, C.pn d, inRb kk n) = (.assign (.const (.int kk n)), some d, true, none, true)) : OpT C o env (upd env d (.cel (Kd.int kk) n)) := by
  simp only [Prod.mk.injEq] at h
  obtain ⟨h1, h2, h3, h4, h5⟩ := h
  exact OpT.move (.inr h1) h2 (okd h3 h4) (I h5) rfl
theorem asB {b : Bool} (h : (o.op, o.dst, Nat.blt d C.N, C.pn d) = (.assign (.const (.bool b)), some d, true, none)) : OpT C o env (upd env d (.cel Kd.bool b)) := by
  simp only [Prod.mk.injEq] at h
  obtain ⟨h1, h2, h3, h4⟩ := h
  exact OpT.move (.inr h1) h2 (okd h3 h4) Opd.bool rfl

/-! ### What is kept -/
theorem kc (d : Nat) {x : α} {l : KL} (hA : env d = .cel k x) (h : env.to (keep l)) : env.to (keep ((d, .cel k x) :: l)) := Env.to_cons hA h
theorem ka (d : Nat) {x : α} {l : KL} (hA : env d = .agg k x) (h : env.to (keep l)) : env.to (keep ((d, .agg k x) :: l)) := Env.to_cons hA h
theorem ko (d : Nat) {x : List α} {l : KL} (hA : env d = .own E k x) (h : env.to (keep l)) : env.to (keep ((d, .own E k x) :: l)) := Env.to_cons hA h
theorem kb (d : Nat) {x : α} {l : KL} (hA : env d = .box E k x) (h : env.to (keep l)) : env.to (keep ((d, .box E k x) :: l)) := Env.to_cons hA h
theorem kc2 (d1 d2 : Nat) {x1 : α} {x2 : β} {l : KL} (hA : (env d1, env d2) = (.cel k x1, .cel k' x2)) (h : env.to (keep l)) : env.to (keep ((d1, .cel k x1) :: (d2, .cel k' x2) :: l)) := by
  simp only [Prod.mk.injEq] at hA
  exact Env.to_cons hA.1 (Env.to_cons hA.2 h)
theorem kc3 (d1 d2 d3 : Nat) {α3 : Type} {k3 : Kd α3} {x1 : α} {x2 : β} {x3 : α3} {l : KL} (hA : (env d1, env d2, env d3) = (.cel k x1, .cel k' x2, .cel k3 x3)) (h : env.to (keep l)) : env.to (keep ((d1, .cel k x1) :: (d2, .cel k' x2) :: (d3, .cel k3 x3) :: l)) := by
  simp only [Prod.mk.injEq] at hA
  exact Env.to_cons hA.1 (Env.to_cons hA.2.1 (Env.to_cons hA.2.2 h))
theorem kc4 (d1 d2 d3 d4 : Nat) {α3 α4 : Type} {k3 : Kd α3} {k4 : Kd α4} {x1 : α} {x2 : β} {x3 : α3} {x4 : α4} {l : KL} (hA : (env d1, env d2, env d3, env d4) = (.cel k x1, .cel k' x2, .cel k3 x3, .cel k4 x4)) (h : env.to (keep l)) :
    env.to (keep ((d1, .cel k x1) :: (d2, .cel k' x2) :: (d3, .cel k3 x3) :: (d4, .cel k4 x4) :: l)) := by
  simp only [Prod.mk.injEq] at hA
  exact Env.to_cons hA.1 (Env.to_cons hA.2.1 (Env.to_cons hA.2.2.1 (Env.to_cons hA.2.2.2 h)))

/-! ### Control -/
theorem cd {b : Bool} (h : (env t, Nat.blt t 10000) = (.cel Kd.bool b, true)) (h1 : b = true → AW C x env Q) (h2 : b = false → AW C y env Q) : AW C (.cond (.tmp t) x y) env Q := by
  simp only [Prod.mk.injEq] at h
  exact AW.cond h.1 (Nat.le_of_ble_eq_true h.2) h1 h2
theorem rT (h : AX C .ret env Q) : AX C .ret env (Exit.then K Q) := h
theorem rK {id : Nat} (h : AX C .ret env Q) : AX C .ret env (Exit.inBlock id Q) := h
theorem xT {id : Nat} (h : AX C (.exit id) env Q) : AX C (.exit id) env (Exit.then K Q) := h
theorem xM {id id' : Nat} (hne : Nat.beq id id' = false) (h : AX C (.exit id) env Q) : AX C (.exit id) env (Exit.inBlock id' Q) := AX.exit_miss (Nat.ne_of_beq_eq_false hne) h
/-- One result. -/
theorem rt1 {ex : Exit} {t : Nat} {x y : α} (h : (fn.results, env t, Nat.blt t 10000) = (#[.tmp t], .cel k x, true)) (he : ex = .ret ∨ ex = .normal) (hx : x = y) : AX C ex env (RetQ C fn [.cel k y] []) := by
  simp only [Prod.mk.injEq] at h
  exact AX.rt (rs := [.tmp t]) (ts := [some t]) he h.1 (ROs.cons (RO.tmp (At.self (Nat.le_of_ble_eq_true h.2.2)) (Kv h.2.1 hx) rfl) ROs.nil) (by simp [osl]) OutsOK.nil
/-! ### Regions of open order -/
theorem upd_res (d : Nat) (out : List As) (nds : List Nat) (env : Env) : DJ.upd ⟨[.res d out], nds⟩ env = updRes env d out := rfl
theorem upd_res1 (d : Nat) (A : As) (nds : List Nat) (env : Env) : DJ.upd ⟨[.res d [A]], nds⟩ env = upd env d A := by rw [upd_res, updRes_one]
theorem upd_two (t d : Nat) (A B : As) (nds : List Nat) (env : Env) : DJ.upd ⟨[.res t [B], .res d [A]], nds⟩ env = upd (upd env t B) d A := by
  rw [← updRes_one, ← updRes_one]; rfl
def DH (C : Cx) (ops : Array Oper) (e : KL) (l : List Oper) (K : KL → List DJ → Prop) : Prop := ∃ I e', DCj C ops (keep e) l I (keep e') ∧ K e' I
theorem dn {K : KL → List DJ → Prop} (h : K e []) : DH C ops e [] K := ⟨[], e, DCj.nil _, h⟩
theorem DH.step {K : KL → List DJ → Prop} {l : List Oper} {i : DJ} {e2 : KL} (h : DSt C ops (keep e) o i) (he : i.upd (keep e) = keep e2) (r : DH C ops e2 l (fun e' I => K e' (i :: I))) : DH C ops e (o :: l) K := by
  obtain ⟨I, e', h1, h2⟩ := r
  exact ⟨_, _, DCj.cons h (by rw [he]; exact h1), h2⟩
/-- One operation. -/
theorem d1 {K : KL → List DJ → Prop} {l : List Oper} {d : Nat} {A : As} (nds : List Nat) (h : ∀ env', (∀ t ∈ nds, env' t = keep e t) → OpT C o env' (upd env' d A)) (hn : (o.guard.isNone && nd d e) = true)
    (r : DH C ops ((d, A) :: e) l (fun e' I => K e' (⟨[.res d [A]], nds⟩ :: I))) : DH C ops e (o :: l) K := by
  rw [Bool.and_eq_true] at hn
  exact DH.step (.inr ⟨.inl (by simpa using hn.1), fun env' he => by rw [upd_res1]; exact h env' he⟩) (by rw [upd_res1, upd_nd hn.2]) r
/-- One that a guard lets run. -/
theorem dr {K : KL → List DJ → Prop} {l : List Oper} {d : Nat} {A : As} (nds : List Nat) {j : Nat} {want b : Bool} (hbw : b = want) (h : ∀ env', (∀ t ∈ nds, env' t = keep e t) → OpT C o env' (upd env' d A))
    (hg : (o.guard, (ops[j]?).bind (·.dst), nds.contains t, keep e t, Nat.blt t 10000, nd d e) = (some (j, want), some t, true, .cel Kd.bool b, true, true))
    (r : DH C ops ((d, A) :: e) l (fun e' I => K e' (⟨[.res d [A]], nds⟩ :: I))) : DH C ops e (o :: l) K := by
  simp only [Prod.mk.injEq] at hg
  obtain ⟨g1, g2, g3, g4, g5, g6⟩ := hg
  exact DH.step (.inr ⟨.inr ⟨j, want, t, b, g1, g2, by simpa using g3, g4, Nat.le_of_ble_eq_true g5, hbw⟩, fun env' he => by rw [upd_res1]; exact h env' he⟩) (by rw [upd_res1, upd_nd g6]) r
theorem d2 {K : KL → List DJ → Prop} {l : List Oper} {d : Nat} {A B : As} (nds : List Nat) (h : ∀ env', (∀ t ∈ nds, env' t = keep e t) → OpT C o env' (updRes env' d [A, B])) (hn : (o.guard.isNone && nodep d e && Nat.blt d 10000) = true)
    (r : DH C ops ((d + 10000, A) :: (d + 20000, B) :: e) l (fun e' I => K e' (⟨[.res d [A, B]], nds⟩ :: I))) : DH C ops e (o :: l) K := by
  rw [Bool.and_eq_true, Bool.and_eq_true] at hn
  exact DH.step (.inr ⟨.inl (by simpa using hn.1.1), fun env' he => by rw [upd_res]; exact h env' he⟩) (by rw [upd_res]; exact updRes_two hn.1.2 hn.2) r
/-- What is owned goes over. -/
theorem dt {K : KL → List DJ → Prop} {l : List Oper} {t d : Nat} {A : As} (nds : List Nat) (h : ∀ env', (∀ t ∈ nds, env' t = keep e t) → OpT C o env' (upd (upd env' t .any) d A)) (hn : o.guard.isNone = true)
    (r : DH C ops ((d, A) :: drp d ((t, .any) :: drp t e)) l (fun e' I => K e' (⟨[.res t [.any], .res d [A]], nds⟩ :: I))) : DH C ops e (o :: l) K :=
  DH.step (.inr ⟨.inl (by simpa using hn), fun env' he => by rw [upd_two]; exact h env' he⟩) (by rw [upd_two, upd_drp, upd_drp]) r
theorem DH.pas {K : KL → List DJ → Prop} {l : List Oper} {d : Nat} {nds : List Nat} (h : DSt C ops (keep e) o ⟨[.res d [.any]], nds⟩) (hn : nodep d e = true) (hd : Nat.blt d 10000 = true)
    (r : DH C ops e l (fun e' I => K e' (⟨[.res d [.any]], nds⟩ :: I))) : DH C ops e (o :: l) K :=
  DH.step h (by rw [upd_res1]; exact upd_any_keep hn (Nat.le_of_ble_eq_true hd)) r
theorem DH.val {K : KL → List DJ → Prop} {l : List Oper} {d : Nat} {nds : List Nat} (h : DSt C ops (keep e) o ⟨[.res d [.val undef]], nds⟩) (hn : nd d e = true)
    (r : DH C ops ((d, .val undef) :: e) l (fun e' I => K e' (⟨[.res d [.val undef]], nds⟩ :: I))) : DH C ops e (o :: l) K :=
  DH.step h (by rw [upd_res1]; exact upd_nd hn) r
/-- One that a guard keeps from running. -/
theorem dp {K : KL → List DJ → Prop} {l : List Oper} {d : Nat} {j : Nat} {want b : Bool} (hbw : b = !want)
    (hg : (o.guard, (ops[j]?).bind (·.dst), keep e t, Nat.blt t 10000, o.dst, Nat.blt d C.N, C.pn d, nodep d e, Nat.blt d 10000) = (some (j, want), some t, .cel Kd.bool b, true, some d, true, none, true, true))
    (r : DH C ops e l (fun e' I => K e' (⟨[.res d [.any]], [t]⟩ :: I))) : DH C ops e (o :: l) K := by
  simp only [Prod.mk.injEq] at hg
  obtain ⟨g1, g2, g3, g4, g5, g6, g7, g8, g9⟩ := hg
  exact DH.pas (.inl ⟨j, want, t, d, .any, g1, g2, by simp, .inl (by rw [g3, hbw]), Nat.le_of_ble_eq_true g4, rfl, .inl rfl, g5, okd g6 g7⟩) g8 g9 r
theorem dh {id : Nat} (hm : C.P.follows .mixedOrders = true) (h : DH C l.toArray e l (fun e' I => dOKj l I = true ∧ cleanj e I = true ∧ AX C .normal (keep e') Q)) : AW C (.region id l.toArray true) (keep e) Q := by
  obtain ⟨I, e', h1, h2, h3, h4⟩ := h
  exact AW.drawj hm h1 h2 h3 h4
end
/-- A function's contract follows from its walk. -/
theorem acI {P : Program} {f : FuncId} {fn : Func} {N : Nat} {c : Code} {ins out outs : List As} (hf : P.funcs[f]? = some fn) (hN : N ≤ 10000)
    (hb : (fn.body, fn.ntmps, Nat.ble ins.length N, ins.all As.free, Nat.ble outs.length ins.length, fn.name == "runtime.NumGoroutine") = (some c, N, true, true, true, false))
    (h : ∀ (w0 : World) (hd : FS) (s0 : Hp) (args : Array Value), AW ⟨P, N, w0, hd, hN, pnOf outs args, s0⟩ c (envOf ins) (RetQ ⟨P, N, w0, hd, hN, pnOf outs args, s0⟩ fn out outs)) : AC P f ins out outs := by
  simp only [Prod.mk.injEq] at hb
  obtain ⟨h1, h2, h3, h4, h5, h6⟩ := hb
  exact ⟨ACall.intro hf h1 h2 hN (Nat.le_of_ble_eq_true h3) h4 (Nat.le_of_ble_eq_true h5) (fun w0 hd s0 args _ => h w0 hd s0 args), fn, hf, by rw [h1]; rfl, h6⟩
end Go.Proofs.YtfnkphllkbkfaaaDoor.VL
