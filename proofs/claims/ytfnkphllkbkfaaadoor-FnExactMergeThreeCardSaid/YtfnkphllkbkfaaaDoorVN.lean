/- Proved here: the rules of the other texts with short names, for what is known in rows (keep). General: over every program. -/
import Derived.Test.YtfnkphllkbkfaaaDoorVM
set_option linter.unusedVariables false
set_option linter.unusedSimpArgs false
namespace Go.Proofs.YtfnkphllkbkfaaaDoor.VL
open Go

abbrev KL := List (Nat × As)
def nodep (d : Nat) : KL → Bool
  | [] => true
  | (t, A) :: r => !(ofSlot d t) && !(A.dep d) && nodep d r
def drp (d : Nat) : KL → KL
  | [] => []
  | (t, A) :: r => (t, if ofSlot d t || A.dep d then .any else A) :: drp d r
theorem keep_cons_self (d : Nat) (A : As) (e : KL) : keep ((d, A) :: e) d = A := if_pos rfl
theorem keep_cons_ne {d t : Nat} (A : As) (e : KL) (h : t ≠ d) : keep ((d, A) :: e) t = keep e t := if_neg h
theorem nodep_spec {d : Nat} : ∀ {e : KL}, nodep d e = true → ∀ t, (ofSlot d t = true → keep e t = .any) ∧ (keep e t).dep d = false
  | [], _, t => ⟨fun _ => rfl, by simp [keep, As.dep]⟩
  | (t', A) :: r, h, t => by
    simp only [nodep, Bool.and_eq_true, Bool.not_eq_true'] at h
    obtain ⟨⟨h1, h2⟩, h3⟩ := h
    have ih := nodep_spec h3 t
    by_cases ht : t = t'
    · subst ht
      rw [keep_cons_self]
      exact ⟨fun h => absurd (h1.symm.trans h) (by decide), h2⟩
    · rw [keep_cons_ne _ _ ht]; exact ih
theorem upd_keep {d : Nat} {A : As} {e : KL} (h : nodep d e = true) : upd (keep e) d A = keep ((d, A) :: e) := by
  funext t
  unfold upd
  by_cases ht : t = d
  · subst ht; rw [if_pos rfl, keep_cons_self]
  · rw [if_neg ht, keep_cons_ne _ _ ht]
    obtain ⟨h1, h2⟩ := nodep_spec h t
    split
    · rename_i h3; exact (h1 h3).symm
    · rw [h2]; simp
theorem drp_keep {d : Nat} : ∀ {e : KL} (t : Nat), keep (drp d e) t = if ofSlot d t then .any else if (keep e t).dep d then .any else keep e t
  | [], t => by simp [drp, keep, As.dep]
  | (t', B) :: r, t => by
    have ih := drp_keep (d := d) (e := r) t
    by_cases ht : t = t'
    · subst ht
      have e1 : drp d ((t, B) :: r) = (t, if ofSlot d t || B.dep d then .any else B) :: drp d r := rfl
      rw [e1, keep_cons_self, keep_cons_self]
      cases ofSlot d t <;> cases B.dep d <;> rfl
    · have e1 : drp d ((t', B) :: r) = (t', if ofSlot d t' || B.dep d then .any else B) :: drp d r := rfl
      rw [e1, keep_cons_ne _ _ ht, keep_cons_ne _ _ ht]
      exact ih
theorem upd_drp {d : Nat} {A : As} {e : KL} : upd (keep e) d A = keep ((d, A) :: drp d e) := by
  funext t
  unfold upd
  by_cases ht : t = d
  · subst ht; rw [if_pos rfl, keep_cons_self]
  · rw [if_neg ht, keep_cons_ne _ _ ht, drp_keep]

section
variable {C : Cx} {env env' : Env} {e e' : KL} {Q : Exit → Act → World → Prop} {o : Oper} {fn : Func} {p q r : Operand} {c x y : Code} {ops : Array Oper} {l rest : List Oper} {d t : Nat} {T T' S E : TypeId} {α β γ : Type} {k : Kd α} {k' : Kd β} {A B : As}
theorem okd (h1 : Nat.blt d C.N = true) (h2 : C.pn d = none) : C.ok d := ⟨Nat.le_of_ble_eq_true h1, h2⟩
theorem Tm (h : env t = A) (ht : Nat.blt t 10000 = true) (hf : A.flat = true) : Opd C env (.tmp t) A := Opd.tmp h (Nat.le_of_ble_eq_true ht) hf
def inRb (k : IntKind) (n : Int) : Bool := decide (k.min ≤ n) && decide (n ≤ k.max)
theorem inRb_of {k : IntKind} {n : Int} (h : inRb k n = true) : inR k n := by simpa [inRb, inR] using h
theorem I {k : IntKind} {n : Int} (h : inRb k n = true) : Opd C env (.const (.int k n)) (.cel (Kd.int k) n) := Opd.int (inRb_of h)
theorem D {nd : List Nat} (h : ∀ t ∈ nd, env' t = env t) (hm : nd.contains t = true) (ha : env t = A) (ht : Nat.blt t 10000 = true) (hf : A.flat = true) : Opd C env' (.tmp t) A :=
  Tm ((h t (by simpa using hm)).trans ha) ht hf
theorem Kc (d : Nat) (A : As) {l : KL} (hA : env d = A) (h : env.to (keep l)) : env.to (keep ((d, A) :: l)) := Env.to_cons hA h
theorem Kn : env.to (keep []) := Env.to_nil
theorem Kv {x y : α} (h : env d = .cel k x) (hx : x = y) : env d = .cel k y := hx ▸ h
theorem Kb {x y : α} (h : env d = .box E k x) (hx : x = y) : env d = .box E k y := hx ▸ h
theorem Ko {x y : List α} (h : env d = .own E k x) (hx : x = y) : env d = .own E k y := hx ▸ h

/-- One operation that makes something anew. -/
theorem AWl.st (hg : o.guard = none) (h : OpT C o (keep e) (upd (keep e) d A)) (hn : nodep d e = true) (k : AWl C ops rest (keep ((d, A) :: e)) Q) : AWl C ops (o :: rest) (keep e) Q :=
  AWl.op hg h (by rw [upd_keep hn]; exact k)
/-- One operation in general. -/
theorem AWl.sg (hg : o.guard = none) (h : OpT C o env env') (ht : env'.to (keep e')) (k : AWl C ops rest (keep e') Q) : AWl C ops (o :: rest) env Q :=
  AWl.op hg h (AWl.to ht k)
theorem AWl.st2 (hg : o.guard = none) (h : OpT C o (keep e) (updRes (keep e) d [A, B])) (hn : nodep d e = true) (hd : Nat.blt d 10000 = true) (k : AWl C ops rest (keep ((d + 10000, A) :: (d + 20000, B) :: e)) Q) : AWl C ops (o :: rest) (keep e) Q :=
  AWl.op hg h (AWl.to (fun t => by
    have hd' : d < 10000 := Nat.le_of_ble_eq_true hd
    by_cases h1 : t = d + 10000
    · right; subst h1
      rw [keep_cons_self]; unfold updRes
      rw [if_neg (by omega), if_pos (by simp [ofSlot]; omega), show (d + 10000) / 10000 - 1 = 0 by omega]; rfl
    · by_cases h2 : t = d + 20000
      · right; subst h2
        rw [keep_cons_ne _ _ h1, keep_cons_self]; unfold updRes
        rw [if_neg (by omega), if_pos (by simp [ofSlot]; omega), show (d + 20000) / 10000 - 1 = 1 by omega]; rfl
      · rw [keep_cons_ne _ _ h1, keep_cons_ne _ _ h2]
        obtain ⟨h3, h4⟩ := nodep_spec hn t
        by_cases h5 : ofSlot d t = true
        · exact .inl (h3 h5)
        · right; unfold updRes
          rw [if_neg (fun e => h5 (by subst e; simp [ofSlot]; omega)), if_neg h5, h4]; rfl) k)
/-- Code that is looked at with less. -/
theorem AX.pr {ex : Exit} (ht : env.to (keep e')) (k : AX C ex (keep e') Q) : AX C ex env Q := AX.to ht k

/-! ### Guards -/
/-- An operation that is not wanted. -/
theorem AWl.pas {j : Nat} {want b : Bool} (hg : o.guard = some (j, want)) (hj : (ops[j]?).bind (·.dst) = some t) (hb : keep e t = .cel Kd.bool b) (ht : Nat.blt t 10000 = true) (hbw : b = !want)
    (hd : o.dst = some d) (hdN : C.ok d) (hn : nodep d e = true) (k : AWl C ops rest (keep e) Q) : AWl C ops (o :: rest) (keep e) Q :=
  AWl.pass hg hj hb (Nat.le_of_ble_eq_true ht) hbw hd hdN (AWl.to (fun u => by
    rw [upd_keep hn]
    by_cases hu : u = d
    · subst hu
      left
      exact (nodep_spec hn u).1 (by simp [ofSlot, Nat.mod_eq_of_lt (Nat.lt_of_lt_of_le hdN.1 C.hN)])
    · right; rw [keep_cons_ne _ _ hu]) k)
theorem AWl.rs {j : Nat} {want b : Bool} {t' : Nat} (hg : o.guard = some (j, want)) (hj : (ops[j]?).bind (·.dst) = some t') (hb : keep e t' = .cel Kd.bool b) (ht : Nat.blt t' 10000 = true) (hbw : b = want)
    (h : OpT C o (keep e) (upd (keep e) d A)) (hn : nodep d e = true) (k : AWl C ops rest (keep ((d, A) :: e)) Q) : AWl C ops (o :: rest) (keep e) Q :=
  AWl.run hg hj hb (Nat.le_of_ble_eq_true ht) hbw h (by rw [upd_keep hn]; exact k)
theorem AWl.split (b : Bool) (h1 : b = true → AWl C ops l env Q) (h2 : b = false → AWl C ops l env Q) : AWl C ops l env Q := by
  cases b
  · exact h2 rfl
  · exact h1 rfl
/-- What is looked at only if the first holds: the rest of the row goes on with the two put together. -/
theorem AWl.and {b y : Bool} (hb : keep e t = .cel Kd.bool b) (run : b = true → ∀ Q, AWl C ops rest (keep ((d, .cel Kd.bool y) :: e)) Q → AWl C ops l (keep e) Q) (pas : b = false → ∀ Q, AWl C ops rest (keep ((d, .cel Kd.bool false) :: e)) Q → AWl C ops l (keep e) Q)
    (k : AWl C ops rest (keep ((d, .cel Kd.bool (b && y)) :: e)) Q) : AWl C ops l (keep e) Q := by
  cases b
  · exact pas rfl Q (by simpa using k)
  · exact run rfl Q (by simpa using k)
theorem AWl.or {b y : Bool} (hb : keep e t = .cel Kd.bool b) (run : b = false → ∀ Q, AWl C ops rest (keep ((d, .cel Kd.bool y) :: e)) Q → AWl C ops l (keep e) Q) (pas : b = true → ∀ Q, AWl C ops rest (keep ((d, .cel Kd.bool true) :: e)) Q → AWl C ops l (keep e) Q)
    (k : AWl C ops rest (keep ((d, .cel Kd.bool (b || y)) :: e)) Q) : AWl C ops l (keep e) Q := by
  cases b
  · exact run rfl Q (by simpa using k)
  · exact pas rfl Q (by simpa using k)
/-- A choice whose first part is known. -/
theorem OpT.pickT {b : Bool} (hH : Hd C o (.pick p q r) d) (hp : Opd C env p (.cel Kd.bool b)) (hb : b = true) (hq : Opd C env q A) (hA : A.free = true) : OpT C o env (upd env d A) := by
  have := OpT.pick (A := A) (B := A) hH hp (fun _ => hq) (fun h => by rw [hb] at h; cases h) hA hA
  simpa using this
theorem OpT.pickF {b : Bool} (hH : Hd C o (.pick p q r) d) (hp : Opd C env p (.cel Kd.bool b)) (hb : b = false) (hq : Opd C env r A) (hA : A.free = true) : OpT C o env (upd env d A) := by
  have := OpT.pick (A := A) (B := A) hH hp (fun h => by rw [hb] at h; cases h) (fun _ => hq) hA hA
  simpa using this

/-! ### New variables that nobody changes -/
theorem upd_updK (env : Env) (d : Nat) (A B : As) : updK (upd env d A) d B = upd env d B := by
  funext t
  unfold updK upd
  split <;> rfl
theorem OpT.frz {x : α} (h : OpT C o env (upd env d (.box E k x))) : OpT C o env (upd env d (.cel (Kd.ptr k) x)) := fun Q K a w hr hK =>
  h Q K a w hr fun a' w' hr' => hK a' w' (by
    have h1 : upd env d (.box E k x) d = .box E k x := by unfold upd; rw [if_pos rfl]
    have := R_freezeB h1 hr'
    rwa [upd_updK] at this)
theorem OpT.frzO {xs : List α} (h : OpT C o env (upd env d (.own E k xs))) : OpT C o env (upd env d (.cel (Kd.slice k) xs)) := fun Q K a w hr hK =>
  h Q K a w hr fun a' w' hr' => hK a' w' (by
    have h1 : upd env d (.own E k xs) d = .own E k xs := by unfold upd; rw [if_pos rfl]
    have := R_freeze h1 hr'
    rwa [upd_updK] at this)

/-! ### Calls -/
def AC (P : Program) (f : FuncId) (ins out outs : List As) : Prop := ACall P f ins out outs ∧ ∃ fn, P.funcs[f]? = some fn ∧ fn.body.isNone = false ∧ (fn.name == "runtime.NumGoroutine") = false
theorem Af {A : As} {xs : List Operand} {ins outs : List As} {ms : List Mode} {x : Operand} (h : Opd C env x A) (h1 : A.flat = true) (h2 : A.free = true) (r : Args C env xs ins outs ms) : Args C env (x :: xs) (A :: ins) (.any :: outs) (.flat :: ms) := Args.cons ⟨h, h1, h2, rfl⟩ r
theorem An : Args C env [] [] [] [] := Args.nil
def allFlat : List Mode → Bool
  | [] => true
  | .flat :: ms => allFlat ms
  | _ :: _ => false
theorem allFlat_roots : ∀ {ms : List Mode}, allFlat ms = true → rootsOf ms = [] ∧ borsOf ms = []
  | [], _ => ⟨rfl, rfl⟩
  | .flat :: ms, h => allFlat_roots (ms := ms) h
  | .root _ :: ms, h => by cases h
  | .bor _ :: ms, h => by cases h
theorem updRoots_none {outs : List As} : ∀ {ms : List Mode} {outs : List As}, rootsOf ms = [] → updRoots env ms outs = env
  | [], _, _ => rfl
  | .flat :: ms, [], _ => rfl
  | .flat :: ms, _ :: outs, h => updRoots_none (outs := outs) (ms := ms) h
  | .bor _ :: ms, [], _ => rfl
  | .bor _ :: ms, _ :: outs, h => updRoots_none (outs := outs) (ms := ms) h
  | .root _ :: ms, _, h => by cases h
theorem updRes_one (env : Env) (d : Nat) (A : As) : updRes env d [A] = upd env d A := by
  funext t
  unfold updRes upd oneA partA
  rfl
theorem ACall.anys {P : Program} {f : FuncId} {ins out outs : List As} (ha : ∀ i, outs.getD i .any = .any) (h : ACall P f ins out []) : ACall P f ins out outs := by
  intro w s args F h1 h2 h3 h4 h5
  refine (h w s args F h1 h2 h3 h4 h5).mono fun e w' ⟨v, s', F', Fr, g1, g2, g3, g4, g5, g6, g7, g8, g⟩ => ⟨v, s', F', Fr, g1, g2, g3, g4, g5, g6, g7, fun i => ?_, g⟩
  rw [ha i]
  exact g8 i
theorem Args.anys {xs : List Operand} {ins outs : List As} {ms : List Mode} (h : Args C env xs ins outs ms) : allFlat ms = true → ∀ i, outs.getD i .any = .any := by
  induction h with
  | nil => intro _ i; rfl
  | @cons x A O m xs ins outs ms h r ih =>
    intro hm i
    cases m with
    | flat =>
      obtain ⟨_, _, _, hO⟩ := h
      subst hO
      cases i with
      | zero => rfl
      | succ i => exact ih hm i
    | root t => cases hm
    | bor t => cases hm
theorem OpT.c1 {f : FuncId} {ins outs : List As} {xs : List Operand} {ms : List Mode} {ts : Array TypeId} (hc : AC C.P f ins [A] []) (hH : Hd C o (.call { callee := .value (.func f), args := xs.toArray, argTypes := ts }) d)
    (ha : Args C env xs ins outs ms) (hm : allFlat ms = true) (hf : A.free = true) : OpT C o env (upd env d A) := by
  obtain ⟨hc, fn, h1, h2, h3⟩ := hc
  obtain ⟨h4, h5⟩ := allFlat_roots hm
  have := OpT.call hH h1 h2 h3 (hc.anys (ha.anys hm)) ha (by unfold msOK; rw [h4, h5]; rfl) (.inl h5) (by simp [hf])
  rwa [updRoots_none (outs := outs) h4, updRes_one] at this
theorem OpT.c2 {f : FuncId} {ins outs : List As} {xs : List Operand} {ms : List Mode} {ts : Array TypeId} (hc : AC C.P f ins [A, B] []) (hH : Hd C o (.call { callee := .value (.func f), args := xs.toArray, argTypes := ts }) d)
    (ha : Args C env xs ins outs ms) (hm : allFlat ms = true) (hf : A.free = true) (hf' : B.free = true) : OpT C o env (updRes env d [A, B]) := by
  obtain ⟨hc, fn, h1, h2, h3⟩ := hc
  obtain ⟨h4, h5⟩ := allFlat_roots hm
  have := OpT.call hH h1 h2 h3 (hc.anys (ha.anys hm)) ha (by unfold msOK; rw [h4, h5]; rfl) (.inl h5) (by simp [hf, hf'])
  rwa [updRoots_none (outs := outs) h4] at this

theorem AX.rt {ex : Exit} {rs : List ResultVar} {out outs : List As} {ts : List (Option Nat)} (he : ex = .ret ∨ ex = .normal) (hres : fn.results = rs.toArray) (h : ROs C env rs out ts) (hnd : (osl ts).Nodup) (ho : OutsOK C env outs (osl ts)) : AX C ex env (RetQ C fn out outs) :=
  AX.retG hres h hnd ho he
/-- A part of a tuple that lies in another slot. -/
theorem OpT.extractV {j m u : Nat} {A : As} (hH : Hd C o (.extract (.tmp u) j) d) (hu : env u = .ali t) (hul : Nat.blt u 10000 = true) (ht : Nat.blt t 10000 = true) (hm : m = t + 10000 * (j + 1)) (hA : env m = A) (hf : A.flat = true) (hs : A.solid = true) : OpT C o env (upd env d A) :=
  OpT.pure hH.2.1 hH.2.2 fun s F a w hr => by
    have ht' : t < 10000 := Nat.le_of_ble_eq_true ht
    have h1 := hr.slot m
    rw [hA] at h1
    have h2 := run_extract (t := t) (j := j) (A := A) ht' (by rw [← hm]; exact hA) hs hr
    have h3 : a.eval (.tmp u) = a.eval (.tmp t) := by
      have := (Opd.tmp (C := C) hu (Nat.le_of_ble_eq_true hul) rfl s F a w hr).1.1
      rw [this, gv_lo ht']; rfl
    refine ⟨gv a.tmps m, ?_, As.holds_free (As.flat_no h1 hf) (solid_free hs)⟩
    simp only [execOp, hH.1, h3, Sem.run_bind, h2, hm]
    simp
/-! ### Regions of open order -/
inductive DK (C : Cx) (ops : Array Oper) : KL → List Oper → List DI → KL → Prop
  | nil (e : KL) : DK C ops e [] [] e
  | one {e e' e2 : KL} {o : Oper} {l : List Oper} {I : List DI} {d : Nat} {A : As} {nd : List Nat} (h : DStep C ops (keep e) o ⟨d, [A], false, nd⟩) (hn : drp d e = e2) (hd : Nat.blt d 10000 = true) (r : DK C ops ((d, A) :: e2) l I e') : DK C ops e (o :: l) (⟨d, [A], false, nd⟩ :: I) e'
  | two {e e' : KL} {o : Oper} {l : List Oper} {I : List DI} {d : Nat} {A B : As} {nd : List Nat} (h : DStep C ops (keep e) o ⟨d, [A, B], false, nd⟩) (hn : nodep d e = true) (hd : Nat.blt d 10000 = true) (r : DK C ops ((d + 10000, A) :: (d + 20000, B) :: e) l I e') : DK C ops e (o :: l) (⟨d, [A, B], false, nd⟩ :: I) e'
  | md {e e' : KL} {o : Oper} {l : List Oper} {I : List DI} {t : Nat} {A : As} {nd : List Nat} (h : DStep C ops (keep e) o ⟨t, [A], true, nd⟩) (r : DK C ops ((t, A) :: e) l I e') : DK C ops e (o :: l) (⟨t, [A], true, nd⟩ :: I) e'
  | pas {e e' : KL} {o : Oper} {l : List Oper} {I : List DI} {d : Nat} {nd : List Nat} (h : DStep C ops (keep e) o ⟨d, [.any], false, nd⟩) (hn : nodep d e = true) (hd : Nat.blt d 10000 = true) (r : DK C ops e l I e') : DK C ops e (o :: l) (⟨d, [.any], false, nd⟩ :: I) e'
theorem upd_any_keep {d : Nat} {e : KL} (h : nodep d e = true) (hd : d < 10000) : upd (keep e) d .any = keep e := by
  rw [upd_keep h]
  funext t
  by_cases ht : t = d
  · subst ht; rw [keep_cons_self]; exact ((nodep_spec h t).1 (by simp [ofSlot, Nat.mod_eq_of_lt hd])).symm
  · rw [keep_cons_ne _ _ ht]
theorem updRes_two {d : Nat} {e : KL} (hn : nodep d e = true) (hd : Nat.blt d 10000 = true) : updRes (keep e) d [A, B] = keep ((d + 10000, A) :: (d + 20000, B) :: e) := by
  have hd' : d < 10000 := Nat.le_of_ble_eq_true hd
  funext t
  unfold updRes
  by_cases h1 : t = d + 10000
  · subst h1
    rw [keep_cons_self, if_neg (by omega), if_pos (by simp [ofSlot]; omega), show (d + 10000) / 10000 - 1 = 0 by omega]; rfl
  · by_cases h2 : t = d + 20000
    · subst h2
      rw [keep_cons_ne _ _ h1, keep_cons_self, if_neg (by omega), if_pos (by simp [ofSlot]; omega), show (d + 20000) / 10000 - 1 = 1 by omega]; rfl
    · rw [keep_cons_ne _ _ h1, keep_cons_ne _ _ h2]
      obtain ⟨h3, h4⟩ := nodep_spec hn t
      by_cases h5 : t = d
      · subst h5; rw [if_pos rfl, h3 (by simp [ofSlot, Nat.mod_eq_of_lt hd'])]; rfl
      · rw [if_neg h5]
        by_cases h6 : ofSlot d t = true
        · rw [if_pos h6, h3 h6]
          have h7 : t % 10000 = d := by simpa [ofSlot] using h6
          have : t / 10000 - 1 ≥ 2 := by omega
          unfold partA
          simp only
          rw [List.getD_eq_getElem?_getD, List.getElem?_eq_none (by simpa using this)]; rfl
        · rw [if_neg h6, h4]; rfl
theorem DK.dc {e e' : KL} {l : List Oper} {I : List DI} (h : DK C ops e l I e') : DC C ops (keep e) l I (keep e') := by
  induction h with
  | nil e => exact DC.nil _
  | @one e e' e2 o l I d A nd h hn hd r ih =>
    refine DC.cons h ?_
    have : DI.upd ⟨d, [A], false, nd⟩ (keep e) = keep ((d, A) :: e2) := by
      show updRes (keep e) d [A] = _
      rw [updRes_one, upd_drp, hn]
    rw [this]; exact ih
  | @two e e' o l I d A B nd h hn hd r ih =>
    refine DC.cons h ?_
    have : DI.upd ⟨d, [A, B], false, nd⟩ (keep e) = keep ((d + 10000, A) :: (d + 20000, B) :: e) := updRes_two hn hd
    rw [this]; exact ih
  | @md e e' o l I t A nd h r ih =>
    refine DC.cons h ?_
    have : DI.upd ⟨t, [A], true, nd⟩ (keep e) = keep ((t, A) :: e) := by
      funext u
      show updK (keep e) t A u = _
      by_cases hu : u = t
      · subst hu; rw [updK_self, keep_cons_self]
      · rw [updK_ne _ _ hu, keep_cons_ne _ _ hu]
    rw [this]; exact ih
  | @pas e e' o l I d nd h hn hd r ih =>
    refine DC.cons h ?_
    have : DI.upd ⟨d, [.any], false, nd⟩ (keep e) = keep e := by
      show updRes (keep e) d [.any] = _
      rw [updRes_one]; exact upd_any_keep hn (Nat.le_of_ble_eq_true hd)
    rw [this]; exact ih
def DG (C : Cx) (ops : Array Oper) (e : KL) (l : List Oper) (K : KL → List DI → Prop) : Prop := ∃ I e', DK C ops e l I e' ∧ K e' I
theorem DG.nil {K : KL → List DI → Prop} (h : K e []) : DG C ops e [] K := ⟨[], e, DK.nil e, h⟩
theorem DG.one {K : KL → List DI → Prop} {d : Nat} {A : As} {e2 : KL} (nd : List Nat) (h : DStep C ops (keep e) o ⟨d, [A], false, nd⟩) (hn : drp d e = e2) (hd : Nat.blt d 10000 = true) (r : DG C ops ((d, A) :: e2) l (fun e' I => K e' (⟨d, [A], false, nd⟩ :: I))) : DG C ops e (o :: l) K := by
  obtain ⟨I, e', h1, h2⟩ := r; exact ⟨_, _, DK.one h hn hd h1, h2⟩
theorem DG.two {K : KL → List DI → Prop} {d : Nat} {A B : As} (nd : List Nat) (h : DStep C ops (keep e) o ⟨d, [A, B], false, nd⟩) (hn : nodep d e = true) (hd : Nat.blt d 10000 = true) (r : DG C ops ((d + 10000, A) :: (d + 20000, B) :: e) l (fun e' I => K e' (⟨d, [A, B], false, nd⟩ :: I))) : DG C ops e (o :: l) K := by
  obtain ⟨I, e', h1, h2⟩ := r; exact ⟨_, _, DK.two h hn hd h1, h2⟩
theorem DG.pas {K : KL → List DI → Prop} {d : Nat} (nd : List Nat) (h : DStep C ops (keep e) o ⟨d, [.any], false, nd⟩) (hn : nodep d e = true) (hd : Nat.blt d 10000 = true) (r : DG C ops e l (fun e' I => K e' (⟨d, [.any], false, nd⟩ :: I))) : DG C ops e (o :: l) K := by
  obtain ⟨I, e', h1, h2⟩ := r; exact ⟨_, _, DK.pas h hn hd h1, h2⟩
theorem DG.md {K : KL → List DI → Prop} {t : Nat} {A : As} (nd : List Nat) (h : DStep C ops (keep e) o ⟨t, [A], true, nd⟩) (r : DG C ops ((t, A) :: e) l (fun e' I => K e' (⟨t, [A], true, nd⟩ :: I))) : DG C ops e (o :: l) K := by
  obtain ⟨I, e', h1, h2⟩ := r; exact ⟨_, _, DK.md h h1, h2⟩
theorem AW.dk {id : Nat} {I : List DI} (hm : C.P.follows .mixedOrders = true) (h : DK C l.toArray e l I e') (hok : dOK l I = true) (hcl : clean e I = true) (k : AX C .normal (keep e') Q) :
    AW C (.region id l.toArray true) (keep e) Q := AW.draw hm h.dc hok hcl k
theorem AW.dg {id : Nat} (hm : C.P.follows .mixedOrders = true) (h : DG C l.toArray e l (fun e' I => dOK l I = true ∧ clean e I = true ∧ AX C .normal (keep e') Q)) : AW C (.region id l.toArray true) (keep e) Q := by
  obtain ⟨I, e', h1, h2, h3, h4⟩ := h; exact AW.dk hm h1 h2 h3 h4
/-- What came in between is forgotten. -/
def jk : Nat → KL → Bool
  | 0, _ => true
  | n + 1, [] => true
  | n + 1, (t, _) :: l => (l.drop n).all (fun p => !(p.1 == t)) && jk n l
theorem junk {a : Nat × As} : ∀ (n : Nat) {l : KL}, jk n l = true → (keep (a :: l)).to (keep (a :: l.drop n))
  | 0, l, _ => fun t => .inr rfl
  | n + 1, [], _ => fun t => .inr rfl
  | n + 1, (t', A) :: l, h => by
    simp only [jk, Bool.and_eq_true] at h
    intro t
    have ih := junk (a := a) n h.2 t
    obtain ⟨d, B⟩ := a
    by_cases ht : t = d
    · subst ht; right; rw [keep_cons_self, keep_cons_self]
    · rw [keep_cons_ne _ _ ht, keep_cons_ne _ _ ht] at ih
      rw [keep_cons_ne _ _ ht, keep_cons_ne _ _ ht]
      show keep (l.drop n) t = .any ∨ keep (l.drop n) t = _
      by_cases ht' : t = t'
      · subst ht'
        left
        refine keep_none _ _ fun p hp e => ?_
        have := List.all_eq_true.1 h.1 p hp
        simp [e] at this
      · rw [keep_cons_ne _ _ ht']; exact ih
end
theorem nw {n : Int} (h : -9223372036854775808 ≤ n ∧ n ≤ 9223372036854775807) : IntKind.i64.wrap n = n := wrap_i64 h
/-! ### Parts of tuples -/
theorem Sub.fst {α β : Type} {a : Kd α} {b : Kd β} : Sub (Kd.pair a b) 0 a Prod.fst (fun x y => (y, x.2)) where
  rd {s cs x} h := by
    obtain ⟨c, d, rfl, h1, h2⟩ := h
    rw [List.drop_zero, ← a.len h1, List.take_left]; exact h1
  wr {s cs x c y} h h' := by
    obtain ⟨c', d, rfl, h1, h2⟩ := h
    refine ⟨c, d, ?_, h', h2⟩
    rw [List.take_zero, Nat.zero_add, List.nil_append, ← a.len h1, List.drop_left]
theorem Sub.snd {α β γ : Type} {a : Kd α} {b : Kd β} {c : Kd γ} {o : Nat} {f : β → γ} {g : β → γ → β} (hs : Sub b o c f g) : Sub (Kd.pair a b) (a.sz + o) c (fun x => f x.2) (fun x y => (x.1, g x.2 y)) where
  rd {s cs x} h := by
    obtain ⟨c', d, rfl, h1, h2⟩ := h
    have e : (c' ++ d).drop (a.sz + o) = d.drop o := by rw [← a.len h1, List.drop_append, List.drop_of_length_le (by omega), List.nil_append]; congr 1; omega
    rw [e]; exact hs.rd h2
  wr {s cs x cc y} h h' := by
    obtain ⟨c', d, rfl, h1, h2⟩ := h
    refine ⟨c', d.take o ++ (cc ++ d.drop (o + c.sz)), ?_, h1, hs.wr h2 h'⟩
    have hl := a.len h1
    have e1 : (c' ++ d).take (a.sz + o) = c' ++ d.take o := by rw [← hl, List.take_append, List.take_of_length_le (by omega)]; congr 2; omega
    have e2 : (c' ++ d).drop (a.sz + o + c.sz) = d.drop (o + c.sz) := by rw [← hl, List.drop_append, List.drop_of_length_le (by omega), List.nil_append]; congr 1; omega
    rw [e1, e2, List.append_assoc]
/-- One of two: which one is told by a number. -/
theorem Sub.two {α : Type} {a : Kd α} {i : Nat} (hi : i < 2) (hz : a.sz = 1) : Sub (Kd.pair a a) (i * a.sz) a (fun x => if i = 0 then x.1 else x.2) (fun x y => if i = 0 then (y, x.2) else (x.1, y)) := by
  rcases (by omega : i = 0 ∨ i = 1) with rfl | rfl
  · have := Sub.fst (a := a) (b := a)
    simpa using this
  · have := Sub.snd (a := a) (Sub.whole a)
    simpa using this
end Go.Proofs.YtfnkphllkbkfaaaDoor.VL
