/- Proved here: a row in a struct, whose header is kept in mind while it is written. General: over every program. -/
import Derived.Test.YtohcpnobmknglaaDoorBvc
set_option linter.unusedVariables false
set_option linter.unusedSimpArgs false
namespace Go.Proofs.YtohcpnobmknglaaDoor.VL
open Go
/-! ### A row in a struct: its header is kept in mind while it is written -/
/-- A slot whose value is not to change. -/
def Cx.pinAt (C : Cx) (t : Nat) (v : Value) : Cx := { C with pn := fun u => match Nat.beq u t with | true => some v | false => C.pn u }
theorem AWl.pinin {C : Cx} {env : Env} {Q : Exit → Act → World → Prop} {ops : Array Oper} {l : List Oper} (t : Nat) {v : Value} (h : env t = .cel Kd.raw v) (ht : Nat.blt t 10000 = true) (k : AWl (C.pinAt t v) ops l env Q) : AWl C ops l env Q := fun a w hr => by
  refine k a w ?_
  obtain ⟨s, F, hr'⟩ := hr
  have hs := hr'.slot t
  rw [h] at hs
  refine ⟨s, F, hr'.dfr, hr'.size, hr'.slot, hr'.disj, hr'.mine, hr'.fz, hr'.keep, fun u x hx => ?_, hr'.ext, hr'.new⟩
  have hx' : (match Nat.beq u t with | true => some v | false => C.pn u) = some x := hx
  cases hb : Nat.beq u t with
  | true =>
    rw [hb] at hx'
    have e : u = t := Nat.eq_of_beq_eq_true hb
    subst e
    obtain rfl := Option.some.inj hx'
    have h1 := hs.1.1
    exact ⟨Nat.le_of_ble_eq_true ht, by simpa using h1⟩
  | false => rw [hb] at hx'; exact hr'.pin u x hx'
theorem AWl.unpin {C : Cx} {env : Env} {Q : Exit → Act → World → Prop} {ops : Array Oper} {l : List Oper} {t : Nat} {v : Value} (hp : C.pn t = none) (k : AWl C ops l env Q) : AWl (C.pinAt t v) ops l env Q := fun a w hr => by
  refine k a w ?_
  obtain ⟨s, F, hr'⟩ := hr
  refine ⟨s, F, hr'.dfr, hr'.size, hr'.slot, hr'.disj, hr'.mine, hr'.fz, hr'.keep, fun u x hx => hr'.pin u x ?_, hr'.ext, hr'.new⟩
  show (match Nat.beq u t with | true => some v | false => C.pn u) = some x
  cases hb : Nat.beq u t with
  | true =>
    have e : u = t := Nat.eq_of_beq_eq_true hb
    subst e
    rw [hp] at hx; cases hx
  | false => exact hx
theorem pin_eq {C : Cx} {env : Env} (t : Nat) {v u : Value} (h : env t = .cel Kd.raw u) (hp : C.pn t = some v) {a : Act} {w : World} (hr : C.R env a w) : u = v := by
  obtain ⟨s, F, hr'⟩ := hr
  have hs := hr'.slot t
  rw [h] at hs
  have h1 := hs.1.1
  have h2 := (hr'.pin t v hp).2
  rw [h2] at h1
  exact (by simpa using h1 : v = u).symm
/-- Data that is shared, at a header. -/
def GP.fz {α : Type} (k : Kd α) (xs : List α) (v : Value) : GP where
  ho s _ F := (Kd.slice k).rd s [v] xs ∧ ∀ b, ¬ F b
  mono hst h := ⟨(Kd.slice k).mono hst h.1, h.2⟩
  frame h _ := h
  lt h b hb := (h.2 b hb).elim
theorem AWl.freezeG {C : Cx} {env : Env} {Q : Exit → Act → World → Prop} {ops : Array Oper} {l : List Oper} {α : Type} {k : Kd α} {E : TypeId} {xs : List α} {v : Value} (t : Nat) (ht : env t = .deep (OSh.gh (GP.own E k xs v))) (h : AWl C ops l (updK env t (.deep (OSh.gh (GP.fz k xs v)))) Q) : AWl C ops l env Q := fun a w hr =>
  h a w (R_freezeD (A := .deep (OSh.gh (GP.fz k xs v))) ht (fun {s w g v' F sc} hh hs hl => ⟨own_shared (g := g0) hh hs hl, fun b hb => hb⟩) hr)
theorem vsol {C : Cx} {e : KL} {α β γ : Type} {A : Kd α} {B : Kd β} {k : Kd γ} {p : α} {q : β} {v : Value} {xs : List γ} (t g : Nat) (h1 : keep e t = .agg (Kd.pair A (Kd.pair B Kd.raw)) (p, q, v)) (h2 : keep e g = .deep (OSh.gh (GP.fz k xs v))) (hne : t ≠ g) : Vw C (keep e) fun _ : Unit => keep ((g, .deep (OSh.gh (GP.fz k xs v))) :: (t, .agg (Kd.pair A (Kd.pair B (Kd.slice k))) (p, q, xs)) :: e) :=
  Vw.two t g hne fun {s w gg v' u F1 F2} a1 a2 hd => by
    rw [h1] at a1; rw [h2] at a2
    obtain ⟨⟨cs, b1, b2⟩, b3⟩ := a1
    obtain ⟨c, d, e1, r1, c', d', e2, r2, r3⟩ := b2
    exact ⟨(), F1, F2, ⟨⟨cs, b1, ⟨c, d, e1, r1, c', d', e2, r2, by rw [r3.1]; exact a2.1⟩⟩, b3⟩, a2, hd, fun b hb => hb⟩
/-! ### Structs of three parts whose last row is owned -/
section
variable {α β γ : Type}
abbrev Kd.tri (A : Kd α) (B : Kd β) : Kd (α × β × Value) := Kd.pair A (Kd.pair B Kd.raw)
def OSh.dag3v (A : Kd α) (B : Kd β) (E : TypeId) (k : Kd γ) (p : α) (q : β) (xs : List γ) (u : Value) : OSh where
  hold s w v F := (As.agg (Kd.tri A B) (p, q, u)).holds s w g0 v FS.no ∧ (As.own E k xs).holds s w g0 u F
  mono hst h := ⟨As.holds_mono hst h.1, As.holds_mono hst h.2⟩
  frame h hw := ⟨As.holds_frame h.1 (fun b hb => hb.elim), As.holds_frame h.2 hw⟩
  lt h := As.holds_lt h.2
  sur := false
  sure h := by cases h
def OSh.dag3 (A : Kd α) (B : Kd β) (E : TypeId) (k : Kd γ) (p : α) (q : β) (xs : List γ) : OSh where
  hold s w v F := ∃ u, (OSh.dag3v A B E k p q xs u).hold s w v F
  mono hst h := by obtain ⟨u, h⟩ := h; exact ⟨u, (OSh.dag3v A B E k p q xs u).mono hst h⟩
  frame h hw := by obtain ⟨u, h⟩ := h; exact ⟨u, (OSh.dag3v A B E k p q xs u).frame h hw⟩
  lt h := by obtain ⟨u, h⟩ := h; exact (OSh.dag3v A B E k p q xs u).lt h
  sur := false
  sure h := by cases h
def OSh.dbox3 (S : TypeId) (A : Kd α) (B : Kd β) (E : TypeId) (k : Kd γ) (p : α) (q : β) (xs : List γ) : OSh where
  hold s w v F := ∃ u F1 F2, (As.box S (Kd.tri A B) (p, q, u)).holds s w g0 v F1 ∧ (As.own E k xs).holds s w g0 u F2 ∧ (∀ b, F1 b → ¬ F2 b) ∧ ∀ b, F b ↔ F1 b ∨ F2 b
  mono hst h := by obtain ⟨u, F1, F2, h1, h2, h3, h4⟩ := h; exact ⟨u, F1, F2, As.holds_mono hst h1, As.holds_mono hst h2, h3, h4⟩
  frame h hw := by
    obtain ⟨u, F1, F2, h1, h2, h3, h4⟩ := h
    exact ⟨u, F1, F2, As.holds_frame h1 (fun b hb => hw b ((h4 b).2 (.inl hb))), As.holds_frame h2 (fun b hb => hw b ((h4 b).2 (.inr hb))), h3, h4⟩
  lt h b hb := by
    obtain ⟨u, F1, F2, h1, h2, h3, h4⟩ := h
    exact ((h4 b).1 hb).elim (As.holds_lt h1 b) (As.holds_lt h2 b)
  sur := false
  sure h := by cases h
variable {C : Cx} {env : Env} {o : Oper} {A : Kd α} {B : Kd β} {k : Kd γ} {p : α} {q : β} {xs : List γ} {S E T : TypeId} {t u d : Nat} {e : KL} {ops : Array Oper}
theorem vundbox (t g : Nat) (h1 : keep e t = .deep (OSh.dbox3 S A B E k p q xs)) (h2 : keep e g = .any) (hne : t ≠ g) : Vw C (keep e) fun v : Value => keep ((g, .deep (OSh.gh (GP.own E k xs v))) :: (t, .box S (Kd.tri A B) (p, q, v)) :: e) :=
  Vw.two t g hne fun {s w gg v u F1 F2} a1 a2 hd => by
    rw [h1] at a1; rw [h2] at a2
    obtain ⟨x, G1, G2, b1, b2, b3, b4⟩ := a1
    exact ⟨x, G1, G2, As.holds_free b1 rfl, b2, b3, fun b hb => .inl ((b4 b).2 hb)⟩
theorem Nk {env : Env} {t u : Nat} {X Y : As} (h : env u = X) (hne : u ≠ t) : updK env t Y u = X := (updK_ne env Y hne).trans h
theorem N1 {C : Cx} {ve : Env} {e : KL} {nds : List Nat} {t u : Nat} {X Y : As} (h : ∀ t ∈ nds, ve t = keep e t) (hz : (keep e t, nds.contains t, Nat.blt t 10000, Y.flat) = (Y, true, true, true)) (hne : t ≠ u) : Opd C (updK ve u X) (.tmp t) Y := by
  simp only [Prod.mk.injEq] at hz
  exact Opd.tmp (Nk ((h t (by simpa using hz.2.1)).trans hz.1) hne) (Nat.le_of_ble_eq_true hz.2.2.1) hz.2.2.2
theorem OpT.buildD {pl : List (Nat × Nat)} {parts : List (Nat × Operand)} {z : Value} {x0 : α × β × Value} (t : Nat) (hH : Hd C o (.build S parts.toArray) d) (hpl : plT C.P S = some pl) (hz : zeroT C.P S = some z)
    (hx : ∀ s, (Kd.tri A B).rd s (Value.cl z) x0) (ht : env t = .own E k xs) (hne : t ≠ d)
    (hb : ∀ v : Value, Built C (updK env t (.cel Kd.raw v)) (Kd.tri A B) (fun i => pl[i]?) parts x0 (p, q, v)) : OpT C o env (upd (upd env t .any) d (.deep (OSh.dag3 A B E k p q xs))) := by
  intro Q K a w hr hK
  obtain ⟨s, F, hr'⟩ := hr
  obtain ⟨F1, h1, h2⟩ := hr'.weaken' (upd_any_to env t)
  have hslot := hr'.slot t
  rw [ht] at hslot
  have hraw : Rel C.N C.w0 C.hd C.pn C.s0 (updK env t (.cel Kd.raw (gv a.tmps t))) s (fun u => if u = t then FS.no else F u) a w := by
    refine ⟨hr'.dfr, hr'.size, fun u => ?_, fun u u' b hu hu' => ?_, fun u b hu => ?_, hr'.fz, hr'.keep, hr'.pin, hr'.ext, hr'.new⟩
    · by_cases hu : u = t
      · subst hu
        rw [updK_self, if_pos rfl]
        exact ⟨⟨rfl, own_one hslot⟩, fun b hb => hb⟩
      · rw [updK_ne _ _ hu, if_neg hu]; exact hr'.slot u
    · by_cases e1 : u = t
      · rw [if_pos e1] at hu; exact hu.elim
      · by_cases e2 : u' = t
        · rw [if_pos e2] at hu'; exact hu'.elim
        · rw [if_neg e1] at hu; rw [if_neg e2] at hu'; exact hr'.disj u u' b hu hu'
    · by_cases e1 : u = t
      · rw [if_pos e1] at hu; exact hu.elim
      · rw [if_neg e1] at hu; exact hr'.mine u b hu
  obtain ⟨cells', e1, e2⟩ := (hb (gv a.tmps t)).fill hraw z.cells (hx s)
  have h3 : C.P.built S (parts.toArray.map fun (i, x) => (i, a.eval x)).toList = some cells' := by
    have e : (parts.toArray.map fun (i, x) => (i, a.eval x)).toList = parts.map fun z => (z.1, a.eval z.2) := by simp
    rw [e]
    have h := e1
    unfold plT at hpl
    unfold zeroT at hz
    unfold Program.built
    cases hi : C.P.info? S with
    | none => rw [hi] at hz; cases hz
    | some it =>
      rw [hi] at hz hpl
      simp only [Option.bind_some] at hz
      cases hu : C.P.underlying S with
      | none => rw [hu] at hpl; cases hpl
      | some u =>
        rw [hu] at hpl
        cases u <;> simp only [] at hpl <;> try (cases hpl; done)
        case struct fs =>
          simp only [hz, hpl]
          rw [← h]
          simp
  have h4 := run_build (P := C.P) w S _ cells' h3
  have hrun : (execOp a.eval o).run C.P w = .ok (.value (.agg cells')) w := by
    simp only [execOp, hH.1, Sem.run_bind]
    rw [h4]
    rfl
  unfold Oper.wp
  rw [hrun, Oper.upon_value, hH.2.1]
  have hnot : ∀ b, ¬ F1 t b := fun b hb => by
    have h3 := h1.slot t
    have h4 : upd env t .any t = .any := by unfold upd; rw [if_pos rfl]
    rw [h4] at h3
    exact h3 b hb
  have hdN := hH.2.2
  refine hK _ _ ⟨s, _, h1.putG (Fd := F t) hdN.1 (Nat.lt_of_lt_of_le hdN.1 C.hN) hdN.2 ?_ (Hp.le_refl s) (fun b o h1 h2 => by rw [h1] at h2; cases h2) h1.fz h1.keep (fun t' b hne' hof hbb => ?_) (fun b hb => hr'.mine t b hb)⟩
  · exact ⟨gv a.tmps t, ⟨⟨_, rfl, e2⟩, fun b hb => hb⟩, As.holds_free hslot rfl⟩
  · have h3 := h2 t' b hbb
    refine ⟨rfl, (h1.mine t' b hbb).1, fun hFb => ?_⟩
    have := hr'.disj t' t b h3.1 hFb
    subst this
    exact hnot b hbb
theorem OpT.storeD {pp qq : Operand} {x0 : α × β × Value} (u : Nat) (ho : o.op = .store T pp qq) (hd : o.dst = none) (hp : Root C env pp t) (hb : env t = .box S (Kd.tri A B) x0) (hq : Root C env qq u) (hu : env u = .deep (OSh.dag3 A B E k p q xs)) (hne : t ≠ u)
    (hz : sizeT C.P T = some (Kd.tri A B).sz) (hz0 : Nat.blt 0 (Kd.tri A B).sz = true) : OpT C o env (updK (updK env t (.deep (OSh.dbox3 S A B E k p q xs))) u .any) := by
  intro Q K a w hr hK
  obtain ⟨s, F, hr'⟩ := hr
  have hus := hr'.slot u
  rw [hu] at hus
  obtain ⟨va, hagg, hown⟩ := hus
  have hr1 : Rel C.N C.w0 C.hd C.pn C.s0 (updK env u (.deep (OSh.dag3v A B E k p q xs va))) s F a w := by
    refine ⟨hr'.dfr, hr'.size, fun v => ?_, hr'.disj, hr'.mine, hr'.fz, hr'.keep, hr'.pin, hr'.ext, hr'.new⟩
    by_cases hv : v = u
    · subst hv; rw [updK_self]; exact ⟨hagg, hown⟩
    · rw [updK_ne _ _ hv]; exact hr'.slot v
  obtain ⟨⟨cs', e', h1'⟩, _⟩ := hagg
  have ht := hr'.slot t
  rw [hb] at ht
  obtain ⟨b, cs, ev, hg, hrd, hF⟩ := ht
  have hl1 : cs.toList.length = (Kd.tri A B).sz := (Kd.tri A B).len hrd
  have hl2 : cs'.toList.length = (Kd.tri A B).sz := (Kd.tri A B).len h1'
  have ep : a.eval pp = .pointer (some ((⟨b, 0, none⟩ : Addr).add 0)) := by rw [hp.2 s F a w hr', ev]; rfl
  have eq' : Value.cl (a.eval qq) = cs'.toList := by rw [hq.2 s F a w hr', e']; rfl
  have hrun := run_store_at (P := C.P) (w := w) (g := b) (O := 0) (T := T) (v := a.eval qq) hg eq' (by rw [hz, hl2]) (by rw [hl2, ← hl1]; simp) ((Kd.tri A B).one h1')
  have hFb : F t b := (hF b).2 rfl
  have hm := hr'.mine t b hFb
  have hrow : (cs.toList.take 0 ++ (cs'.toList ++ cs.toList.drop (0 + cs'.toList.length))) = cs'.toList := by
    rw [List.take_zero, List.nil_append, Nat.zero_add, hl2, ← hl1, List.drop_length, List.append_nil]
  rw [hrow] at hrun
  unfold Oper.wp
  simp only [execOp, ho, ep, Sem.run_bind]
  rw [hrun]
  simp only [Result.andThen_ok, Sem.run_pure]
  rw [Oper.upon_skip, hd]
  have h2 := hr1.turn (d := t) (A := .box S (Kd.tri A B) (p, q, va)) (Fd := F t) (w' := w.setRow b cs'.toList.toArray) ⟨b, _, ev, setRow_heap w b cs _ S (0, 0) hg, by simpa using h1', hF⟩ (Hp.le_refl s) (fun b o h1 h2 => by rw [h1] at h2; cases h2) (fz_setRow hr'.fz hm.1 _) (keep_setRow hr'.keep hm.2 _)
    (fun t' b' hne' hb' => by
      have hbb : b' ≠ b := fun e => by subst e; exact hne' (hr'.disj t' t b' hb' hFb)
      exact ⟨setRow_other w b b' _ hbb, (hr'.mine t' b' hb').1, fun h => hbb ((hF b').1 h)⟩) (fun b' hb' => hr'.mine t b' hb')
  obtain ⟨_, h3⟩ := R_two (C := C) (t := t) (g := u) (A := fun _ : Unit => .deep (OSh.dbox3 S A B E k p q xs)) (B := fun _ => .any) hne (fun {s w gg v x F1 F2} a1 a2 hdj => by
    rw [updK_self] at a1
    rw [updK_ne _ _ (Ne.symm hne), updK_self] at a2
    exact ⟨(), fun b => F1 b ∨ F2 b, FS.no, ⟨va, F1, F2, As.holds_free a1 rfl, a2.2, hdj, fun b => Iff.rfl⟩, fun b hb => hb, fun b _ hb => hb, fun b hb => hb.elim id (fun h => h.elim)⟩) h2
  have hfin : updK (updK (updK (updK env u (.deep (OSh.dag3v A B E k p q xs va))) t (.box S (Kd.tri A B) (p, q, va))) t (.deep (OSh.dbox3 S A B E k p q xs))) u .any = updK (updK env t (.deep (OSh.dbox3 S A B E k p q xs))) u .any := by
    funext v
    unfold updK
    by_cases h1 : v = u
    · simp [h1]
    · by_cases h2 : v = t
      · simp [h1, h2]
      · simp [h1, h2]
  rw [hfin] at h3
  exact hK _ _ h3
theorem dmm {K : KL → List DJ → Prop} {l : List Oper} {t u : Nat} {O : As} (nds : List Nat) (h : ∀ env', (∀ t ∈ nds, env' t = keep e t) → OpT C o env' (updK (updK env' t O) u .any)) (hn : o.guard.isNone = true)
    (r : DH C ops ((u, .any) :: (t, O) :: e) l (fun e' I => K e' (⟨[.mod t O, .mod u .any], nds⟩ :: I))) : DH C ops e (o :: l) K := by
  have key : ∀ env : Env, DJ.upd ⟨[.mod t O, .mod u .any], nds⟩ env = updK (updK env t O) u .any := fun env => rfl
  exact DH.step (.inr ⟨.inl (by simpa using hn), fun env' he => by rw [key]; exact h env' he⟩) (by rw [key, updK_keep, updK_keep]) r
end
end Go.Proofs.YtohcpnobmknglaaDoor.VL
