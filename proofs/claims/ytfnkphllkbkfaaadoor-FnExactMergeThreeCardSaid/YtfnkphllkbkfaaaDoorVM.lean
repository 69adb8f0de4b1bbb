/- Proved here: more rules with the words of VA: arrays in memory, results in variables, tuples handed on, contracts whose results are frozen. General: over every program. -/
import Derived.Test.YtfnkphllkbkfaaaDoorVK
set_option linter.unusedVariables false
set_option linter.unusedSimpArgs false
namespace Go.Proofs.YtfnkphllkbkfaaaDoor.VL
open Go

section
variable {C : Cx} {env env' env0 : Env} {Q : Exit → Act → World → Prop} {o : Oper} {fn : Func} {p q r : Operand} {c : Code} {ops : Array Oper} {l : List Oper} {d t : Nat} {T T' S E : TypeId} {α β γ : Type} {k : Kd α} {k' : Kd β}

/-! ### Elements of arrays in memory -/
theorem run_indexArr {P : Program} {w : World} {n m : Nat} {kk : IntKind} {i : Int} {ad : Addr} (hT : arT P T = some (n, E)) (hm : sizeT P E = some m) (h0 : 0 ≤ i ∧ i < (n : Int)) :
    (Instr.indexAt T (.pointer (some ad)) (.int kk i)).run P w = .ok (.pointer (some (ad.add (i.toNat * m)))) w := by
  have hu : P.underlying T = some (.array n E) := by
    unfold arT at hT
    split at hT
    · simp only [Option.some.injEq, Prod.mk.injEq] at hT; obtain ⟨rfl, rfl⟩ := hT; assumption
    · cases hT
  simp [Instr.indexAt, asIntOf, run_underlying hu, Instr.sureAddr, run_sizeT hm, h0]
theorem OpT.indexAddrP {x : α} {n m : Nat} {kk : IntKind} {i : Int} {f : α → β} {g : α → β → α} (hH : Hd C o (.indexAddr T p q) d) (hp : Opd C env p (.cel (Kd.ptr k) x)) (hq : Opd C env q (.cel (Kd.int kk) i))
    (hT : arT C.P T = some (n, E)) (hm : sizeT C.P E = some m) (h0 : 0 ≤ i ∧ i < (n : Int)) (hs : Sub k (i.toNat * m) k' f g) : OpT C o env (upd env d (.cel (Kd.ptr k') (f x))) :=
  OpT.pure hH.2.1 hH.2.2 fun s F a w hr => by
    obtain ⟨ad, c, e, h1, h2⟩ := hp.getp hr
    refine ⟨.pointer (some (ad.add (i.toNat * m))), ?_, ⟨⟨_, _, rfl, hs.rd h1, cellsAt_sub h2 (i.toNat * m) k'.sz⟩, fun b hb => hb⟩⟩
    have := run_indexArr (P := C.P) (w := w) (kk := kk) (ad := ad) hT hm h0
    simp only [execOp, hH.1, e, (hq.geti hr).1]
    simp [this]
theorem OpT.indexAddrB {x : α} {n m : Nat} {kk : IntKind} {i : Int} {f : α → β} {g : α → β → α} (hH : Hd C o (.indexAddr T p q) d) (hp : Root C env p t) (hb : env t = .box S k x) (hne : t ≠ d) (hq : Opd C env q (.cel (Kd.int kk) i))
    (hT : arT C.P T = some (n, E)) (hm : sizeT C.P E = some m) (h0 : 0 ≤ i ∧ i < (n : Int)) (hs : Sub k (i.toNat * m) k' f g) : OpT C o env (upd env d (.pel t 0 k (i.toNat * m) k' f g)) :=
  OpT.pure hH.2.1 hH.2.2 fun s F a w hr => by
    have h1 := hr.slot t
    rw [hb] at h1
    obtain ⟨b, cs, e, _⟩ := h1
    refine ⟨.pointer (some ((⟨b, 0, none⟩ : Addr).add (i.toNat * m))), ?_, ⟨?_, hp.1, hs⟩, fun b hb => hb⟩
    · have := run_indexArr (P := C.P) (w := w) (kk := kk) (ad := ⟨b, 0, none⟩) hT hm h0
      simp only [execOp, hH.1, hp.2 s F a w hr, e, (hq.geti hr).1]
      simp [this]
    · rw [gv_put_ne _ (by simp [ofSlot, Nat.mod_eq_of_lt hp.1, hne]), e]
      simp [ptrIn]
/-- A part of a part. -/
theorem OpT.indexAddrE {i0 off n m : Nat} {kk : IntKind} {i : Int} {f : α → β} {g : α → β → α} {f' : β → γ} {g' : β → γ → β} {k'' : Kd γ} {x : α} (hH : Hd C o (.indexAddr T p q) d) (hp : Opd C env p (.pel t i0 k off k' f g)) (hh : Has env t k i0 x) (hne : t ≠ d) (hq : Opd C env q (.cel (Kd.int kk) i))
    (hT : arT C.P T = some (n, E)) (hm : sizeT C.P E = some m) (h0 : 0 ≤ i ∧ i < (n : Int)) (hs : Sub k' (i.toNat * m) k'' f' g') (hz : 0 < k''.sz) :
    OpT C o env (upd env d (.pel t i0 k (off + i.toNat * m) k'' (fun x => f' (f x)) (fun x z => g x (g' (f x) z)))) :=
  OpT.pure hH.2.1 hH.2.2 fun s F a w hr => by
    obtain ⟨⟨e, ht, hs0⟩, _⟩ := hp s F a w hr
    obtain ⟨b, E', cur, L, h1, h2, h3, h4⟩ := Has.get hh hr
    rw [h1] at e
    refine ⟨.pointer (some (((⟨b, 0, none⟩ : Addr).add (i0 * k.sz + off)).add (i.toNat * m))), ?_, ⟨?_, ht, hs0.comp hs hz⟩, fun b hb => hb⟩
    · have := run_indexArr (P := C.P) (w := w) (kk := kk) (ad := (⟨b, 0, none⟩ : Addr).add (i0 * k.sz + off)) hT hm h0
      simp only [execOp, hH.1, e, (hq.geti hr).1]
      simp [this]
    · rw [gv_put_ne _ (by simp [ofSlot, Nat.mod_eq_of_lt ht, hne]), h1, add_add]
      congr 3
      omega
theorem OpT.fieldAddrE {i0 i off off' n : Nat} {f : α → β} {g : α → β → α} {f' : β → γ} {g' : β → γ → β} {k'' : Kd γ} {x : α} (hH : Hd C o (.fieldAddr S p i) d) (hp : Opd C env p (.pel t i0 k off k' f g)) (hh : Has env t k i0 x) (hne : t ≠ d)
    (hf : fldT C.P S i = some (T, off')) (hn : sizeT C.P T = some n) (h0 : n ≠ 0) (hs : Sub k' off' k'' f' g') (hz : 0 < k''.sz) :
    OpT C o env (upd env d (.pel t i0 k (off + off') k'' (fun x => f' (f x)) (fun x z => g x (g' (f x) z)))) :=
  OpT.pure hH.2.1 hH.2.2 fun s F a w hr => by
    obtain ⟨⟨e, ht, hs0⟩, _⟩ := hp s F a w hr
    obtain ⟨b, E', cur, L, h1, h2, h3, h4⟩ := Has.get hh hr
    rw [h1] at e
    refine ⟨.pointer (some (((⟨b, 0, none⟩ : Addr).add (i0 * k.sz + off)).add off')), ?_, ⟨?_, ht, hs0.comp hs hz⟩, fun b hb => hb⟩
    · have := run_fieldAt (P := C.P) (w := w) (ad := (⟨b, 0, none⟩ : Addr).add (i0 * k.sz + off)) hf hn h0
      simp only [execOp, hH.1, e]
      simp [this]
    · rw [gv_put_ne _ (by simp [ofSlot, Nat.mod_eq_of_lt ht, hne]), h1, add_add]
      congr 3
      omega
/-! ### A tuple goes to another slot -/
/-! ### What is given back out of variables -/
inductive RO (C : Cx) (env : Env) : ResultVar → As → Option Nat → Prop
  | tmp {r t : Nat} {A : As} (hat : At env r t) (hA : env t = A) (hf : A.free = true) : RO C env (.tmp r) A (some t)
  | cellA {α : Type} {k : Kd α} {x : α} {E T : TypeId} {r : Nat} (hr : r < 10000) (h : env r = .box E k x) (hT : aggT C.P T = some true) (hz : sizeT C.P T = some k.sz) : RO C env (.cell r T) (.agg k x) none
  | cell {α : Type} {k : Kd α} {x : α} {E T : TypeId} {r : Nat} (hr : r < 10000) (h : env r = .box E k x) (hT : aggT C.P T = some false) (hz : k.sz = 1) : RO C env (.cell r T) (.cel k x) none
inductive ROs (C : Cx) (env : Env) : List ResultVar → List As → List (Option Nat) → Prop
  | nil : ROs C env [] [] []
  | cons {r : ResultVar} {A : As} {t : Option Nat} {rs : List ResultVar} {out : List As} {ts : List (Option Nat)} (h : RO C env r A t) (k : ROs C env rs out ts) : ROs C env (r :: rs) (A :: out) (t :: ts)
def runRes (tmps : Array Value) : ResultVar → Sem Value
  | .tmp t => pure (tmps.getD t undef)
  | .cell a t => do loadVar t (← asAddr (tmps.getD a undef))
def optF (F : Nat → FS) : Option Nat → FS
  | some t => F t
  | none => FS.no
theorem RO.run {r : ResultVar} {A : As} {t : Option Nat} (h : RO C env r A t) {s F a w} (hr : Rel C.N C.w0 C.hd C.pn C.s0 env s F a w) :
    ∃ v, (runRes a.tmps r).run C.P w = .ok v w ∧ A.free = true ∧ A.holds s w g0 v (optF F t) := by
  cases h with
  | @tmp _ t _ hat hA hf =>
    have h1 := hr.slot t
    have h2 := hat.val hr
    rw [gv_lo hat.1] at h2
    rw [hA] at h1
    refine ⟨_, rfl, hf, ?_⟩
    rw [h2]
    exact As.holds_free h1 hf
  | @cellA _ _ _ _ _ r hrl h hT hz =>
    have h1 := hr.slot r
    rw [h] at h1
    obtain ⟨b, cs, e, h2, h3, _⟩ := h1
    rw [gv_lo hrl] at e
    have h6 : ∀ j u, cs.toList[j]? = some u → w.cell? ((⟨b, 0, none⟩ : Addr).add j) = some u := fun j u hu => own_cell h2 (by simpa using hu)
    refine ⟨.agg cs.toList.toArray, ?_, rfl, ⟨⟨_, rfl, by simpa using h3⟩, fun b hb => hb⟩⟩
    simp only [runRes, e, asAddr, Sem.run_bind, Sem.run_pure, Result.andThen_ok]
    exact run_loadVar_agg hT (by rw [hz, Kd.len _ h3]) h6
  | @cell _ _ _ _ _ r hrl h hT hz =>
    have h1 := hr.slot r
    rw [h] at h1
    obtain ⟨b, cs, e, h2, h3, _⟩ := h1
    rw [gv_lo hrl] at e
    have hl := Kd.len _ h3
    rw [hz] at hl
    obtain ⟨v, hv⟩ := List.length_eq_one_iff.1 hl
    rw [hv] at h3
    have h6 : w.cell? (⟨b, 0, none⟩ : Addr) = some v := by
      have h7 : cs[0]? = some v := by rw [← Array.getElem?_toList, hv]; rfl
      have := own_cell h2 h7
      simpa [Addr.add] using this
    refine ⟨v, ?_, rfl, ⟨h3, fun b hb => hb⟩⟩
    simp only [runRes, e, asAddr, Sem.run_bind, Sem.run_pure, Result.andThen_ok]
    exact run_loadVar_cel hT h6

theorem mapM_run {P : Program} {w : World} {tmps : Array Value} : ∀ (rs : List ResultVar) (vs : List Value), rs.length = vs.length → (∀ (j : Nat) (r : ResultVar) (v : Value), rs[j]? = some r → vs[j]? = some v → (runRes tmps r).run P w = .ok v w) →
    (rs.mapM (runRes tmps)).run P w = .ok vs w
  | [], [], _, _ => by simp
  | [], _ :: _, h, _ => by simp at h
  | _ :: _, [], h, _ => by simp at h
  | r :: rs, v :: vs, hl, h => by
    have h1 := h 0 r v rfl rfl
    have h2 := mapM_run rs vs (by simpa using hl) (fun j r' v' hr hv => h (j + 1) r' v' (by simpa using hr) (by simpa using hv))
    simp [List.mapM_cons, h1, h2]
theorem results_run {rs : List ResultVar} {vs : List Value} {tmps : Array Value} {P : Program} {w : World} (hres : fn.results = rs.toArray) (hl : rs.length = vs.length) (h : ∀ (j : Nat) (r : ResultVar) (v : Value), rs[j]? = some r → vs[j]? = some v → (runRes tmps r).run P w = .ok v w) :
    (results fn tmps).run P w = .ok (if h : vs.toArray.size = 1 then vs.toArray[0] else .tuple vs.toArray) w := by
  have h1 := mapM_run rs vs hl h
  have h2 : (fn.results.mapM (runRes tmps)).run P w = .ok vs.toArray w := by
    rw [hres, Array.mapM_eq_mapM_toList]
    simp [h1]
  have e : results fn tmps = (do let vs ← fn.results.mapM (runRes tmps); return if h : vs.size = 1 then vs[0] else .tuple vs) := by
    unfold results
    congr 2
  rw [e, Sem.run_bind, h2]
  rfl
theorem ROs.get {rs : List ResultVar} {out : List As} {ts : List (Option Nat)} (h : ROs C env rs out ts) : rs.length = out.length ∧ ts.length = out.length ∧ ∀ (j : Nat) (r : ResultVar), rs[j]? = some r → ∃ t, ts[j]? = some t ∧ RO C env r (out.getD j .any) t := by
  induction h with
  | nil => exact ⟨rfl, rfl, fun j r h => by simp at h⟩
  | cons h k ih =>
    obtain ⟨h1, h2, h3⟩ := ih
    refine ⟨by simp [h1], by simp [h2], fun j r hr => ?_⟩
    cases j with
    | zero => simp at hr; subst hr; exact ⟨_, rfl, h⟩
    | succ j => simpa using h3 j r (by simpa using hr)
def osl (ts : List (Option Nat)) : List Nat := ts.filterMap id
theorem mem_osl {ts : List (Option Nat)} {t : Nat} : t ∈ osl ts ↔ ∃ j : Nat, ts[j]? = some (some t) := by
  unfold osl
  rw [List.mem_filterMap]
  constructor
  · rintro ⟨a, ha, h⟩
    have : a = some t := h
    subst this
    obtain ⟨j, hj⟩ := List.mem_iff_getElem?.1 ha
    exact ⟨j, hj⟩
  · rintro ⟨j, hj⟩
    exact ⟨some t, List.mem_of_getElem? hj, rfl⟩
theorem osl_inj : ∀ {ts : List (Option Nat)}, (osl ts).Nodup → ∀ {i j t : Nat}, ts[i]? = some (some t) → ts[j]? = some (some t) → i = j
  | [], _, i, j, t, h, _ => by simp at h
  | a :: ts, hn, i, j, t, hi, hj => by
    have hn' : (osl ts).Nodup := by
      unfold osl at hn ⊢
      cases a with
      | none => simpa using hn
      | some b => simp at hn; exact hn.2
    cases i with
    | zero =>
      cases j with
      | zero => rfl
      | succ j =>
        simp at hi
        subst hi
        have : t ∈ osl ts := mem_osl.2 ⟨j, by simpa using hj⟩
        unfold osl at hn this
        simp at hn this
        exact (hn.1 this).elim
    | succ i =>
      cases j with
      | zero =>
        simp at hj
        subst hj
        have : t ∈ osl ts := mem_osl.2 ⟨i, by simpa using hi⟩
        unfold osl at hn this
        simp at hn this
        exact (hn.1 this).elim
      | succ j => have := osl_inj hn' (i := i) (j := j) (t := t) (by simpa using hi) (by simpa using hj); omega
/-- THE RETURN. -/
theorem AX.retG {rs : List ResultVar} {out outs : List As} {ts : List (Option Nat)} (hres : fn.results = rs.toArray) (h : ROs C env rs out ts) (hnd : (osl ts).Nodup) (ho : OutsOK C env outs (osl ts))
    {e : Exit} (he : e = .ret ∨ e = .normal) : AX C e env (RetQ C fn out outs) := by
  intro a w hr
  have key : Ret C fn out outs a w := by
    obtain ⟨s, F, hr'⟩ := hr
    obtain ⟨hl1, hl2, hget⟩ := h.get
    classical
    let val : Nat → Value := fun j => match rs[j]? with
      | some r => match (runRes a.tmps r).run C.P w with
        | .ok v _ => v
        | .halt _ _ => undef
      | none => undef
    let vs : List Value := (List.range out.length).map val
    have hval : ∀ (j : Nat) (r : ResultVar), rs[j]? = some r → (runRes a.tmps r).run C.P w = .ok (val j) w ∧ (out.getD j .any).free = true ∧ ∃ t, ts[j]? = some t ∧ (out.getD j .any).holds s w g0 (val j) (optF F t) := by
      intro j r hj
      obtain ⟨t, ht, hro⟩ := hget j r hj
      obtain ⟨v, h1, h2, h3⟩ := hro.run hr'
      have : val j = v := by dsimp only [val]; rw [hj]; simp only; rw [h1]
      rw [this]
      exact ⟨h1, h2, t, ht, h3⟩
    have hvs : vs.length = out.length := by simp [vs]
    have hrun := results_run (fn := fn) (vs := vs) (tmps := a.tmps) (P := C.P) (w := w) hres (by rw [hl1, hvs]) (fun j r v hj hv => by
      have hj' : j < out.length := by rw [← hl1]; exact (List.getElem?_eq_some_iff.1 hj).1
      have : v = val j := by simp [vs, List.getElem?_map, List.getElem?_range, hj'] at hv; exact hv.symm
      rw [this]
      exact (hval j r hj).1)
    refine ⟨hr'.dfr, _, s, fun i => if outs.getD i .any = .any then FS.no else F i, fun j b => ∃ t, ts[j]? = some (some t) ∧ F t b, hrun, hr'.ext, hr'.new, hr'.fz, hr'.keep, ?_, fun j => ?_, fun i => ?_, fun i hi b hb => ?_, fun i j b hb hb' => ?_, fun i j b hb hb' => ?_, fun i j b hb hb' => ?_, fun i b hb => ?_, fun i b hb => ?_⟩
    all_goals (try dsimp only)
    all_goals (try dsimp only at hb)
    all_goals (try dsimp only at hb')
    · by_cases h1 : out.length = 1
      · exact .inl h1
      · refine .inr ⟨vs.toArray, ?_, by simp [hvs]⟩
        rw [dif_neg (by simp [hvs, h1])]
    · by_cases hj : j < out.length
      · have hj' : rs[j]? = some rs[j] := List.getElem?_eq_getElem (by omega)
        obtain ⟨h1, h2, t, ht, h3⟩ := hval j _ hj'
        have hres' : resV out.length (if h : vs.toArray.size = 1 then vs.toArray[0] else .tuple vs.toArray) j = val j := by
          unfold resV
          by_cases h4 : out.length = 1
          · rw [if_pos h4, dif_pos (by simp [hvs, h4])]
            have : j = 0 := by omega
            subst this
            simp [vs]
          · rw [if_neg h4, dif_neg (by simp [hvs, h4])]
            simp [vs, Array.getD_eq_getD_getElem?, hj]
        rw [hres']
        refine holds_F h3 (fun b => ?_)
        rw [ht]
        cases t with
        | none => exact ⟨fun h => h.elim, fun ⟨t, h, _⟩ => by cases h⟩
        | some t => exact ⟨fun h => ⟨t, rfl, h⟩, fun ⟨t', h, hb⟩ => by injection h with h; injection h with h; rw [h]; exact hb⟩
      · have : out.getD j .any = .any := by rw [List.getD_eq_getElem?_getD, List.getElem?_eq_none (by omega)]; rfl
        rw [this]
        rintro b ⟨t, ht, _⟩
        rw [List.getElem?_eq_none (by omega)] at ht; cases ht
    · rcases ho i with h | ⟨h, h5, h6, h7⟩
      · exact .inl h
      · obtain ⟨u, hu⟩ := Option.isSome_iff_exists.1 h
        refine .inr ⟨u, hu, ?_⟩
        have h8 := hr'.slot i
        rw [h5, (hr'.pin i u hu).2] at h8
        by_cases hn : outs.getD i .any = .any
        · rw [if_pos hn, hn]; exact fun b hb => hb
        · rw [if_neg hn]; exact As.holds_free h8 h6
    · rw [if_pos hi] at hb; exact hb
    · obtain ⟨t, ht, hb⟩ := hb
      obtain ⟨t', ht', hb'⟩ := hb'
      have := hr'.disj t t' b hb hb'
      subst this
      exact osl_inj hnd ht ht'
    · split at hb
      · exact hb.elim
      · split at hb'
        · exact hb'.elim
        · exact hr'.disj i j b hb hb'
    · obtain ⟨t, ht, hb⟩ := hb
      split at hb'
      · exact hb'.elim
      · rename_i hn
        have h4 := hr'.disj _ _ b hb hb'
        rcases ho j with h | ⟨_, _, _, h7⟩
        · exact hn h
        · exact h7 (h4 ▸ mem_osl.2 ⟨i, ht⟩)
    · obtain ⟨t, ht, hb⟩ := hb
      exact hr'.mine t b hb
    · split at hb
      · exact hb.elim
      · exact hr'.mine i b hb
  rcases he with rfl | rfl <;> exact key

/-! ### Results that stay as they are -/
def As.frz : As → As
  | .own E k xs => .cel (Kd.slice k) xs
  | .box E k x => .cel (Kd.ptr k) x
  | .deep _ => .any
  | A => A
end
end Go.Proofs.YtfnkphllkbkfaaaDoor.VL
