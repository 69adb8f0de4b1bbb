/- Proved here: more rules with the words of VA: arrays in memory, results in variables, tuples handed on, contracts whose results are frozen. General: over every program. -/
import Derived.Test.YtkgboidjghcegaaGreatDoorBva
import Derived.Laws.Small
import Derived.Laws.StructEq
import Derived.ChangeKeysEq
import Derived.Laws.Slices
import Derived.Laws.BytesString
import Derived.Laws.Strings2
import Derived.Laws.IdiomStrings
import Derived.Laws.CopyRow
import Derived.Shelf.SortM.Plain
import Derived.Shelf.SortM.SortNone
import Derived.Sort.OwnSortedInts
import Derived.WalkKit
import Derived.ProofKit
import Derived.OpenShut
import Derived.ShutString
import Derived.ChangeOld
import Derived.Below
import Derived.Carry
import Derived.SizedLaws
import Derived.JoinedOf
set_option linter.unusedVariables false
set_option linter.unusedSimpArgs false
namespace Go.Proofs.YtkgboidjghcegaaGreatDoor.VL
open Go

section
variable {C : Cx} {env env' env0 : Env} {Q : Exit → Act → World → Prop} {o : Oper} {fn : Func} {p q r : Operand} {c : Code} {ops : Array Oper} {l : List Oper} {d t : Nat} {T T' S E : TypeId} {α β γ : Type} {k : Kd α} {k' : Kd β}

/-! ### Elements of arrays in memory -/
theorem run_indexArr {P : Program} {w : World} {n m : Nat} {kk : IntKind} {i : Int} {ad : Addr} (hT : arT P T = some (n, E)) (hm : sizeT P E = some m) (h0 : 0 ≤ i ∧ i < (n : Int)) :
    (Instr.indexAt T (.pointer (some ad)) (.int kk i)).run P w = .ok (.pointer (some (ad.add (i.toNat * m)))) w := by
  have hu : P.underlying T = some (.array n E) := by
    unfold arT at hT
    split at hT
    · simp only [Option.some.injEq, Prod.mk.injEq] at hT; obtain ⟨rfl, rfl⟩ := hT; assumption
    · cases hT
  simp [Instr.indexAt, asIntOf, run_underlying hu, Instr.sureAddr, run_sizeT hm, h0]
theorem OpT.indexAddrP {x : α} {n m : Nat} {kk : IntKind} {i : Int} {f : α → β} {g : α → β → α} (hH : Hd C o (.indexAddr T p q) d) (hp : Opd C env p (.cel (Kd.ptr k) x)) (hq : Opd C env q (.cel (Kd.int kk) i))
    (hT : arT C.P T = some (n, E)) (hm : sizeT C.P E = some m) (h0 : 0 ≤ i ∧ i < (n : Int)) (hs : Sub k (i.toNat * m) k' f g) : OpT C o env (upd env d (.cel (Kd.ptr k') (f x))) :=
  OpT.pure hH.2.1 hH.2.2 fun s F a w hr => by
    obtain ⟨ad, c, e, h1, h2⟩ := hp.getp hr
    refine ⟨.pointer (some (ad.add (i.toNat * m))), ?_, ⟨⟨_, _, rfl, hs.rd h1, cellsAt_sub h2 (i.toNat * m) k'.sz⟩, fun b hb => hb⟩⟩
    have := run_indexArr (P := C.P) (w := w) (kk := kk) (ad := ad) hT hm h0
    simp only [execOp, hH.1, e, (hq.geti hr).1]
    simp [this]
theorem OpT.indexAddrB {x : α} {n m : Nat} {kk : IntKind} {i : Int} {f : α → β} {g : α → β → α} (hH : Hd C o (.indexAddr T p q) d) (hp : Root C env p t) (hb : env t = .box S k x) (hne : t ≠ d) (hq : Opd C env q (.cel (Kd.int kk) i))
    (hT : arT C.P T = some (n, E)) (hm : sizeT C.P E = some m) (h0 : 0 ≤ i ∧ i < (n : Int)) (hs : Sub k (i.toNat * m) k' f g) : OpT C o env (upd env d (.pel t 0 k (i.toNat * m) k' f g)) :=
  OpT.pure hH.2.1 hH.2.2 fun s F a w hr => by
    have h1 := hr.slot t
    rw [hb] at h1
    obtain ⟨b, cs, e, _⟩ := h1
    refine ⟨.pointer (some ((⟨b, 0, none⟩ : Addr).add (i.toNat * m))), ?_, ⟨?_, hp.1, hs⟩, fun b hb => hb⟩
    · have := run_indexArr (P := C.P) (w := w) (kk := kk) (ad := ⟨b, 0, none⟩) hT hm h0
      simp only [execOp, hH.1, hp.2 s F a w hr, e, (hq.geti hr).1]
      simp [this]
    · rw [gv_put_ne _ (by simp [ofSlot, Nat.mod_eq_of_lt hp.1, hne]), e]
      simp [ptrIn]
theorem OpT.fieldAddrE {i0 i off off' n : Nat} {f : α → β} {g : α → β → α} {f' : β → γ} {g' : β → γ → β} {k'' : Kd γ} {x : α} (hH : Hd C o (.fieldAddr S p i) d) (hp : Opd C env p (.pel t i0 k off k' f g)) (hh : Has env t k i0 x) (hne : t ≠ d)
    (hf : fldT C.P S i = some (T, off')) (hn : sizeT C.P T = some n) (h0 : n ≠ 0) (hs : Sub k' off' k'' f' g') (hz : 0 < k''.sz) :
    OpT C o env (upd env d (.pel t i0 k (off + off') k'' (fun x => f' (f x)) (fun x z => g x (g' (f x) z)))) :=
  OpT.pure hH.2.1 hH.2.2 fun s F a w hr => by
    obtain ⟨⟨e, ht, hs0⟩, _⟩ := hp s F a w hr
    obtain ⟨b, E', cur, L, h1, h2, h3, h4⟩ := Has.get hh hr
    rw [h1] at e
    refine ⟨.pointer (some (((⟨b, 0, none⟩ : Addr).add (i0 * k.sz + off)).add off')), ?_, ⟨?_, ht, hs0.comp hs hz⟩, fun b hb => hb⟩
    · have := run_fieldAt (P := C.P) (w := w) (ad := (⟨b, 0, none⟩ : Addr).add (i0 * k.sz + off)) hf hn h0
      simp only [execOp, hH.1, e]
      simp [this]
    · rw [gv_put_ne _ (by simp [ofSlot, Nat.mod_eq_of_lt ht, hne]), h1, add_add]
      congr 3
      omega
/-! ### A tuple goes to another slot -/
/-! ### What is given back out of variables -/
def runRes (tmps : Array Value) : ResultVar → Sem Value
  | .tmp t => pure (tmps.getD t undef)
  | .cell a t => do loadVar t (← asAddr (tmps.getD a undef))
inductive RO (C : Cx) (env : Env) : ResultVar → As → Option Nat → Prop
  | tmp {r t : Nat} {A : As} (hat : At env r t) (hA : env t = A) (hf : A.free = true) : RO C env (.tmp r) A (some t)
  | cellA {α : Type} {k : Kd α} {x : α} {E T : TypeId} {r : Nat} (hr : r < 10000) (h : env r = .box E k x) (hT : aggT C.P T = some true) (hz : sizeT C.P T = some k.sz) : RO C env (.cell r T) (.agg k x) none
  | cell {α : Type} {k : Kd α} {x : α} {E T : TypeId} {r : Nat} (hr : r < 10000) (h : env r = .box E k x) (hT : aggT C.P T = some false) (hz : k.sz = 1) : RO C env (.cell r T) (.cel k x) none
  | cellG {A : As} {T r g : Nat} (h : ∀ {s F a w}, Rel C.N C.w0 C.hd C.pn C.s0 env s F a w → ∃ v, (runRes a.tmps (.cell r T)).run C.P w = .ok v w ∧ A.holds s w g0 v (F g)) (hf : A.free = true) : RO C env (.cell r T) A (some g)
inductive ROs (C : Cx) (env : Env) : List ResultVar → List As → List (Option Nat) → Prop
  | nil : ROs C env [] [] []
  | cons {r : ResultVar} {A : As} {t : Option Nat} {rs : List ResultVar} {out : List As} {ts : List (Option Nat)} (h : RO C env r A t) (k : ROs C env rs out ts) : ROs C env (r :: rs) (A :: out) (t :: ts)
def optF (F : Nat → FS) : Option Nat → FS
  | some t => F t
  | none => FS.no
theorem RO.run {r : ResultVar} {A : As} {t : Option Nat} (h : RO C env r A t) {s F a w} (hr : Rel C.N C.w0 C.hd C.pn C.s0 env s F a w) :
    ∃ v, (runRes a.tmps r).run C.P w = .ok v w ∧ A.free = true ∧ A.holds s w g0 v (optF F t) := by
  cases h with
  | @tmp _ t _ hat hA hf =>
    have h1 := hr.slot t
    have h2 := hat.val hr
    rw [gv_lo hat.1] at h2
    rw [hA] at h1
    refine ⟨_, rfl, hf, ?_⟩
    rw [h2]
    exact As.holds_free h1 hf
  | cellG h hf => obtain ⟨v, h1, h2⟩ := h hr; exact ⟨v, h1, hf, h2⟩
  | @cellA _ _ _ _ _ r hrl h hT hz =>
    have h1 := hr.slot r
    rw [h] at h1
    obtain ⟨b, cs, e, h2, h3, _⟩ := h1
    rw [gv_lo hrl] at e
    have h6 : ∀ j u, cs.toList[j]? = some u → w.cell? ((⟨b, 0, none⟩ : Addr).add j) = some u := fun j u hu => own_cell h2 (by simpa using hu)
    refine ⟨.agg cs.toList.toArray, ?_, rfl, ⟨⟨_, rfl, by simpa using h3⟩, fun b hb => hb⟩⟩
    simp only [runRes, e, asAddr, Sem.run_bind, Sem.run_pure, Result.andThen_ok]
    exact run_loadVar_agg hT (by rw [hz, Kd.len _ h3]) h6
  | @cell _ _ _ _ _ r hrl h hT hz =>
    have h1 := hr.slot r
    rw [h] at h1
    obtain ⟨b, cs, e, h2, h3, _⟩ := h1
    rw [gv_lo hrl] at e
    have hl := Kd.len _ h3
    rw [hz] at hl
    obtain ⟨v, hv⟩ := List.length_eq_one_iff.1 hl
    rw [hv] at h3
    have h6 : w.cell? (⟨b, 0, none⟩ : Addr) = some v := by
      have h7 : cs[0]? = some v := by rw [← Array.getElem?_toList, hv]; rfl
      have := own_cell h2 h7
      simpa [Addr.add] using this
    refine ⟨v, ?_, rfl, ⟨h3, fun b hb => hb⟩⟩
    simp only [runRes, e, asAddr, Sem.run_bind, Sem.run_pure, Result.andThen_ok]
    exact run_loadVar_cel hT h6

theorem mapM_run {P : Program} {w : World} {tmps : Array Value} : ∀ (rs : List ResultVar) (vs : List Value), rs.length = vs.length → (∀ (j : Nat) (r : ResultVar) (v : Value), rs[j]? = some r → vs[j]? = some v → (runRes tmps r).run P w = .ok v w) →
    (rs.mapM (runRes tmps)).run P w = .ok vs w
  | [], [], _, _ => by simp
  | [], _ :: _, h, _ => by simp at h
  | _ :: _, [], h, _ => by simp at h
  | r :: rs, v :: vs, hl, h => by
    have h1 := h 0 r v rfl rfl
    have h2 := mapM_run rs vs (by simpa using hl) (fun j r' v' hr hv => h (j + 1) r' v' (by simpa using hr) (by simpa using hv))
    simp [List.mapM_cons, h1, h2]
theorem results_run {rs : List ResultVar} {vs : List Value} {tmps : Array Value} {P : Program} {w : World} (hres : fn.results = rs.toArray) (hl : rs.length = vs.length) (h : ∀ (j : Nat) (r : ResultVar) (v : Value), rs[j]? = some r → vs[j]? = some v → (runRes tmps r).run P w = .ok v w) :
    (results fn tmps).run P w = .ok (if h : vs.toArray.size = 1 then vs.toArray[0] else .tuple vs.toArray) w := by
  have h1 := mapM_run rs vs hl h
  have h2 : (fn.results.mapM (runRes tmps)).run P w = .ok vs.toArray w := by
    rw [hres, Array.mapM_eq_mapM_toList]
    simp [h1]
  have e : results fn tmps = (do let vs ← fn.results.mapM (runRes tmps); return if h : vs.size = 1 then vs[0] else .tuple vs) := by
    unfold results
    congr 2
  rw [e, Sem.run_bind, h2]
  rfl
theorem ROs.get {rs : List ResultVar} {out : List As} {ts : List (Option Nat)} (h : ROs C env rs out ts) : rs.length = out.length ∧ ts.length = out.length ∧ ∀ (j : Nat) (r : ResultVar), rs[j]? = some r → ∃ t, ts[j]? = some t ∧ RO C env r (out.getD j .any) t := by
  induction h with
  | nil => exact ⟨rfl, rfl, fun j r h => by simp at h⟩
  | cons h k ih =>
    obtain ⟨h1, h2, h3⟩ := ih
    refine ⟨by simp [h1], by simp [h2], fun j r hr => ?_⟩
    cases j with
    | zero => simp at hr; subst hr; exact ⟨_, rfl, h⟩
    | succ j => simpa using h3 j r (by simpa using hr)
def osl (ts : List (Option Nat)) : List Nat := ts.filterMap id
theorem mem_osl {ts : List (Option Nat)} {t : Nat} : t ∈ osl ts ↔ ∃ j : Nat, ts[j]? = some (some t) := by
  unfold osl
  rw [List.mem_filterMap]
  constructor
  · rintro ⟨a, ha, h⟩
    have : a = some t := h
    subst this
    obtain ⟨j, hj⟩ := List.mem_iff_getElem?.1 ha
    exact ⟨j, hj⟩
  · rintro ⟨j, hj⟩
    exact ⟨some t, List.mem_of_getElem? hj, rfl⟩
theorem osl_inj : ∀ {ts : List (Option Nat)}, (osl ts).Nodup → ∀ {i j t : Nat}, ts[i]? = some (some t) → ts[j]? = some (some t) → i = j
  | [], _, i, j, t, h, _ => by simp at h
  | a :: ts, hn, i, j, t, hi, hj => by
    have hn' : (osl ts).Nodup := by
      unfold osl at hn ⊢
      cases a with
      | none => simpa using hn
      | some b => simp at hn; exact hn.2
    cases i with
    | zero =>
      cases j with
      | zero => rfl
      | succ j =>
        simp at hi
        subst hi
        have : t ∈ osl ts := mem_osl.2 ⟨j, by simpa using hj⟩
        unfold osl at hn this
        simp at hn this
        exact (hn.1 this).elim
    | succ i =>
      cases j with
      | zero =>
        simp at hj
        subst hj
        have : t ∈ osl ts := mem_osl.2 ⟨i, by simpa using hi⟩
        unfold osl at hn this
        simp at hn this
        exact (hn.1 this).elim
      | succ j => have := osl_inj hn' (i := i) (j := j) (t := t) (by simpa using hi) (by simpa using hj); omega
/-- THE RETURN. -/
theorem AX.retG {rs : List ResultVar} {out outs : List As} {ts : List (Option Nat)} (hres : fn.results = rs.toArray) (h : ROs C env rs out ts) (hnd : (osl ts).Nodup) (ho : OutsOK C env outs (osl ts))
    {e : Exit} (he : e = .ret ∨ e = .normal) : AX C e env (RetQ C fn out outs) := by
  intro a w hr
  have key : Ret C fn out outs a w := by
    obtain ⟨s, F, hr'⟩ := hr
    obtain ⟨hl1, hl2, hget⟩ := h.get
    classical
    let val : Nat → Value := fun j => match rs[j]? with
      | some r => match (runRes a.tmps r).run C.P w with
        | .ok v _ => v
        | .halt _ _ => undef
      | none => undef
    let vs : List Value := (List.range out.length).map val
    have hval : ∀ (j : Nat) (r : ResultVar), rs[j]? = some r → (runRes a.tmps r).run C.P w = .ok (val j) w ∧ (out.getD j .any).free = true ∧ ∃ t, ts[j]? = some t ∧ (out.getD j .any).holds s w g0 (val j) (optF F t) := by
      intro j r hj
      obtain ⟨t, ht, hro⟩ := hget j r hj
      obtain ⟨v, h1, h2, h3⟩ := hro.run hr'
      have : val j = v := by dsimp only [val]; rw [hj]; simp only; rw [h1]
      rw [this]
      exact ⟨h1, h2, t, ht, h3⟩
    have hvs : vs.length = out.length := by simp [vs]
    have hrun := results_run (fn := fn) (vs := vs) (tmps := a.tmps) (P := C.P) (w := w) hres (by rw [hl1, hvs]) (fun j r v hj hv => by
      have hj' : j < out.length := by rw [← hl1]; exact (List.getElem?_eq_some_iff.1 hj).1
      have : v = val j := by simp [vs, List.getElem?_map, List.getElem?_range, hj'] at hv; exact hv.symm
      rw [this]
      exact (hval j r hj).1)
    refine ⟨hr'.dfr, _, s, fun i => if outs.getD i .any = .any then FS.no else F i, fun j b => ∃ t, ts[j]? = some (some t) ∧ F t b, hrun, hr'.ext, hr'.new, hr'.fz, hr'.keep, ?_, fun j => ?_, fun i => ?_, fun i hi b hb => ?_, fun i j b hb hb' => ?_, fun i j b hb hb' => ?_, fun i j b hb hb' => ?_, fun i b hb => ?_, fun i b hb => ?_⟩
    all_goals (try dsimp only)
    all_goals (try dsimp only at hb)
    all_goals (try dsimp only at hb')
    · by_cases h1 : out.length = 1
      · exact .inl h1
      · refine .inr ⟨vs.toArray, ?_, by simp [hvs]⟩
        rw [dif_neg (by simp [hvs, h1])]
    · by_cases hj : j < out.length
      · have hj' : rs[j]? = some rs[j] := List.getElem?_eq_getElem (by omega)
        obtain ⟨h1, h2, t, ht, h3⟩ := hval j _ hj'
        have hres' : resV out.length (if h : vs.toArray.size = 1 then vs.toArray[0] else .tuple vs.toArray) j = val j := by
          unfold resV
          by_cases h4 : out.length = 1
          · rw [if_pos h4, dif_pos (by simp [hvs, h4])]
            have : j = 0 := by omega
            subst this
            simp [vs]
          · rw [if_neg h4, dif_neg (by simp [hvs, h4])]
            simp [vs, Array.getD_eq_getD_getElem?, hj]
        rw [hres']
        refine holds_F h3 (fun b => ?_)
        rw [ht]
        cases t with
        | none => exact ⟨fun h => h.elim, fun ⟨t, h, _⟩ => by cases h⟩
        | some t => exact ⟨fun h => ⟨t, rfl, h⟩, fun ⟨t', h, hb⟩ => by injection h with h; injection h with h; rw [h]; exact hb⟩
      · have : out.getD j .any = .any := by rw [List.getD_eq_getElem?_getD, List.getElem?_eq_none (by omega)]; rfl
        rw [this]
        rintro b ⟨t, ht, _⟩
        rw [List.getElem?_eq_none (by omega)] at ht; cases ht
    · rcases ho i with h | ⟨h, h5, h6, h7⟩
      · exact .inl h
      · obtain ⟨u, hu⟩ := Option.isSome_iff_exists.1 h
        refine .inr ⟨u, hu, ?_⟩
        have h8 := hr'.slot i
        rw [h5, (hr'.pin i u hu).2] at h8
        by_cases hn : outs.getD i .any = .any
        · rw [if_pos hn, hn]; exact fun b hb => hb
        · rw [if_neg hn]; exact As.holds_free h8 h6
    · rw [if_pos hi] at hb; exact hb
    · obtain ⟨t, ht, hb⟩ := hb
      obtain ⟨t', ht', hb'⟩ := hb'
      have := hr'.disj t t' b hb hb'
      subst this
      exact osl_inj hnd ht ht'
    · split at hb
      · exact hb.elim
      · split at hb'
        · exact hb'.elim
        · exact hr'.disj i j b hb hb'
    · obtain ⟨t, ht, hb⟩ := hb
      split at hb'
      · exact hb'.elim
      · rename_i hn
        have h4 := hr'.disj _ _ b hb hb'
        rcases ho j with h | ⟨_, _, _, h7⟩
        · exact hn h
        · exact h7 (h4 ▸ mem_osl.2 ⟨i, ht⟩)
    · obtain ⟨t, ht, hb⟩ := hb
      exact hr'.mine t b hb
    · split at hb
      · exact hb.elim
      · exact hr'.mine i b hb
  rcases he with rfl | rfl <;> exact key

/-! ### Results that stay as they are -/
def As.frz : As → As
  | .own E k xs => .cel (Kd.slice k) xs
  | .box E k x => .cel (Kd.ptr k) x
  | .deep _ => .any
  | A => A
end
end Go.Proofs.YtkgboidjghcegaaGreatDoor.VL
/- Proved here: the rules of the other texts with short names, for what is known in rows (keep). General: over every program. -/
set_option linter.unusedVariables false
set_option linter.unusedSimpArgs false
namespace Go.Proofs.YtkgboidjghcegaaGreatDoor.VL
open Go

abbrev KL := List (Nat × As)
def nodep (d : Nat) : KL → Bool
  | [] => true
  | (t, A) :: r => !(ofSlot d t) && !(A.dep d) && nodep d r
def drp (d : Nat) : KL → KL
  | [] => []
  | (t, A) :: r => (t, if ofSlot d t || A.dep d then .any else A) :: drp d r
theorem keep_cons_self (d : Nat) (A : As) (e : KL) : keep ((d, A) :: e) d = A := if_pos rfl
theorem keep_cons_ne {d t : Nat} (A : As) (e : KL) (h : t ≠ d) : keep ((d, A) :: e) t = keep e t := if_neg h
theorem nodep_spec {d : Nat} : ∀ {e : KL}, nodep d e = true → ∀ t, (ofSlot d t = true → keep e t = .any) ∧ (keep e t).dep d = false
  | [], _, t => ⟨fun _ => rfl, by simp [keep, As.dep]⟩
  | (t', A) :: r, h, t => by
    simp only [nodep, Bool.and_eq_true, Bool.not_eq_true'] at h
    obtain ⟨⟨h1, h2⟩, h3⟩ := h
    have ih := nodep_spec h3 t
    by_cases ht : t = t'
    · subst ht
      rw [keep_cons_self]
      exact ⟨fun h => absurd (h1.symm.trans h) (by decide), h2⟩
    · rw [keep_cons_ne _ _ ht]; exact ih
theorem upd_keep {d : Nat} {A : As} {e : KL} (h : nodep d e = true) : upd (keep e) d A = keep ((d, A) :: e) := by
  funext t
  unfold upd
  by_cases ht : t = d
  · subst ht; rw [if_pos rfl, keep_cons_self]
  · rw [if_neg ht, keep_cons_ne _ _ ht]
    obtain ⟨h1, h2⟩ := nodep_spec h t
    split
    · rename_i h3; exact (h1 h3).symm
    · rw [h2]; simp
theorem drp_keep {d : Nat} : ∀ {e : KL} (t : Nat), keep (drp d e) t = if ofSlot d t then .any else if (keep e t).dep d then .any else keep e t
  | [], t => by simp [drp, keep, As.dep]
  | (t', B) :: r, t => by
    have ih := drp_keep (d := d) (e := r) t
    by_cases ht : t = t'
    · subst ht
      have e1 : drp d ((t, B) :: r) = (t, if ofSlot d t || B.dep d then .any else B) :: drp d r := rfl
      rw [e1, keep_cons_self, keep_cons_self]
      cases ofSlot d t <;> cases B.dep d <;> rfl
    · have e1 : drp d ((t', B) :: r) = (t', if ofSlot d t' || B.dep d then .any else B) :: drp d r := rfl
      rw [e1, keep_cons_ne _ _ ht, keep_cons_ne _ _ ht]
      exact ih
theorem upd_drp {d : Nat} {A : As} {e : KL} : upd (keep e) d A = keep ((d, A) :: drp d e) := by
  funext t
  unfold upd
  by_cases ht : t = d
  · subst ht; rw [if_pos rfl, keep_cons_self]
  · rw [if_neg ht, keep_cons_ne _ _ ht, drp_keep]

section
variable {C : Cx} {env env' : Env} {e e' : KL} {Q : Exit → Act → World → Prop} {o : Oper} {fn : Func} {p q r : Operand} {c x y : Code} {ops : Array Oper} {l rest : List Oper} {d t : Nat} {T T' S E : TypeId} {α β γ : Type} {k : Kd α} {k' : Kd β} {A B : As}
theorem okd (h1 : Nat.blt d C.N = true) (h2 : C.pn d = none) : C.ok d := ⟨Nat.le_of_ble_eq_true h1, h2⟩
theorem Tm (h : env t = A) (ht : Nat.blt t 10000 = true) (hf : A.flat = true) : Opd C env (.tmp t) A := Opd.tmp h (Nat.le_of_ble_eq_true ht) hf
def inRb (k : IntKind) (n : Int) : Bool := decide (k.min ≤ n) && decide (n ≤ k.max)
theorem inRb_of {k : IntKind} {n : Int} (h : inRb k n = true) : inR k n := by simpa [inRb, inR] using h
theorem I {k : IntKind} {n : Int} (h : inRb k n = true) : Opd C env (.const (.int k n)) (.cel (Kd.int k) n) := Opd.int (inRb_of h)
theorem D {nd : List Nat} (h : ∀ t ∈ nd, env' t = env t) (hm : nd.contains t = true) (ha : env t = A) (ht : Nat.blt t 10000 = true) (hf : A.flat = true) : Opd C env' (.tmp t) A :=
  Tm ((h t (by simpa using hm)).trans ha) ht hf
theorem Kc (d : Nat) (A : As) {l : KL} (hA : env d = A) (h : env.to (keep l)) : env.to (keep ((d, A) :: l)) := Env.to_cons hA h
theorem Kn : env.to (keep []) := Env.to_nil
theorem Kv {x y : α} (h : env d = .cel k x) (hx : x = y) : env d = .cel k y := hx ▸ h
theorem Kb {x y : α} (h : env d = .box E k x) (hx : x = y) : env d = .box E k y := hx ▸ h
theorem Ko {x y : List α} (h : env d = .own E k x) (hx : x = y) : env d = .own E k y := hx ▸ h

/-- One operation in general. -/
theorem AWl.sg (hg : o.guard = none) (h : OpT C o env env') (ht : env'.to (keep e')) (k : AWl C ops rest (keep e') Q) : AWl C ops (o :: rest) env Q :=
  AWl.op hg h (AWl.to ht k)
theorem AWl.st2 (hg : o.guard = none) (h : OpT C o (keep e) (updRes (keep e) d [A, B])) (hn : nodep d e = true) (hd : Nat.blt d 10000 = true) (k : AWl C ops rest (keep ((d + 10000, A) :: (d + 20000, B) :: e)) Q) : AWl C ops (o :: rest) (keep e) Q :=
  AWl.op hg h (AWl.to (fun t => by
    have hd' : d < 10000 := Nat.le_of_ble_eq_true hd
    by_cases h1 : t = d + 10000
    · right; subst h1
      rw [keep_cons_self]; unfold updRes
      rw [if_neg (by omega), if_pos (by simp [ofSlot]; omega), show (d + 10000) / 10000 - 1 = 0 by omega]; rfl
    · by_cases h2 : t = d + 20000
      · right; subst h2
        rw [keep_cons_ne _ _ h1, keep_cons_self]; unfold updRes
        rw [if_neg (by omega), if_pos (by simp [ofSlot]; omega), show (d + 20000) / 10000 - 1 = 1 by omega]; rfl
      · rw [keep_cons_ne _ _ h1, keep_cons_ne _ _ h2]
        obtain ⟨h3, h4⟩ := nodep_spec hn t
        by_cases h5 : ofSlot d t = true
        · exact .inl (h3 h5)
        · right; unfold updRes
          rw [if_neg (fun e => h5 (by subst e; simp [ofSlot]; omega)), if_neg h5, h4]; rfl) k)
/-- Code that is looked at with less. -/
theorem AX.pr {ex : Exit} (ht : env.to (keep e')) (k : AX C ex (keep e') Q) : AX C ex env Q := AX.to ht k

/-! ### Guards -/
/-- An operation that is not wanted. -/
theorem AWl.pas {j : Nat} {want b : Bool} (hg : o.guard = some (j, want)) (hj : (ops[j]?).bind (·.dst) = some t) (hb : keep e t = .cel Kd.bool b) (ht : Nat.blt t 10000 = true) (hbw : b = !want)
    (hd : o.dst = some d) (hdN : C.ok d) (hn : nodep d e = true) (k : AWl C ops rest (keep e) Q) : AWl C ops (o :: rest) (keep e) Q :=
  AWl.pass hg hj hb (Nat.le_of_ble_eq_true ht) hbw hd hdN (AWl.to (fun u => by
    rw [upd_keep hn]
    by_cases hu : u = d
    · subst hu
      left
      exact (nodep_spec hn u).1 (by simp [ofSlot, Nat.mod_eq_of_lt (Nat.lt_of_lt_of_le hdN.1 C.hN)])
    · right; rw [keep_cons_ne _ _ hu]) k)
theorem AWl.pasv {j : Nat} {want b : Bool} (hg : o.guard = some (j, want)) (hj : (ops[j]?).bind (·.dst) = some t) (hb : keep e t = .cel Kd.bool b) (ht : Nat.blt t 10000 = true) (hbw : b = !want)
    (hd : o.dst = some d) (hdN : C.ok d) (hn : nodep d e = true) (k : AWl C ops rest (keep ((d, .val undef) :: e)) Q) : AWl C ops (o :: rest) (keep e) Q :=
  AWl.passV hg hj (.inl (by rw [← hbw]; exact hb)) (Nat.le_of_ble_eq_true ht) hd hdN (by rw [upd_keep hn]; exact k)
theorem AWl.pasu {j : Nat} {want : Bool} (hg : o.guard = some (j, want)) (hj : (ops[j]?).bind (·.dst) = some t) (hb : keep e t = .val undef) (ht : Nat.blt t 10000 = true)
    (hd : o.dst = some d) (hdN : C.ok d) (hn : nodep d e = true) (k : AWl C ops rest (keep ((d, .val undef) :: e)) Q) : AWl C ops (o :: rest) (keep e) Q :=
  AWl.passV hg hj (.inr hb) (Nat.le_of_ble_eq_true ht) hd hdN (by rw [upd_keep hn]; exact k)
/-- What is looked at only if the first holds: the rest of the row goes on with the two put together. -/
theorem AWl.and {b y : Bool} (hb : keep e t = .cel Kd.bool b) (run : b = true → ∀ Q, AWl C ops rest (keep ((d, .cel Kd.bool y) :: e)) Q → AWl C ops l (keep e) Q) (pas : b = false → ∀ Q, AWl C ops rest (keep ((d, .cel Kd.bool false) :: e)) Q → AWl C ops l (keep e) Q)
    (k : AWl C ops rest (keep ((d, .cel Kd.bool (b && y)) :: e)) Q) : AWl C ops l (keep e) Q := by
  cases b
  · exact pas rfl Q (by simpa using k)
  · exact run rfl Q (by simpa using k)
theorem AWl.or {b y : Bool} (hb : keep e t = .cel Kd.bool b) (run : b = false → ∀ Q, AWl C ops rest (keep ((d, .cel Kd.bool y) :: e)) Q → AWl C ops l (keep e) Q) (pas : b = true → ∀ Q, AWl C ops rest (keep ((d, .cel Kd.bool true) :: e)) Q → AWl C ops l (keep e) Q)
    (k : AWl C ops rest (keep ((d, .cel Kd.bool (b || y)) :: e)) Q) : AWl C ops l (keep e) Q := by
  cases b
  · exact run rfl Q (by simpa using k)
  · exact pas rfl Q (by simpa using k)
/-- A choice whose first part is known. -/
theorem OpT.pickT {b : Bool} (hH : Hd C o (.pick p q r) d) (hp : Opd C env p (.cel Kd.bool b)) (hb : b = true) (hq : Opd C env q A) (hA : A.free = true) : OpT C o env (upd env d A) := by
  have := OpT.pick (A := A) (B := A) hH hp (fun _ => hq) (fun h => by rw [hb] at h; cases h) hA hA
  simpa using this
theorem OpT.pickF {b : Bool} (hH : Hd C o (.pick p q r) d) (hp : Opd C env p (.cel Kd.bool b)) (hb : b = false) (hq : Opd C env r A) (hA : A.free = true) : OpT C o env (upd env d A) := by
  have := OpT.pick (A := A) (B := A) hH hp (fun h => by rw [hb] at h; cases h) (fun _ => hq) hA hA
  simpa using this

/-! ### New variables that nobody changes -/
theorem upd_updK (env : Env) (d : Nat) (A B : As) : updK (upd env d A) d B = upd env d B := by
  funext t
  unfold updK upd
  split <;> rfl
theorem OpT.frz {x : α} (h : OpT C o env (upd env d (.box E k x))) : OpT C o env (upd env d (.cel (Kd.ptr k) x)) := fun Q K a w hr hK =>
  h Q K a w hr fun a' w' hr' => hK a' w' (by
    have h1 : upd env d (.box E k x) d = .box E k x := by unfold upd; rw [if_pos rfl]
    have := R_freezeB h1 hr'
    rwa [upd_updK] at this)
theorem OpT.frzO {xs : List α} (h : OpT C o env (upd env d (.own E k xs))) : OpT C o env (upd env d (.cel (Kd.slice k) xs)) := fun Q K a w hr hK =>
  h Q K a w hr fun a' w' hr' => hK a' w' (by
    have h1 : upd env d (.own E k xs) d = .own E k xs := by unfold upd; rw [if_pos rfl]
    have := R_freeze h1 hr'
    rwa [upd_updK] at this)

/-! ### Calls -/
def AC (P : Program) (f : FuncId) (ins out outs : List As) : Prop := ACall P f ins out outs ∧ ∃ fn, P.funcs[f]? = some fn ∧ fn.body.isNone = false ∧ (fn.name == "runtime.NumGoroutine") = false
theorem Af {A : As} {xs : List Operand} {ins outs : List As} {ms : List Mode} {x : Operand} (h : Opd C env x A) (h1 : A.flat = true) (h2 : A.free = true) (r : Args C env xs ins outs ms) : Args C env (x :: xs) (A :: ins) (.any :: outs) (.flat :: ms) := Args.cons ⟨h, h1, h2, rfl⟩ r
theorem An : Args C env [] [] [] [] := Args.nil
def allFlat : List Mode → Bool
  | [] => true
  | .flat :: ms => allFlat ms
  | _ :: _ => false
theorem allFlat_roots : ∀ {ms : List Mode}, allFlat ms = true → rootsOf ms = [] ∧ borsOf ms = []
  | [], _ => ⟨rfl, rfl⟩
  | .flat :: ms, h => allFlat_roots (ms := ms) h
  | .root _ :: ms, h => by cases h
  | .bor _ :: ms, h => by cases h
theorem updRoots_none {outs : List As} : ∀ {ms : List Mode} {outs : List As}, rootsOf ms = [] → updRoots env ms outs = env
  | [], _, _ => rfl
  | .flat :: ms, [], _ => rfl
  | .flat :: ms, _ :: outs, h => updRoots_none (outs := outs) (ms := ms) h
  | .bor _ :: ms, [], _ => rfl
  | .bor _ :: ms, _ :: outs, h => updRoots_none (outs := outs) (ms := ms) h
  | .root _ :: ms, _, h => by cases h
theorem updRes_one (env : Env) (d : Nat) (A : As) : updRes env d [A] = upd env d A := by
  funext t
  unfold updRes upd oneA partA
  rfl
theorem ACall.anys {P : Program} {f : FuncId} {ins out outs : List As} (ha : ∀ i, outs.getD i .any = .any) (h : ACall P f ins out []) : ACall P f ins out outs := by
  intro w s args F h1 hgl h2 h3 h4 h5
  refine (h w s args F h1 hgl h2 h3 h4 h5).mono fun e w' ⟨v, s', F', Fr, g1, g2, g3, g4, g5, g6, g7, g8, g⟩ => ⟨v, s', F', Fr, g1, g2, g3, g4, g5, g6, g7, fun i => ?_, g⟩
  rw [ha i]
  exact g8 i
theorem Args.anys {xs : List Operand} {ins outs : List As} {ms : List Mode} (h : Args C env xs ins outs ms) : allFlat ms = true → ∀ i, outs.getD i .any = .any := by
  induction h with
  | nil => intro _ i; rfl
  | @cons x A O m xs ins outs ms h r ih =>
    intro hm i
    cases m with
    | flat =>
      obtain ⟨_, _, _, hO⟩ := h
      subst hO
      cases i with
      | zero => rfl
      | succ i => exact ih hm i
    | root t => cases hm
    | bor t => cases hm
theorem OpT.c1 {f : FuncId} {ins outs : List As} {xs : List Operand} {ms : List Mode} {ts : Array TypeId} (hc : AC C.P f ins [A] []) (hH : Hd C o (.call { callee := .value (.func f), args := xs.toArray, argTypes := ts }) d)
    (ha : Args C env xs ins outs ms) (hm : allFlat ms = true) (hf : A.free = true) : OpT C o env (upd env d A) := by
  obtain ⟨hc, fn, h1, h2, h3⟩ := hc
  obtain ⟨h4, h5⟩ := allFlat_roots hm
  have := OpT.call hH h1 h2 h3 (hc.anys (ha.anys hm)) ha (by unfold msOK; rw [h4, h5]; rfl) (.inl h5) (by simp [hf])
  rwa [updRoots_none (outs := outs) h4, updRes_one] at this
theorem OpT.c2 {f : FuncId} {ins outs : List As} {xs : List Operand} {ms : List Mode} {ts : Array TypeId} (hc : AC C.P f ins [A, B] []) (hH : Hd C o (.call { callee := .value (.func f), args := xs.toArray, argTypes := ts }) d)
    (ha : Args C env xs ins outs ms) (hm : allFlat ms = true) (hf : A.free = true) (hf' : B.free = true) : OpT C o env (updRes env d [A, B]) := by
  obtain ⟨hc, fn, h1, h2, h3⟩ := hc
  obtain ⟨h4, h5⟩ := allFlat_roots hm
  have := OpT.call hH h1 h2 h3 (hc.anys (ha.anys hm)) ha (by unfold msOK; rw [h4, h5]; rfl) (.inl h5) (by simp [hf, hf'])
  rwa [updRoots_none (outs := outs) h4] at this

theorem AX.rt {ex : Exit} {rs : List ResultVar} {out outs : List As} {ts : List (Option Nat)} (he : ex = .ret ∨ ex = .normal) (hres : fn.results = rs.toArray) (h : ROs C env rs out ts) (hnd : (osl ts).Nodup) (ho : OutsOK C env outs (osl ts)) : AX C ex env (RetQ C fn out outs) :=
  AX.retG hres h hnd ho he
/-- A part of a tuple that lies in another slot. -/
theorem OpT.extractV {j m u : Nat} {A : As} (hH : Hd C o (.extract (.tmp u) j) d) (hu : env u = .ali t) (hul : Nat.blt u 10000 = true) (ht : Nat.blt t 10000 = true) (hm : m = t + 10000 * (j + 1)) (hA : env m = A) (hf : A.flat = true) (hs : A.solid = true) : OpT C o env (upd env d A) :=
  OpT.pure hH.2.1 hH.2.2 fun s F a w hr => by
    have ht' : t < 10000 := Nat.le_of_ble_eq_true ht
    have h1 := hr.slot m
    rw [hA] at h1
    have h2 := run_extract (t := t) (j := j) (A := A) ht' (by rw [← hm]; exact hA) hs hr
    have h3 : a.eval (.tmp u) = a.eval (.tmp t) := by
      have := (Opd.tmp (C := C) hu (Nat.le_of_ble_eq_true hul) rfl s F a w hr).1.1
      rw [this, gv_lo ht']; rfl
    refine ⟨gv a.tmps m, ?_, As.holds_free (As.flat_no h1 hf) (solid_free hs)⟩
    simp only [execOp, hH.1, h3, Sem.run_bind, h2, hm]
    simp
/-! ### Regions of open order -/
inductive DK (C : Cx) (ops : Array Oper) : KL → List Oper → List DI → KL → Prop
  | nil (e : KL) : DK C ops e [] [] e
  | one {e e' e2 : KL} {o : Oper} {l : List Oper} {I : List DI} {d : Nat} {A : As} {nd : List Nat} (h : DStep C ops (keep e) o ⟨d, [A], false, nd⟩) (hn : drp d e = e2) (hd : Nat.blt d 10000 = true) (r : DK C ops ((d, A) :: e2) l I e') : DK C ops e (o :: l) (⟨d, [A], false, nd⟩ :: I) e'
  | two {e e' : KL} {o : Oper} {l : List Oper} {I : List DI} {d : Nat} {A B : As} {nd : List Nat} (h : DStep C ops (keep e) o ⟨d, [A, B], false, nd⟩) (hn : nodep d e = true) (hd : Nat.blt d 10000 = true) (r : DK C ops ((d + 10000, A) :: (d + 20000, B) :: e) l I e') : DK C ops e (o :: l) (⟨d, [A, B], false, nd⟩ :: I) e'
  | md {e e' : KL} {o : Oper} {l : List Oper} {I : List DI} {t : Nat} {A : As} {nd : List Nat} (h : DStep C ops (keep e) o ⟨t, [A], true, nd⟩) (r : DK C ops ((t, A) :: e) l I e') : DK C ops e (o :: l) (⟨t, [A], true, nd⟩ :: I) e'
  | pas {e e' : KL} {o : Oper} {l : List Oper} {I : List DI} {d : Nat} {nd : List Nat} (h : DStep C ops (keep e) o ⟨d, [.any], false, nd⟩) (hn : nodep d e = true) (hd : Nat.blt d 10000 = true) (r : DK C ops e l I e') : DK C ops e (o :: l) (⟨d, [.any], false, nd⟩ :: I) e'
theorem upd_any_keep {d : Nat} {e : KL} (h : nodep d e = true) (hd : d < 10000) : upd (keep e) d .any = keep e := by
  rw [upd_keep h]
  funext t
  by_cases ht : t = d
  · subst ht; rw [keep_cons_self]; exact ((nodep_spec h t).1 (by simp [ofSlot, Nat.mod_eq_of_lt hd])).symm
  · rw [keep_cons_ne _ _ ht]
theorem updRes_two {d : Nat} {e : KL} (hn : nodep d e = true) (hd : Nat.blt d 10000 = true) : updRes (keep e) d [A, B] = keep ((d + 10000, A) :: (d + 20000, B) :: e) := by
  have hd' : d < 10000 := Nat.le_of_ble_eq_true hd
  funext t
  unfold updRes
  by_cases h1 : t = d + 10000
  · subst h1
    rw [keep_cons_self, if_neg (by omega), if_pos (by simp [ofSlot]; omega), show (d + 10000) / 10000 - 1 = 0 by omega]; rfl
  · by_cases h2 : t = d + 20000
    · subst h2
      rw [keep_cons_ne _ _ h1, keep_cons_self, if_neg (by omega), if_pos (by simp [ofSlot]; omega), show (d + 20000) / 10000 - 1 = 1 by omega]; rfl
    · rw [keep_cons_ne _ _ h1, keep_cons_ne _ _ h2]
      obtain ⟨h3, h4⟩ := nodep_spec hn t
      by_cases h5 : t = d
      · subst h5; rw [if_pos rfl, h3 (by simp [ofSlot, Nat.mod_eq_of_lt hd'])]; rfl
      · rw [if_neg h5]
        by_cases h6 : ofSlot d t = true
        · rw [if_pos h6, h3 h6]
          have h7 : t % 10000 = d := by simpa [ofSlot] using h6
          have : t / 10000 - 1 ≥ 2 := by omega
          unfold partA
          simp only
          rw [List.getD_eq_getElem?_getD, List.getElem?_eq_none (by simpa using this)]; rfl
        · rw [if_neg h6, h4]; rfl
def DG (C : Cx) (ops : Array Oper) (e : KL) (l : List Oper) (K : KL → List DI → Prop) : Prop := ∃ I e', DK C ops e l I e' ∧ K e' I
theorem DG.nil {K : KL → List DI → Prop} (h : K e []) : DG C ops e [] K := ⟨[], e, DK.nil e, h⟩
theorem DG.one {K : KL → List DI → Prop} {d : Nat} {A : As} {e2 : KL} (nd : List Nat) (h : DStep C ops (keep e) o ⟨d, [A], false, nd⟩) (hn : drp d e = e2) (hd : Nat.blt d 10000 = true) (r : DG C ops ((d, A) :: e2) l (fun e' I => K e' (⟨d, [A], false, nd⟩ :: I))) : DG C ops e (o :: l) K := by
  obtain ⟨I, e', h1, h2⟩ := r; exact ⟨_, _, DK.one h hn hd h1, h2⟩
theorem DG.md {K : KL → List DI → Prop} {t : Nat} {A : As} (nd : List Nat) (h : DStep C ops (keep e) o ⟨t, [A], true, nd⟩) (r : DG C ops ((t, A) :: e) l (fun e' I => K e' (⟨t, [A], true, nd⟩ :: I))) : DG C ops e (o :: l) K := by
  obtain ⟨I, e', h1, h2⟩ := r; exact ⟨_, _, DK.md h h1, h2⟩
/-- What came in between is forgotten. -/
def jk : Nat → KL → Bool
  | 0, _ => true
  | n + 1, [] => true
  | n + 1, (t, _) :: l => (l.drop n).all (fun p => !(p.1 == t)) && jk n l
theorem junk {a : Nat × As} : ∀ (n : Nat) {l : KL}, jk n l = true → (keep (a :: l)).to (keep (a :: l.drop n))
  | 0, l, _ => fun t => .inr rfl
  | n + 1, [], _ => fun t => .inr rfl
  | n + 1, (t', A) :: l, h => by
    simp only [jk, Bool.and_eq_true] at h
    intro t
    have ih := junk (a := a) n h.2 t
    obtain ⟨d, B⟩ := a
    by_cases ht : t = d
    · subst ht; right; rw [keep_cons_self, keep_cons_self]
    · rw [keep_cons_ne _ _ ht, keep_cons_ne _ _ ht] at ih
      rw [keep_cons_ne _ _ ht, keep_cons_ne _ _ ht]
      show keep (l.drop n) t = .any ∨ keep (l.drop n) t = _
      by_cases ht' : t = t'
      · subst ht'
        left
        refine keep_none _ _ fun p hp e => ?_
        have := List.all_eq_true.1 h.1 p hp
        simp [e] at this
      · rw [keep_cons_ne _ _ ht']; exact ih
end
theorem nw {n : Int} (h : -9223372036854775808 ≤ n ∧ n ≤ 9223372036854775807) : IntKind.i64.wrap n = n := wrap_i64 h
theorem nw16 {n : Int} (h : -32768 ≤ n ∧ n ≤ 32767) : IntKind.i16.wrap n = n := wrap_id h
/-! ### Parts of tuples -/
theorem Sub.fst {α β : Type} {a : Kd α} {b : Kd β} : Sub (Kd.pair a b) 0 a Prod.fst (fun x y => (y, x.2)) where
  rd {s cs x} h := by
    obtain ⟨c, d, rfl, h1, h2⟩ := h
    rw [List.drop_zero, ← a.len h1, List.take_left]; exact h1
  wr {s cs x c y} h h' := by
    obtain ⟨c', d, rfl, h1, h2⟩ := h
    refine ⟨c, d, ?_, h', h2⟩
    rw [List.take_zero, Nat.zero_add, List.nil_append, ← a.len h1, List.drop_left]
theorem Sub.snd {α β γ : Type} {a : Kd α} {b : Kd β} {c : Kd γ} {o : Nat} {f : β → γ} {g : β → γ → β} (hs : Sub b o c f g) : Sub (Kd.pair a b) (a.sz + o) c (fun x => f x.2) (fun x y => (x.1, g x.2 y)) where
  rd {s cs x} h := by
    obtain ⟨c', d, rfl, h1, h2⟩ := h
    have e : (c' ++ d).drop (a.sz + o) = d.drop o := by rw [← a.len h1, List.drop_append, List.drop_of_length_le (by omega), List.nil_append]; congr 1; omega
    rw [e]; exact hs.rd h2
  wr {s cs x cc y} h h' := by
    obtain ⟨c', d, rfl, h1, h2⟩ := h
    refine ⟨c', d.take o ++ (cc ++ d.drop (o + c.sz)), ?_, h1, hs.wr h2 h'⟩
    have hl := a.len h1
    have e1 : (c' ++ d).take (a.sz + o) = c' ++ d.take o := by rw [← hl, List.take_append, List.take_of_length_le (by omega)]; congr 2; omega
    have e2 : (c' ++ d).drop (a.sz + o + c.sz) = d.drop (o + c.sz) := by rw [← hl, List.drop_append, List.drop_of_length_le (by omega), List.nil_append]; congr 1; omega
    rw [e1, e2, List.append_assoc]
/-- One of two: which one is told by a number. -/
theorem Sub.two {α : Type} {a : Kd α} {i : Nat} (hi : i < 2) (hz : a.sz = 1) : Sub (Kd.pair a a) (i * a.sz) a (fun x => if i = 0 then x.1 else x.2) (fun x y => if i = 0 then (y, x.2) else (x.1, y)) := by
  rcases (by omega : i = 0 ∨ i = 1) with rfl | rfl
  · have := Sub.fst (a := a) (b := a)
    simpa using this
  · have := Sub.snd (a := a) (Sub.whole a)
    simpa using this
end Go.Proofs.YtkgboidjghcegaaGreatDoor.VL
/- Proved here: more rules of single steps, with the words of VA..VN. General: over every program. -/
set_option linter.unusedVariables false
set_option linter.unusedSimpArgs false
namespace Go.Proofs.YtkgboidjghcegaaGreatDoor.VL
open Go
section
variable {C : Cx} {env : Env} {o : Oper} {T T' : TypeId} {p q : Operand} {d : Nat}
theorem U2 (n : Nat) {m : Int} (hm : Int.ofNat n = m) (h : Nat.blt n 18446744073709551616 = true) : Opd C env (.const (.int .u64 m)) (.cel Kd.u64 (BitVec.ofNat 64 n)) := by
  subst hm
  have h' : n < 18446744073709551616 := Nat.le_of_ble_eq_true h
  have := Opd.u64 (C := C) (env := env) (n := Int.ofNat n) (by constructor; exact Int.natCast_nonneg n; exact Int.ofNat_lt.2 h')
  have e : BitVec.ofInt 64 (Int.ofNat n) = BitVec.ofNat 64 n := by
    apply BitVec.eq_of_toNat_eq
    rw [BitVec.toNat_ofInt, BitVec.toNat_ofNat]
    show ((n : Int) % _).toNat = _
    omega
  rw [e] at this
  exact this
theorem OpT.ucmp {op : BinOp} {x y : BitVec 64} {r : Bool} (hH : Hd C o (.binOp op T p q T') d)
    (hp : Opd C env p (.cel Kd.u64 x)) (hq : Opd C env q (.cel Kd.u64 y))
    (hop : op = .lss ∧ r = decide (x.toNat < y.toNat) ∨ op = .leq ∧ r = decide (x.toNat ≤ y.toNat) ∨ op = .gtr ∧ r = decide (x.toNat > y.toNat) ∨ op = .geq ∧ r = decide (x.toNat ≥ y.toNat)) : OpT C o env (upd env d (.cel Kd.bool r)) :=
  OpT.pure hH.2.1 hH.2.2 fun s F a w hr => by
    refine ⟨.bool r, ?_, ⟨rfl, fun b hb => hb⟩⟩
    rcases hop with ⟨rfl, rfl⟩ | ⟨rfl, rfl⟩ | ⟨rfl, rfl⟩ | ⟨rfl, rfl⟩ <;> simp [execOp, hH.1, hp.getu hr, hq.getu hr, binOp, eqGuard, Op.intCmp]
theorem OpT.ugtr {x y : BitVec 64} (hH : Hd C o (.binOp .gtr T p q T') d) (hp : Opd C env p (.cel Kd.u64 x)) (hq : Opd C env q (.cel Kd.u64 y)) : OpT C o env (upd env d (.cel Kd.bool (decide (x.toNat > y.toNat)))) := OpT.ucmp hH hp hq (by simp)
theorem OpT.uquo {x y : BitVec 64} (hH : Hd C o (.binOp .quo T p q T') d) (hp : Opd C env p (.cel Kd.u64 x)) (hq : Opd C env q (.cel Kd.u64 y)) (h0 : y.toNat ≠ 0) : OpT C o env (upd env d (.cel Kd.u64 (x / y))) :=
  OpT.pure hH.2.1 hH.2.2 fun s F a w hr => by
    refine ⟨.int .u64 ((x / y).toNat : Int), ?_, ⟨rfl, fun b hb => hb⟩⟩
    have h1 : ((x.toNat : Int).tdiv (y.toNat : Int)) = ((x / y).toNat : Int) := by
      rw [BitVec.toNat_udiv, Int.tdiv_eq_ediv_of_nonneg (by omega)]; rfl
    have h2 : IntKind.u64.wrap ((x / y).toNat : Int) = ((x / y).toNat : Int) := by rw [wrap_u64]; have := (x / y).isLt; omega
    have h3 : (y.toNat : Int) ≠ 0 := by omega
    simp only [execOp, hH.1, hp.getu hr, hq.getu hr, binOp, eqGuard, Op.intDiv, h3, if_false, h1, h2, reduceIte]
    simp
theorem OpT.urem {x y : BitVec 64} (hH : Hd C o (.binOp .rem T p q T') d) (hp : Opd C env p (.cel Kd.u64 x)) (hq : Opd C env q (.cel Kd.u64 y)) (h0 : y.toNat ≠ 0) : OpT C o env (upd env d (.cel Kd.u64 (x % y))) :=
  OpT.pure hH.2.1 hH.2.2 fun s F a w hr => by
    refine ⟨.int .u64 ((x % y).toNat : Int), ?_, ⟨rfl, fun b hb => hb⟩⟩
    have h1 : ((x.toNat : Int).tmod (y.toNat : Int)) = ((x % y).toNat : Int) := by
      rw [BitVec.toNat_umod, Int.tmod_eq_emod_of_nonneg (by omega)]; rfl
    have h3 : (y.toNat : Int) ≠ 0 := by omega
    simp only [execOp, hH.1, hp.getu hr, hq.getu hr, binOp, eqGuard, Op.intDiv, h3, if_false, h1, reduceIte]
    simp
theorem OpT.imax {k : IntKind} {x y : Int} {ts : Array TypeId} (hH : Hd C o (.call { callee := .builtin .max, args := #[p, q], argTypes := ts }) d) (hp : Opd C env p (.cel (Kd.int k) x)) (hq : Opd C env q (.cel (Kd.int k) y)) : OpT C o env (upd env d (.cel (Kd.int k) (max x y))) :=
  OpT.pure hH.2.1 hH.2.2 fun s F a w hr => by
    have hx := hp.geti hr
    have hy := hq.geti hr
    refine ⟨.int k (max x y), ?_, ⟨⟨rfl, ?_⟩, fun b hb => hb⟩⟩
    · have h1 := run_max_int2 (P := C.P) w ts o.type k k x y
      have h2 : (if y > x then y else x) = max x y := by split <;> omega
      rw [h2] at h1
      simp [execOp, hH.1, resolve, invoke, builtin, hx.1, hy.1, h1]
    · rcases Int.le_total x y with h | h
      · rw [Int.max_eq_right h]; exact hy.2
      · rw [Int.max_eq_left h]; exact hx.2
theorem OpT.iand {x y : Nat} (hH : Hd C o (.binOp .and T p q T') d) (hp : Opd C env p (.cel (Kd.int .i64) (x : Int))) (hq : Opd C env q (.cel (Kd.int .i64) (y : Int))) : OpT C o env (upd env d (.cel (Kd.int .i64) ((x &&& y : Nat) : Int))) :=
  OpT.pure hH.2.1 hH.2.2 fun s F a w hr => by
    have hx := inR_i64.1 (hp.geti hr).2
    have hy := inR_i64.1 (hq.geti hr).2
    have hle : x &&& y ≤ y := Nat.and_le_right
    obtain ⟨X, rfl⟩ : ∃ X : BitVec 64, X.toNat = x := ⟨BitVec.ofNat 64 x, by rw [BitVec.toNat_ofNat]; omega⟩
    obtain ⟨Y, rfl⟩ : ∃ Y : BitVec 64, Y.toNat = y := ⟨BitVec.ofNat 64 y, by rw [BitVec.toNat_ofNat]; omega⟩
    refine ⟨.int .i64 ((X.toNat &&& Y.toNat : Nat) : Int), ?_, ⟨⟨rfl, inR_i64.2 (by omega)⟩, fun b hb => hb⟩⟩
    have h2 : IntKind.i64.wrap ((X &&& Y).toNat : Int) = ((X.toNat &&& Y.toNat : Nat) : Int) := by
      rw [BitVec.toNat_and]; exact wrap_i64 (by omega)
    simp only [execOp, hH.1, (hp.geti hr).1, (hq.geti hr).1, binOp, eqGuard, Op.intBits, IntKind.bits, ofInt_toNat]
    exact (show _ = Result.ok (Next.value (Value.int .i64 (IntKind.i64.wrap ((X &&& Y).toNat : Int)))) w from rfl).trans (by rw [h2])
end
end Go.Proofs.YtkgboidjghcegaaGreatDoor.VL
/- Proved here: the program's '==' on structs and arrays is equality of data. With the words of VA..VP. General: over every program. -/
set_option linter.unusedVariables false
set_option linter.unusedSimpArgs false
namespace Go.Proofs.YtkgboidjghcegaaGreatDoor.VL
open Go

/-- Are two data the same? -/
noncomputable def eqv {α : Type} (x y : α) : Bool := @decide (x = y) (Classical.propDecidable _)
theorem eqv_iff {α : Type} {x y : α} : eqv x y = true ↔ x = y := by unfold eqv; exact @decide_eq_true_iff _ (Classical.propDecidable _)
theorem eqv_false_iff {α : Type} {x y : α} : eqv x y = false ↔ x ≠ y := by unfold eqv; exact @decide_eq_false_iff_not _ (Classical.propDecidable _)
theorem eqv_self {α : Type} (x : α) : eqv x x = true := eqv_iff.2 rfl
theorem eqv_ne {α : Type} {x y : α} (h : x ≠ y) : eqv x y = false := eqv_false_iff.2 h
theorem eqv_of {α : Type} {x y : α} {b : Bool} (h : b = true ↔ x = y) : b = eqv x y := by
  rw [Bool.eq_iff_iff, eqv_iff]; exact h
theorem eqv_pair {α β : Type} {x y : α × β} : eqv x y = (eqv x.1 y.1 && eqv x.2 y.2) := by
  symm; refine eqv_of ?_
  rw [Bool.and_eq_true, eqv_iff, eqv_iff, Prod.ext_iff]
theorem eqv_beq {α : Type} [BEq α] [LawfulBEq α] (x y : α) : (x == y) = eqv x y := eqv_of (by simp)
def rdV {α : Type} (agg : Bool) (k : Kd α) (s : Hp) (v : Value) (x : α) : Prop := match agg with
  | true => ∃ cs, v = .agg cs ∧ k.rd s cs.toList x
  | false => k.rd s [v] x
/-- The program's '==' on a type is equality of data. -/
def EqT {α : Type} (P : Program) (T : TypeId) (k : Kd α) (n : Nat) : Prop :=
  ∃ agg, aggT P T = some agg ∧ sizeT P T = some k.sz ∧ (agg = true ∨ k.sz = 1) ∧ ∀ {s : Hp} {v u : Value} {x y : α} {w : World} {d : Nat}, n ≤ d → rdV agg k s v x → rdV agg k s u y → (Op.equalIn d T v u).run P w = .ok (eqv x y) w

section
variable {P : Program} {T E : TypeId} {α β : Type}
theorem EqT.int {kk : IntKind} (h : P.underlying T = some (.int kk)) (hz : sizeT P T = some 1) : EqT P T (Kd.int kk) 1 := by
  refine ⟨false, by unfold aggT; rw [h], hz, .inr rfl, fun {s v u x y w d} hd h1 h2 => ?_⟩
  obtain ⟨e1, _⟩ := h1
  obtain ⟨e2, _⟩ := h2
  simp only [List.cons.injEq, and_true] at e1 e2
  subst e1; subst e2
  obtain ⟨d, rfl⟩ : ∃ d', d = d' + 1 := ⟨d - 1, by omega⟩
  rw [run_equalIn_int w d T kk kk x y h, eqv_beq]
theorem EqT.u64 (h : P.underlying T = some (.int .u64)) (hz : sizeT P T = some 1) : EqT P T Kd.u64 1 := by
  refine ⟨false, by unfold aggT; rw [h], hz, .inr rfl, fun {s v u x y w d} hd h1 h2 => ?_⟩
  simp only [rdV, Kd.u64, List.cons.injEq, and_true] at h1 h2
  subst h1; subst h2
  obtain ⟨d, rfl⟩ : ∃ d', d = d' + 1 := ⟨d - 1, by omega⟩
  rw [run_equalIn_int w d T .u64 .u64 _ _ h]
  congr 1
  refine eqv_of ?_
  simp only [beq_iff_eq]
  exact ⟨fun e => BitVec.eq_of_toNat_eq (by omega), fun e => by rw [e]⟩
theorem EqT.bool (h : P.underlying T = some .bool) (hz : sizeT P T = some 1) : EqT P T Kd.bool 1 := by
  refine ⟨false, by unfold aggT; rw [h], hz, .inr rfl, fun {s v u x y w d} hd h1 h2 => ?_⟩
  simp only [rdV, Kd.bool, List.cons.injEq, and_true] at h1 h2
  subst h1; subst h2
  obtain ⟨d, rfl⟩ : ∃ d', d = d' + 1 := ⟨d - 1, by omega⟩
  rw [run_equalIn_bool' w d T x y h, eqv_beq]
theorem toList_inj {a b : ByteArray} (h : a.toList = b.toList) : a = b := by
  rw [ByteArray.toList_eq, ByteArray.toList_eq] at h
  exact ByteArray.ext (Array.toList_inj.1 h)
theorem part_rd {agg : Bool} {k : Kd α} {s : Hp} {xs : Array Value} {o : Nat} {x : α} {w : World} (ha : aggT P T = some agg) (hs : sizeT P T = some k.sz) (hz : agg = true ∨ k.sz = 1)
    (h : k.rd s ((xs.toList.drop o).take k.sz) x) : ∃ v, (part T xs o).run P w = .ok v w ∧ rdV agg k s v x := by
  cases agg with
  | true =>
    refine ⟨_, run_part_agg ha hs, _, rfl, ?_⟩
    have e : (xs.extract o (o + k.sz)).toList = (xs.toList.drop o).take k.sz := by
      rw [Array.toList_extract, List.extract_eq_take_drop]; congr 1; omega
    rw [e]; exact h
  | false =>
    have hz1 : k.sz = 1 := by simpa using hz
    have hl := k.len h
    rw [hz1] at hl h
    rw [List.length_take, List.length_drop, Array.length_toList] at hl
    have ho : o < xs.size := by omega
    refine ⟨xs[o], run_part_cel ha (by simp [ho]), ?_⟩
    have e : (xs.toList.drop o).take 1 = [xs[o]] := by
      rw [List.drop_eq_getElem_cons (by simpa using ho)]
      simp
    rw [e] at h
    exact h
def EqFs {α : Type} (P : Program) (fs : List Field) (o : Nat) (k : Kd α) (n : Nat) : Prop :=
  ∀ (s : Hp) (xs ys : Array Value) (x y : α) (w : World) (d : Nat), n ≤ d → k.rd s (xs.toList.drop o) x → k.rd s (ys.toList.drop o) y → (Op.eqFields d xs ys fs).run P w = .ok (eqv x y) w
theorem EqFs.one {k : Kd α} {f : Field} {o n : Nat} (ho : f.offset = o) (hn : (f.name == "_") = false) (h : EqT P f.type k n) : EqFs P [f] o k n := by
  intro s xs ys x y w d hd hx hy
  obtain ⟨agg, h1, h2, h3, h4⟩ := h
  obtain ⟨v, a1, a2⟩ := part_rd (w := w) h1 h2 h3 (xs := xs) (o := o) (x := x) (s := s) (by rw [List.take_of_length_le (by rw [k.len hx]; exact Nat.le_refl _)]; exact hx)
  obtain ⟨u, b1, b2⟩ := part_rd (w := w) h1 h2 h3 (xs := ys) (o := o) (x := y) (s := s) (by rw [List.take_of_length_le (by rw [k.len hy]; exact Nat.le_refl _)]; exact hy)
  have hn' : f.name ≠ "_" := by simpa using hn
  have e0 := h4 (w := w) (d := d) hd a2 b2
  simp only [Op.eqFields, if_pos hn', Sem.run_bind, ho, a1, b1, e0, Result.andThen_ok]
  cases eqv x y <;> simp
theorem rd_pair_drop {k : Kd α} {k' : Kd β} {s : Hp} {l : List Value} {x : α × β} (h : (Kd.pair k k').rd s l x) : k.rd s (l.take k.sz) x.1 ∧ k'.rd s (l.drop k.sz) x.2 := by
  obtain ⟨c, d, rfl, h1, h2⟩ := h
  rw [← k.len h1, List.take_left, List.drop_left]
  exact ⟨h1, h2⟩
theorem EqFs.cons {k : Kd α} {k' : Kd β} {f : Field} {fs : List Field} {o n m r : Nat} (ho : f.offset = o) (hn : (f.name == "_") = false) (h : EqT P f.type k n) (hs : EqFs P fs (o + k.sz) k' m) (hnr : Nat.ble n r = true) (hmr : Nat.ble m r = true) : EqFs P (f :: fs) o (Kd.pair k k') r := by
  have hnr' := Nat.le_of_ble_eq_true hnr
  have hmr' := Nat.le_of_ble_eq_true hmr
  intro s xs ys x y w d hd hx hy
  obtain ⟨agg, h1, h2, h3, h4⟩ := h
  obtain ⟨hx1, hx2⟩ := rd_pair_drop hx
  obtain ⟨hy1, hy2⟩ := rd_pair_drop hy
  rw [List.drop_drop] at hx2 hy2
  obtain ⟨v, a1, a2⟩ := part_rd (w := w) h1 h2 h3 (xs := xs) (o := o) hx1
  obtain ⟨u, b1, b2⟩ := part_rd (w := w) h1 h2 h3 (xs := ys) (o := o) hy1
  have hn' : f.name ≠ "_" := by simpa using hn
  have hr := hs s xs ys x.2 y.2 w d (by omega) hx2 hy2
  rw [Op.eqFields]
  have e0 := h4 (w := w) (d := d) (by omega) a2 b2
  simp only [if_pos hn', Sem.run_bind, ho, a1, b1, e0, Result.andThen_ok]
  rw [eqv_pair]
  cases eqv x.1 y.1
  · simp
  · simpa using hr
theorem EqT.struct {k : Kd α} {fs : Array Field} {n : Nat} (hu : P.underlying T = some (.struct fs)) (hz : sizeT P T = some k.sz) (hp : P.stoodInHeld T = false) (h : EqFs P fs.toList 0 k n) : EqT P T k (n + 1) := by
  refine ⟨true, by unfold aggT; rw [hu], hz, .inl rfl, fun {s v u x y w d} hd h1 h2 => ?_⟩
  obtain ⟨cs, rfl, h1⟩ := h1
  obtain ⟨ds, rfl, h2⟩ := h2
  obtain ⟨d, rfl⟩ : ∃ d', d = d' + 1 := ⟨d - 1, by omega⟩
  have hf : P.fieldsOf T = fs := by simp [Program.fieldsOf, hu]
  rw [run_equalIn_struct (P := P) w d T cs ds (by rw [hf]; exact hu) hp, hf]
  exact h s cs ds x y w d (by omega) h1 h2
theorem EqT.two {k : Kd α} {n : Nat} (hu : P.underlying T = some (.array 2 E)) (hz : sizeT P T = some (k.sz + k.sz)) (he : P.cellsOf E = k.sz) (h : EqT P E k n) : EqT P T (Kd.pair k k) (n + 1) := by
  refine ⟨true, by unfold aggT; rw [hu], hz, .inl rfl, fun {s v u x y w d} hd h1 h2 => ?_⟩
  obtain ⟨agg, g1, g2, g3, g4⟩ := h
  obtain ⟨i, hi, _⟩ := Option.map_eq_some_iff.1 g2
  obtain ⟨cs, rfl, h1⟩ := h1
  obtain ⟨ds, rfl, h2⟩ := h2
  obtain ⟨d, rfl⟩ : ∃ d', d = d' + 1 := ⟨d - 1, by omega⟩
  rw [run_equalIn_array w d cs ds hu hi, he]
  obtain ⟨hx1, hx2⟩ := rd_pair_drop h1
  obtain ⟨hy1, hy2⟩ := rd_pair_drop h2
  obtain ⟨v0, a1, a2⟩ := part_rd (w := w) g1 g2 g3 (xs := cs) (o := 0) (x := x.1) (s := s) (by simpa using hx1)
  obtain ⟨u0, b1, b2⟩ := part_rd (w := w) g1 g2 g3 (xs := ds) (o := 0) (x := y.1) (s := s) (by simpa using hy1)
  obtain ⟨v1, a3, a4⟩ := part_rd (w := w) g1 g2 g3 (xs := cs) (o := 1 * k.sz) (x := x.2) (s := s) (by rw [List.take_of_length_le (by rw [Nat.one_mul, k.len hx2]; exact Nat.le_refl _)]; simpa using hx2)
  obtain ⟨u1, b3, b4⟩ := part_rd (w := w) g1 g2 g3 (xs := ds) (o := 1 * k.sz) (x := y.2) (s := s) (by rw [List.take_of_length_le (by rw [Nat.one_mul, k.len hy2]; exact Nat.le_refl _)]; simpa using hy2)
  have e0 := g4 (w := w) (d := d) (by omega) a2 b2
  have e1 := g4 (w := w) (d := d) (by omega) a4 b4
  rw [Nat.one_mul] at a3 b3
  show (Op.eqItems d E k.sz cs ds [0, 1]).run P w = _
  simp only [Op.eqItems, Sem.run_bind, Nat.zero_mul, Nat.one_mul, a1, b1, a3, b3, e0, e1, Result.andThen_ok]
  rw [eqv_pair]
  cases eqv x.1 y.1
  · simp
  · simp only [Bool.not_true, Bool.false_eq_true, if_false, Sem.run_bind, Sem.run_ite, a3, b3, e1, Result.andThen_ok, Bool.true_and]
    cases eqv x.2 y.2 <;> simp
end
section
variable {C : Cx} {env : Env} {o : Oper} {T T' : TypeId} {p q : Operand} {d : Nat} {α : Type} {k : Kd α}
theorem EqT.run {P : Program} {n : Nat} (h : EqT P T k n) (hT : aggT P T = some true) (hn : n ≤ 10000) {s : Hp} {cs ds : Array Value} {x y : α} {w : World} (h1 : k.rd s cs.toList x) (h2 : k.rd s ds.toList y) :
    (Op.equalIn 10000 T (.agg cs) (.agg ds)).run P w = .ok (eqv x y) w := by
  obtain ⟨agg, g1, g2, g3, g4⟩ := h
  rw [hT] at g1
  obtain rfl : agg = true := by simpa using g1.symm
  exact g4 hn ⟨cs, rfl, h1⟩ ⟨ds, rfl, h2⟩
theorem OpT.eqA {n : Nat} {x y : α} (hH : Hd C o (.binOp .eql T p q T') d) (hp : Opd C env p (.agg k x)) (hq : Opd C env q (.agg k y)) (h : EqT C.P T k n) (hT : aggT C.P T = some true) (hn : Nat.ble n 10000 = true)
    (hg : C.P.eqGuardType C.P.depth T = false) : OpT C o env (upd env d (.cel Kd.bool (eqv x y))) :=
  OpT.pure hH.2.1 hH.2.2 fun s F a w hr => by
    obtain ⟨cs, e1, h1⟩ := hp.geta hr
    obtain ⟨ds, e2, h2⟩ := hq.geta hr
    refine ⟨.bool (eqv x y), ?_, ⟨rfl, fun b hb => hb⟩⟩
    simp only [execOp, hH.1, e1, e2, Sem.run_bind, run_eqGuard_agg w _ T p q cs ds hg, run_eql_struct, h.run hT (Nat.le_of_ble_eq_true hn) h1 h2, Result.andThen_ok]
    rfl
theorem OpT.neA {n : Nat} {x y : α} (hH : Hd C o (.binOp .neq T p q T') d) (hp : Opd C env p (.agg k x)) (hq : Opd C env q (.agg k y)) (h : EqT C.P T k n) (hT : aggT C.P T = some true) (hn : Nat.ble n 10000 = true)
    (hg : C.P.eqGuardType C.P.depth T = false) : OpT C o env (upd env d (.cel Kd.bool (!(eqv x y)))) :=
  OpT.pure hH.2.1 hH.2.2 fun s F a w hr => by
    obtain ⟨cs, e1, h1⟩ := hp.geta hr
    obtain ⟨ds, e2, h2⟩ := hq.geta hr
    refine ⟨.bool (!(eqv x y)), ?_, ⟨rfl, fun b hb => hb⟩⟩
    simp only [execOp, hH.1, e1, e2, Sem.run_bind, run_eqGuard_agg w _ T p q cs ds hg, run_neq_struct, h.run hT (Nat.le_of_ble_eq_true hn) h1 h2, Result.andThen_ok]
    rfl
/-- '==' of texts. -/
theorem OpT.seqv {x y : ByteArray} (hH : Hd C o (.binOp .eql T p q T') d) (hp : Opd C env p (.cel Kd.str x)) (hq : Opd C env q (.cel Kd.str y)) : OpT C o env (upd env d (.cel Kd.bool (eqv x y))) := by
  have h := OpT.seql hH hp hq
  rwa [show (x.toList == y.toList) = eqv x y from eqv_of (by simp only [beq_iff_eq]; exact ⟨toList_inj, fun e => by rw [e]⟩)] at h
end
/-! ### Parts of slices -/
theorem slice_cut {α : Type} {k : Kd α} {s : Hp} {A : Option Addr} {n c : Nat} {xs : List α} (h : (Kd.slice k).rd s [.slice A n c] xs) {l hh : Nat} (h1 : l ≤ hh) (h2 : hh ≤ xs.length) : (Kd.slice k).rd s [sliced A l hh c k.sz] ((xs.take hh).drop l) := by
  obtain ⟨A', c', e, h3, h4, h5⟩ := h
  simp only [List.cons.injEq, Value.slice.injEq, and_true] at e
  obtain ⟨rfl, rfl, rfl⟩ := e
  have hl : ((xs.take hh).drop l).length = hh - l := by rw [List.length_drop, List.length_take]; omega
  refine ⟨if c = l then A else A.map (·.add (l * k.sz)), c - l, ?_, by omega, by omega, fun h0 => ?_⟩
  · rw [hl]; rfl
  · obtain ⟨ad, cells, rfl, g1, g2⟩ := h5 (by omega)
    rw [if_neg (by omega)]
    refine ⟨ad.add (l * k.sz), (cells.take (hh * k.sz)).drop (l * k.sz), rfl, (g1.take hh).drop l, fun j u hu => ?_⟩
    rw [add_add]
    refine g2 _ _ ?_
    rw [List.getElem?_drop, List.getElem?_take] at hu
    split at hu
    · exact hu
    · cases hu
section
variable {C : Cx} {env : Env} {o : Oper} {T E : TypeId} {p q r : Operand} {d : Nat} {α : Type} {k : Kd α}
theorem el_elem {P : Program} (hT : elT P T = some E) : P.underlying T = some (.slice E) ∧ P.underlying T = some (.slice (P.elem T)) ∧ P.elem T = E := by
  have hu : P.underlying T = some (.slice E) := by
    unfold elT at hT
    split at hT
    · simp only [Option.some.injEq] at hT; subst hT; assumption
    · cases hT
  have he : P.elem T = E := by simp [Program.elem, hu]
  exact ⟨hu, by rw [he]; exact hu, he⟩
theorem Opd.getsl {xs : List α} (h : Opd C env p (.cel (Kd.slice k) xs)) {s F a w} (hr : Rel C.N C.w0 C.hd C.pn C.s0 env s F a w) : ∃ A c, a.eval p = .slice A xs.length c ∧ xs.length ≤ c ∧ (Kd.slice k).rd s [.slice A xs.length c] xs := by
  have h1 := h.gets1 hr
  obtain ⟨A, c, e, h2, h3⟩ := h1
  simp only [List.cons.injEq, and_true] at e
  exact ⟨A, c, e, h2, ⟨A, c, rfl, h2, h3⟩⟩
theorem OpT.cutL {xs : List α} {kk : IntKind} {i : Int} (hH : Hd C o (.slice T p (some q) none none) d) (hp : Opd C env p (.cel (Kd.slice k) xs)) (hq : Opd C env q (.cel (Kd.int kk) i))
    (hT : elT C.P T = some E) (hz : sizeT C.P E = some k.sz) (h0 : 0 ≤ i ∧ i ≤ xs.length) : OpT C o env (upd env d (.cel (Kd.slice k) (xs.drop i.toNat))) :=
  OpT.pure hH.2.1 hH.2.2 fun s F a w hr => by
    obtain ⟨A, c, e, h2, h3⟩ := hp.getsl hr
    obtain ⟨hu, hu', he⟩ := el_elem hT
    refine ⟨sliced A i.toNat xs.length c k.sz, ?_, ?_, fun b hb => hb⟩
    · simp [execOp, hH.1, e, (hq.geti hr).1, run_sliceAt_slice w T _ _ _ _ hu', run_slice_l w T A xs.length c hu' kk i h0.1 h0.2, he, run_sizeT hz]
    · have := slice_cut h3 (l := i.toNat) (hh := xs.length) (by omega) (Nat.le_refl _)
      rwa [List.take_length] at this
theorem OpT.cutH {xs : List α} {kk : IntKind} {i : Int} (hH : Hd C o (.slice T p none (some q) none) d) (hp : Opd C env p (.cel (Kd.slice k) xs)) (hq : Opd C env q (.cel (Kd.int kk) i))
    (hT : elT C.P T = some E) (hz : sizeT C.P E = some k.sz) (h0 : 0 ≤ i ∧ i ≤ xs.length) : OpT C o env (upd env d (.cel (Kd.slice k) (xs.take i.toNat))) :=
  OpT.pure hH.2.1 hH.2.2 fun s F a w hr => by
    obtain ⟨A, c, e, h2, h3⟩ := hp.getsl hr
    obtain ⟨hu, hu', he⟩ := el_elem hT
    refine ⟨sliced A 0 i.toNat c k.sz, ?_, ?_, fun b hb => hb⟩
    · simp [execOp, hH.1, e, (hq.geti hr).1, run_sliceAt_slice w T _ _ _ _ hu', run_slice_h w T A xs.length c hu' kk i h0.1 (by omega), he, run_sizeT hz]
    · have := slice_cut h3 (l := 0) (hh := i.toNat) (by omega) (by omega)
      rwa [List.drop_zero] at this
end
/-! ### Calls that are handed what is owned -/
section
variable {C : Cx} {env : Env} {o : Oper} {d : Nat} {A : As}
theorem Ar {A O : As} {xs : List Operand} {ins outs : List As} {ms : List Mode} {x : Operand} {t : Nat} (h : Root C env x t) (h0 : env t = A) (h1 : A.flat = false) (h2 : O.free = true) (r : Args C env xs ins outs ms) : Args C env (x :: xs) (A :: ins) (O :: outs) (.root t :: ms) := Args.cons ⟨h, h0, h1, h2⟩ r
theorem Ab {α : Type} {E : TypeId} {k : Kd α} {ys : List α} {xs : List Operand} {ins outs : List As} {ms : List Mode} {x : Operand} {t : Nat} (h : Root C env x t) (h0 : env t = .own E k ys) (r : Args C env xs ins outs ms) : Args C env (x :: xs) (.cel (Kd.slice k) ys :: ins) (.any :: outs) (.bor t :: ms) :=
  Args.cons (.inl ⟨h, by rw [h0]; exact Bor.own E k ys, rfl⟩) r
theorem ind_any : As.any.indep := fun _ _ _ _ _ h => h
theorem ind_anys {l : List As} (h : l.all As.isAny = true) : ∀ B ∈ l, B.indep := fun B hB => by
  rw [As.isAny_eq (List.all_eq_true.1 h B hB)]; exact ind_any
theorem ind1 (h : A.indep) : ∀ B ∈ [A], B.indep := fun B hB => by rw [List.mem_singleton] at hB; subst hB; exact h
theorem OpT.cr {f : FuncId} {ins out outs : List As} {xs : List Operand} {ms : List Mode} {ts : Array TypeId} (hc : AC C.P f ins out outs) (hH : Hd C o (.call { callee := .value (.func f), args := xs.toArray, argTypes := ts }) d)
    (ha : Args C env xs ins outs ms) (hm : msOK ms = true) (hb : borsOf ms = [] ∨ (∀ A ∈ out, A.indep) ∧ ∀ A ∈ outs, A.indep) (hf : out.all As.free = true) : OpT C o env (updRes (updRoots env ms outs) d out) := by
  obtain ⟨hc, fn, h1, h2, h3⟩ := hc
  exact OpT.call hH h1 h2 h3 hc ha hm hb hf
theorem getD_anys {l : List As} (h : l.all As.isAny = true) (i : Nat) : l.getD i .any = .any := by
  rw [List.getD_eq_getElem?_getD]
  cases hi : l[i]? with
  | none => rfl
  | some B => exact As.isAny_eq (List.all_eq_true.1 h B (List.mem_of_getElem? hi))
theorem OpT.crn {f : FuncId} {ins out outs : List As} {xs : List Operand} {ms : List Mode} {ts : Array TypeId} (hc : AC C.P f ins out []) (hH : Hd C o (.call { callee := .value (.func f), args := xs.toArray, argTypes := ts }) d)
    (ha : Args C env xs ins outs ms) (hz : outs.all As.isAny = true) (hm : msOK ms = true) (hb : borsOf ms = [] ∨ (∀ A ∈ out, A.indep) ∧ ∀ A ∈ outs, A.indep) (hf : out.all As.free = true) : OpT C o env (updRes (updRoots env ms outs) d out) :=
  OpT.cr ⟨hc.1.anys (getD_anys hz), hc.2⟩ hH ha hm hb hf
end
/-! ### Calls of function values that have caught nothing -/
section
variable {C : Cx} {env : Env} {o : Oper} {d : Nat} {A B : As}
end
end Go.Proofs.YtkgboidjghcegaaGreatDoor.VL
/- Proved here: rules for function values that have caught variables. With the words of VA..VQ. General: over every program. -/
set_option linter.unusedVariables false
set_option linter.unusedSimpArgs false
namespace Go.Proofs.YtkgboidjghcegaaGreatDoor.VL
open Go
section
variable {C : Cx} {env : Env} {o : Oper} {d : Nat} {A B : As} {f : FuncId} {p q : Operand} {α β : Type} {k : Kd α} {k' : Kd β}
/-- What it has caught is read alone. -/
theorem OpT.mkF1 {x : α} (hH : Hd C o (.makeFunc (.func f) #[] #[p]) d) (hp : Opd C env p (.cel k x)) : OpT C o env (upd env d (.clo f k x)) :=
  OpT.pure hH.2.1 hH.2.2 fun s F a w hr => ⟨.func (.func f) #[] #[a.eval p], by simp [execOp, hH.1, Instr.makeFunc], ⟨#[a.eval p], rfl, hp.gets1 hr⟩, fun b hb => hb⟩
/-- The rule for a call of a function value. -/
theorem OpT.callF {fn : Func} {t : Nat} {ins out outs : List As} {xs : List Operand} {ms : List Mode} {ts : Array TypeId} (hH : Hd C o (.call { callee := .value (.tmp t), args := xs.toArray, argTypes := ts }) d)
    (hf : C.P.funcs[f]? = some fn) (hb : fn.body.isNone = false) (hn : (fn.name == "runtime.NumGoroutine") = false) (hc : ACall C.P f ins out outs)
    (hv : ∀ a w, C.R env a w → ∃ us : List Operand, a.eval (.tmp t) = .func (.func f) #[] (us.map a.eval).toArray ∧ ArgsA C env a w (xs ++ us) ins outs ms)
    (hm : msOK ms = true) (hi : borsOf ms = [] ∨ (∀ A ∈ out, A.indep) ∧ ∀ A ∈ outs, A.indep) (hof : out.all As.free = true) :
    OpT C o env (updRes (updRoots env ms outs) d out) := by
  intro Q K a w hr hK
  obtain ⟨us, e, ha⟩ := hv a w hr
  have hrun : (execOp a.eval o).run C.P w = .ok (.enter f ((xs ++ us).map a.eval).toArray) w := by
    have h1 := run_callFunc hf hb hn ((xs ++ us).map a.eval).toArray w
    have h2 : (xs.map a.eval).toArray ++ (us.map a.eval).toArray = ((xs ++ us).map a.eval).toArray := by simp
    simp only [execOp, hH.1, resolve, Deferred.ofValue, e, invoke]
    simp only [List.map_toArray, Sem.run_bind, Sem.run_pure, Result.andThen_ok, Array.empty_append]
    rw [h2]
    exact h1
  unfold Oper.wp
  rw [hrun, Oper.upon_enter, hH.2.1]
  refine Calls.mono (R_call hc ha hm hi hof hH.2.2 hr) ?_
  rintro e' w' ⟨v, rfl, hR⟩
  exact hK _ _ hR
theorem Abx {α : Type} {E : TypeId} {k : Kd α} {y : α} {xs : List Operand} {ins outs : List As} {ms : List Mode} {x : Operand} {t : Nat} (h : Root C env x t) (h0 : env t = .box E k y) (r : Args C env xs ins outs ms) : Args C env (x :: xs) (.cel (Kd.ptr k) y :: ins) (.any :: outs) (.bor t :: ms) :=
  Args.cons (.inl ⟨h, by rw [h0]; exact Bor.box E k y, rfl⟩) r
/-- A pointer to an element of what is owned, lent. -/
theorem Abe {α β : Type} {k : Kd α} {k' : Kd β} {i off : Nat} {f : α → β} {g : α → β → α} {y : α} {xs : List Operand} {ins outs : List As} {ms : List Mode} {x : Operand} {t : Nat} (hp : Opd C env x (.pel t i k off k' f g)) (hh : Has env t k i y) (r : Args C env xs ins outs ms) : Args C env (x :: xs) (.cel (Kd.ptr k') (f y) :: ins) (.any :: outs) (.bor t :: ms) :=
  Args.cons (.inr ⟨⟨α, β, k, k', i, off, f, g, y, hp, hh, rfl⟩, rfl⟩) r
theorem ArgsA.one {a : Act} {w : World} {x : α} {u : Value} (h : ∀ s F, Rel C.N C.w0 C.hd C.pn C.s0 env s F a w → k.rd s [u] x) : ArgsA C env a w [.const u] [.cel k x] [.any] [.flat] :=
  .cons ⟨fun s F hr => ⟨h s F hr, fun b hb => hb⟩, rfl, rfl, rfl⟩ .nil
theorem anys_app {outs : List As} (h : ∀ i, outs.getD i .any = .any) : ∀ i, (outs ++ [As.any]).getD i .any = .any := fun i => by
  rw [List.getD_eq_getElem?_getD, List.getElem?_append]
  split
  · rw [← List.getD_eq_getElem?_getD]; exact h i
  · cases hj : i - outs.length with
    | zero => rfl
    | succ j => rfl
theorem allFlat_app : ∀ {ms : List Mode}, allFlat ms = true → allFlat (ms ++ [.flat]) = true
  | [], _ => rfl
  | .flat :: ms, h => allFlat_app (ms := ms) h
  | .root _ :: _, h => by cases h
  | .bor _ :: _, h => by cases h
/-- A call of a function value that reads what it has caught. -/
theorem OpT.v1c {x : α} {t : Nat} {ins outs : List As} {xs : List Operand} {ms : List Mode} {ts : Array TypeId} (hv : Opd C env (.tmp t) (.clo f k x)) (hz : k.sz = 1) (hc : AC C.P f (ins ++ [.cel k x]) [A] []) (hH : Hd C o (.call { callee := .value (.tmp t), args := xs.toArray, argTypes := ts }) d)
    (ha : Args C env xs ins outs ms) (hm : allFlat ms = true) (hf : A.free = true) : OpT C o env (upd env d A) := by
  obtain ⟨hc, fn, h1, h2, h3⟩ := hc
  obtain ⟨h4, h5⟩ := allFlat_roots (allFlat_app hm)
  have hc' : ACall C.P f (ins ++ [.cel k x]) [A] (outs ++ [.any]) := hc.anys (anys_app (ha.anys hm))
  have := OpT.callF (ms := ms ++ [.flat]) hH h1 h2 h3 hc' (fun a w hr => by
    obtain ⟨s, F, hr'⟩ := hr
    obtain ⟨⟨cs, e, h6⟩, _⟩ := hv s F a w hr'
    have hl := k.len h6
    rw [hz] at hl
    obtain ⟨u, hu⟩ : ∃ u, cs.toList = [u] := List.length_eq_one_iff.1 hl
    refine ⟨[.const u], ?_, ha.at.app (ArgsA.one fun s' F' hr'' => ?_)⟩
    · rw [e]
      congr 1
      have : cs = #[u] := by rw [← Array.toList_inj]; exact hu
      rw [this]; rfl
    · obtain ⟨⟨cs', e', h7⟩, _⟩ := hv s' F' a w hr''
      rw [e] at e'
      injection e' with _ _ e'
      rw [← e', hu] at h7
      exact h7) (by unfold msOK; rw [h4, h5]; rfl) (.inl h5) (by simp [hf])
  rwa [updRoots_none (outs := outs ++ [.any]) h4, updRes_one] at this
/-- What a function value hands on of what it has caught. -/
def CloArgs {α : Type} (k : Kd α) (x : α) (cs : List As) : Prop := (k.sz = 0 ∧ cs = []) ∨ (k.sz = 1 ∧ cs = [.cel k x])
theorem CloArgs.unit : CloArgs Kd.unit () [] := .inl ⟨rfl, rfl⟩
theorem CloArgs.ptr {α : Type} (k : Kd α) (x : α) : CloArgs (Kd.ptr k) x [.cel (Kd.ptr k) x] := .inr ⟨rfl, rfl⟩
/-- A call of a function value that is a parameter. -/
theorem OpT.vg {x : α} {cs : List As} {t : Nat} {ins outs : List As} {xs : List Operand} {ms : List Mode} {ts : Array TypeId} (hv : Opd C env (.tmp t) (.clo f k x)) (hcs : CloArgs k x cs) (hc : AC C.P f (ins ++ cs) [A] []) (hH : Hd C o (.call { callee := .value (.tmp t), args := xs.toArray, argTypes := ts }) d)
    (ha : Args C env xs ins outs ms) (hm : allFlat ms = true) (hf : A.free = true) : OpT C o env (upd env d A) := by
  rcases hcs with ⟨hz, rfl⟩ | ⟨hz, rfl⟩
  · rw [List.append_nil] at hc
    obtain ⟨hc, fn, h1, h2, h3⟩ := hc
    obtain ⟨h4, h5⟩ := allFlat_roots hm
    have := OpT.callF (ms := ms) hH h1 h2 h3 (hc.anys (ha.anys hm)) (fun a w hr => by
      obtain ⟨s, F, hr'⟩ := hr
      obtain ⟨⟨cs, e, h6⟩, _⟩ := hv s F a w hr'
      have hl := k.len h6
      rw [hz] at hl
      have h7 : cs = #[] := by rw [← Array.toList_inj]; exact List.eq_nil_of_length_eq_zero hl
      subst h7
      refine ⟨[], e, ?_⟩
      rw [List.append_nil]; exact ha.at) (by unfold msOK; rw [h4, h5]; rfl) (.inl h5) (by simp [hf])
    rwa [updRoots_none (outs := outs) h4, updRes_one] at this
  · exact OpT.v1c hv hz hc hH ha hm hf
end
/-! ### Texts and arrays -/
section
variable {C : Cx} {env : Env} {o : Oper} {T : TypeId} {p q r : Operand} {d : Nat} {α : Type} {k : Kd α}
theorem extract_size (s : ByteArray) (i j : Nat) : (s.extract i j).size ≤ s.size := by
  rw [ByteArray.size_extract]; omega
theorem OpT.cutSL {x : ByteArray} {kk : IntKind} {i : Int} (hH : Hd C o (.slice T p (some q) none none) d) (hp : Opd C env p (.cel Kd.str x)) (hq : Opd C env q (.cel (Kd.int kk) i))
    (hT : C.P.underlying T = some .string) (h0 : 0 ≤ i ∧ i ≤ x.size) : OpT C o env (upd env d (.cel Kd.str (x.extract i.toNat x.size))) :=
  OpT.pure hH.2.1 hH.2.2 fun s F a w hr => ⟨.string (x.extract i.toNat x.size), by
    simp [execOp, hH.1, (hp.gets hr).1, (hq.geti hr).1, run_sliceAt_string w T _ _ _ _ hT, run_slice_string_l w T x hT kk i h0.1 h0.2],
    ⟨rfl, Nat.le_trans (extract_size _ _ _) (hp.gets hr).2⟩, fun b hb => hb⟩
theorem OpT.cutSH {x : ByteArray} {kk : IntKind} {i : Int} (hH : Hd C o (.slice T p none (some q) none) d) (hp : Opd C env p (.cel Kd.str x)) (hq : Opd C env q (.cel (Kd.int kk) i))
    (hT : C.P.underlying T = some .string) (h0 : 0 ≤ i ∧ i ≤ x.size) : OpT C o env (upd env d (.cel Kd.str (x.extract 0 i.toNat))) :=
  OpT.pure hH.2.1 hH.2.2 fun s F a w hr => ⟨.string (x.extract 0 i.toNat), by
    simp [execOp, hH.1, (hp.gets hr).1, (hq.geti hr).1, run_sliceAt_string w T _ _ _ _ hT, run_slice_string_h w T x hT kk i h0.1 h0.2],
    ⟨rfl, Nat.le_trans (extract_size _ _ _) (hp.gets hr).2⟩, fun b hb => hb⟩
theorem zarr {v : Value} {x : α} (n : Nat) (h : ∀ s, k.rd s [v] x) : ∀ s, (Kd.arr n k).rd s (Value.cl (.agg (List.replicate n v).toArray)) (List.replicate n x) := fun s => by
  refine ⟨?_, List.length_replicate⟩
  have h1 := RdL_made (h s) n
  rw [List.flatten_replicate_singleton] at h1
  exact h1
end
/-- An unsigned number as a count of places. -/
theorem Opd.asInt {C : Cx} {env : Env} {p : Operand} {n : BitVec 64} (h : Opd C env p (.cel Kd.u64 n)) : Opd C env p (.cel (Kd.int .u64) (n.toNat : Int)) := fun s F a w hr => by
  have h1 := h s F a w hr
  refine ⟨⟨h1.1, ?_⟩, h1.2⟩
  have := n.isLt
  show inR .u64 _
  simp [inR, IntKind.min, IntKind.max, IntKind.signed, IntKind.bits]
  omega
end Go.Proofs.YtkgboidjghcegaaGreatDoor.VL
/- Proved here: regions whose order is open, where an operation may write several slots, and several operations may write one slot. General: over every program. -/
set_option linter.unusedVariables false
set_option linter.unusedSimpArgs false
namespace Go.Proofs.YtkgboidjghcegaaGreatDoor.VL
open Go
/-- What is written: a slot (with its tuple's parts), or what a slot's memory holds. -/
inductive Pm : Type 1
  | res (d : Nat) (out : List As)
  | mod (t : Nat) (A : As)
def Pm.slot : Pm → Nat
  | .res d _ => d
  | .mod t _ => t
def Pm.md : Pm → Bool
  | .res .. => false
  | .mod .. => true
def Pm.outs : Pm → List As
  | .res _ out => out
  | .mod _ A => [A]
def Pm.at (p : Pm) (t : Nat) (B : As) : As := match p with
  | .res d out => if t = d then oneA out else if ofSlot d t then partA out (t / 10000 - 1) else if B.dep d then .any else B
  | .mod d A => if t = d then A else B
def Pm.dep (p : Pm) (s : Nat) : Bool := p.outs.any fun A => A.dep s
structure DJ where
  ps : List Pm
  nd : List Nat
def DJ.at (i : DJ) (t : Nat) (B : As) : As := i.ps.foldl (fun B p => p.at t B) B
def DJ.upd (i : DJ) (env : Env) : Env := fun t => i.at t (env t)
def DJ.has (i : DJ) (s : Nat) : Bool := i.ps.any fun p => p.slot == s
def DJ.res (i : DJ) : List Nat := (i.ps.filter fun p => !p.md).map Pm.slot
/-- Two writings that may change places. -/
def Pm.comm (p q : Pm) : Bool := !(p.slot == q.slot) && (q.md || !(p.dep q.slot)) && (p.md || !(q.dep p.slot))
def DJ.comm (i j : DJ) : Bool := i.ps.all fun p => j.ps.all fun q => p.comm q
def As.deps : As → List Nat
  | .ali t => [t]
  | .pel t _ _ _ _ _ _ => [t]
  | .cap _ ts => ts
  | .vw t _ _ _ => [t]
  | _ => []
theorem As.deps_iff (A : As) (s : Nat) : A.dep s = true ↔ s ∈ A.deps := by
  cases A with
  | ali t => exact ⟨fun h => by have : t = s := by simpa [As.dep] using h
                                subst this; exact List.mem_singleton.2 rfl, fun h => by have := List.mem_singleton.1 h; subst this; simp [As.dep]⟩
  | pel t => exact ⟨fun h => by have : t = s := by simpa [As.dep] using h
                                subst this; exact List.mem_singleton.2 rfl, fun h => by have := List.mem_singleton.1 h; subst this; simp [As.dep]⟩
  | cap f ts => simp [As.dep, As.deps]
  | vw t lo hi z => exact ⟨fun h => by have : t = s := by simpa [As.dep] using h
                                       subst this; exact List.mem_singleton.2 rfl, fun h => by have := List.mem_singleton.1 h; subst this; simp [As.dep]⟩
  | _ => simp [As.dep, As.deps]
/-- Which slots are written with words that speak of which. -/
def depsJ (I : List DJ) : List (Nat × Nat) := I.flatMap fun c => c.ps.flatMap fun p => (p.outs.flatMap As.deps).map fun s => (p.slot, s)
theorem depsJ_mem {I : List DJ} {c : DJ} (hc : c ∈ I) {p : Pm} (hp : p ∈ c.ps) {A : As} (hA : A ∈ p.outs) {s : Nat} (h : A.dep s = true) : (p.slot, s) ∈ depsJ I := by
  unfold depsJ
  rw [List.mem_flatMap]
  refine ⟨c, hc, List.mem_flatMap.2 ⟨p, hp, List.mem_map.2 ⟨s, List.mem_flatMap.2 ⟨A, hA, (As.deps_iff A s).1 h⟩, rfl⟩⟩⟩
def relB (an : List (List Nat)) (x j : Nat) : Bool := x == j || (an.getD j []).contains x || (an.getD x []).contains j
def dOKj (l : List Oper) (I : List DJ) : Bool :=
  let an := ancs l []
  let J := I.zipIdx
  decide (l.length = I.length) && I.all (fun i => i.ps.all fun p => decide (p.slot < 10000)) &&
  (l.zipIdx.all fun oj => oj.1.after.all fun e => !Region.binds .any e || decide (e.on < oj.2)) &&
  (J.all fun a => J.all fun b => Nat.ble b.2 a.2 || a.1.comm b.1 || (an.getD b.2 []).contains a.2) &&
  (J.all fun a => a.1.nd.all fun t => J.all fun b => (!(b.1.has (t % 10000)) && (depsJ I).all fun z => !(z.1 == t % 10000) || !(b.1.res.contains z.2)) || relB an b.2 a.2)
def cleanj (e0 : List (Nat × As)) (I : List DJ) : Bool := e0.all fun p => p.2.deps.all fun s => I.all fun i => !(i.res.contains s)

/-! ### Single writings -/
theorem any_dep (s : Nat) : As.any.dep s = false := rfl
theorem any_of {l : List As} {f : As → Bool} (h : (l.any f) = false) {A : As} (hA : A ∈ l) : f A = false := by
  have := List.any_eq_false.1 h A hA
  simpa using this
theorem oneA_mem (out : List As) : oneA out = .any ∨ oneA out ∈ out := by
  match out with
  | [] => exact .inl rfl
  | [A] => exact .inr (by simp [oneA])
  | A :: B :: l => exact .inl rfl
theorem getD_mem (out : List As) (j : Nat) : out.getD j .any = .any ∨ out.getD j .any ∈ out := by
  rw [List.getD_eq_getElem?_getD]
  cases h : out[j]? with
  | none => exact .inl rfl
  | some A => exact .inr (List.mem_of_getElem? h)
theorem partA_mem (out : List As) (j : Nat) : partA out j = .any ∨ partA out j ∈ out := by
  match out with
  | [] => exact .inl rfl
  | [A] => exact .inl rfl
  | A :: B :: l => exact getD_mem _ j
theorem Pm.at_cases (p : Pm) (t : Nat) (B : As) (hp : p.slot < 10000) : (t % 10000 = p.slot ∧ ((p.at t B = .any ∨ p.at t B ∈ p.outs) ∧ (∀ B', p.at t B' = p.at t B) ∨ ∀ B', p.at t B' = B')) ∨
    (t % 10000 ≠ p.slot ∧ ∀ B', p.at t B' = if p.md = false ∧ B'.dep p.slot = true then .any else B') := by
  cases p with
  | res d out =>
    by_cases h : t % 10000 = d
    · refine .inl ⟨h, .inl ?_⟩
      have key : ∀ B', Pm.at (.res d out) t B' = if t = d then oneA out else partA out (t / 10000 - 1) := fun B' => by
        unfold Pm.at
        by_cases h1 : t = d
        · simp [h1]
        · simp [h1, ofSlot, h]
      refine ⟨?_, fun B' => by rw [key, key]⟩
      rw [key]
      split
      · exact oneA_mem out
      · exact partA_mem out _
    · refine .inr ⟨h, fun B' => ?_⟩
      have h1 : t ≠ d := fun e => h (by subst e; exact Nat.mod_eq_of_lt hp)
      unfold Pm.at
      simp [h1, ofSlot, h, Pm.md, Pm.slot]
  | mod d A =>
    by_cases h : t % 10000 = d
    · refine .inl ⟨h, ?_⟩
      by_cases h1 : t = d
      · exact .inl ⟨.inr (by simp [Pm.at, h1, Pm.outs]), fun B' => by simp [Pm.at, h1]⟩
      · exact .inr fun B' => by simp [Pm.at, h1]
    · refine .inr ⟨h, fun B' => ?_⟩
      have h1 : t ≠ d := fun e => h (by subst e; exact Nat.mod_eq_of_lt hp)
      simp [Pm.at, h1, Pm.md]
theorem dep_outs {q p : Pm} (h : q.md = true ∨ p.dep q.slot = false) {A : As} (hA : A = .any ∨ A ∈ p.outs) : (if q.md = false ∧ A.dep q.slot = true then .any else A) = A := by
  rw [if_neg]
  rintro ⟨h1, h2⟩
  rcases h with h | h
  · rw [h] at h1; cases h1
  · rcases hA with rfl | hA
    · rw [any_dep] at h2; cases h2
    · have := any_of h hA; rw [h2] at this; cases this
theorem Pm.comm_at {p q : Pm} (hp : p.slot < 10000) (hq : q.slot < 10000) (h : p.comm q = true) (t : Nat) (B : As) : p.at t (q.at t B) = q.at t (p.at t B) := by
  simp only [Pm.comm, Bool.and_eq_true, Bool.or_eq_true, Bool.not_eq_true', beq_eq_false_iff_ne] at h
  obtain ⟨⟨hne, h1⟩, h2⟩ := h
  rcases p.at_cases t B hp with ⟨e1, hc⟩ | ⟨e1, hc⟩
  · rcases q.at_cases t B hq with ⟨e2, _⟩ | ⟨e2, hd⟩
    · exact absurd (e1.symm.trans e2) hne
    · rcases hc with ⟨hm, hconst⟩ | hid
      · rw [hconst (q.at t B), hd (p.at t B), dep_outs h1 hm]
      · rw [hid, hid]
  · rcases q.at_cases t B hq with ⟨e2, hd⟩ | ⟨e2, hd⟩
    · rcases hd with ⟨hm, hconst⟩ | hid
      · rw [hconst (p.at t B), hc (q.at t B), dep_outs h2 hm]
      · rw [hid, hid]
    · rw [hc (q.at t B), hd B, hd (p.at t B), hc B]
      by_cases a1 : p.md = false ∧ B.dep p.slot = true
      · by_cases a2 : q.md = false ∧ B.dep q.slot = true
        · rw [if_pos a1, if_pos a2]; simp [any_dep]
        · rw [if_pos a1, if_neg a2, if_pos a1]; simp [any_dep]
      · by_cases a2 : q.md = false ∧ B.dep q.slot = true
        · rw [if_neg a1, if_pos a2]; simp [any_dep]
        · rw [if_neg a1, if_neg a2, if_neg a1]
theorem foldl_comm1 {p : Pm} {t : Nat} : ∀ (l : List Pm) (B : As), (∀ q ∈ l, ∀ B, p.at t (q.at t B) = q.at t (p.at t B)) → p.at t (l.foldl (fun B q => q.at t B) B) = l.foldl (fun B q => q.at t B) (p.at t B)
  | [], B, _ => rfl
  | q :: l, B, h => by
    rw [List.foldl_cons, List.foldl_cons, foldl_comm1 l _ (fun q' hq' => h q' (by simp [hq'])), h q (by simp)]
theorem DJ.comm_at {i j : DJ} (hi : ∀ p ∈ i.ps, p.slot < 10000) (hj : ∀ p ∈ j.ps, p.slot < 10000) (h : i.comm j = true) (t : Nat) : ∀ B, i.at t (j.at t B) = j.at t (i.at t B) := by
  have h' : ∀ p ∈ i.ps, ∀ q ∈ j.ps, p.comm q = true := fun p hp q hq => List.all_eq_true.1 (List.all_eq_true.1 h p hp) q hq
  unfold DJ.at
  generalize i.ps = l at *
  induction l with
  | nil => intro B; rfl
  | cons p l ih =>
    intro B
    rw [List.foldl_cons, List.foldl_cons]
    rw [foldl_comm1 j.ps B (fun q hq B => Pm.comm_at (hi p (by simp)) (hj q hq) (h' p (by simp) q hq) t B)]
    exact ih (fun q hq => hi q (by simp [hq])) (fun q hq => h' q (by simp [hq])) (p.at t B)
/-- What comes out: what was there, nothing, or what is written. -/
theorem DJ.at_src (i : DJ) (hi : ∀ p ∈ i.ps, p.slot < 10000) (t : Nat) : ∀ B, i.at t B = B ∨ i.at t B = .any ∨ ∃ p ∈ i.ps, t % 10000 = p.slot ∧ i.at t B ∈ p.outs := by
  unfold DJ.at
  generalize i.ps = l at *
  induction l with
  | nil => intro B; exact .inl rfl
  | cons p l ih =>
    intro B
    rw [List.foldl_cons]
    rcases ih (fun q hq => hi q (by simp [hq])) (p.at t B) with h | h | ⟨q, hq, h1, h2⟩
    · rw [h]
      rcases p.at_cases t B (hi p (by simp)) with ⟨e1, ⟨h1 | h1, _⟩ | hid⟩ | ⟨_, hc⟩
      · exact .inr (.inl h1)
      · exact .inr (.inr ⟨p, by simp, e1, h1⟩)
      · exact .inl (hid B)
      · rw [hc B]
        split
        · exact .inr (.inl rfl)
        · exact .inl rfl
    · exact .inr (.inl h)
    · exact .inr (.inr ⟨q, by simp [hq], h1, h2⟩)
/-- A slot that isn't written keeps what it has. -/
theorem DJ.at_same (i : DJ) (hi : ∀ p ∈ i.ps, p.slot < 10000) {t : Nat} (h1 : i.has (t % 10000) = false) {B : As} (h2 : ∀ s ∈ i.res, B.dep s = false) : i.at t B = B := by
  unfold DJ.has at h1
  unfold DJ.res at h2
  unfold DJ.at
  generalize i.ps = l at *
  induction l with
  | nil => rfl
  | cons p l ih =>
    simp only [List.any_cons, Bool.or_eq_false_iff, beq_eq_false_iff_ne] at h1
    rw [List.foldl_cons]
    have h3 : p.at t B = B := by
      rcases p.at_cases t B (hi p (by simp)) with ⟨e1, _⟩ | ⟨_, hc⟩
      · exact absurd e1.symm h1.1
      · rw [hc B, if_neg]
        rintro ⟨a1, a2⟩
        have := h2 p.slot (by simp [a1])
        rw [a2] at this; cases this
    rw [h3]
    exact ih (fun q hq => hi q (by simp [hq])) h1.2 (fun s hs => h2 s (by
      simp only [List.filter_cons]
      split
      · simp only [List.map_cons, List.mem_cons]; exact .inr hs
      · exact hs))

/-! ### Many operations -/
noncomputable def valJ : List DJ → Nat → (Nat → Prop) → Nat → As → As
  | [], _, _, _, B => B
  | i :: I, k, D, t, B => valJ I (k + 1) D t (@ite _ (D k) (Classical.propDecidable _) (i.at t B) B)
theorem valJ_congr {D D' : Nat → Prop} {t : Nat} : ∀ (I : List DJ) (k : Nat) (B : As), (∀ x, k ≤ x → (D x ↔ D' x)) → valJ I k D t B = valJ I k D' t B
  | [], _, _, _ => rfl
  | i :: I, k, B, h => by
    unfold valJ
    have h1 := h k (Nat.le_refl _)
    by_cases hd : D k
    · rw [if_pos hd, if_pos (h1.1 hd)]; exact valJ_congr I (k + 1) _ (fun x hx => h x (by omega))
    · rw [if_neg hd, if_neg (fun h' => hd (h1.2 h'))]; exact valJ_congr I (k + 1) _ (fun x hx => h x (by omega))
/-- An operation moves behind those with which it may change places. -/
theorem valJ_move {D : Nat → Prop} {t : Nat} {f : As → As} : ∀ (I : List DJ) (k : Nat) (B : As), (∀ x i, I[x]? = some i → D (k + x) → ∀ B, f (i.at t B) = i.at t (f B)) → f (valJ I k D t B) = valJ I k D t (f B)
  | [], _, _, _ => rfl
  | i :: I, k, B, h => by
    unfold valJ
    have ih := fun B => valJ_move (D := D) (t := t) (f := f) I (k + 1) B (fun x j hx hd => h (x + 1) j (by simpa using hx) (by rw [show k + (x + 1) = k + 1 + x by omega]; exact hd))
    rw [ih]
    by_cases hd : D k
    · rw [if_pos hd, if_pos hd, h 0 i rfl hd]
    · rw [if_neg hd, if_neg hd]
theorem valJ_next {D D' : Nat → Prop} {t : Nat} {j : Nat} (hD : ¬ D j) (hD' : ∀ x, D' x ↔ x = j ∨ D x) : ∀ (I : List DJ) (k : Nat) (B : As) (i : DJ), k ≤ j → I[j - k]? = some i → (∀ x y, I[x]? = some y → j < k + x → D (k + x) → ∀ B, i.at t (y.at t B) = y.at t (i.at t B)) →
    i.at t (valJ I k D t B) = valJ I k D' t B
  | [], _, _, _, _, h, _ => by simp at h
  | a :: I, k, B, i, hk, hi, hc => by
    unfold valJ
    by_cases hkj : k = j
    · subst hkj
      rw [Nat.sub_self] at hi
      have : a = i := by simpa using hi
      subst this
      rw [if_neg hD, if_pos ((hD' k).2 (.inl rfl))]
      rw [valJ_move (f := a.at t) I (k + 1) B (fun x y hx hd => hc (x + 1) y (by simpa using hx) (by omega) (by rw [show k + (x + 1) = k + 1 + x by omega]; exact hd))]
      exact valJ_congr I (k + 1) _ (fun x hx => by rw [hD' x]; constructor; exact fun h => .inr h; exact fun h => h.resolve_left (by omega))
    · have e : j - k = (j - (k + 1)) + 1 := by omega
      rw [e] at hi
      have ih := fun B => valJ_next (t := t) hD hD' I (k + 1) B i (by omega) (by simpa using hi) (fun x y hx hlt hd => hc (x + 1) y (by simpa using hx) (by omega) (by rw [show k + (x + 1) = k + 1 + x by omega]; exact hd))
      rw [ih]
      congr 1
      by_cases hd : D k
      · rw [if_pos hd, if_pos ((hD' k).2 (.inr hd))]
      · rw [if_neg hd, if_neg (fun h => ((hD' k).1 h).elim hkj hd)]
/-- Only some of the operations speak for a slot. -/
theorem valJ_need {D R : Nat → Prop} {t : Nat} (P : As → Prop) (ha : P .any) (hRD : ∀ x, R x → D x) : ∀ (I : List DJ) (k : Nat) (B : As), P B →
    (∀ x i, I[x]? = some i → (∀ p ∈ i.ps, p.slot < 10000) ∧ (R (k + x) → ∀ p ∈ i.ps, t % 10000 = p.slot → ∀ A ∈ p.outs, P A) ∧ (D (k + x) → ¬ R (k + x) → i.has (t % 10000) = false ∧ ∀ A, P A → ∀ s ∈ i.res, A.dep s = false)) →
    valJ I k D t B = valJ I k R t B
  | [], _, _, _, _ => rfl
  | i :: I, k, B, hB, h => by
    unfold valJ
    have h' : ∀ x j, I[x]? = some j → (∀ p ∈ j.ps, p.slot < 10000) ∧ (R (k + 1 + x) → ∀ p ∈ j.ps, t % 10000 = p.slot → ∀ A ∈ p.outs, P A) ∧ (D (k + 1 + x) → ¬ R (k + 1 + x) → j.has (t % 10000) = false ∧ ∀ A, P A → ∀ s ∈ j.res, A.dep s = false) := fun x j hx => by
      have := h (x + 1) j (by simpa using hx)
      rwa [show k + (x + 1) = k + 1 + x by omega] at this
    obtain ⟨h1, h2, h3⟩ := h 0 i rfl
    by_cases hr : R k
    · rw [if_pos hr, if_pos (hRD k hr)]
      refine valJ_need P ha hRD I (k + 1) _ ?_ h'
      rcases i.at_src h1 t B with h4 | h4 | ⟨p, hp, h4, h5⟩
      · rw [h4]; exact hB
      · rw [h4]; exact ha
      · exact h2 hr p hp h4 _ h5
    · rw [if_neg hr]
      by_cases hd : D k
      · rw [if_pos hd]
        obtain ⟨h4, h5⟩ := h3 hd hr
        rw [i.at_same h1 h4 (h5 B hB)]
        exact valJ_need P ha hRD I (k + 1) B hB h'
      · rw [if_neg hd]; exact valJ_need P ha hRD I (k + 1) B hB h'

section
variable {C : Cx} {env env' env0 : Env} {e e' : KL} {Q : Exit → Act → World → Prop} {o : Oper} {c : Code} {ops : Array Oper} {l : List Oper} {d t : Nat} {A B : As}
def DSt (C : Cx) (ops : Array Oper) (env : Env) (o : Oper) (i : DJ) : Prop :=
  (∃ j want t d A, o.guard = some (j, want) ∧ (ops[j]?).bind (·.dst) = some t ∧ t ∈ i.nd ∧ (env t = .cel Kd.bool (!want) ∨ env t = .val undef) ∧ t < 10000 ∧ i.ps = [.res d [A]] ∧ (A = .any ∨ A = .val undef) ∧ o.dst = some d ∧ C.ok d) ∨
  ((o.guard = none ∨ (∃ j want t b, o.guard = some (j, want) ∧ (ops[j]?).bind (·.dst) = some t ∧ t ∈ i.nd ∧ env t = .cel Kd.bool b ∧ t < 10000 ∧ b = want)) ∧ ∀ env', (∀ t ∈ i.nd, env' t = env t) → OpT C o env' (i.upd env'))
inductive DCj (C : Cx) (ops : Array Oper) : Env → List Oper → List DJ → Env → Prop
  | nil (env : Env) : DCj C ops env [] [] env
  | cons {env env' : Env} {o : Oper} {i : DJ} {l : List Oper} {I : List DJ} (h : DSt C ops env o i) (r : DCj C ops (i.upd env) l I env') : DCj C ops env (o :: l) (i :: I) env'
noncomputable def envJ (env0 : Env) (I : List DJ) (D : Nat → Prop) : Env := fun t => valJ I 0 D t (env0 t)
def envTj (env0 : Env) (I : List DJ) : Env := I.foldl (fun e i => i.upd e) env0
theorem DCj.get {env env' : Env} {l : List Oper} {I : List DJ} (h : DCj C ops env l I env') : env' = envTj env I ∧ l.length = I.length ∧ ∀ j o i, l[j]? = some o → I[j]? = some i → DSt C ops (envTj env (I.take j)) o i := by
  induction h with
  | nil env => exact ⟨rfl, rfl, fun j o i h => by simp at h⟩
  | cons h r ih =>
    obtain ⟨h1, h2, h3⟩ := ih
    refine ⟨h1, by simp [h2], fun j o i ho hi => ?_⟩
    cases j with
    | zero => simp at ho hi; subst ho; subst hi; exact h
    | succ j => exact h3 j o i (by simpa using ho) (by simpa using hi)
structure DGj (l : List Oper) (I : List DJ) : Prop where
  len : l.length = I.length
  lt : ∀ i ∈ I, ∀ p ∈ i.ps, p.slot < 10000
  edge : ∀ j o, l[j]? = some o → ∀ e ∈ o.after, Region.binds .any e = true → e.on < j
  comm : ∀ j x i y, I[j]? = some i → I[x]? = some y → j < x → j ∈ (ancs l []).getD x [] ∨ i.comm y = true
  need : ∀ j i, I[j]? = some i → ∀ t ∈ i.nd, ∀ x y, I[x]? = some y → (x = j ∨ x ∈ (ancs l []).getD j [] ∨ j ∈ (ancs l []).getD x []) ∨ (y.has (t % 10000) = false ∧ ∀ s ∈ y.res, ∀ (z : Nat) (c : DJ), I[z]? = some c → ∀ p ∈ c.ps, p.slot = t % 10000 → p.dep s = false)
theorem mem_zip {α : Type 1} {I : List α} {j : Nat} {i : α} (h : I[j]? = some i) : (i, j) ∈ I.zipIdx := by
  rw [List.mem_iff_getElem?]
  exact ⟨j, by rw [List.getElem?_zipIdx, h]; simp⟩
theorem mem_zip0 {α : Type} {I : List α} {j : Nat} {i : α} (h : I[j]? = some i) : (i, j) ∈ I.zipIdx := by
  rw [List.mem_iff_getElem?]
  exact ⟨j, by rw [List.getElem?_zipIdx, h]; simp⟩
theorem dOKj_good {I : List DJ} (h : dOKj l I = true) : DGj l I := by
  unfold dOKj at h
  simp only [Bool.and_eq_true, decide_eq_true_eq] at h
  obtain ⟨⟨⟨⟨h1, h2⟩, h3⟩, h4⟩, h5⟩ := h
  refine ⟨h1, fun i hi p hp => of_decide_eq_true (List.all_eq_true.1 (List.all_eq_true.1 h2 i hi) p hp), fun j o ho e he hb => ?_, fun j x i y hi hy hlt => ?_, fun j i hi t ht x y hy => ?_⟩
  · have := List.all_eq_true.1 h3 (o, j) (mem_zip0 ho)
    rw [Array.all_eq_true_iff_forall_mem] at this
    have h6 := this e he
    rw [hb] at h6
    simpa using h6
  · have := List.all_eq_true.1 (List.all_eq_true.1 h4 (i, j) (mem_zip hi)) (y, x) (mem_zip hy)
    simp only [Bool.or_eq_true, List.contains_iff_mem] at this
    rcases this with (h6 | h6) | h6
    · exact absurd (Nat.le_of_ble_eq_true h6) (by omega)
    · exact .inr h6
    · exact .inl h6
  · have := List.all_eq_true.1 (List.all_eq_true.1 (List.all_eq_true.1 h5 (i, j) (mem_zip hi)) t ht) (y, x) (mem_zip hy)
    simp only [relB, Bool.or_eq_true, Bool.and_eq_true, Bool.not_eq_true', beq_iff_eq, List.contains_iff_mem] at this
    rcases this with ⟨h6, h7⟩ | (h6 | h6) | h6
    · refine .inr ⟨h6, fun s hs z c hc p hp h9 => ?_⟩
      cases hd : p.dep s with
      | false => rfl
      | true =>
        obtain ⟨A, hA, hAd⟩ := List.any_eq_true.1 hd
        have h10 := List.all_eq_true.1 h7 _ (depsJ_mem (List.mem_of_getElem? hc) hp hA hAd)
        simp only [h9, Bool.or_eq_true, Bool.not_eq_true', beq_eq_false_iff_ne] at h10
        rcases h10 with h10 | h10
        · exact absurd rfl h10
        · have : y.res.contains s = true := List.contains_iff_mem.2 hs
          rw [h10] at this; cases this
    · exact .inl (.inl h6)
    · exact .inl (.inr (.inl h6))
    · exact .inl (.inr (.inr h6))
theorem anc_ltj {I : List DJ} (hg : DGj l I) : ∀ (j : Nat) (o : Oper), l[j]? = some o → ∀ x ∈ (ancs l []).getD j [], x < j := by
  intro j
  induction j using Nat.strongRecOn with
  | _ j ih =>
    intro o ho x hx
    have h1 := ancs_at l [] j o ho
    simp only [List.length_nil, Nat.zero_add] at h1
    rw [h1] at hx
    obtain ⟨e, he, hb, hx⟩ := mem_ancOf.1 hx
    have hej := hg.edge j o ho e he hb
    rcases hx with rfl | hx
    · exact hej
    · have hjl : j < l.length := (List.getElem?_eq_some_iff.1 ho).1
      have h2 : ((ancs l []).take j).getD e.on [] = (ancs l []).getD e.on [] := by
        rw [List.getD_eq_getElem?_getD, List.getD_eq_getElem?_getD, List.getElem?_take, if_pos hej]
      rw [h2] at hx
      have := ih e.on hej l[e.on] (List.getElem?_eq_getElem (by omega)) x hx
      omega
theorem envJ_next {I : List DJ} (hg : DGj l I) {j : Nat} {i : DJ} (hi : I[j]? = some i) {D D' : Nat → Prop} (hD : ¬ D j) (hD' : ∀ x, D' x ↔ x = j ∨ D x) (hclo : ∀ x, D x → ∀ y ∈ (ancs l []).getD x [], D y) : i.upd (envJ env0 I D) = envJ env0 I D' := by
  funext t
  refine valJ_next hD hD' I 0 _ i (Nat.zero_le _) (by simpa using hi) (fun x y hx hlt hd B => ?_)
  rw [Nat.zero_add] at hlt hd
  rcases hg.comm j x i y hi hx hlt with h | h
  · exact absurd (hclo x hd j h) hD
  · exact DJ.comm_at (hg.lt i (List.mem_of_getElem? hi)) (hg.lt y (List.mem_of_getElem? hx)) h t B
theorem envTj_take {I : List DJ} (hg : DGj l I) : ∀ j, j ≤ l.length → envTj env0 (I.take j) = envJ env0 I (fun x => x < j) := by
  intro j
  induction j with
  | zero =>
    intro _
    funext t
    have : ∀ (I : List DJ) (k : Nat) (B : As), valJ I k (fun x => x < 0) t B = B := by
      intro I
      induction I with
      | nil => intro k B; rfl
      | cons i I ih => intro k B; unfold valJ; rw [if_neg (Nat.not_lt_zero k)]; exact ih _ _
    exact (this I 0 _).symm
  | succ j ih =>
    intro hj
    have hjI : j < I.length := by rw [← hg.len]; omega
    have h1 := ih (by omega)
    have h2 : envTj env0 (I.take (j + 1)) = I[j].upd (envTj env0 (I.take j)) := by
      unfold envTj
      rw [List.take_succ_eq_append_getElem hjI, List.foldl_append]
      rfl
    rw [h2, h1]
    refine envJ_next hg (List.getElem?_eq_getElem hjI) (by omega) (fun x => by omega) (fun x hx y hy => ?_)
    have := anc_ltj hg x l[x] (List.getElem?_eq_getElem (by omega)) y hy
    omega
theorem envJ_need {e0 : List (Nat × As)} {I : List DJ} (hg : DGj l I) (hcl : cleanj e0 I = true) {j : Nat} {i : DJ} (hi : I[j]? = some i) {t : Nat} (ht : t ∈ i.nd) {D : Nat → Prop} (hDj : ¬ D j) (hanc : ∀ x ∈ (ancs l []).getD j [], D x) (hun : ∀ x, D x → j ∉ (ancs l []).getD x []) :
    envJ (keep e0) I D t = envJ (keep e0) I (fun x => x ∈ (ancs l []).getD j []) t := by
  have hcl' : ∀ y ∈ I, ∀ s ∈ y.res, (keep e0 t).dep s = false := by
    intro y hy s hs
    rcases keep_mem e0 t with h | ⟨p, hp, h⟩
    · rw [h]; rfl
    · rw [h]
      cases hd : p.2.dep s with
      | false => rfl
      | true =>
        have := List.all_eq_true.1 (List.all_eq_true.1 (List.all_eq_true.1 hcl p hp) s ((As.deps_iff _ _).1 hd)) y hy
        have h2 : y.res.contains s = true := List.contains_iff_mem.2 hs
        rw [h2] at this; cases this
  refine valJ_need (P := fun A => ∀ y ∈ I, ∀ x, I[x]? = some y → D x → x ∉ (ancs l []).getD j [] → ∀ s ∈ y.res, A.dep s = false) (fun y hy x hx h1 h2 s hs => rfl) hanc I 0 _ (fun y hy x hx h1 h2 s hs => hcl' y hy s hs) ?_
  intro x y hx
  rw [Nat.zero_add]
  refine ⟨hg.lt y (List.mem_of_getElem? hx), fun hr p hp htp A hA => ?_, fun hd hr => ?_⟩
  · intro z hz zx hzx hdz hnz s hs
    rcases hg.need j i hi t ht zx z hzx with (h | h | h) | ⟨_, h⟩
    · subst h; exact absurd hdz hDj
    · exact absurd h hnz
    · exact absurd h (hun zx hdz)
    · exact any_of (h s hs x y hx p hp htp.symm) hA
  · rcases hg.need j i hi t ht x y hx with (h | h | h) | ⟨h, _⟩
    · subst h; exact absurd hd hDj
    · exact absurd h hr
    · exact absurd h (hun x hd)
    · exact ⟨h, fun A hA => hA y (List.mem_of_getElem? hx) x hx hd hr⟩

theorem drawj_go {e0 : List (Nat × As)} {I : List DJ} (hg : DGj l I) (hcl : cleanj e0 I = true) (hst : ∀ j o i, l[j]? = some o → I[j]? = some i → DSt C l.toArray (envTj (keep e0) (I.take j)) o i)
    (k : AX C .normal (envTj (keep e0) I) Q) : ∀ (fuel : Nat) (listed : Array Bool) (a : Act) (w : World), listed.size = l.length →
      ((List.range l.length).filter fun i => !listed.getD i true).length ≤ fuel →
      (∀ i, listed.getD i false = true → ∀ x ∈ (ancs l []).getD i [], listed.getD x false = true) →
      C.R (envJ (keep e0) I (fun x => listed.getD x false = true)) a w → wpAny C.P .any l.toArray Q fuel listed a w := by
  have hfin : ∀ (listed : Array Bool), (∀ j, j < l.length → listed.getD j false = true) → envJ (keep e0) I (fun x => listed.getD x false = true) = envTj (keep e0) I := by
    intro listed hall
    have h1 := envTj_take (env0 := keep e0) hg l.length (Nat.le_refl _)
    rw [hg.len, List.take_length] at h1
    rw [h1]
    funext t
    have : ∀ (J : List DJ) (k : Nat) (B : As), k + J.length ≤ l.length → valJ J k (fun x => listed.getD x false = true) t B = valJ J k (fun x => x < I.length) t B := by
      intro J
      induction J with
      | nil => intro k B _; rfl
      | cons i J ih =>
        intro k B hk
        simp only [List.length_cons] at hk
        unfold valJ
        rw [if_pos (hall k (by omega)), if_pos (by rw [← hg.len]; omega)]
        exact ih _ _ (by omega)
    exact this I 0 _ (by rw [hg.len]; omega)
  intro fuel
  induction fuel with
  | zero =>
    intro listed a w hsz hcnt hclo hr
    have hall0 : ∀ j, j < l.length → listed.getD j true = true := by
      intro j hj
      cases hb : listed.getD j true with
      | true => rfl
      | false =>
        have : j ∈ (List.range l.length).filter fun i => !listed.getD i true := List.mem_filter.2 ⟨List.mem_range.2 hj, by rw [hb]; rfl⟩
        rw [List.eq_nil_of_length_eq_zero (Nat.le_zero.1 hcnt)] at this
        cases this
    have hall : ∀ j, j < l.length → listed.getD j false = true := fun j hj => by
      have := hall0 j hj
      rw [Array.getD_eq_getD_getElem?, Array.getElem?_eq_getElem (by omega)] at this ⊢
      simpa using this
    have hnil : Region.ready .any l.toArray listed = [] := by
      rw [List.eq_nil_iff_forall_not_mem]
      intro j hj
      obtain ⟨h1, o, ho, _⟩ := mem_ready.1 hj
      have hj' : j < l.length := by
        have := (Array.getElem?_eq_some_iff.1 ho).1
        simpa using this
      rw [hall0 j hj'] at h1
      cases h1
    exact ⟨hnil, k a w (by rw [← hfin listed hall]; exact hr)⟩
  | succ fuel ih =>
    intro listed a w hsz hcnt hclo hr
    refine ⟨fun hnil => ?_, fun j hj => ?_⟩
    · have hall : ∀ j, j < l.length → listed.getD j false = true := by
        intro j
        induction j using Nat.strongRecOn with
        | _ j ihj =>
          intro hjl
          cases hb : listed.getD j false with
          | true => rfl
          | false =>
            exfalso
            have hmem : j ∈ Region.ready .any l.toArray listed := by
              refine mem_ready.2 ⟨?_, l[j], by simp [hjl], fun e he hbd => ?_⟩
              · rw [Array.getD_eq_getD_getElem?, Array.getElem?_eq_getElem (by omega)] at hb ⊢
                simpa using hb
              · have := hg.edge j l[j] (List.getElem?_eq_getElem hjl) e he hbd
                exact ihj e.on this (by omega)
            rw [hnil] at hmem
            cases hmem
      exact k a w (by rw [← hfin listed hall]; exact hr)
    · obtain ⟨hun, o, ho', hedges⟩ := mem_ready.1 hj
      have ho : l[j]? = some o := by simpa using ho'
      have hjl : j < l.length := (List.getElem?_eq_some_iff.1 ho).1
      have hjI : j < I.length := by rw [← hg.len]; exact hjl
      have hi : I[j]? = some I[j] := List.getElem?_eq_getElem hjI
      generalize hii : I[j] = i at hi
      have hunf : ¬ listed.getD j false = true := by
        rw [Array.getD_eq_getD_getElem?, Array.getElem?_eq_getElem (by omega)] at hun ⊢
        simpa using hun
      have hset : ∀ x, (listed.setIfInBounds j true).getD x false = true ↔ x = j ∨ listed.getD x false = true := by
        intro x
        by_cases hxj : x = j
        · subst hxj
          simp [Array.getD_eq_getD_getElem?, show x < listed.size by omega]
        · rw [getD_set_ne false (Ne.symm hxj)]
          simp [hxj]
      have hanc : ∀ x ∈ (ancs l []).getD j [], listed.getD x false = true := by
        intro x hx
        have h1 := ancs_at l [] j o ho
        simp only [List.length_nil, Nat.zero_add] at h1
        rw [h1] at hx
        obtain ⟨e, he, hb, hx⟩ := mem_ancOf.1 hx
        have hej := hg.edge j o ho e he hb
        have h2 := hedges e he hb
        rcases hx with rfl | hx
        · exact h2
        · have h3 : ((ancs l []).take j).getD e.on [] = (ancs l []).getD e.on [] := by
            rw [List.getD_eq_getElem?_getD, List.getD_eq_getElem?_getD, List.getElem?_take, if_pos hej]
          rw [h3] at hx
          exact hclo e.on h2 x hx
      have hstep := hst j o i ho hi
      have hneed : ∀ t ∈ i.nd, envJ (keep e0) I (fun x => listed.getD x false = true) t = envTj (keep e0) (I.take j) t := by
        intro t ht
        rw [envTj_take hg j (by omega), envJ_need hg hcl hi ht hunf hanc (fun x hx h => hunf (hclo x hx j h))]
        refine (envJ_need hg hcl hi ht (D := fun x => x < j) (Nat.lt_irrefl j) (fun x hx => anc_ltj hg j o ho x hx) (fun x hx h => ?_)).symm
        have h1 := anc_ltj hg x l[x] (List.getElem?_eq_getElem (by omega)) j h
        omega
      have hnext := envJ_next (env0 := keep e0) hg hi (D := fun x => listed.getD x false = true) (D' := fun x => (listed.setIfInBounds j true).getD x false = true) hunf hset hclo
      have hgo : ∀ a' w', C.R (i.upd (envJ (keep e0) I (fun x => listed.getD x false = true))) a' w' → wpAny C.P .any l.toArray Q fuel (listed.setIfInBounds j true) a' w' := by
        intro a' w' hr'
        refine ih (listed.setIfInBounds j true) a' w' (by simp [hsz]) ?_ ?_ (by rw [← hnext]; exact hr')
        · have hsub : ((List.range l.length).filter fun x => !(listed.setIfInBounds j true).getD x true).length < ((List.range l.length).filter fun x => !listed.getD x true).length := by
            have e1 : ((List.range l.length).filter fun x => !(listed.setIfInBounds j true).getD x true) = ((List.range l.length).filter fun x => !listed.getD x true).filter fun x => !(x == j) := by
              rw [List.filter_filter]
              apply List.filter_congr
              intro x hx
              by_cases hxj : x = j
              · subst hxj
                simp [Array.getD_eq_getD_getElem?, show x < listed.size by omega]
              · rw [getD_set_ne true (Ne.symm hxj)]
                simp [hxj]
            rw [e1]
            refine List.length_filter_lt_length_iff_exists.2 ⟨j, List.mem_filter.2 ⟨List.mem_range.2 hjl, by rw [hun]; rfl⟩, by simp⟩
          omega
        · intro x hx y hy
          rcases (hset x).1 hx with rfl | h
          · exact (hset y).2 (.inr (hanc y hy))
          · exact (hset y).2 (.inr (hclo x h y hy))
      unfold wpOp
      simp only [ho']
      rcases hstep with ⟨jg, want, tg, dg, Ag, hgd, hgt, hgn, hgb, hgl, hps, hout, hdst, hok⟩ | ⟨hgd, hstep⟩
      · have h1 : Region.wanted o (yielded l.toArray a.tmps) = false := by
          rcases hgb with hgb | hgb
          · rw [wanted_of (C := C) (ops := l.toArray) hgd hgt (by rw [hneed tg hgn]; exact hgb) hgl hr]; cases want <;> rfl
          · exact wanted_no (C := C) (ops := l.toArray) hgd hgt (by rw [hneed tg hgn]; exact hgb) hgl hr
        rw [if_neg (by rw [h1]; simp)]
        rw [hdst]
        obtain ⟨s, F, hr'⟩ := hr
        refine hgo _ _ ?_
        have hup : ∀ env : Env, i.upd env = upd env dg Ag := fun env => by
          unfold DJ.upd DJ.at
          rw [hps, ← updRes_one]
          rfl
        rw [hup]
        rcases hout with rfl | rfl
        · exact hr'.put0 hok.1 (Nat.lt_of_lt_of_le hok.1 C.hN) hok.2 (fun b hb => hb)
        · exact hr'.put0 hok.1 (Nat.lt_of_lt_of_le hok.1 C.hN) hok.2 ⟨rfl, fun b hb => hb⟩
      · have hw : Region.wanted o (yielded l.toArray a.tmps) = true := by
          rcases hgd with hgd | ⟨jg, want, tg, b, hgd, hgt, hgn, hgb, hgl, hbw⟩
          · simp [Region.wanted, hgd]
          · have h1 := wanted_of (C := C) (ops := l.toArray) hgd hgt (by rw [hneed tg hgn]; exact hgb) hgl hr
            rw [h1, hbw]; simp
        rw [if_pos hw]
        exact .inl (hstep _ hneed Q _ a w hr hgo)
/-- A REGION WHOSE ORDER IS OPEN. -/
theorem AW.drawg {id : Nat} {e0 : List (Nat × As)} {I : List DJ} (hm : C.P.follows .mixedOrders = true) (hdc : DCj C l.toArray (keep e0) l I env') (hok : DGj l I) (hcl : cleanj e0 I = true) (k : AX C .normal env' Q) :
    AW C (.region id l.toArray true) (keep e0) Q := by
  intro a w hr
  obtain ⟨h1, h2, h3⟩ := hdc.get
  refine wp_region_any hm ?_
  obtain ⟨s, F, hr'⟩ := hr
  refine drawj_go hok hcl h3 (by rw [← h1]; exact k) l.toArray.size (Array.replicate l.toArray.size false) a { w with drawn := w.drawn + 1 } (by simp) ?_ ?_ ?_
  · exact Nat.le_trans (List.length_filter_le _ _) (by simp)
  · intro i hi
    exfalso
    rw [Array.getD_eq_getD_getElem?, Array.getElem?_replicate] at hi
    split at hi <;> simp at hi
  · have he : envJ (keep e0) I (fun x => (Array.replicate l.toArray.size false).getD x false = true) = keep e0 := by
      funext t
      have hno : ∀ x, ¬ (Array.replicate l.toArray.size false).getD x false = true := fun x hi => by
        rw [Array.getD_eq_getD_getElem?, Array.getElem?_replicate] at hi
        split at hi <;> simp at hi
      have : ∀ (J : List DJ) (k : Nat) (B : As), valJ J k (fun x => (Array.replicate l.toArray.size false).getD x false = true) t B = B := by
        intro J
        induction J with
        | nil => intro k B; rfl
        | cons i J ih => intro k B; unfold valJ; rw [if_neg (hno k)]; exact ih _ _
      exact this I 0 _
    rw [he]
    exact ⟨s, F, hr'.dfr, hr'.size, fun t => As.holds_frame (hr'.slot t) (fun b _ => rfl), hr'.disj, hr'.mine, hr'.fz, ⟨hr'.keep.os, hr'.keep.tape, hr'.keep.output, hr'.keep.size, hr'.keep.block, fun hon => Nat.le_trans (hr'.keep.drn hon) (Nat.le_add_right _ _)⟩, hr'.pin, hr'.ext, hr'.new⟩
theorem AW.drawj {id : Nat} {e0 : List (Nat × As)} {I : List DJ} (hm : C.P.follows .mixedOrders = true) (hdc : DCj C l.toArray (keep e0) l I env') (hok : dOKj l I = true) (hcl : cleanj e0 I = true) (k : AX C .normal env' Q) :
    AW C (.region id l.toArray true) (keep e0) Q := AW.drawg hm hdc (dOKj_good hok) hcl k
end
end Go.Proofs.YtkgboidjghcegaaGreatDoor.VL
/- Proved here: the rules of the other texts once more, with fewer words: for walks that are printed. General: over every program. -/
set_option linter.unusedVariables false
set_option linter.unusedSimpArgs false
namespace Go.Proofs.YtkgboidjghcegaaGreatDoor.VL
open Go
/-! ### What a test tells -/
class Pl (b : Bool) (P Q : outParam Prop) : Prop where
  t : b = true → P
  f : b = false → Q
instance (priority := low) Pl.any (b : Bool) : Pl b (b = true) (b = false) := ⟨id, id⟩
instance Pl.dec (p : Prop) [Decidable p] : Pl (decide p) p (¬ p) := ⟨of_decide_eq_true, of_decide_eq_false⟩
instance Pl.not (b : Bool) {P Q : Prop} [h : Pl b P Q] : Pl (!b) Q P := ⟨fun e => h.f (by simpa using e), fun e => h.t (by simpa using e)⟩
instance Pl.and (a b : Bool) {P Q P' Q' : Prop} [h : Pl a P Q] [h' : Pl b P' Q'] : Pl (a && b) (P ∧ P') (Q ∨ Q') :=
  ⟨fun e => by rw [Bool.and_eq_true] at e; exact ⟨h.t e.1, h'.t e.2⟩, fun e => by rw [Bool.and_eq_false_iff] at e; exact e.imp h.f h'.f⟩
instance Pl.or (a b : Bool) {P Q P' Q' : Prop} [h : Pl a P Q] [h' : Pl b P' Q'] : Pl (a || b) (P ∨ P') (Q ∧ Q') :=
  ⟨fun e => by rw [Bool.or_eq_true] at e; exact e.imp h.t h'.t, fun e => by rw [Bool.or_eq_false_iff] at e; exact ⟨h.f e.1, h'.f e.2⟩⟩
instance Pl.beq {α : Type} [BEq α] [LawfulBEq α] (x y : α) : Pl (x == y) (x = y) (¬ x = y) := ⟨eq_of_beq, fun e => by simpa using e⟩
instance Pl.bne {α : Type} [BEq α] [LawfulBEq α] (x y : α) : Pl (x != y) (¬ x = y) (x = y) := ⟨fun e => by simpa using e, fun e => by simpa using e⟩
/-- The outermost words alone. -/
class Po (b : Bool) (P Q : outParam Prop) : Prop where
  t : b = true → P
  f : b = false → Q
instance (priority := low) Po.any (b : Bool) : Po b (b = true) (b = false) := ⟨id, id⟩
instance Po.dec (p : Prop) [Decidable p] : Po (decide p) p (¬ p) := ⟨of_decide_eq_true, of_decide_eq_false⟩
instance Po.not (b : Bool) {P Q : Prop} [h : Po b P Q] : Po (!b) Q P := ⟨fun e => h.f (by simpa using e), fun e => h.t (by simpa using e)⟩
theorem pT {b : Bool} {P Q P' Q' : Prop} [h : Po b P Q] [h' : Pl b P' Q'] (e : b = true) : P ∧ P' := ⟨h.t e, h'.t e⟩
theorem pF {b : Bool} {P Q P' Q' : Prop} [h : Po b P Q] [h' : Pl b P' Q'] (e : b = false) : Q ∧ Q' := ⟨h.f e, h'.f e⟩
theorem oT {b : Bool} {P Q : Prop} [h : Po b P Q] (e : b = true) : P := h.t e
theorem oF {b : Bool} {P Q : Prop} [h : Po b P Q] (e : b = false) : Q := h.f e
theorem lT {b : Bool} {P Q : Prop} [h : Pl b P Q] (e : b = true) : P := h.t e
theorem lF {b : Bool} {P Q : Prop} [h : Pl b P Q] (e : b = false) : Q := h.f e

/-! ### A slot that is written anew -/
def nd (d : Nat) : KL → Bool
  | [] => true
  | (t, A) :: r => (t == d || (!(ofSlot d t) && !(A.dep d))) && nd d r
theorem nd_spec {d : Nat} : ∀ {e : KL}, nd d e = true → ∀ t, t ≠ d → (ofSlot d t = true → keep e t = .any) ∧ (keep e t).dep d = false
  | [], _, t, _ => ⟨fun _ => rfl, by simp [keep, As.dep]⟩
  | (t', A) :: r, h, t, hne => by
    simp only [nd, Bool.and_eq_true, Bool.or_eq_true, Bool.not_eq_true', beq_iff_eq] at h
    obtain ⟨h1, h3⟩ := h
    have ih := nd_spec h3 t hne
    by_cases ht : t = t'
    · subst ht
      rw [keep_cons_self]
      rcases h1 with h1 | ⟨h1, h2⟩
      · exact absurd h1 hne
      · exact ⟨fun h => absurd (h1.symm.trans h) (by decide), h2⟩
    · rw [keep_cons_ne _ _ ht]; exact ih
theorem upd_nd {d : Nat} {A : As} {e : KL} (h : nd d e = true) : upd (keep e) d A = keep ((d, A) :: e) := by
  funext t
  unfold upd
  by_cases ht : t = d
  · subst ht; rw [if_pos rfl, keep_cons_self]
  · rw [if_neg ht, keep_cons_ne _ _ ht]
    obtain ⟨h1, h2⟩ := nd_spec h t ht
    split
    · rename_i h3; exact (h1 h3).symm
    · rw [h2]; simp

section
variable {C : Cx} {env env' : Env} {e e' : KL} {Q : Exit → Act → World → Prop} {K : Act → World → Prop} {o : Oper} {fn : Func} {p q r : Operand} {c x y : Code} {ops : Array Oper} {l rest : List Oper} {d t : Nat} {T T' S E : TypeId} {α β γ : Type} {k : Kd α} {k' : Kd β} {A B : As}
/-! ### Heads, and operands -/
theorem H {X : Op} (h : (o.op, o.dst, Nat.blt d C.N, C.pn d) = (X, some d, true, none)) : Hd C o X d := by
  simp only [Prod.mk.injEq] at h
  exact ⟨h.1, h.2.1, okd h.2.2.1 h.2.2.2⟩
theorem ok' (h : (Nat.blt d C.N, C.pn d) = (true, none)) : C.ok d := by
  simp only [Prod.mk.injEq] at h
  exact okd h.1 h.2
theorem T1 (h : (env t, Nat.blt t 10000, A.flat) = (A, true, true)) : Opd C env (.tmp t) A := by
  simp only [Prod.mk.injEq] at h
  exact Tm h.1 h.2.1 h.2.2
theorem D1 {nd : List Nat} (h : ∀ t ∈ nd, env' t = env t) (hm : (env t, nd.contains t, Nat.blt t 10000, A.flat) = (A, true, true, true)) : Opd C env' (.tmp t) A := by
  simp only [Prod.mk.injEq] at hm
  exact D h hm.2.1 hm.1 hm.2.2.1 hm.2.2.2

/-! ### Rows of operations -/
theorem st (h : OpT C o (keep e) (upd (keep e) d A)) (hn : (o.guard.isNone && nd d e) = true) (k : AWl C ops rest (keep ((d, A) :: e)) Q) : AWl C ops (o :: rest) (keep e) Q := by
  rw [Bool.and_eq_true] at hn
  exact AWl.op (by simpa using hn.1) h (by rw [upd_nd hn.2]; exact k)
theorem sg (h : OpT C o env env') (ht : env'.to (keep e')) (hg : o.guard.isNone = true) (k : AWl C ops rest (keep e') Q) : AWl C ops (o :: rest) env Q :=
  AWl.sg (by simpa using hg) h ht k
theorem s2 (h : OpT C o (keep e) (updRes (keep e) d [A, B])) (hn : (o.guard.isNone && nodep d e && Nat.blt d 10000) = true) (k : AWl C ops rest (keep ((d + 10000, A) :: (d + 20000, B) :: e)) Q) : AWl C ops (o :: rest) (keep e) Q := by
  rw [Bool.and_eq_true, Bool.and_eq_true] at hn
  exact AWl.st2 (by simpa using hn.1.1) h hn.1.2 hn.2 k
/-- What a slot's memory holds has changed. -/
theorem sk (h : OpT C o (keep e) (updK (keep e) d A)) (hg : o.guard.isNone = true) (k : AWl C ops rest (keep ((d, A) :: e)) Q) : AWl C ops (o :: rest) (keep e) Q :=
  AWl.op (by simpa using hg) h (by
    have : updK (keep e) d A = keep ((d, A) :: e) := by
      funext u
      by_cases hu : u = d
      · subst hu; rw [updK_self, keep_cons_self]
      · rw [updK_ne _ _ hu, keep_cons_ne _ _ hu]
    rw [this]; exact k)
theorem rs {j : Nat} {want b : Bool} {t' : Nat} (hbw : b = want) (h : OpT C o (keep e) (upd (keep e) d A)) (hg : (o.guard, (ops[j]?).bind (·.dst), keep e t', Nat.blt t' 10000, nd d e) = (some (j, want), some t', .cel Kd.bool b, true, true))
    (k : AWl C ops rest (keep ((d, A) :: e)) Q) : AWl C ops (o :: rest) (keep e) Q := by
  simp only [Prod.mk.injEq] at hg
  obtain ⟨h1, h2, h3, h4, h5⟩ := hg
  exact AWl.run h1 h2 h3 (Nat.le_of_ble_eq_true h4) hbw h (by rw [upd_nd h5]; exact k)
theorem ps {j : Nat} {want b : Bool} (hbw : b = !want) (hg : (o.guard, (ops[j]?).bind (·.dst), keep e t, Nat.blt t 10000, o.dst, Nat.blt d C.N, C.pn d, nodep d e) = (some (j, want), some t, .cel Kd.bool b, true, some d, true, none, true))
    (k : AWl C ops rest (keep e) Q) : AWl C ops (o :: rest) (keep e) Q := by
  simp only [Prod.mk.injEq] at hg
  obtain ⟨h1, h2, h3, h4, h5, h6, h7, h8⟩ := hg
  exact AWl.pas h1 h2 h3 h4 hbw h5 (okd h6 h7) h8 k
/-- A region, and what follows it. -/
theorem sr {id : Nat} (h : AWl C l.toArray l env (Exit.then (fun a w => y.wp C.P Q a w) Q)) : AW C (.seq (.region id l.toArray false) y) env Q := AW.seq (AW.region h)
theorem nn (h : AX C .normal env Q) : AWl C ops [] env Q := AWl.nil h
theorem ng (h : AW C y env Q) : AWl C ops [] env (Exit.then (fun a w => y.wp C.P Q a w) Q) := AWl.nil (AX.go h)
/-! ### Moves and other frequent steps -/
/-- A value is copied. -/
theorem mvT {x : α} (h : (o.op, o.dst, Nat.blt d C.N, C.pn d, env t, Nat.blt t 10000) = (.move (.tmp t), some d, true, none, .cel k x, true)) : OpT C o env (upd env d (.cel k x)) := by
  simp only [Prod.mk.injEq] at h
  obtain ⟨h1, h2, h3, h4, h5, h6⟩ := h
  exact OpT.move (.inl h1) h2 (okd h3 h4) (Tm h5 h6 rfl) rfl
theorem asT {x : α} (h : (o.op, o.dst, Nat.blt d C.N, C.pn d, env t, Nat.blt t 10000) = (.assign (.tmp t), some d, true, none, .cel k x, true)) : OpT C o env (upd env d (.cel k x)) := by
  simp only [Prod.mk.injEq] at h
  obtain ⟨h1, h2, h3, h4, h5, h6⟩ := h
  exact OpT.move (.inr h1) h2 (okd h3 h4) (Tm h5 h6 rfl) rfl
/-- A constant. -/
theorem mvI {kk : IntKind} {n : Int} (h : (o.op, o.dst, Nat.blt d C.N, C.pn d, inRb kk n) = (.move (.const (.int kk n)), some d, true, none, true)) : OpT C o env (upd env d (.cel (Kd.int kk) n)) := by
  simp only [Prod.mk.injEq] at h
  obtain ⟨h1, h2, h3, h4, h5⟩ := h
  exact OpT.move (.inl h1) h2 (okd h3 h4) (I h5) rfl
theorem asI {kk : IntKind} {n : Int} (h : (o.op, o.dst, Nat.blt d C.N, C.pn d, inRb kk n) = (.assign (.const (.int kk n)), some d, true, none, true)) : OpT C o env (upd env d (.cel (Kd.int kk) n)) := by
  simp only [Prod.mk.injEq] at h
  obtain ⟨h1, h2, h3, h4, h5⟩ := h
  exact OpT.move (.inr h1) h2 (okd h3 h4) (I h5) rfl
theorem asB {b : Bool} (h : (o.op, o.dst, Nat.blt d C.N, C.pn d) = (.assign (.const (.bool b)), some d, true, none)) : OpT C o env (upd env d (.cel Kd.bool b)) := by
  simp only [Prod.mk.injEq] at h
  obtain ⟨h1, h2, h3, h4⟩ := h
  exact OpT.move (.inr h1) h2 (okd h3 h4) Opd.bool rfl

/-! ### What is kept -/
theorem kc (d : Nat) {x : α} {l : KL} (hA : env d = .cel k x) (h : env.to (keep l)) : env.to (keep ((d, .cel k x) :: l)) := Env.to_cons hA h
theorem ka (d : Nat) {x : α} {l : KL} (hA : env d = .agg k x) (h : env.to (keep l)) : env.to (keep ((d, .agg k x) :: l)) := Env.to_cons hA h
theorem ko (d : Nat) {x : List α} {l : KL} (hA : env d = .own E k x) (h : env.to (keep l)) : env.to (keep ((d, .own E k x) :: l)) := Env.to_cons hA h
theorem kb (d : Nat) {x : α} {l : KL} (hA : env d = .box E k x) (h : env.to (keep l)) : env.to (keep ((d, .box E k x) :: l)) := Env.to_cons hA h
theorem kc2 (d1 d2 : Nat) {x1 : α} {x2 : β} {l : KL} (hA : (env d1, env d2) = (.cel k x1, .cel k' x2)) (h : env.to (keep l)) : env.to (keep ((d1, .cel k x1) :: (d2, .cel k' x2) :: l)) := by
  simp only [Prod.mk.injEq] at hA
  exact Env.to_cons hA.1 (Env.to_cons hA.2 h)
theorem kc3 (d1 d2 d3 : Nat) {α3 : Type} {k3 : Kd α3} {x1 : α} {x2 : β} {x3 : α3} {l : KL} (hA : (env d1, env d2, env d3) = (.cel k x1, .cel k' x2, .cel k3 x3)) (h : env.to (keep l)) : env.to (keep ((d1, .cel k x1) :: (d2, .cel k' x2) :: (d3, .cel k3 x3) :: l)) := by
  simp only [Prod.mk.injEq] at hA
  exact Env.to_cons hA.1 (Env.to_cons hA.2.1 (Env.to_cons hA.2.2 h))
theorem kc4 (d1 d2 d3 d4 : Nat) {α3 α4 : Type} {k3 : Kd α3} {k4 : Kd α4} {x1 : α} {x2 : β} {x3 : α3} {x4 : α4} {l : KL} (hA : (env d1, env d2, env d3, env d4) = (.cel k x1, .cel k' x2, .cel k3 x3, .cel k4 x4)) (h : env.to (keep l)) :
    env.to (keep ((d1, .cel k x1) :: (d2, .cel k' x2) :: (d3, .cel k3 x3) :: (d4, .cel k4 x4) :: l)) := by
  simp only [Prod.mk.injEq] at hA
  exact Env.to_cons hA.1 (Env.to_cons hA.2.1 (Env.to_cons hA.2.2.1 (Env.to_cons hA.2.2.2 h)))

/-! ### Control -/
theorem cd {b : Bool} (h : (env t, Nat.blt t 10000) = (.cel Kd.bool b, true)) (h1 : b = true → AW C x env Q) (h2 : b = false → AW C y env Q) : AW C (.cond (.tmp t) x y) env Q := by
  simp only [Prod.mk.injEq] at h
  exact AW.cond h.1 (Nat.le_of_ble_eq_true h.2) h1 h2
theorem rT (h : AX C .ret env Q) : AX C .ret env (Exit.then K Q) := h
theorem rK {id : Nat} (h : AX C .ret env Q) : AX C .ret env (Exit.inBlock id Q) := h
theorem xT {id : Nat} (h : AX C (.exit id) env Q) : AX C (.exit id) env (Exit.then K Q) := h
theorem xM {id id' : Nat} (hne : Nat.beq id id' = false) (h : AX C (.exit id) env Q) : AX C (.exit id) env (Exit.inBlock id' Q) := AX.exit_miss (Nat.ne_of_beq_eq_false hne) h
/-- One result. -/
theorem rt1 {ex : Exit} {t : Nat} {x y : α} (h : (fn.results, env t, Nat.blt t 10000) = (#[.tmp t], .cel k x, true)) (he : ex = .ret ∨ ex = .normal) (hx : x = y) : AX C ex env (RetQ C fn [.cel k y] []) := by
  simp only [Prod.mk.injEq] at h
  exact AX.rt (rs := [.tmp t]) (ts := [some t]) he h.1 (ROs.cons (RO.tmp (At.self (Nat.le_of_ble_eq_true h.2.2)) (Kv h.2.1 hx) rfl) ROs.nil) (by simp [osl]) OutsOK.nil
/-- Two results. -/
theorem rt2 {ex : Exit} {t u : Nat} {x x' : α} {y y' : β} (h : (fn.results, env t, env u, Nat.blt t 10000, Nat.blt u 10000, Nat.beq t u) = (#[.tmp t, .tmp u], .cel k x, .cel k' y, true, true, false)) (he : ex = .ret ∨ ex = .normal) (hx : x = x') (hy : y = y') : AX C ex env (RetQ C fn [.cel k x', .cel k' y'] []) := by
  simp only [Prod.mk.injEq] at h
  obtain ⟨h1, h2, h3, h4, h5, h6⟩ := h
  exact AX.rt (rs := [.tmp t, .tmp u]) (ts := [some t, some u]) he h1 (ROs.cons (RO.tmp (At.self (Nat.le_of_ble_eq_true h4)) (Kv h2 hx) rfl) (ROs.cons (RO.tmp (At.self (Nat.le_of_ble_eq_true h5)) (Kv h3 hy) rfl) ROs.nil))
    (by simp [osl]; exact Nat.ne_of_beq_eq_false h6) OutsOK.nil

/-! ### Regions of open order -/
theorem upd_res (d : Nat) (out : List As) (nds : List Nat) (env : Env) : DJ.upd ⟨[.res d out], nds⟩ env = updRes env d out := rfl
theorem upd_res1 (d : Nat) (A : As) (nds : List Nat) (env : Env) : DJ.upd ⟨[.res d [A]], nds⟩ env = upd env d A := by rw [upd_res, updRes_one]
theorem upd_mod (t : Nat) (A : As) (nds : List Nat) (env : Env) : DJ.upd ⟨[.mod t A], nds⟩ env = updK env t A := rfl
theorem upd_two (t d : Nat) (A B : As) (nds : List Nat) (env : Env) : DJ.upd ⟨[.res t [B], .res d [A]], nds⟩ env = upd (upd env t B) d A := by
  rw [← updRes_one, ← updRes_one]; rfl
theorem updK_keep {d : Nat} {e : KL} : updK (keep e) d A = keep ((d, A) :: e) := by
  funext u
  by_cases hu : u = d
  · subst hu; rw [updK_self, keep_cons_self]
  · rw [updK_ne _ _ hu, keep_cons_ne _ _ hu]
def DH (C : Cx) (ops : Array Oper) (e : KL) (l : List Oper) (K : KL → List DJ → Prop) : Prop := ∃ I e', DCj C ops (keep e) l I (keep e') ∧ K e' I
theorem dn {K : KL → List DJ → Prop} (h : K e []) : DH C ops e [] K := ⟨[], e, DCj.nil _, h⟩
theorem DH.step {K : KL → List DJ → Prop} {l : List Oper} {i : DJ} {e2 : KL} (h : DSt C ops (keep e) o i) (he : i.upd (keep e) = keep e2) (r : DH C ops e2 l (fun e' I => K e' (i :: I))) : DH C ops e (o :: l) K := by
  obtain ⟨I, e', h1, h2⟩ := r
  exact ⟨_, _, DCj.cons h (by rw [he]; exact h1), h2⟩
/-- One operation. -/
theorem d1 {K : KL → List DJ → Prop} {l : List Oper} {d : Nat} {A : As} (nds : List Nat) (h : ∀ env', (∀ t ∈ nds, env' t = keep e t) → OpT C o env' (upd env' d A)) (hn : (o.guard.isNone && nd d e) = true)
    (r : DH C ops ((d, A) :: e) l (fun e' I => K e' (⟨[.res d [A]], nds⟩ :: I))) : DH C ops e (o :: l) K := by
  rw [Bool.and_eq_true] at hn
  exact DH.step (.inr ⟨.inl (by simpa using hn.1), fun env' he => by rw [upd_res1]; exact h env' he⟩) (by rw [upd_res1, upd_nd hn.2]) r
/-- One that a guard lets run. -/
theorem dr {K : KL → List DJ → Prop} {l : List Oper} {d : Nat} {A : As} (nds : List Nat) {j : Nat} {want b : Bool} (hbw : b = want) (h : ∀ env', (∀ t ∈ nds, env' t = keep e t) → OpT C o env' (upd env' d A))
    (hg : (o.guard, (ops[j]?).bind (·.dst), nds.contains t, keep e t, Nat.blt t 10000, nd d e) = (some (j, want), some t, true, .cel Kd.bool b, true, true))
    (r : DH C ops ((d, A) :: e) l (fun e' I => K e' (⟨[.res d [A]], nds⟩ :: I))) : DH C ops e (o :: l) K := by
  simp only [Prod.mk.injEq] at hg
  obtain ⟨g1, g2, g3, g4, g5, g6⟩ := hg
  exact DH.step (.inr ⟨.inr ⟨j, want, t, b, g1, g2, by simpa using g3, g4, Nat.le_of_ble_eq_true g5, hbw⟩, fun env' he => by rw [upd_res1]; exact h env' he⟩) (by rw [upd_res1, upd_nd g6]) r
theorem d2 {K : KL → List DJ → Prop} {l : List Oper} {d : Nat} {A B : As} (nds : List Nat) (h : ∀ env', (∀ t ∈ nds, env' t = keep e t) → OpT C o env' (updRes env' d [A, B])) (hn : (o.guard.isNone && nodep d e && Nat.blt d 10000) = true)
    (r : DH C ops ((d + 10000, A) :: (d + 20000, B) :: e) l (fun e' I => K e' (⟨[.res d [A, B]], nds⟩ :: I))) : DH C ops e (o :: l) K := by
  rw [Bool.and_eq_true, Bool.and_eq_true] at hn
  exact DH.step (.inr ⟨.inl (by simpa using hn.1.1), fun env' he => by rw [upd_res]; exact h env' he⟩) (by rw [upd_res]; exact updRes_two hn.1.2 hn.2) r
/-- A store. -/
theorem dm {K : KL → List DJ → Prop} {l : List Oper} {t : Nat} {A : As} (nds : List Nat) (h : ∀ env', (∀ t ∈ nds, env' t = keep e t) → OpT C o env' (updK env' t A)) (hn : o.guard.isNone = true)
    (r : DH C ops ((t, A) :: e) l (fun e' I => K e' (⟨[.mod t A], nds⟩ :: I))) : DH C ops e (o :: l) K :=
  DH.step (.inr ⟨.inl (by simpa using hn), fun env' he => by rw [upd_mod]; exact h env' he⟩) (by rw [upd_mod]; exact updK_keep) r
/-- What is owned goes over. -/
theorem dt {K : KL → List DJ → Prop} {l : List Oper} {t d : Nat} {A : As} (nds : List Nat) (h : ∀ env', (∀ t ∈ nds, env' t = keep e t) → OpT C o env' (upd (upd env' t .any) d A)) (hn : o.guard.isNone = true)
    (r : DH C ops ((d, A) :: drp d ((t, .any) :: drp t e)) l (fun e' I => K e' (⟨[.res t [.any], .res d [A]], nds⟩ :: I))) : DH C ops e (o :: l) K :=
  DH.step (.inr ⟨.inl (by simpa using hn), fun env' he => by rw [upd_two]; exact h env' he⟩) (by rw [upd_two, upd_drp, upd_drp]) r
theorem DH.pas {K : KL → List DJ → Prop} {l : List Oper} {d : Nat} {nds : List Nat} (h : DSt C ops (keep e) o ⟨[.res d [.any]], nds⟩) (hn : nodep d e = true) (hd : Nat.blt d 10000 = true)
    (r : DH C ops e l (fun e' I => K e' (⟨[.res d [.any]], nds⟩ :: I))) : DH C ops e (o :: l) K :=
  DH.step h (by rw [upd_res1]; exact upd_any_keep hn (Nat.le_of_ble_eq_true hd)) r
theorem DH.val {K : KL → List DJ → Prop} {l : List Oper} {d : Nat} {nds : List Nat} (h : DSt C ops (keep e) o ⟨[.res d [.val undef]], nds⟩) (hn : nd d e = true)
    (r : DH C ops ((d, .val undef) :: e) l (fun e' I => K e' (⟨[.res d [.val undef]], nds⟩ :: I))) : DH C ops e (o :: l) K :=
  DH.step h (by rw [upd_res1]; exact upd_nd hn) r
/-- One that a guard keeps from running. -/
theorem dp {K : KL → List DJ → Prop} {l : List Oper} {d : Nat} {j : Nat} {want b : Bool} (hbw : b = !want)
    (hg : (o.guard, (ops[j]?).bind (·.dst), keep e t, Nat.blt t 10000, o.dst, Nat.blt d C.N, C.pn d, nodep d e, Nat.blt d 10000) = (some (j, want), some t, .cel Kd.bool b, true, some d, true, none, true, true))
    (r : DH C ops e l (fun e' I => K e' (⟨[.res d [.any]], [t]⟩ :: I))) : DH C ops e (o :: l) K := by
  simp only [Prod.mk.injEq] at hg
  obtain ⟨g1, g2, g3, g4, g5, g6, g7, g8, g9⟩ := hg
  exact DH.pas (.inl ⟨j, want, t, d, .any, g1, g2, by simp, .inl (by rw [g3, hbw]), Nat.le_of_ble_eq_true g4, rfl, .inl rfl, g5, okd g6 g7⟩) g8 g9 r
theorem dq {K : KL → List DJ → Prop} {l : List Oper} {d : Nat} {j : Nat} {want b : Bool} (hbw : b = !want)
    (hg : (o.guard, (ops[j]?).bind (·.dst), keep e t, Nat.blt t 10000, o.dst, Nat.blt d C.N, C.pn d, nd d e) = (some (j, want), some t, .cel Kd.bool b, true, some d, true, none, true))
    (r : DH C ops ((d, .val undef) :: e) l (fun e' I => K e' (⟨[.res d [.val undef]], [t]⟩ :: I))) : DH C ops e (o :: l) K := by
  simp only [Prod.mk.injEq] at hg
  obtain ⟨g1, g2, g3, g4, g5, g6, g7, g8⟩ := hg
  exact DH.val (.inl ⟨j, want, t, d, .val undef, g1, g2, by simp, .inl (by rw [g3, hbw]), Nat.le_of_ble_eq_true g4, rfl, .inr rfl, g5, okd g6 g7⟩) g8 r
theorem dpu {K : KL → List DJ → Prop} {l : List Oper} {d : Nat} {j : Nat} {want : Bool}
    (hg : (o.guard, (ops[j]?).bind (·.dst), keep e t, Nat.blt t 10000, o.dst, Nat.blt d C.N, C.pn d, nodep d e, Nat.blt d 10000) = (some (j, want), some t, .val undef, true, some d, true, none, true, true))
    (r : DH C ops e l (fun e' I => K e' (⟨[.res d [.any]], [t]⟩ :: I))) : DH C ops e (o :: l) K := by
  simp only [Prod.mk.injEq] at hg
  obtain ⟨g1, g2, g3, g4, g5, g6, g7, g8, g9⟩ := hg
  exact DH.pas (.inl ⟨j, want, t, d, .any, g1, g2, by simp, .inr g3, Nat.le_of_ble_eq_true g4, rfl, .inl rfl, g5, okd g6 g7⟩) g8 g9 r
theorem dh {id : Nat} (hm : C.P.follows .mixedOrders = true) (h : DH C l.toArray e l (fun e' I => dOKj l I = true ∧ cleanj e I = true ∧ AX C .normal (keep e') Q)) : AW C (.region id l.toArray true) (keep e) Q := by
  obtain ⟨I, e', h1, h2, h3, h4⟩ := h
  exact AW.drawj hm h1 h2 h3 h4
end
/-- A function's contract follows from its walk. -/
theorem acI {P : Program} {f : FuncId} {fn : Func} {N : Nat} {c : Code} {ins out outs : List As} (hf : P.funcs[f]? = some fn) (hN : N ≤ 10000)
    (hb : (fn.body, fn.ntmps, Nat.ble ins.length N, ins.all As.free, Nat.ble outs.length ins.length, fn.name == "runtime.NumGoroutine") = (some c, N, true, true, true, false))
    (h : ∀ (w0 : World) (hd : FS) (s0 : {s : Hp // Glb P s}) (args : Array Value), AW ⟨P, N, w0, hd, hN, pnOf outs args, s0.1, s0.2⟩ c (envOf ins) (RetQ ⟨P, N, w0, hd, hN, pnOf outs args, s0.1, s0.2⟩ fn out outs)) : AC P f ins out outs := by
  simp only [Prod.mk.injEq] at hb
  obtain ⟨h1, h2, h3, h4, h5, h6⟩ := hb
  exact ⟨ACall.intro hf h1 h2 hN (Nat.le_of_ble_eq_true h3) h4 (Nat.le_of_ble_eq_true h5) (fun w0 hd s0 gl args _ => h w0 hd ⟨s0, gl⟩ args), fn, hf, by rw [h1]; rfl, h6⟩
end Go.Proofs.YtkgboidjghcegaaGreatDoor.VL
/- Proved here: results that a call owns, and rows that are lent to a call. General: over every program. -/
set_option linter.unusedVariables false
set_option linter.unusedSimpArgs false
namespace Go.Proofs.YtkgboidjghcegaaGreatDoor.VL
open Go
/-- What is owned goes over into what stays as it is. -/
theorem frz_holds {s s' : Hp} {w : World} {v : Value} {F : FS} {A : As} (h : A.holds s w g0 v F) (hs : s.le s') (hF : ∀ b, F b → s' b = w.heap[b]?) : A.frz.holds s' w g0 v FS.no := by
  cases A with
  | own E k xs =>
    obtain ⟨⟨cells, how, hrd⟩, hz0, hFb⟩ := h
    refine ⟨?_, fun b hb => hb⟩
    rcases how.2 with ⟨hv, hn⟩ | ⟨g, cap, cur, hv, _, hg, hnc, hcm, hcs, htake⟩
    · exact ⟨none, 0, by rw [hv, hn], by omega, by omega, fun h => by omega⟩
    · have hsg : s' g = some (.cells cur E (0, 0)) := by rw [hF g ((hFb g).2 (by rw [hv]; rfl))]; exact hg
      refine ⟨some ⟨g, 0, none⟩, cap, by rw [hv], hnc, by simp only [maxLen] at hcm; omega, fun h => ⟨⟨g, 0, none⟩, cells, rfl, hrd.mono hs, fun j u hu => ?_⟩⟩
      rw [Addr.add_lit, Nat.zero_add]
      unfold Hp.look
      simp only [hsg]
      rw [← htake, List.getElem?_take] at hu
      split at hu
      · simpa using hu
      · cases hu
  | box E k x =>
    obtain ⟨g, cs, hv, hg, hrd, hFb⟩ := h
    have hsg : s' g = some (.cells cs E (0, 0)) := by rw [hF g ((hFb g).2 rfl)]; exact hg
    refine ⟨⟨⟨g, 0, none⟩, cs.toList, by rw [hv], k.mono hs hrd, fun j u hu => ?_⟩, fun b hb => hb⟩
    rw [Addr.add_lit, Nat.zero_add]
    unfold Hp.look
    simp only [hsg]
    simpa using hu
  | any => exact fun b hb => hb
  | val u => exact ⟨h.1, fun b hb => hb⟩
  | cel k x => exact ⟨k.mono hs h.1, fun b hb => hb⟩
  | agg k x => obtain ⟨⟨cs, e, h1⟩, _⟩ := h; exact ⟨⟨cs, e, k.mono hs h1⟩, fun b hb => hb⟩
  | ali t => exact ⟨h.1, fun b hb => hb⟩
  | pel t i k o k' f h' => exact ⟨h.1, fun b hb => hb⟩
  | clo f k x => obtain ⟨⟨cs, e, h1⟩, _⟩ := h; exact ⟨⟨cs, e, k.mono hs h1⟩, fun b hb => hb⟩
  | cap f ts => exact ⟨h.1, fun b hb => hb⟩
  | vw t lo hi z => exact ⟨h.1, fun b hb => hb⟩
  | deep O => exact fun b hb => hb
theorem ACall.frz {P : Program} {f : FuncId} {ins out outs : List As} (h : ACall P f ins out outs) : ACall P f ins (out.map As.frz) outs := by
  classical
  intro w s args F h1 hgl h2 h3 h4 h5
  refine (h w s args F h1 hgl h2 h3 h4 h5).mono ?_
  rintro e w' ⟨v, s', F', Fr, he, hle, hnew, hfz, hk, hsh, hout, houts, hd1, hd2, hd3, hf1, hf2⟩
  let s2 : Hp := fun b => if ∃ j, Fr j b then w'.heap[b]? else s' b
  have hin : ∀ b, (∃ j, Fr j b) → s2 b = w'.heap[b]? := fun b hb => if_pos hb
  have hout2 : ∀ b, (¬ ∃ j, Fr j b) → s2 b = s' b := fun b hb => if_neg hb
  have hle2 : s'.le s2 := fun b o hb => by
    rw [hout2 b (fun ⟨j, hj⟩ => by rw [(hf1 j b hj).1] at hb; cases hb)]; exact hb
  refine ⟨v, s2, F', fun _ => FS.no, he, Hp.le_trans hle hle2, fun b o hb hb0 => ?_, fun b o hb => ?_, hk, by simpa using hsh, fun j => ?_, fun i => As.holds_mono hle2 (houts i), fun i j b hb => hb.elim, hd2, fun i j b hb => hb.elim, fun i b hb => hb.elim, fun i b hb => ?_⟩
  · by_cases hx : ∃ j, Fr j b
    · obtain ⟨j, hj⟩ := hx; exact (hf1 j b hj).2
    · rw [hout2 b hx] at hb; exact hnew b o hb hb0
  · by_cases hx : ∃ j, Fr j b
    · rw [hin b hx] at hb; exact hb
    · rw [hout2 b hx] at hb; exact hfz b o hb
  · have e1 : (out.map As.frz).getD j .any = (out.getD j .any).frz := by
      rw [List.getD_eq_getElem?_getD, List.getD_eq_getElem?_getD, List.getElem?_map]
      cases out[j]? <;> rfl
    rw [e1, List.length_map]
    exact frz_holds (hout j) hle2 (fun b hb => hin b ⟨j, hb⟩)
  · refine ⟨?_, (hf2 i b hb).2⟩
    rw [hout2 b (fun ⟨j, hj⟩ => hd3 j i b hj hb)]
    exact (hf2 i b hb).1
theorem AC.frz {P : Program} {f : FuncId} {ins out out' outs : List As} (h : AC P f ins out outs) (ho : out.map As.frz = out') : AC P f ins out' outs := ⟨ho ▸ h.1.frz, h.2⟩
theorem indC {α : Type} {k : Kd α} {x : α} (hk : ∀ s s' cs x, k.rd s cs x → k.rd s' cs x) : (As.cel k x).indep := fun s s' w v F h => ⟨hk _ _ _ _ h.1, h.2⟩
theorem indA {α : Type} {k : Kd α} {x : α} (hk : ∀ s s' cs x, k.rd s cs x → k.rd s' cs x) : (As.agg k x).indep := fun s s' w v F h => by
  obtain ⟨⟨cs, e, h1⟩, h2⟩ := h
  exact ⟨⟨cs, e, hk _ _ _ _ h1⟩, h2⟩
section
variable {C : Cx} {env env' : Env} {e e' : KL} {Q : Exit → Act → World → Prop} {o : Oper} {p q r : Operand} {ops : Array Oper} {rest : List Oper} {d t : Nat} {T T' S E : TypeId} {α β γ : Type} {k : Kd α} {A B : As}
/-- A call to which rows are lent. -/
theorem cb1 {f : FuncId} {ins outs : List As} {xs : List Operand} {ms : List Mode} {ts : Array TypeId} (hc : AC C.P f ins [A] []) (hH : Hd C o (.call { callee := .value (.func f), args := xs.toArray, argTypes := ts }) d)
    (ha : Args C env xs ins outs ms) (hz : (outs.all As.isAny, rootsOf ms, A.free) = (true, [], true)) (hi : A.indep) : OpT C o env (upd env d A) := by
  simp only [Prod.mk.injEq] at hz
  obtain ⟨h1, h2, h3⟩ := hz
  have := OpT.crn hc hH ha h1 (by unfold msOK; rw [h2]; rfl) (.inr ⟨ind1 hi, ind_anys h1⟩) (by simp [h3])
  rwa [updRoots_none (outs := outs) h2, updRes_one] at this
/-- Several results. -/
def parts (d : Nat) : Nat → List As → KL
  | _, [] => []
  | j, A :: l => (d + 10000 * (j + 1), A) :: parts d (j + 1) l
theorem keep_parts {d : Nat} (hd : d < 10000) {e : KL} {t : Nat} : ∀ (out : List As) (j : Nat), keep (parts d j out ++ e) t = if t % 10000 = d ∧ j + 1 ≤ t / 10000 ∧ t / 10000 < j + 1 + out.length then out.getD (t / 10000 - 1 - j) .any else keep e t
  | [], j => by rw [if_neg (by simp only [List.length_nil]; omega)]; rfl
  | A :: l, j => by
    have ih := keep_parts hd (e := e) (t := t) l (j + 1)
    show keep ((d + 10000 * (j + 1), A) :: (parts d (j + 1) l ++ e)) t = _
    by_cases h : t = d + 10000 * (j + 1)
    · subst h
      rw [keep_cons_self, if_pos (by simp only [List.length_cons]; omega), show (d + 10000 * (j + 1)) / 10000 - 1 - j = 0 by omega]; rfl
    · rw [keep_cons_ne _ _ h, ih]
      by_cases h1 : t % 10000 = d ∧ j + 1 + 1 ≤ t / 10000 ∧ t / 10000 < j + 1 + 1 + l.length
      · rw [if_pos h1, if_pos (by simp only [List.length_cons]; omega), show t / 10000 - 1 - j = (t / 10000 - 1 - (j + 1)) + 1 by omega]; rfl
      · rw [if_neg h1, if_neg (by simp only [List.length_cons]; omega)]
theorem updRes_many {d : Nat} {e : KL} {out : List As} (hl : 2 ≤ out.length) (hn : nodep d e = true) (hd : d < 10000) : updRes (keep e) d out = keep (parts d 0 out ++ e) := by
  funext t
  rw [keep_parts hd]
  unfold updRes
  obtain ⟨h3, h4⟩ := nodep_spec hn t
  have hone : oneA out = .any := by match out, hl with | A :: B :: l, _ => rfl
  have hpart : ∀ j, partA out j = out.getD j .any := by match out, hl with | A :: B :: l, _ => exact fun j => rfl
  by_cases h1 : t = d
  · subst h1; rw [if_pos rfl, if_neg (by omega), hone, h3 (by simp [ofSlot, Nat.mod_eq_of_lt hd])]
  · rw [if_neg h1]
    by_cases h2 : ofSlot d t = true
    · have h5 : t % 10000 = d := by simpa [ofSlot] using h2
      rw [if_pos h2, hpart]
      by_cases h6 : t / 10000 < 0 + 1 + out.length
      · rw [if_pos ⟨h5, by omega, h6⟩]; rfl
      · rw [if_neg (fun h => h6 h.2.2), List.getD_eq_getElem?_getD, List.getElem?_eq_none (by omega), h3 h2]; rfl
    · rw [if_neg h2, h4, if_neg Bool.false_ne_true, if_neg (fun h => h2 (by simp [ofSlot, h.1]))]
theorem s3 {A3 : As} (h : OpT C o (keep e) (updRes (keep e) d [A, B, A3])) (hn : (o.guard.isNone && nodep d e && Nat.blt d 10000) = true) (k : AWl C ops rest (keep ((d + 10000, A) :: (d + 20000, B) :: (d + 30000, A3) :: e)) Q) : AWl C ops (o :: rest) (keep e) Q := by
  rw [Bool.and_eq_true, Bool.and_eq_true] at hn
  rw [updRes_many (by simp) hn.1.2 (Nat.le_of_ble_eq_true hn.2)] at h
  exact AWl.op (by simpa using hn.1.1) h k
theorem cN {f : FuncId} {ins out outs : List As} {xs : List Operand} {ms : List Mode} {ts : Array TypeId} (hc : AC C.P f ins out []) (hH : Hd C o (.call { callee := .value (.func f), args := xs.toArray, argTypes := ts }) d)
    (ha : Args C env xs ins outs ms) (hz : (outs.all As.isAny, rootsOf ms, out.all As.free) = (true, [], true)) (hi : borsOf ms = [] ∨ ∀ A ∈ out, A.indep) : OpT C o env (updRes env d out) := by
  simp only [Prod.mk.injEq] at hz
  obtain ⟨h1, h2, h3⟩ := hz
  have := OpT.crn hc hH ha h1 (by unfold msOK; rw [h2]; rfl) (hi.imp id fun h => ⟨h, ind_anys h1⟩) h3
  rwa [updRoots_none (outs := outs) h2] at this
theorem d3 {l : List Oper} {K : KL → List DJ → Prop} {A3 : As} (nds : List Nat) (h : ∀ env', (∀ t ∈ nds, env' t = keep e t) → OpT C o env' (updRes env' d [A, B, A3])) (hn : (o.guard.isNone && nodep d e && Nat.blt d 10000) = true)
    (r : DH C ops ((d + 10000, A) :: (d + 20000, B) :: (d + 30000, A3) :: e) l (fun e' I => K e' (⟨[.res d [A, B, A3]], nds⟩ :: I))) : DH C ops e (o :: l) K := by
  rw [Bool.and_eq_true, Bool.and_eq_true] at hn
  exact DH.step (.inr ⟨.inl (by simpa using hn.1.1), h⟩) (by rw [upd_res]; exact updRes_many (by simp) hn.1.2 (Nat.le_of_ble_eq_true hn.2)) r
/-- A row without elements. -/
theorem nilO (k : Kd α) (hz : Nat.blt 0 k.sz = true) (h : (o.op, o.dst, Nat.blt d C.N, C.pn d) = (.assign (.const (.slice none 0 0)), some d, true, none) ∨ (o.op, o.dst, Nat.blt d C.N, C.pn d) = (.move (.const (.slice none 0 0)), some d, true, none)) : OpT C o env (upd env d (.own E k [])) := by
  have h' : (o.op = .assign (.const (.slice none 0 0)) ∨ o.op = .move (.const (.slice none 0 0))) ∧ o.dst = some d ∧ C.ok d := by
    rcases h with h | h <;> simp only [Prod.mk.injEq] at h
    · exact ⟨.inl h.1, h.2.1, okd h.2.2.1 h.2.2.2⟩
    · exact ⟨.inr h.1, h.2.1, okd h.2.2.1 h.2.2.2⟩
  obtain ⟨ho, hd, hdN⟩ := h'
  refine OpT.pure hd hdN fun s F a w hr => ⟨.slice none 0 0, ?_, ?_⟩
  · rcases ho with ho | ho <;> simp only [execOp, ho] <;> rfl
  · refine ⟨⟨[], ⟨by simp, .inl ⟨rfl, rfl⟩⟩, rfl⟩, Nat.le_of_ble_eq_true hz, fun b => ⟨fun h => h.elim, fun h => ?_⟩⟩
    cases h
/-- In a region whose order is open: a call that takes an owned row over. -/
theorem updRoots_one {env : Env} {t : Nat} : ∀ {ms : List Mode} {outs : List As}, rootsOf ms = [t] → outs.all As.isAny = true → ms.length = outs.length → updRoots env ms outs = updK env t .any
  | [], _, h, _, _ => by simp [rootsOf] at h
  | _ :: _, [], _, _, h => by simp at h
  | .root u :: ms, O :: outs, h, h1, h2 => by
    simp only [List.all_cons, Bool.and_eq_true] at h1
    have hr : rootsOf (.root u :: ms) = u :: rootsOf ms := rfl
    rw [hr, List.cons.injEq] at h
    obtain ⟨rfl, h⟩ := h
    show updK (updRoots env ms outs) u O = _
    rw [updRoots_none (outs := outs) h, As.isAny_eq h1.1]
  | .flat :: ms, O :: outs, h, h1, h2 => by
    simp only [List.all_cons, Bool.and_eq_true] at h1
    exact updRoots_one (ms := ms) (outs := outs) h h1.2 (by simpa using h2)
  | .bor u :: ms, O :: outs, h, h1, h2 => by
    simp only [List.all_cons, Bool.and_eq_true] at h1
    exact updRoots_one (ms := ms) (outs := outs) h h1.2 (by simpa using h2)
theorem crd {f : FuncId} {ins outs : List As} {xs : List Operand} {ms : List Mode} {ts : Array TypeId} (hc : AC C.P f ins [A] []) (hH : Hd C o (.call { callee := .value (.func f), args := xs.toArray, argTypes := ts }) d)
    (ha : Args C env xs ins outs ms) (hz : (outs.all As.isAny, rootsOf ms, msOK ms, borsOf ms, A.free, ms.length == outs.length) = (true, [t], true, [], true, true)) : OpT C o env (updRes (updK env t .any) d [A]) := by
  simp only [Prod.mk.injEq] at hz
  obtain ⟨h1, h2, h3, h4, h5, h6⟩ := hz
  have := OpT.crn hc hH ha h1 h3 (.inl h4) (by simp [h5])
  rwa [updRoots_one h2 h1 (by simpa using h6)] at this
theorem dw {K : KL → List DJ → Prop} {l : List Oper} {t d : Nat} {A : As} (nds : List Nat) (h : ∀ env', (∀ t ∈ nds, env' t = keep e t) → OpT C o env' (updRes (updK env' t .any) d [A])) (hn : (o.guard.isNone && nd d ((t, .any) :: e)) = true)
    (r : DH C ops ((d, A) :: (t, .any) :: e) l (fun e' I => K e' (⟨[.mod t .any, .res d [A]], nds⟩ :: I))) : DH C ops e (o :: l) K := by
  rw [Bool.and_eq_true] at hn
  have key : ∀ env : Env, DJ.upd ⟨[.mod t .any, .res d [A]], nds⟩ env = updRes (updK env t .any) d [A] := fun env => rfl
  exact DH.step (.inr ⟨.inl (by simpa using hn.1), fun env' he => by rw [key]; exact h env' he⟩) (by rw [key, updK_keep, updRes_one, upd_nd hn.2]) r
end
end Go.Proofs.YtkgboidjghcegaaGreatDoor.VL
/- Proved here: bytes and texts. General: over every program. -/
set_option linter.unusedVariables false
set_option linter.unusedSimpArgs false
namespace Go.Proofs.YtkgboidjghcegaaGreatDoor.VL
open Go
theorem sub_at {α : Type} {k : Kd α} {n i : Nat} (hi : i < n) (h1 : k.sz = 1) (z : α) : Sub (Kd.arr n k) i k (fun xs => xs.getD i z) (fun xs y => xs.set i y) := by
  have := sub_arr (k := k) hi z
  rwa [h1, Nat.mul_one] at this
section
variable {C : Cx} {env : Env} {o : Oper} {p q r : Operand} {d t : Nat} {T T' S E : TypeId}
theorem OpT.ishr {k' : IntKind} {x : Nat} {y : Int} (hH : Hd C o (.binOp .shr T p q T') d) (hp : Opd C env p (.cel (Kd.int .i64) (x : Int))) (hq : Opd C env q (.cel (Kd.int k') y)) (h0 : 0 ≤ y) : OpT C o env (upd env d (.cel (Kd.int .i64) ((x >>> y.toNat : Nat) : Int))) :=
  OpT.pure hH.2.1 hH.2.2 fun s F a w hr => by
    have hx := inR_i64.1 (hp.geti hr).2
    have hle : x >>> y.toNat ≤ x := by rw [Nat.shiftRight_eq_div_pow]; exact Nat.div_le_self _ _
    have h9 : ∀ n : Nat, n ≤ x → inR .i64 (n : Int) := fun n hn => inR_i64.2 (by omega)
    refine ⟨.int .i64 ((x >>> y.toNat : Nat) : Int), ?_, ⟨rfl, h9 _ hle⟩, fun b hb => hb⟩
    have : (x : Int).fdiv (2 ^ (min y.toNat 64)) = ((x >>> y.toNat : Nat) : Int) := by
      rw [Nat.shiftRight_eq_div_pow, Int.fdiv_eq_ediv_of_nonneg _ (by exact Int.le_of_lt (Int.pow_pos (by omega)))]
      rcases Nat.lt_or_ge y.toNat 64 with h | h
      · rw [Nat.min_eq_left (by omega)]; simp
      · rw [Nat.min_eq_right h]
        have h3 : x < 2 ^ 64 := by
          have : x ≤ 9223372036854775807 := by omega
          exact Nat.lt_of_le_of_lt this (by decide)
        have h2 : x < 2 ^ y.toNat := Nat.lt_of_lt_of_le h3 (Nat.pow_le_pow_right (by omega) h)
        rw [Nat.div_eq_of_lt h2]
        have h4 : (2 : Int) ^ 64 = 18446744073709551616 := by decide
        rw [h4]
        omega
    simp only [execOp, hH.1, (hp.geti hr).1, (hq.geti hr).1, binOp, eqGuard, Op.shift, if_neg (show ¬ y < 0 by omega), IntKind.bits, this]; rfl
theorem OpT.ishl {kk k' : IntKind} {x y r : Int} (hH : Hd C o (.binOp .shl T p q T') d) (hp : Opd C env p (.cel (Kd.int kk) x)) (hq : Opd C env q (.cel (Kd.int k') y)) (h0 : 0 ≤ y) (hr : kk.wrap (x * 2 ^ (min y.toNat kk.bits)) = r) : OpT C o env (upd env d (.cel (Kd.int kk) r)) :=
  OpT.pure hH.2.1 hH.2.2 fun s F a w h => by
    subst hr
    refine ⟨.int kk (kk.wrap (x * 2 ^ (min y.toNat kk.bits))), ?_, ⟨rfl, wrap_in _ _⟩, fun b hb => hb⟩
    simp only [execOp, hH.1, (hp.geti h).1, (hq.geti h).1, binOp, eqGuard, Op.shift, if_neg (show ¬ y < 0 by omega)]; rfl
end
end Go.Proofs.YtkgboidjghcegaaGreatDoor.VL
/- Proved here: a row that is cut and put together within itself. General: over every program. -/
set_option linter.unusedVariables false
set_option linter.unusedSimpArgs false
namespace Go.Proofs.YtkgboidjghcegaaGreatDoor.VL
open Go
section
variable {C : Cx} {env env' : Env} {Q : Exit → Act → World → Prop} {o : Oper} {p q r : Operand} {ops : Array Oper} {l rest : List Oper} {d t : Nat} {T T' S E : TypeId} {α β : Type} {k : Kd α} {A B : As}
end
end Go.Proofs.YtkgboidjghcegaaGreatDoor.VL
/- Proved here: what is owned within what is owned. General: over every program. -/
set_option linter.unusedVariables false
set_option linter.unusedSimpArgs false
namespace Go.Proofs.YtkgboidjghcegaaGreatDoor.VL
open Go
/-- Memory that is owned, wherever its addresses lie. -/
structure GP where
  ho : Hp → World → FS → Prop
  mono : ∀ {s t : Hp} {w : World} {F : FS}, s.le t → ho s w F → ho t w F
  frame : ∀ {s : Hp} {w w' : World} {F : FS}, ho s w F → (∀ b, F b → w'.heap[b]? = w.heap[b]?) → ho s w' F
  lt : ∀ {s : Hp} {w : World} {F : FS}, ho s w F → ∀ b, F b → b < w.heap.size
def GP.pure (p : Prop) : GP where
  ho _ _ F := p ∧ ∀ b, ¬ F b
  mono _ h := h
  frame h _ := h
  lt h b hb := (h.2 b hb).elim
def GP.sep (G H : GP) : GP where
  ho s w F := ∃ F1 F2, G.ho s w F1 ∧ H.ho s w F2 ∧ (∀ b, F1 b → ¬ F2 b) ∧ ∀ b, F b ↔ F1 b ∨ F2 b
  mono hst h := by obtain ⟨F1, F2, h1, h2, h3, h4⟩ := h; exact ⟨F1, F2, G.mono hst h1, H.mono hst h2, h3, h4⟩
  frame h hw := by
    obtain ⟨F1, F2, h1, h2, h3, h4⟩ := h
    exact ⟨F1, F2, G.frame h1 (fun b hb => hw b ((h4 b).2 (.inl hb))), H.frame h2 (fun b hb => hw b ((h4 b).2 (.inr hb))), h3, h4⟩
  lt h b hb := by
    obtain ⟨F1, F2, h1, h2, h3, h4⟩ := h
    exact ((h4 b).1 hb).elim (G.lt h1 b) (H.lt h2 b)
def GP.own {α : Type} (E : TypeId) (k : Kd α) (xs : List α) (v : Value) : GP where
  ho s w F := (As.own E k xs).holds s w g0 v F
  mono hst h := As.holds_mono hst h
  frame h hw := As.holds_frame h hw
  lt h := As.holds_lt h
structure GP.ent (G H : GP) : Prop where
  go : ∀ {s w F}, G.ho s w F → H.ho s w F
theorem GP.ent.tr {G H K : GP} (h : G.ent H) (k : H.ent K) : G.ent K := ⟨fun x => k.go (h.go x)⟩
theorem GP.comm {G H : GP} : (G.sep H).ent (H.sep G) := ⟨fun {s w F} h => by
  obtain ⟨F1, F2, h1, h2, h3, h4⟩ := h
  exact ⟨F2, F1, h2, h1, fun b hb hb' => h3 b hb' hb, fun b => (h4 b).trans or_comm⟩⟩
/-! ### Data whose parts are owned -/
/-- How data lies, and what it owns. -/
structure Inn (ρ α : Type) where
  k : Kd ρ
  ho : ρ → α → GP
def Inn.flat {α : Type} (k : Kd α) : Inn α α := ⟨k, fun x y => GP.pure (x = y)⟩
def Inn.all {ρ α : Type} (d : Inn ρ α) : List ρ → List α → GP
  | [], [] => GP.pure True
  | r :: rs, x :: xs => (d.ho r x).sep (Inn.all d rs xs)
  | _, _ => GP.pure False
section
variable {ρ σ α β : Type} {d : Inn ρ α}
end
/-! ### Rows and structs that own what lies in them -/
/-! ### Two slots change what they hold; memory and values stay -/
section
variable {C : Cx} {env : Env} {Q : Exit → Act → World → Prop} {ops : Array Oper} {l : List Oper} {c : Code} {t g : Nat}
theorem R_two {ι : Type} {A B : ι → As} (hne : t ≠ g) (h : ∀ {s w gg v u F1 F2}, (env t).holds s w gg v F1 → (env g).holds s w gg u F2 → (∀ b, F1 b → ¬ F2 b) → ∃ i F1' F2', (A i).holds s w gg v F1' ∧ (B i).holds s w gg u F2' ∧ (∀ b, F1' b → ¬ F2' b) ∧ ∀ b, F1' b ∨ F2' b → F1 b ∨ F2 b)
    {a : Act} {w : World} (hr : C.R env a w) : ∃ i, C.R (updK (updK env t (A i)) g (B i)) a w := by
  obtain ⟨s, F, hr'⟩ := hr
  obtain ⟨i, F1, F2, h1, h2, h3, h4⟩ := h (hr'.slot t) (hr'.slot g) (fun b hb hb' => hne (hr'.disj t g b hb hb'))
  refine ⟨i, s, fun u => if u = g then F2 else if u = t then F1 else F u, hr'.dfr, hr'.size, fun u => ?_, fun u u' b hb hb' => ?_, fun u b hb => ?_, hr'.fz, hr'.keep, hr'.pin, hr'.ext, hr'.new⟩
  · unfold updK
    by_cases hg : u = g
    · subst hg; simp only [if_true]; exact h2
    · simp only [if_neg hg]
      by_cases ht : u = t
      · subst ht; simp only [if_true]; exact h1
      · simp only [if_neg ht]; exact hr'.slot u
  · have key : ∀ u, (if u = g then F2 else if u = t then F1 else F u) b → (u = g ∧ F2 b) ∨ (u = t ∧ F1 b) ∨ (u ≠ g ∧ u ≠ t ∧ F u b) := by
      intro u hb
      split at hb
      · exact .inl ⟨by assumption, hb⟩
      · split at hb
        · exact .inr (.inl ⟨by assumption, hb⟩)
        · exact .inr (.inr ⟨by assumption, by assumption, hb⟩)
    have out : ∀ u, u ≠ g → u ≠ t → F u b → ¬ (F1 b ∨ F2 b) := by
      intro u hg ht hb h
      rcases h4 b h with h | h
      · exact ht (hr'.disj u t b hb h)
      · exact hg (hr'.disj u g b hb h)
    rcases key u hb with ⟨e, hb⟩ | ⟨e, hb⟩ | ⟨e1, e2, hb⟩ <;> rcases key u' hb' with ⟨e', hb'⟩ | ⟨e', hb'⟩ | ⟨e1', e2', hb'⟩
    · rw [e, e']
    · exact (h3 b hb' hb).elim
    · exact (out u' e1' e2' hb' (.inr hb)).elim
    · exact (h3 b hb hb').elim
    · rw [e, e']
    · exact (out u' e1' e2' hb' (.inl hb)).elim
    · exact (out u e1 e2 hb (.inr hb')).elim
    · exact (out u e1 e2 hb (.inl hb')).elim
    · exact hr'.disj u u' b hb hb'
  · have mine : F1 b ∨ F2 b → s b = none ∧ (C.w0.heap.size ≤ b ∨ C.hd b) := fun h => by
      rcases h4 b h with h | h
      · exact hr'.mine t b h
      · exact hr'.mine g b h
    split at hb
    · exact mine (.inr hb)
    · split at hb
      · exact mine (.inl hb)
      · exact hr'.mine u b hb
/-- A change of view. -/
def Vw (C : Cx) (env : Env) {ι : Type} (env' : ι → Env) : Prop := ∀ a w, C.R env a w → ∃ i, C.R (env' i) a w
theorem AWl.vw {ι : Type} {env' : ι → Env} (h : Vw C env env') (k : ∀ i, AWl C ops l (env' i) Q) : AWl C ops l env Q := fun a w hr => by
  obtain ⟨i, hr'⟩ := h a w hr
  exact k i a w hr'
theorem AX.vw {ι : Type} {env' : ι → Env} {e : Exit} (h : Vw C env env') (k : ∀ i, AX C e (env' i) Q) : AX C e env Q := fun a w hr => by
  obtain ⟨i, hr'⟩ := h a w hr
  exact k i a w hr'
end
end Go.Proofs.YtkgboidjghcegaaGreatDoor.VL
/- Proved here: short rules for what is owned within what is owned. General: over every program. -/
set_option linter.unusedVariables false
set_option linter.unusedSimpArgs false
namespace Go.Proofs.YtkgboidjghcegaaGreatDoor.VL
open Go
/-- A row whose header is known. -/
def OSh.pin {α : Type} (E : TypeId) (k : Kd α) (xs : List α) (u : Value) : OSh where
  hold s w v F := v = u ∧ (As.own E k xs).holds s w g0 v F
  mono hst h := ⟨h.1, As.holds_mono hst h.2⟩
  frame h hw := ⟨h.1, As.holds_frame h.2 hw⟩
  lt h := As.holds_lt h.2
  sur := true
  sure _ h := by
    obtain ⟨_, ⟨cells, how, _⟩, _⟩ := h
    rcases how.2 with ⟨e, _⟩ | ⟨g, cap, cur, e, _⟩ <;> simp [undef] at e
theorem AC.pin {P : Program} {f : FuncId} {α β : Type} {E E' : TypeId} {k : Kd α} {k' : Kd β} {xs : List α} {ys : List β} {ins out outs : List As} (h : AC P f (.own E k xs :: ins) out (.own E' k' ys :: outs)) (u : Value) : AC P f (.deep (OSh.pin E k xs u) :: ins) out (.deep (OSh.pin E' k' ys u) :: outs) := by
  refine ⟨fun w s args F h1 hgl h2 h3 h4 h5 => ?_, h.2⟩
  have h0 : args.getD 0 undef = u ∧ (As.own E k xs).holds s w g0 (args.getD 0 undef) (F 0) := h3 0
  refine (h.1 w s args F h1 hgl (by simpa using h2) (fun i => ?_) h4 h5).mono ?_
  · cases i with
    | zero => exact h0.2
    | succ i => exact h3 (i + 1)
  · rintro e w' ⟨v, s', F', Fr, g1, g2, g3, g4, g5, g6, g7, g8, g9⟩
    refine ⟨v, s', F', Fr, g1, g2, g3, g4, g5, g6, g7, fun i => ?_, g9⟩
    cases i with
    | zero => exact ⟨h0.1, g8 0⟩
    | succ i => exact g8 (i + 1)
section
variable {C : Cx} {env : Env} {e : KL} {Q : Exit → Act → World → Prop} {ops : Array Oper} {l : List Oper} {c : Code} {α ρ : Type} {k : Kd α} {E : TypeId} {xs : List α} {v : Value}
theorem keep_two {t g : Nat} {A B : As} : updK (updK (keep e) t A) g B = keep ((g, B) :: (t, A) :: e) := by rw [updK_keep, updK_keep]
theorem Vw.two {ι : Type} {A B : ι → As} (t g : Nat) (hne : t ≠ g) (h : ∀ {s w gg v u F1 F2}, (keep e t).holds s w gg v F1 → (keep e g).holds s w gg u F2 → (∀ b, F1 b → ¬ F2 b) → ∃ i F1' F2', (A i).holds s w gg v F1' ∧ (B i).holds s w gg u F2' ∧ (∀ b, F1' b → ¬ F2' b) ∧ ∀ b, F1' b ∨ F2' b → F1 b ∨ F2 b) :
    Vw C (keep e) fun i => keep ((g, B i) :: (t, A i) :: e) := fun a w hr => by
  obtain ⟨i, h'⟩ := R_two hne h hr
  exact ⟨i, by show C.R (keep ((g, B i) :: (t, A i) :: e)) a w; rw [← keep_two]; exact h'⟩
variable {d : Inn ρ α} {G H : GP}
end
section
variable {C : Cx} {e : KL} {G H : GP}
end
/-! ### What is owned, lent -/
/-- Where what is owned is seen as shared, it reads as data. -/
structure Inn.Reads {ρ α : Type} (d : Inn ρ α) (k : Kd α) : Prop where
  rd : ∀ {s w F sc cs r x}, d.k.rd s cs r → (d.ho r x).ho s w F → Hp.le s sc → (∀ b, F b → sc b = w.heap[b]?) → k.rd sc cs x
  sz : d.k.sz = k.sz
theorem Inn.Reads.flat {α : Type} (k : Kd α) : (Inn.flat k).Reads k where
  rd h h' hs _ := by obtain ⟨rfl, _⟩ := h'; exact k.mono hs h
  sz := rfl
theorem Inn.Reads.all {ρ α : Type} {d : Inn ρ α} {k : Kd α} (h : d.Reads k) {s w sc} (hs : Hp.le s sc) : ∀ {rs : List ρ} {xs : List α} {cs F}, RdL d.k s cs rs → (d.all rs xs).ho s w F → (∀ b, F b → sc b = w.heap[b]?) → RdL k sc cs xs
  | [], [], cs, F, hr, _, _ => hr
  | r :: rs, x :: xs, cs, F, hr, ho, hl => by
    obtain ⟨c, c', e1, h1, h2⟩ := hr
    obtain ⟨F1, F2, o1, o2, _, o4⟩ := ho
    exact ⟨c, c', e1, h.rd h1 o1 hs (fun b hb => hl b ((o4 b).2 (.inl hb))), Inn.Reads.all h hs h2 o2 (fun b hb => hl b ((o4 b).2 (.inr hb)))⟩
  | [], _ :: _, _, _, _, ho, _ => ho.1.elim
  | _ :: _, [], _, _, _, ho, _ => ho.1.elim
/-! ### Results that are owned become shared -/
def Shr (A A' : As) : Prop := ∀ {s w v F sc}, A.holds s w g0 v F → Hp.le s sc → (∀ b, F b → sc b = w.heap[b]?) → A'.holds sc w g0 v FS.no
theorem Shr.frz (A : As) : Shr A A.frz := fun h hs hF => frz_holds h hs hF
inductive Shrs : List As → List As → Prop
  | nil : Shrs [] []
  | cons {A A' : As} {l l' : List As} (h : Shr A A') (r : Shrs l l') : Shrs (A :: l) (A' :: l')
theorem Shrs.get {l l' : List As} (h : Shrs l l') : l.length = l'.length ∧ ∀ j, Shr (l.getD j .any) (l'.getD j .any) := by
  induction h with
  | nil => exact ⟨rfl, fun j {s w v F sc} _ _ _ => fun b hb => hb⟩
  | cons h r ih =>
    refine ⟨by simp [ih.1], fun j => ?_⟩
    cases j with
    | zero => exact h
    | succ j => exact ih.2 j
/-! ### What doesn't hang on what is shared -/
structure Inn.Ind {ρ α : Type} (d : Inn ρ α) : Prop where
  rd : ∀ s s' cs x, d.k.rd s cs x → d.k.rd s' cs x
  ho : ∀ s s' w F r x, (d.ho r x).ho s w F → (d.ho r x).ho s' w F
theorem Inn.Ind.flat {α : Type} {k : Kd α} (hk : ∀ s s' cs x, k.rd s cs x → k.rd s' cs x) : (Inn.flat k).Ind := ⟨hk, fun _ _ _ _ _ _ h => h⟩
theorem Inn.Ind.all {ρ α : Type} {d : Inn ρ α} (h : d.Ind) {s s' w} : ∀ {rs : List ρ} {xs : List α} {F}, (d.all rs xs).ho s w F → (d.all rs xs).ho s' w F
  | [], [], F, hh => hh
  | r :: rs, x :: xs, F, hh => by
    obtain ⟨F1, F2, h1, h2, h3⟩ := hh
    exact ⟨F1, F2, h.ho _ _ _ _ _ _ h1, Inn.Ind.all h h2, h3⟩
  | [], _ :: _, _, hh => hh.1.elim
  | _ :: _, [], _, hh => hh.1.elim
/-! ### A struct whose cells are known -/
def Det {ρ : Type} (k : Kd ρ) : Prop := ∀ s t cs r r', k.rd s cs r → k.rd t cs r' → r = r'
theorem Det.int (k : IntKind) : Det (Kd.int k) := fun s t cs r r' h h' => by
  have := h.1.symm.trans h'.1; simpa using this
theorem Det.u64 : Det Kd.u64 := fun s t cs r r' h h' => by
  have h1 : cs = [.int .u64 (r.toNat : Int)] := h
  have h2 : cs = [.int .u64 (r'.toNat : Int)] := h'
  have := h1.symm.trans h2
  simp only [List.cons.injEq, Value.int.injEq, and_true, true_and] at this
  exact BitVec.eq_of_toNat_eq (by omega)
section
variable {C : Cx} {e : KL} {ρ α : Type} {d : Inn ρ α} {x : α} {r : ρ}
end
/-! ### What owns nothing yet -/
section
variable {C : Cx} {e : KL} {G : GP}
end
end Go.Proofs.YtkgboidjghcegaaGreatDoor.VL
/- Proved here: values of which a property alone is told. General: over every program. -/
set_option linter.unusedVariables false
set_option linter.unusedSimpArgs false
namespace Go.Proofs.YtkgboidjghcegaaGreatDoor.VL
open Go
/-- There is one that has the property, and this is what the slot holds. -/
def OSh.ex {ι : Type} (A : ι → As) (p : ι → Prop) : OSh where
  hold s w v F := ∃ x, p x ∧ (A x).holds s w g0 v F
  mono hst h := by obtain ⟨x, h1, h2⟩ := h; exact ⟨x, h1, As.holds_mono hst h2⟩
  frame h hw := by obtain ⟨x, h1, h2⟩ := h; exact ⟨x, h1, As.holds_frame h2 hw⟩
  lt h := by obtain ⟨x, _, h2⟩ := h; exact As.holds_lt h2
  sur := false
  sure h := by cases h
section
variable {C : Cx} {e : KL} {ι : Type} {A : ι → As} {p : ι → Prop}
theorem vex (t g : Nat) (h1 : keep e t = .deep (OSh.ex A p)) (h2 : keep e g = .any) (hne : t ≠ g) (hf : ∀ x, (A x).free = true) : Vw C (keep e) fun x : {x // p x} => keep ((g, .any) :: (t, A x.1) :: e) :=
  Vw.two t g hne fun {s w gg v u F1 F2} a1 a2 hd => by
    rw [h1] at a1; rw [h2] at a2
    obtain ⟨x, hx, ha⟩ := a1
    exact ⟨⟨x, hx⟩, F1, F2, As.holds_free ha (hf x), a2, hd, fun b hb => hb⟩
theorem vclo (x : ι) (hx : p x) (t g : Nat) (h1 : keep e t = A x) (h2 : keep e g = .any) (hne : t ≠ g) (hf : (A x).free = true) : Vw C (keep e) fun _ : Unit => keep ((g, .any) :: (t, .deep (OSh.ex A p)) :: e) :=
  Vw.two t g hne fun {s w gg v u F1 F2} a1 a2 hd => by
    rw [h1] at a1; rw [h2] at a2
    exact ⟨(), F1, F2, ⟨x, hx, As.holds_free a1 hf⟩, a2, hd, fun b hb => hb⟩
end
theorem Ke {env : Env} {t : Nat} {ι : Type} {A : ι → As} {p q : ι → Prop} (h : env t = .deep (OSh.ex A p)) (hp : p = q) : env t = .deep (OSh.ex A q) := hp ▸ h
/-! ### Rows of rows stay as they are from here on -/
section
variable {C : Cx} {env : Env} {Q : Exit → Act → World → Prop} {c : Code} {ops : Array Oper} {l : List Oper} {ρ α : Type} {d : Inn ρ α} {k : Kd α} {E : TypeId} {xs : List α} {t : Nat}
end
/-! ### In a region whose order is open: a call that changes what is owned -/
def rootOut : List Mode → List As → As
  | .root _ :: _, O :: _ => O
  | _ :: ms, _ :: outs => rootOut ms outs
  | _, _ => .any
theorem updRoots_O {env : Env} {t : Nat} : ∀ {ms : List Mode} {outs : List As}, rootsOf ms = [t] → ms.length = outs.length → updRoots env ms outs = updK env t (rootOut ms outs)
  | [], _, h, _ => by simp [rootsOf] at h
  | _ :: _, [], _, h => by simp at h
  | .root u :: ms, O :: outs, h, h2 => by
    have hr : rootsOf (.root u :: ms) = u :: rootsOf ms := rfl
    rw [hr, List.cons.injEq] at h
    obtain ⟨rfl, h⟩ := h
    show updK (updRoots env ms outs) u O = _
    rw [updRoots_none (outs := outs) h]; rfl
  | .flat :: ms, O :: outs, h, h2 => updRoots_O (ms := ms) (outs := outs) h (by simpa using h2)
  | .bor u :: ms, O :: outs, h, h2 => updRoots_O (ms := ms) (outs := outs) h (by simpa using h2)
section
variable {C : Cx} {env : Env} {e : KL} {o : Oper} {d t : Nat} {A O : As} {ops : Array Oper}
theorem crdo {f : FuncId} {ins outs : List As} {xs : List Operand} {ms : List Mode} {ts : Array TypeId} (hc : AC C.P f ins [A] outs) (hH : Hd C o (.call { callee := .value (.func f), args := xs.toArray, argTypes := ts }) d)
    (ha : Args C env xs ins outs ms) (ho : rootOut ms outs = O) (hz : (rootsOf ms, msOK ms, borsOf ms, A.free, ms.length == outs.length) = ([t], true, [], true, true)) : OpT C o env (updRes (updK env t O) d [A]) := by
  simp only [Prod.mk.injEq] at hz
  obtain ⟨h2, h3, h4, h5, h6⟩ := hz
  have := OpT.cr hc hH ha h3 (.inl h4) (by simp [h5])
  rwa [updRoots_O h2 (by simpa using h6), ho] at this
theorem dwo {K : KL → List DJ → Prop} {l : List Oper} (nds : List Nat) (h : ∀ env', (∀ t ∈ nds, env' t = keep e t) → OpT C o env' (updRes (updK env' t O) d [A])) (hn : (o.guard.isNone && nd d ((t, O) :: e)) = true)
    (r : DH C ops ((d, A) :: (t, O) :: e) l (fun e' I => K e' (⟨[.mod t O, .res d [A]], nds⟩ :: I))) : DH C ops e (o :: l) K := by
  rw [Bool.and_eq_true] at hn
  have key : ∀ env : Env, DJ.upd ⟨[.mod t O, .res d [A]], nds⟩ env = updRes (updK env t O) d [A] := fun env => rfl
  exact DH.step (.inr ⟨.inl (by simpa using hn.1), fun env' he => by rw [key]; exact h env' he⟩) (by rw [key, updK_keep, updRes_one, upd_nd hn.2]) r
end
end Go.Proofs.YtkgboidjghcegaaGreatDoor.VL
/- Proved here: contracts of the library's own functions, out of the kit's shelf, in the words of VA..VN. General: over every program. -/
set_option linter.unusedVariables false
set_option linter.unusedSimpArgs false
namespace Go.Proofs.YtkgboidjghcegaaGreatDoor.VL
open Go Go.Sort Go.Shelf
theorem rdl_ints {s : Hp} : ∀ {xs : List Int} {cs : List Value}, RdL (Kd.int .i64) s cs xs → cs = xs.map (Value.int .i64) ∧ ∀ x ∈ xs, inR .i64 x
  | [], cs, h => ⟨h, fun x hx => by cases hx⟩
  | x :: xs, cs, h => by
    obtain ⟨c, d, rfl, h1, h2⟩ := h
    obtain ⟨e, h3⟩ := rdl_ints h2
    have h4 : c = [Value.int .i64 x] := h1.1
    refine ⟨by rw [h4, e]; rfl, fun y hy => ?_⟩
    rcases List.mem_cons.1 hy with rfl | hy
    · exact h1.2
    · exact h3 y hy
theorem rdl_of_ints {s : Hp} : ∀ {xs : List Int}, (∀ x ∈ xs, inR .i64 x) → RdL (Kd.int .i64) s (xs.map (Value.int .i64)) xs
  | [], _ => rfl
  | x :: xs, h => ⟨[Value.int .i64 x], xs.map (Value.int .i64), rfl, ⟨rfl, h x (List.mem_cons_self ..)⟩, rdl_of_ints fun y hy => h y (List.mem_cons_of_mem _ hy)⟩
abbrev srt (xs : List Int) : List Int := xs.mergeSort fun x y => decide (x ≤ y)
/-- slices.Sort over rows of int64 numbers, or of the like. -/
theorem AC.sortI {P : Program} {ρ : Ren} {f : FuncId} {fn : Func} (L : SlLaysM.n5 P ρ) (hf : ρ.f 5 = f) (E : TypeId) (xs : List Int) (hl : xs.length ≤ 4611686018427387903)
    (h1 : P.funcs[f]? = some fn) (h2 : (fn.body.isNone, fn.name == "runtime.NumGoroutine") = (false, false)) : AC P f [.own E (Kd.int .i64) xs] [] [.own E (Kd.int .i64) (srt xs)] := by
  subst hf
  simp only [Prod.mk.injEq] at h2
  refine ⟨?_, fn, h1, h2.1, h2.2⟩
  intro w s args F hfz _ hsz hh hdj hsn
  obtain ⟨v, rfl⟩ : ∃ v, args = #[v] := by
    have : args.size = 1 := hsz
    refine ⟨args[0], ?_⟩
    apply Array.ext
    · simp [this]
    · intro i h1 h2
      have h3 : i = 0 := by simp at h2; omega
      subst h3
      rfl
  have h0 := hh 0
  simp only [List.getD_cons_zero, As.holds] at h0
  obtain ⟨⟨cells, how, hrd⟩, hz0, hF⟩ := h0
  have hv : (#[v] : Array Value).getD 0 undef = v := rfl
  rw [hv] at how hF
  obtain ⟨hc, hin⟩ := rdl_ints hrd
  have hlen : (srt xs).length = xs.length := List.length_mergeSort xs
  have hsin : ∀ x ∈ srt xs, inR .i64 x := fun x hx => hin x ((List.mergeSort_perm xs _).mem_iff.1 hx)
  have hany : ∀ i, ([] : List As).getD i .any = .any := fun i => by simp
  have hF1 : ∀ i b, F i b → F 0 b := fun i b hb => by
    cases i with
    | zero => exact hb
    | succ i =>
      have h9 := hh (i + 1)
      simp only [List.getD_cons_succ, List.getD_nil, As.holds] at h9
      exact (h9 b hb).elim
  rcases how.2 with ⟨hvn, hn⟩ | ⟨g, cap, cur, hvg, _, hg, hnc, hcm, hcs, htake⟩
  · obtain rfl : xs = [] := List.eq_nil_of_length_eq_zero hn
    subst hvn
    refine (AnyM.slices_Sort_int_none L none 0 w).mono ?_
    rintro e w' ⟨rfl, rfl⟩
    refine ⟨.tuple #[], s, F, fun _ => FS.no, rfl, Hp.le_refl s, fun b o h3 h4 => (by rw [h3] at h4; cases h4), hfz, Keep.refl _ _, .inr ⟨#[], rfl, rfl⟩, fun j => ?_, fun i => ?_, fun i j b hb => hb.elim, hdj, fun i j b hb => hb.elim, fun i b hb => hb.elim, fun i b hb => ⟨hsn i b hb, .inr ⟨i, hb⟩⟩⟩
    · rw [hany]; exact fun b hb => hb
    · have h9 := hh i
      cases i with
      | zero => simpa [srt] using h9
      | succ i => simpa using h9
  · subst hvg
    have hgb : g < w.heap.size := (Array.getElem?_eq_some_iff.1 hg).1
    have ht1 : cur.toList.take xs.length = xs.map (Value.int .i64) := by
      rw [← hc, ← htake]
      show _ = List.take (xs.length * 1) _
      rw [Nat.mul_one]
    have hH := holds_of_blockI hg ht1
    have hFg : F 0 g := (hF g).2 rfl
    have hFo : ∀ b, F 0 b → b = g := fun b hb => by
      have h9 := (hF b).1 hb
      simpa [Value.ownBlock] using h9.symm
    refine (AnyM.slices_Sort_int L g 0 cap xs w hH hgb (by omega)).mono ?_
    rintro e w' ⟨rfl, n, os, rfl⟩
    have hgr : w.grownBy (Sort.grow (putRow (Value.int .i64) (Sort.ahead w n) g 0 (srt xs).toArray) os) (some g) := grownBy_sortedI _
    have hown := ownsRow_sortedI (n := n) (os := os) (base := 0) hlen (Nat.zero_le g) hg hnc hcm (by rw [hcs]; rfl)
    have hsg : s g = none := hsn 0 g hFg
    refine ⟨.tuple #[], s, F, fun _ => FS.no, rfl, Hp.le_refl s, fun b o h3 h4 => (by rw [h3] at h4; cases h4), fun b o hb => ?_, ⟨hgr.os, hgr.tape, hgr.output, hgr.size, fun b hb hnb => ?_, fun _ => Nat.le_add_right _ _⟩, .inr ⟨#[], rfl, rfl⟩, fun j => ?_, fun i => ?_,
      fun i j b hb => hb.elim, hdj, fun i j b hb => hb.elim, fun i b hb => hb.elim, fun i b hb => ⟨hsn i b hb, .inr ⟨i, hb⟩⟩⟩
    · rw [hgr.block b (Fz.lt hfz hb) (fun e => by injection e with e; subst e; rw [hsg] at hb; cases hb)]
      exact hfz b o hb
    · exact hgr.block b hb (fun e => by injection e with e; subst e; exact hnb ⟨0, hFg⟩)
    · rw [hany]; exact fun b hb => hb
    · cases i with
      | zero =>
        simp only [List.getD_cons_zero, As.holds]
        refine ⟨⟨_, ?_, rdl_of_ints hsin⟩, hz0, hF⟩
        rw [hlen]
        exact hown
      | succ i =>
        have h9 := hh (i + 1)
        simp only [List.getD_cons_succ, List.getD_nil, As.holds] at h9 ⊢
        exact h9
end Go.Proofs.YtkgboidjghcegaaGreatDoor.VL
/- Proved here: what a law is handed reads as data, and a law's row follows from its contract. With the words of VA..VN. General: over every program. -/
set_option linter.unusedVariables false
set_option linter.unusedSimpArgs false
namespace Go.Proofs.YtkgboidjghcegaaGreatDoor.VL
open Go Go.ChangeShapes Go.RowKit

/-- The memory of a world. -/
def hpOf (w : World) : Hp := fun b => w.heap[b]?
theorem fz_hpOf (w : World) : Fz (hpOf w) w := fun _ _ h => h
theorem look_hpOf {w : World} {a : Addr} {v : Value} (h : w.cell? a = some v) : (hpOf w).look a = some v := by
  unfold World.cell? at h
  unfold Hp.look hpOf
  exact h

abbrev Light {H : Type} (P : Program) (T : TypeId) (d : DataW H) : Prop := (d.weights P T).all (· ≤ reachBytes) = true
/-- What reads as the type reads as the kind; and it is no larger than told. -/
def KT {α : Type} (P : Program) (T : TypeId) (k : Kd α) (sm : α → Prop) : Prop :=
  P.cellsOf T = k.sz ∧ ∀ {H : Type} {enc : TypeId × Value → H} {w : World} {sp : Nat → Bool} {fuel : Nat} {cs : List Value} {x : DataW H × List MemPlace},
    DataW.trod enc P w 0 sp true fuel T cs = some x → Light P T x.1 → ∃ z, k.rd (hpOf w) cs z ∧ sm z

section
variable {P : Program} {T E : TypeId} {α β : Type}
theorem KT.int {kk : IntKind} (h : P.underlying T = some (.int kk)) (hz : P.cellsOf T = 1) : KT P T (Kd.int kk) (fun _ => True) := by
  refine ⟨hz, fun {H enc w sp fuel cs x} ht hl => ?_⟩
  obtain ⟨n, rfl, rfl, hw⟩ := DataW.trod_int h ht
  refine ⟨n, ⟨rfl, ?_⟩, trivial⟩
  simpa [Lit.wf, inR] using hw
theorem KT.bool (h : P.underlying T = some .bool) (hz : P.cellsOf T = 1) : KT P T Kd.bool (fun _ => True) := by
  refine ⟨hz, fun {H enc w sp fuel cs x} ht hl => ?_⟩
  obtain ⟨b, rfl, rfl⟩ := DataW.trod_bool h ht
  exact ⟨b, rfl, trivial⟩
theorem mapM_cells {w : World} {a : Addr} {n : Nat} {cs : List Value} (h : w.cells? 0 a n = some cs) : cs.length = n ∧ ∀ j u, cs[j]? = some u → (hpOf w).look (a.add j) = some u := by
  unfold World.cells? at h
  rw [if_pos (Nat.zero_le _)] at h
  have hl := mapM_some_length h
  refine ⟨by simpa using hl, fun j u hu => look_hpOf ?_⟩
  have hj : j < n := by
    have := (List.getElem?_eq_some_iff.1 hu).1
    rw [hl] at this; simpa using this
  have := mapM_some_get h j j (by simp [hj])
  rw [this]; exact hu

theorem weightsAll_mem {H : Type} {P : Program} {e : TypeId} : ∀ {ds : List (DataW H)}, (DataW.weightsAll P e ds).all (· ≤ reachBytes) = true → ∀ d ∈ ds, Light P e d
  | [], _, d, hd => by cases hd
  | d' :: r, h, d, hd => by
    rw [DataW.weightsAll, List.all_append, Bool.and_eq_true] at h
    rcases List.mem_cons.1 hd with rfl | hd
    · exact h.1
    · exact weightsAll_mem h.2 d hd

theorem KT.slice {k : Kd α} {sm : α → Prop} {B : Nat} (h : P.underlying T = some (.slice E)) (hz : P.cellsOf T = 1) (he : KT P E k sm) (hB : P.bytesOf E = B) : KT P T (Kd.slice k) (fun xs => (∀ z ∈ xs, sm z) ∧ xs.length * B ≤ 140737488351232) := by
  refine ⟨hz, fun {H enc w sp fuel cs x} ht hl => ?_⟩
  rcases DataW.trod_slice h ht with ⟨rfl, rfl⟩ | ⟨a, len, cap, elems, rest, n, rfl, rfl, rfl, h1, h2, h3, h4, h5, h6, h7⟩
  · exact ⟨[], ⟨none, 0, rfl, Nat.le_refl _, Nat.zero_le _, fun h => absurd h (Nat.lt_irrefl 0)⟩, (fun z hz => by cases hz), by rw [List.length_nil, Nat.zero_mul]; exact Nat.zero_le _⟩
  · simp only [Light, DataW.weights, h, List.all_cons, List.all_append, Bool.and_eq_true, decide_eq_true_eq] at hl
    obtain ⟨hl1, hl2, hl3⟩ := hl
    have hel := weightsAll_mem hl2
    -- the elements, one by one
    have key : ∀ m, m ≤ len → ∃ xs cells, xs.length = m ∧ RdL k (hpOf w) cells xs ∧ (∀ z ∈ xs, sm z) ∧ ∀ j u, cells[j]? = some u → (hpOf w).look (a.add j) = some u := by
      intro m
      induction m with
      | zero => intro _; exact ⟨[], [], rfl, rfl, (fun z hz => by cases hz), fun j u hu => by cases hu⟩
      | succ m ih =>
        intro hm
        obtain ⟨xs, cells, e1, e2, e3, e4⟩ := ih (by omega)
        have hm5 := h5 m (by omega)
        have hlt : m < elems.length := by omega
        rw [List.getElem?_eq_getElem hlt] at hm5
        obtain ⟨c, hc1, hc2⟩ := Option.bind_eq_some_iff.1 hm5
        obtain ⟨hc3, hc4⟩ := mapM_cells hc1
        obtain ⟨z, hz1, hz2⟩ := he.2 hc2 (hel _ (List.mem_map_of_mem (List.getElem_mem hlt)))
        refine ⟨xs ++ [z], cells ++ c, by simp [e1], e2.app (RdL.single hz1), ?_, ?_⟩
        · intro y hy
          rcases List.mem_append.1 hy with hy | hy
          · exact e3 y hy
          · rw [List.mem_singleton] at hy; subst hy; exact hz2
        · intro j u hu
          have hlen := e2.len
          rw [e1] at hlen
          rw [List.getElem?_append] at hu
          split at hu
          · exact e4 j u hu
          · have := hc4 (j - cells.length) u hu
            rw [add_add, he.1, hlen] at this
            rw [← this]; congr 2; omega
    obtain ⟨xs, cells, e1, e2, e3, e4⟩ := key len (Nat.le_refl _)
    refine ⟨xs, ⟨some a, cap, by rw [e1], by omega, by simp only [maxLen] at h3; omega, fun h0 => ⟨a, cells, rfl, e2, e4⟩⟩, e3, ?_⟩
    rw [hB] at hl1
    simp only [reachBytes, List.length_map] at hl1
    have : xs.length * B ≤ (elems.length + rest.length) * B := Nat.mul_le_mul_right _ (by omega)
    omega

/-! ### A law's arguments -/
theorem okWide_one {w : World} {r : Reach} {base : Nat} {v : Value} (hT : aggT P T = some false) (h : Value.okWide P w r base T v) : v.cells.toList = [v] := by
  unfold aggT at hT
  unfold Value.okWide at h
  split at hT
  · cases hT
  · cases hT
  · rename_i u h1 h2 hu
    rw [hu] at h
    have h' : Cell.okWide P w r base T v := by
      cases u <;> first | exact h | exact (h1 _ rfl).elim | exact (h2 _ _ rfl).elim
    cases v with
    | agg cs => exfalso; cases u <;> simp_all [Cell.okWide, Cell.ok]
    | _ => rfl
  · cases hT
theorem KT.arg {H : Type} {enc : TypeId × Value → H} {w : World} {r : Reach} {base : Nat} {sp : Nat → Bool} {v : Value} {d : DataW H} {ps : List MemPlace} {k : Kd α} {sm : α → Prop} (h : KT P T k sm) (hT : aggT P T = some false)
    (hok : Value.okWide P w r base T v) (ht : DataW.Trod enc P w 0 sp true T v d ps) (hl : Light P T d) : ∃ x, (As.cel k x).holds (hpOf w) w g0 v FS.no ∧ sm x := by
  obtain ⟨fuel, ht⟩ := ht
  rw [okWide_one hT hok] at ht
  obtain ⟨x, h1, h2⟩ := h.2 ht hl
  exact ⟨x, ⟨h1, fun b hb => hb⟩, h2⟩
theorem trodAll_frame {H : Type} {enc : TypeId × Value → H} (hl : laidOutB P = true) {W W' : World} (hb : Below W.heap.size W W') : ∀ {ts : List TypeId} {vs : List Value} {ds : List (DataW H)} {ps : List MemPlace},
    (ts.all fun t => P.readableRec t && decide (t < P.types.size)) = true → DataW.TrodAll enc P W 0 (fun _ => true) true ts vs ds ps → (∀ x ∈ ps, x.block < W.heap.size) →
    DataW.TrodAll enc P W' 0 (fun b => decide (b < W.heap.size)) true ts vs ds ps
  | [], vs, ds, ps, hr, h, hlt => by
    obtain ⟨rfl, rfl, rfl⟩ := trodAll_nil h
    rfl
  | t :: ts, vs, ds, ps, hr, h, hlt => by
    obtain ⟨v, vs, d, ds, p, q, rfl, rfl, rfl, h1, h2⟩ := trodAll_cons h
    simp only [List.all_cons, Bool.and_eq_true, decide_eq_true_eq] at hr
    exact ⟨p, q, Below.trod hl hr.1.1 hr.1.2 h1 hb (fun x hx => hlt x (List.mem_append_left _ hx)), trodAll_frame hl hb hr.2 h2 (fun x hx => hlt x (List.mem_append_right _ hx)), rfl⟩
theorem Keep.below {w w' : World} (h : Keep w (fun b => ∃ i : Nat, FS.no b) w') : Below w.heap.size w w' :=
  ⟨h.os, h.tape, h.output, h.size, fun k hk => h.block k hk (fun ⟨_, e⟩ => e)⟩
/-- A law's row follows from its contract. -/
theorem law_calls {H : Type} {enc : TypeId × Value → H} {f : FuncId} {fn : Func} {s : ChangeSpec} {W : World} {args : Array Value} {ds gs : List (DataW H)} {before : List MemPlace} {ins : List As} {tb : TypeId}
    (hlay : laidOutB P = true) (hr : (fn.params.toList.all fun t => P.readableRec t && decide (t < P.types.size)) = true) (hv : s.vars = []) (hres : fn.resultTypes = #[tb]) (hb : P.underlying tb = some .bool)
    (hfn : (s.fn H ds).results = [.lit (.bool true)] ∧ (s.fn H ds).args = ds ∧ (s.fn H ds).vars = [])
    (hW : DataW.Whole enc P fn.params.toList s.vars false W args.toList ds gs before) (hc : ACall P f ins [.cel Kd.bool true] []) (hG : Glb P (hpOf W))
    (hsz : args.size = ins.length) (hh : ∀ i, (ins.getD i .any).holds (hpOf W) W g0 (args.getD i undef) FS.no) :
    Calls P f args W fun e W' => ∃ v, e = .returned v ∧ s.post enc P fn false true false false W args v W' := by
  refine (hc W (hpOf W) args (fun _ => FS.no) (fz_hpOf W) hG hsz hh (fun i j b hb => hb.elim) (fun i b hb => hb.elim)).mono fun e W' ⟨v, s', F', Fr, he, _, _, _, hk, _, hr', _⟩ => ?_
  have hbel : Below W.heap.size W W' := hk.below
  have h0 := hr' 0
  simp only [List.getD_cons_zero, As.holds, resV, List.length_cons, List.length_nil, Nat.zero_add, if_true] at h0
  have hvb : v = .bool true := by
    have := h0.1
    simpa [Kd.bool] using this
  have hlt := hW.lt
  have hW0 := hW
  obtain ⟨p, q, hA, hV, rfl, hfz, hnd⟩ := hW
  rw [hv] at hV
  obtain ⟨rfl, rfl⟩ := trodVars_none hV
  refine ⟨v, he, ds, [], _, [], p, [], hW0, ?_, ?_, ?_, hbel.frame _, fun h => by cases h⟩
  · rw [List.append_nil, hfn.1, hres, hvb]
    exact trodAll_mk1 (shut_bool hb _)
  · rw [List.append_nil, hfn.2.1]
    exact trodAll_frame hlay hbel hr hA (fun x hx => hlt x (List.mem_append_left _ hx))
  · rw [List.append_nil, hfn.2.2, hv]
    rfl
end
/-- A row's closed facts, in parts: the kernel weighs each by itself. -/
theorem joinedFacts_of {P : Program} {f : FuncId} {fn : Func} {s : ChangeSpec} {c : OpenClaim}
    (h1 : (c.wf (OpenSpec.ofChange s) && laidOutB P && mapsRowed P && fn.params.all (P.readableRec ·) && namedTie P c.named s.vars && (c.stops == []) && (P.stops == []) && (c.knobs == []) && (P.stopKnobs == [])) = true)
    (h2 : (c.inPlace == P.inPlace f) = true) (h3 : (c.unfollowed == P.unfollowed f) = true) (h4 : (c.recurses == P.recurses f) = true) (h5 : (c.named == P.varsNamed f) = true)
    (h6 : ((c.maps == (fn.params.toList ++ s.plain.varTypes P).any (P.mapsRec ·)) && (c.ifaces == (fn.params.toList ++ s.plain.varTypes P).any (P.ifacesRec ·)) && (c.mapsOut == P.mapsAmong fn.resultTypes.toList) &&
      (c.loops == (fn.params.toList ++ s.plain.varTypes P).any (P.loopsFrom ·)) && (c.wideKeys == (fn.params.toList ++ s.plain.varTypes P ++ fn.resultTypes.toList).any (P.wideKeysFrom ·)) &&
      s.vars.all (P.varReadable ·) && fn.resultTypes.all (fun t => P.readableRec t && decide (t < P.types.size)) && (c.ifacesOut == fn.resultTypes.toList.any (P.ifacesRec ·)) && (c.loopsOut == fn.resultTypes.toList.any (P.loopsFrom ·)) && (c.plainKeys == P.plainKeys) && c.shortTexts.isNone && P.stopsHeard) = true)
    (h7 : P.mayEnter = true) (h8 : (c.lifted == P.liftsFinal) = true) (h9 : (P.make == some c.make) = true)
    (h10 : ((c.kinds == (if c.domain.isEmpty then [] else fn.params.toList.map fun t => match P.underlying t with | some (.int k) => some k | _ => none)) && (c.pinned == c.pinnedBy) &&
      (c.veiled == (fn.params.toList ++ s.plain.varTypes P ++ fn.resultTypes.toList).any (P.veiledRec ·)) && c.veiledFits P fn.params.toList (fn.params.toList ++ s.plain.varTypes P ++ fn.resultTypes.toList)) = true) :
    joinedFacts P f fn s c = true := by
  simp only [Bool.and_eq_true] at h1 h6 h10
  simp only [joinedFacts, Bool.and_eq_true]
  obtain ⟨⟨⟨⟨⟨⟨⟨⟨a1, a2⟩, a3⟩, a4⟩, a5⟩, a6⟩, a7⟩, a8⟩, a9⟩ := h1
  obtain ⟨⟨⟨⟨⟨⟨⟨⟨⟨⟨⟨b1, b2⟩, b3⟩, b4⟩, b5⟩, b6⟩, b7⟩, b8⟩, b9⟩, b10⟩, b11⟩, b12⟩ := h6
  obtain ⟨⟨⟨c1, c2⟩, c3⟩, c4⟩ := h10
  exact ⟨⟨⟨⟨⟨⟨⟨⟨⟨⟨⟨⟨⟨⟨⟨⟨⟨⟨⟨⟨⟨⟨⟨⟨⟨⟨⟨⟨⟨⟨⟨a1, a2⟩, a3⟩, a4⟩, a5⟩, a6⟩, a7⟩, a8⟩, a9⟩, h2⟩, h3⟩, h4⟩, h5⟩, b1⟩, b2⟩, b3⟩, b4⟩, b5⟩, b6⟩, b7⟩, b8⟩, b9⟩, b10⟩, b11⟩, b12⟩, h7⟩, h8⟩, h9⟩, c1⟩, c2⟩, c3⟩, c4⟩
end Go.Proofs.YtkgboidjghcegaaGreatDoor.VL
