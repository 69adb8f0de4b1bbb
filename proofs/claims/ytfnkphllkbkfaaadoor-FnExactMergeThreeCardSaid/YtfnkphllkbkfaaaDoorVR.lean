/- Proved here: rules for function values that have caught variables. With the words of VA..VQ. General: over every program. -/
import Derived.Test.YtfnkphllkbkfaaaDoorVQ
set_option linter.unusedVariables false
set_option linter.unusedSimpArgs false
namespace Go.Proofs.YtfnkphllkbkfaaaDoor.VL
open Go
section
variable {C : Cx} {env : Env} {o : Oper} {d : Nat} {A B : As} {f : FuncId} {p q : Operand} {α β : Type} {k : Kd α} {k' : Kd β}
/-- What it has caught is read alone. -/
theorem OpT.mkF1 {x : α} (hH : Hd C o (.makeFunc (.func f) #[] #[p]) d) (hp : Opd C env p (.cel k x)) : OpT C o env (upd env d (.clo f k x)) :=
  OpT.pure hH.2.1 hH.2.2 fun s F a w hr => ⟨.func (.func f) #[] #[a.eval p], by simp [execOp, hH.1, Instr.makeFunc], ⟨#[a.eval p], rfl, hp.gets1 hr⟩, fun b hb => hb⟩
/-- The rule for a call of a function value. -/
theorem OpT.callF {fn : Func} {t : Nat} {ins out outs : List As} {xs : List Operand} {ms : List Mode} {ts : Array TypeId} (hH : Hd C o (.call { callee := .value (.tmp t), args := xs.toArray, argTypes := ts }) d)
    (hf : C.P.funcs[f]? = some fn) (hb : fn.body.isNone = false) (hn : (fn.name == "runtime.NumGoroutine") = false) (hc : ACall C.P f ins out outs)
    (hv : ∀ a w, C.R env a w → ∃ us : List Operand, a.eval (.tmp t) = .func (.func f) #[] (us.map a.eval).toArray ∧ ArgsA C env a w (xs ++ us) ins outs ms)
    (hm : msOK ms = true) (hi : borsOf ms = [] ∨ (∀ A ∈ out, A.indep) ∧ ∀ A ∈ outs, A.indep) (hof : out.all As.free = true) :
    OpT C o env (updRes (updRoots env ms outs) d out) := by
  intro Q K a w hr hK
  obtain ⟨us, e, ha⟩ := hv a w hr
  have hrun : (execOp a.eval o).run C.P w = .ok (.enter f ((xs ++ us).map a.eval).toArray) w := by
    have h1 := run_callFunc hf hb hn ((xs ++ us).map a.eval).toArray w
    have h2 : (xs.map a.eval).toArray ++ (us.map a.eval).toArray = ((xs ++ us).map a.eval).toArray := by simp
    simp only [execOp, hH.1, resolve, Deferred.ofValue, e, invoke]
    simp only [List.map_toArray, Sem.run_bind, Sem.run_pure, Result.andThen_ok, Array.empty_append]
    rw [h2]
    exact h1
  unfold Oper.wp
  rw [hrun, Oper.upon_enter, hH.2.1]
  refine Calls.mono (R_call hc ha hm hi hof hH.2.2 hr) ?_
  rintro e' w' ⟨v, rfl, hR⟩
  exact hK _ _ hR
theorem Abx {α : Type} {E : TypeId} {k : Kd α} {y : α} {xs : List Operand} {ins outs : List As} {ms : List Mode} {x : Operand} {t : Nat} (h : Root C env x t) (h0 : env t = .box E k y) (r : Args C env xs ins outs ms) : Args C env (x :: xs) (.cel (Kd.ptr k) y :: ins) (.any :: outs) (.bor t :: ms) :=
  Args.cons ⟨h, by rw [h0]; exact Bor.box E k y, rfl⟩ r
theorem ArgsA.one {a : Act} {w : World} {x : α} {u : Value} (h : ∀ s F, Rel C.N C.w0 C.hd C.pn C.s0 env s F a w → k.rd s [u] x) : ArgsA C env a w [.const u] [.cel k x] [.any] [.flat] :=
  .cons ⟨fun s F hr => ⟨h s F hr, fun b hb => hb⟩, rfl, rfl, rfl⟩ .nil
theorem anys_app {outs : List As} (h : ∀ i, outs.getD i .any = .any) : ∀ i, (outs ++ [As.any]).getD i .any = .any := fun i => by
  rw [List.getD_eq_getElem?_getD, List.getElem?_append]
  split
  · rw [← List.getD_eq_getElem?_getD]; exact h i
  · cases hj : i - outs.length with
    | zero => rfl
    | succ j => rfl
theorem allFlat_app : ∀ {ms : List Mode}, allFlat ms = true → allFlat (ms ++ [.flat]) = true
  | [], _ => rfl
  | .flat :: ms, h => allFlat_app (ms := ms) h
  | .root _ :: _, h => by cases h
  | .bor _ :: _, h => by cases h
/-- A call of a function value that reads what it has caught. -/
theorem OpT.v1c {x : α} {t : Nat} {ins outs : List As} {xs : List Operand} {ms : List Mode} {ts : Array TypeId} (hv : Opd C env (.tmp t) (.clo f k x)) (hz : k.sz = 1) (hc : AC C.P f (ins ++ [.cel k x]) [A] []) (hH : Hd C o (.call { callee := .value (.tmp t), args := xs.toArray, argTypes := ts }) d)
    (ha : Args C env xs ins outs ms) (hm : allFlat ms = true) (hf : A.free = true) : OpT C o env (upd env d A) := by
  obtain ⟨hc, fn, h1, h2, h3⟩ := hc
  obtain ⟨h4, h5⟩ := allFlat_roots (allFlat_app hm)
  have hc' : ACall C.P f (ins ++ [.cel k x]) [A] (outs ++ [.any]) := hc.anys (anys_app (ha.anys hm))
  have := OpT.callF (ms := ms ++ [.flat]) hH h1 h2 h3 hc' (fun a w hr => by
    obtain ⟨s, F, hr'⟩ := hr
    obtain ⟨⟨cs, e, h6⟩, _⟩ := hv s F a w hr'
    have hl := k.len h6
    rw [hz] at hl
    obtain ⟨u, hu⟩ : ∃ u, cs.toList = [u] := List.length_eq_one_iff.1 hl
    refine ⟨[.const u], ?_, ha.at.app (ArgsA.one fun s' F' hr'' => ?_)⟩
    · rw [e]
      congr 1
      have : cs = #[u] := by rw [← Array.toList_inj]; exact hu
      rw [this]; rfl
    · obtain ⟨⟨cs', e', h7⟩, _⟩ := hv s' F' a w hr''
      rw [e] at e'
      injection e' with _ _ e'
      rw [← e', hu] at h7
      exact h7) (by unfold msOK; rw [h4, h5]; rfl) (.inl h5) (by simp [hf])
  rwa [updRoots_none (outs := outs ++ [.any]) h4, updRes_one] at this
/-- What a function value hands on of what it has caught. -/
def CloArgs {α : Type} (k : Kd α) (x : α) (cs : List As) : Prop := (k.sz = 0 ∧ cs = []) ∨ (k.sz = 1 ∧ cs = [.cel k x])
theorem CloArgs.ptr {α : Type} (k : Kd α) (x : α) : CloArgs (Kd.ptr k) x [.cel (Kd.ptr k) x] := .inr ⟨rfl, rfl⟩
/-- A call of a function value that is a parameter. -/
theorem OpT.vg {x : α} {cs : List As} {t : Nat} {ins outs : List As} {xs : List Operand} {ms : List Mode} {ts : Array TypeId} (hv : Opd C env (.tmp t) (.clo f k x)) (hcs : CloArgs k x cs) (hc : AC C.P f (ins ++ cs) [A] []) (hH : Hd C o (.call { callee := .value (.tmp t), args := xs.toArray, argTypes := ts }) d)
    (ha : Args C env xs ins outs ms) (hm : allFlat ms = true) (hf : A.free = true) : OpT C o env (upd env d A) := by
  rcases hcs with ⟨hz, rfl⟩ | ⟨hz, rfl⟩
  · rw [List.append_nil] at hc
    obtain ⟨hc, fn, h1, h2, h3⟩ := hc
    obtain ⟨h4, h5⟩ := allFlat_roots hm
    have := OpT.callF (ms := ms) hH h1 h2 h3 (hc.anys (ha.anys hm)) (fun a w hr => by
      obtain ⟨s, F, hr'⟩ := hr
      obtain ⟨⟨cs, e, h6⟩, _⟩ := hv s F a w hr'
      have hl := k.len h6
      rw [hz] at hl
      have h7 : cs = #[] := by rw [← Array.toList_inj]; exact List.eq_nil_of_length_eq_zero hl
      subst h7
      refine ⟨[], e, ?_⟩
      rw [List.append_nil]; exact ha.at) (by unfold msOK; rw [h4, h5]; rfl) (.inl h5) (by simp [hf])
    rwa [updRoots_none (outs := outs) h4, updRes_one] at this
  · exact OpT.v1c hv hz hc hH ha hm hf
end
/-! ### Texts and arrays -/
section
variable {C : Cx} {env : Env} {o : Oper} {T : TypeId} {p q r : Operand} {d : Nat} {α : Type} {k : Kd α}
theorem extract_size (s : ByteArray) (i j : Nat) : (s.extract i j).size ≤ s.size := by
  rw [ByteArray.size_extract]; omega
theorem OpT.cutSL {x : ByteArray} {kk : IntKind} {i : Int} (hH : Hd C o (.slice T p (some q) none none) d) (hp : Opd C env p (.cel Kd.str x)) (hq : Opd C env q (.cel (Kd.int kk) i))
    (hT : C.P.underlying T = some .string) (h0 : 0 ≤ i ∧ i ≤ x.size) : OpT C o env (upd env d (.cel Kd.str (x.extract i.toNat x.size))) :=
  OpT.pure hH.2.1 hH.2.2 fun s F a w hr => ⟨.string (x.extract i.toNat x.size), by
    simp [execOp, hH.1, (hp.gets hr).1, (hq.geti hr).1, run_sliceAt_string w T _ _ _ _ hT, run_slice_string_l w T x hT kk i h0.1 h0.2],
    ⟨rfl, Nat.le_trans (extract_size _ _ _) (hp.gets hr).2⟩, fun b hb => hb⟩
theorem OpT.cutSH {x : ByteArray} {kk : IntKind} {i : Int} (hH : Hd C o (.slice T p none (some q) none) d) (hp : Opd C env p (.cel Kd.str x)) (hq : Opd C env q (.cel (Kd.int kk) i))
    (hT : C.P.underlying T = some .string) (h0 : 0 ≤ i ∧ i ≤ x.size) : OpT C o env (upd env d (.cel Kd.str (x.extract 0 i.toNat))) :=
  OpT.pure hH.2.1 hH.2.2 fun s F a w hr => ⟨.string (x.extract 0 i.toNat), by
    simp [execOp, hH.1, (hp.gets hr).1, (hq.geti hr).1, run_sliceAt_string w T _ _ _ _ hT, run_slice_string_h w T x hT kk i h0.1 h0.2],
    ⟨rfl, Nat.le_trans (extract_size _ _ _) (hp.gets hr).2⟩, fun b hb => hb⟩
theorem zarr {v : Value} {x : α} (n : Nat) (h : ∀ s, k.rd s [v] x) : ∀ s, (Kd.arr n k).rd s (Value.cl (.agg (List.replicate n v).toArray)) (List.replicate n x) := fun s => by
  refine ⟨?_, List.length_replicate⟩
  have h1 := RdL_made (h s) n
  rw [List.flatten_replicate_singleton] at h1
  exact h1
end
end Go.Proofs.YtfnkphllkbkfaaaDoor.VL
