/- Proved here: the rule for a call of a function whose contract is known, and for taking the parts of what it gives. With the words of VA. General: over every program. -/
import Derived.Test.YtfnkphllkbkfaaaDoorVI
set_option linter.unusedVariables false
set_option linter.unusedSimpArgs false
namespace Go.Proofs.YtfnkphllkbkfaaaDoor.VL
open Go

theorem holds_F {s : Hp} {w : World} {g : Nat → Value} {v : Value} {F F' : FS} {A : As} (h : A.holds s w g v F) (hF : ∀ b, F b ↔ F' b) : A.holds s w g v F' := by
  have : F = F' := funext fun b => propext (hF b)
  rw [← this]; exact h

def oneA : List As → As
  | [A] => A
  | _ => .any
def partA (out : List As) (j : Nat) : As := match out with
  | [_] => .any
  | _ => out.getD j .any
def updRes (env : Env) (d : Nat) (out : List As) : Env := fun u =>
  if u = d then oneA out else if ofSlot d u then partA out (u / 10000 - 1) else if (env u).dep d then .any else env u

theorem Rel.putR {N : Nat} {w0 : World} {hd : FS} {pn : Nat → Option Value} {s0 : Hp} {env : Env} {s : Hp} {F : Nat → FS} {a : Act} {w : World} {d : Nat} {v : Value} {out : List As} {Fr : Nat → FS}
    (h : Rel N w0 hd pn s0 env s F a w) (hN : d < N) (hd' : d < 10000) (hpn : pn d = none)
    (hsh : out.length = 1 ∨ ∃ vs, v = .tuple vs ∧ vs.size = out.length) (hA : ∀ j, (out.getD j .any).holds s w g0 (resV out.length v j) (Fr j)) (hfree : out.all As.free = true)
    (ho : ∀ t b j, F t b → ¬ Fr j b) (hdj : ∀ i j b, Fr i b → Fr j b → i = j) (hF : ∀ j b, Fr j b → s b = none ∧ (w0.heap.size ≤ b ∨ hd b)) :
    RelE N w0 hd pn s0 (updRes env d out) (a.put (some d) v) w := by
  have hput : (a.put (some d) v).tmps = a.tmps.setIfInBounds d v := rfl
  let FF : Nat → FS := fun u => if u = d then (if out.length = 1 then Fr 0 else FS.no) else if ofSlot d u then (if out.length = 1 then FS.no else Fr (u / 10000 - 1)) else if (env u).dep d then FS.no else F u
  have hFF : ∀ u b, FF u b → (∃ j, Fr j b ∧ ((u = d ∧ j = 0 ∧ out.length = 1) ∨ (u ≠ d ∧ ofSlot d u = true ∧ out.length ≠ 1 ∧ j = u / 10000 - 1))) ∨ (F u b ∧ u ≠ d ∧ ofSlot d u = false) := by
    intro u b hb
    dsimp only [FF] at hb
    split at hb
    · rename_i hu
      split at hb
      · exact .inl ⟨0, hb, .inl ⟨hu, rfl, by assumption⟩⟩
      · exact hb.elim
    · rename_i hu
      split at hb
      · rename_i hof
        split at hb
        · exact hb.elim
        · exact .inl ⟨_, hb, .inr ⟨hu, hof, by assumption, rfl⟩⟩
      · rename_i hof
        split at hb
        · exact hb.elim
        · exact .inr ⟨hb, hu, by simpa using hof⟩
  refine ⟨s, FF, h.dfr, by rw [hput, Array.size_setIfInBounds]; exact h.size, fun u => ?_, fun u u' b hb hb' => ?_, fun u b hb => ?_, h.fz, h.keep, fun t u hv => ?_, h.ext, h.new⟩
  · rw [hput]
    unfold updRes
    by_cases hu : u = d
    · subst hu
      rw [if_pos rfl, gv_put_eq v hd' (by rw [h.size]; exact hN)]
      have e : FF u = if out.length = 1 then Fr 0 else FS.no := by dsimp only [FF]; rw [if_pos rfl]
      rw [e]
      match out, hA, hfree with
      | [], _, _ => exact fun b hb => hb
      | [A], hA, hfree =>
        have h1 := hA 0
        simp only [List.length_singleton, if_true]
        exact As.holds_free h1 (show A.free = true by simpa using hfree)
      | A :: B :: l, _, _ => rw [if_neg (by simp)]; exact fun b hb => hb
    · rw [if_neg hu]
      by_cases hof : ofSlot d u = true
      · rw [if_pos hof]
        have e : FF u = if out.length = 1 then FS.no else Fr (u / 10000 - 1) := by dsimp only [FF]; rw [if_neg hu, if_pos hof]
        rw [e]
        have hmod : u % 10000 = d := by simpa [ofSlot] using hof
        have hval : ∀ vs, v = .tuple vs → gv (a.tmps.setIfInBounds d v) u = vs.getD (u / 10000 - 1) undef := by
          intro vs hv
          unfold gv
          rw [if_neg (by omega), hmod, hv]
          have : (a.tmps.setIfInBounds d (Value.tuple vs)).getD d undef = .tuple vs := by
            have := gv_put_eq (tmps := a.tmps) (.tuple vs) hd' (by rw [h.size]; exact hN)
            rwa [gv_lo hd'] at this
          rw [this]
        match out, hA, hfree, hsh with
        | [A], _, _, _ => simp only [List.length_singleton, if_true]; exact fun b hb => hb
        | [], hA, hfree, hsh => rw [if_neg (by simp)]; exact fun b hb => hA _ b hb
        | A :: B :: l, hA, hfree, hsh =>
          rw [if_neg (by simp)]
          obtain ⟨vs, hv, hvs⟩ := hsh.resolve_left (by simp)
          rw [hval vs hv]
          have h1 := hA (u / 10000 - 1)
          unfold resV at h1
          rw [if_neg (by simp), hv] at h1
          refine As.holds_free h1 ?_
          show ((A :: B :: l).getD (u / 10000 - 1) .any).free = true
          rw [List.getD_eq_getElem?_getD]
          cases hi : (A :: B :: l)[u / 10000 - 1]? with
          | none => rfl
          | some A' => exact List.all_eq_true.1 hfree A' (List.mem_of_getElem? hi)
      · have ho' : ofSlot d u = false := by simpa using hof
        rw [if_neg hof]
        by_cases hp : (env u).dep d = true
        · rw [if_pos hp]
          have e : FF u = FS.no := by dsimp only [FF]; rw [if_neg hu, if_neg hof, if_pos hp]
          rw [e]; exact fun b hb => hb
        · rw [if_neg hp]
          have e : FF u = F u := by dsimp only [FF]; rw [if_neg hu, if_neg hof, if_neg hp]
          rw [e, gv_put_ne v ho']
          refine As.holds_g (h.slot u) ?_
          intro q hq
          refine gv_put_ne v ?_
          by_cases hoq : ofSlot d q = true
          · have h1 : q < 10000 := As.dep_lt (h.slot u) hq
            have : q = d := by simpa [ofSlot, Nat.mod_eq_of_lt h1] using hoq
            subst this
            exact (hp hq).elim
          · simpa using hoq
  · rcases hFF u b hb with ⟨j, h1, h2⟩ | ⟨h1, h2, h3⟩
    · rcases hFF u' b hb' with ⟨j', h4, h5⟩ | ⟨h4, h5, h6⟩
      · have hj := hdj j j' b h1 h4
        rcases h2 with ⟨e1, e2, e3⟩ | ⟨e1, e2, e3, e4⟩
        · rcases h5 with ⟨f1, f2, f3⟩ | ⟨f1, f2, f3, f4⟩
          · rw [e1, f1]
          · exact (f3 e3).elim
        · rcases h5 with ⟨f1, f2, f3⟩ | ⟨f1, f2, f3, f4⟩
          · exact (e3 f3).elim
          · have m1 : u % 10000 = d := by simpa [ofSlot] using e2
            have m2 : u' % 10000 = d := by simpa [ofSlot] using f2
            omega
      · exact (ho u' b j h4 h1).elim
    · rcases hFF u' b hb' with ⟨j', h4, h5⟩ | ⟨h4, h5, h6⟩
      · exact (ho u b j' h1 h4).elim
      · exact h.disj u u' b h1 h4
  · rcases hFF u b hb with ⟨j, h1, h2⟩ | ⟨h1, h2, h3⟩
    · exact hF j b h1
    · exact h.mine u b h1
  · have h1 := h.pin t u hv
    refine ⟨h1.1, ?_⟩
    rw [hput, gv_put_ne, h1.2]
    have : t ≠ d := fun e => by subst e; rw [hpn] at hv; cases hv
    simp [ofSlot, Nat.mod_eq_of_lt h1.1, this]

/-! ### How an argument is handed over -/
inductive Mode
  | flat
  | root (t : Nat)
  | bor (t : Nat)
  deriving DecidableEq
inductive Bor : As → As → Prop
  | own {α : Type} (E : TypeId) (k : Kd α) (xs : List α) : Bor (.own E k xs) (.cel (Kd.slice k) xs)
  | box {α : Type} (E : TypeId) (k : Kd α) (x : α) : Bor (.box E k x) (.cel (Kd.ptr k) x)
  | deep {O : OSh} {A : As} (h : ∀ {s w g v F sc}, O.hold s w v F → Hp.le s sc → (∀ b, F b → sc b = w.heap[b]?) → A.holds sc w g v FS.no) : Bor (.deep O) A
def ArgOK (C : Cx) (env : Env) (x : Operand) (A O : As) : Mode → Prop
  | .flat => Opd C env x A ∧ A.flat = true ∧ A.free = true ∧ O = .any
  | .root t => Root C env x t ∧ env t = A ∧ A.flat = false ∧ O.free = true
  | .bor t => Root C env x t ∧ Bor (env t) A ∧ O = .any
inductive Args (C : Cx) (env : Env) : List Operand → List As → List As → List Mode → Prop
  | nil : Args C env [] [] [] []
  | cons {x : Operand} {A O : As} {m : Mode} {xs : List Operand} {ins outs : List As} {ms : List Mode} (h : ArgOK C env x A O m) (r : Args C env xs ins outs ms) : Args C env (x :: xs) (A :: ins) (O :: outs) (m :: ms)
/-- The same, at one place of the walk. -/
def ArgOKA (C : Cx) (env : Env) (a : Act) (w : World) (x : Operand) (A O : As) : Mode → Prop
  | .flat => (∀ s F, Rel C.N C.w0 C.hd C.pn C.s0 env s F a w → A.holds s w (gv a.tmps) (a.eval x) FS.no) ∧ A.flat = true ∧ A.free = true ∧ O = .any
  | .root t => Root C env x t ∧ env t = A ∧ A.flat = false ∧ O.free = true
  | .bor t => Root C env x t ∧ Bor (env t) A ∧ O = .any
inductive ArgsA (C : Cx) (env : Env) (a : Act) (w : World) : List Operand → List As → List As → List Mode → Prop
  | nil : ArgsA C env a w [] [] [] []
  | cons {x : Operand} {A O : As} {m : Mode} {xs : List Operand} {ins outs : List As} {ms : List Mode} (h : ArgOKA C env a w x A O m) (r : ArgsA C env a w xs ins outs ms) : ArgsA C env a w (x :: xs) (A :: ins) (O :: outs) (m :: ms)
theorem Args.at {C : Cx} {env : Env} {a : Act} {w : World} {xs : List Operand} {ins outs : List As} {ms : List Mode} (h : Args C env xs ins outs ms) : ArgsA C env a w xs ins outs ms := by
  induction h with
  | nil => exact .nil
  | @cons x A O m xs ins outs ms h r ih =>
    refine .cons ?_ ih
    cases m with
    | flat => exact ⟨fun s F hr => h.1 s F a w hr, h.2⟩
    | root t => exact h
    | bor t => exact h
theorem ArgsA.app {C : Cx} {env : Env} {a : Act} {w : World} {xs ys : List Operand} {ins ins' outs outs' : List As} {ms ms' : List Mode} (h : ArgsA C env a w xs ins outs ms) (h' : ArgsA C env a w ys ins' outs' ms') :
    ArgsA C env a w (xs ++ ys) (ins ++ ins') (outs ++ outs') (ms ++ ms') := by
  induction h with
  | nil => exact h'
  | cons h r ih => exact .cons h ih
theorem ArgsA.get {C : Cx} {env : Env} {a : Act} {w : World} {xs : List Operand} {ins outs : List As} {ms : List Mode} (h : ArgsA C env a w xs ins outs ms) : xs.length = ins.length ∧ ms.length = ins.length ∧ outs.length = ins.length ∧
    ∀ i x, xs[i]? = some x → ∃ m, ms[i]? = some m ∧ ArgOKA C env a w x (ins.getD i .any) (outs.getD i .any) m := by
  induction h with
  | nil => exact ⟨rfl, rfl, rfl, fun i x h => by simp at h⟩
  | cons h r ih =>
    obtain ⟨h1, h2, h3, h4⟩ := ih
    refine ⟨by simp [h1], by simp [h2], by simp [h3], fun i x hx => ?_⟩
    cases i with
    | zero => simp at hx; subst hx; exact ⟨_, rfl, h⟩
    | succ i => simpa using h4 i x (by simpa using hx)
def rootsOf : List Mode → List Nat
  | [] => []
  | .root t :: ms => t :: rootsOf ms
  | _ :: ms => rootsOf ms
def borsOf : List Mode → List Nat
  | [] => []
  | .bor t :: ms => t :: borsOf ms
  | _ :: ms => borsOf ms
def msOK (ms : List Mode) : Bool := decide ((rootsOf ms).Nodup) && (rootsOf ms).all fun t => !(borsOf ms).contains t
theorem mem_roots {ms : List Mode} {t : Nat} : t ∈ rootsOf ms ↔ ∃ i : Nat, ms[i]? = some (Mode.root t) := by
  induction ms with
  | nil => simp [rootsOf]
  | cons m ms ih =>
    have step : (∃ i : Nat, (m :: ms)[i]? = some (Mode.root t)) ↔ m = .root t ∨ ∃ i : Nat, ms[i]? = some (Mode.root t) := by
      constructor
      · rintro ⟨i, hi⟩
        cases i with
        | zero => simp at hi; exact .inl hi
        | succ i => exact .inr ⟨i, by simpa using hi⟩
      · rintro (h | ⟨i, hi⟩)
        · exact ⟨0, by simp [h]⟩
        · exact ⟨i + 1, by simpa using hi⟩
    rw [step, ← ih]
    cases m <;> simp [rootsOf, eq_comm]
theorem mem_bors {ms : List Mode} {t : Nat} : t ∈ borsOf ms ↔ ∃ i : Nat, ms[i]? = some (Mode.bor t) := by
  induction ms with
  | nil => simp [borsOf]
  | cons m ms ih =>
    have step : (∃ i : Nat, (m :: ms)[i]? = some (Mode.bor t)) ↔ m = .bor t ∨ ∃ i : Nat, ms[i]? = some (Mode.bor t) := by
      constructor
      · rintro ⟨i, hi⟩
        cases i with
        | zero => simp at hi; exact .inl hi
        | succ i => exact .inr ⟨i, by simpa using hi⟩
      · rintro (h | ⟨i, hi⟩)
        · exact ⟨0, by simp [h]⟩
        · exact ⟨i + 1, by simpa using hi⟩
    rw [step, ← ih]
    cases m <;> simp [borsOf, eq_comm]
theorem roots_inj {ms : List Mode} (h : (rootsOf ms).Nodup) : ∀ {i j t : Nat}, ms[i]? = some (.root t) → ms[j]? = some (.root t) → i = j := by
  induction ms with
  | nil => intro i j t hi; simp at hi
  | cons m ms ih =>
    intro i j t hi hj
    have hnd : (rootsOf ms).Nodup := by
      cases m <;> simp only [rootsOf] at h <;> first | exact h | exact (List.nodup_cons.1 h).2
    cases i with
    | zero =>
      cases j with
      | zero => rfl
      | succ j =>
        simp at hi
        subst hi
        have : t ∈ rootsOf ms := mem_roots.2 ⟨j, by simpa using hj⟩
        exact ((List.nodup_cons.1 h).1 this).elim
    | succ i =>
      cases j with
      | zero =>
        simp at hj
        subst hj
        have : t ∈ rootsOf ms := mem_roots.2 ⟨i, by simpa using hi⟩
        exact ((List.nodup_cons.1 h).1 this).elim
      | succ j => have := ih hnd (t := t) (i := i) (j := j) (by simpa using hi) (by simpa using hj); omega
/-- The slots whose memory was handed over have what they have behind the call. -/
def updRoots (env : Env) : List Mode → List As → Env
  | .root t :: ms, O :: outs => updK (updRoots env ms outs) t O
  | _ :: ms, _ :: outs => updRoots env ms outs
  | _, _ => env
theorem updRoots_not {env : Env} {u : Nat} : ∀ {ms : List Mode} {outs : List As}, (∀ i : Nat, ms[i]? ≠ some (Mode.root u)) → updRoots env ms outs u = env u
  | [], _, _ => rfl
  | m :: ms, [], h => by cases m <;> rfl
  | m :: ms, O :: outs, h => by
    have ih := updRoots_not (env := env) (u := u) (ms := ms) (outs := outs) (fun i hi => h (i + 1) (by simpa using hi))
    cases m with
    | root t =>
      have ht : u ≠ t := fun e => h 0 (by simp [e])
      simp only [updRoots, updK, if_neg ht]
      exact ih
    | flat => exact ih
    | bor t => exact ih
theorem updRoots_at {env : Env} {u : Nat} : ∀ {ms : List Mode} {outs : List As} {i : Nat}, (rootsOf ms).Nodup → ms.length = outs.length → ms[i]? = some (.root u) → updRoots env ms outs u = outs.getD i .any
  | [], _, i, _, _, h => by simp at h
  | m :: ms, [], i, _, hl, h => by simp at hl
  | m :: ms, O :: outs, i, hn, hl, h => by
    have hnd : (rootsOf ms).Nodup := by
      cases m <;> simp only [rootsOf] at hn <;> first | exact hn | exact (List.nodup_cons.1 hn).2
    cases i with
    | zero => simp at h; subst h; simp [updRoots, updK]
    | succ i =>
      have h' : ms[i]? = some (.root u) := by simpa using h
      have ih := updRoots_at (env := env) (u := u) (ms := ms) (outs := outs) hnd (by simpa using hl) h'
      cases m with
      | root t =>
        have ht : u ≠ t := fun e => by
          subst e
          exact (List.nodup_cons.1 hn).1 (mem_roots.2 ⟨i, h'⟩)
        simp only [updRoots, updK, if_neg ht]
        simpa using ih
      | flat => simpa [updRoots] using ih
      | bor t => simpa [updRoots] using ih
/-- It says the same whatever is frozen. -/
def As.indep (A : As) : Prop := ∀ s s' w v F, A.holds s w g0 v F → A.holds s' w g0 v F

section
variable {C : Cx} {env env' : Env} {Q : Exit → Act → World → Prop} {o : Oper} {fn : Func} {p q r : Operand} {c : Code} {ops : Array Oper} {l : List Oper} {d t : Nat} {T T' S E : TypeId} {α β γ : Type} {k : Kd α} {k' : Kd β}

theorem run_callFunc {P : Program} {f : FuncId} {fn : Func} (hf : P.funcs[f]? = some fn) (hb : fn.body.isNone = false) (hn : (fn.name == "runtime.NumGoroutine") = false) (args : Array Value) (w : World) :
    (callFunc f args).run P w = .ok (.enter f args) w := by
  have h1 : fn.name ≠ "runtime.NumGoroutine" := by simpa using hn
  have h2 : fn.body ≠ none := by intro h; rw [h] at hb; cases hb
  simp [callFunc, hf, h1, h2]

/-- A world behind a call, for the caller. -/
theorem R_call {a : Act} {w : World} {f : FuncId} {ins out outs : List As} {xs : List Operand} {ms : List Mode} (hc : ACall C.P f ins out outs) (ha : ArgsA C env a w xs ins outs ms) (hm : msOK ms = true)
    (hi : borsOf ms = [] ∨ (∀ A ∈ out, A.indep) ∧ ∀ A ∈ outs, A.indep) (hof : out.all As.free = true) (hdN : C.ok d)
    (hr : C.R env a w) : Calls C.P f (xs.map a.eval).toArray w fun e w' => ∃ v, e = .returned v ∧ C.R (updRes (updRoots env ms outs) d out) (a.put (some d) v) w' := by
  classical
  obtain ⟨s, F, hr'⟩ := hr
  obtain ⟨hl1, hl2, hl3, hget⟩ := ha.get
  have hm' := hm
  unfold msOK at hm'
  simp only [Bool.and_eq_true, decide_eq_true_eq, List.all_eq_true, Bool.not_eq_true', List.contains_eq_mem, decide_eq_false_iff_not] at hm'
  obtain ⟨hnd, hsep⟩ := hm'
  let bw : Nat → Prop := fun b => ∃ t, t ∈ borsOf ms ∧ F t b
  let sc : Hp := fun b => if bw b then w.heap[b]? else s b
  let Fc : Nat → FS := fun i b => ∃ t, ms[i]? = some (.root t) ∧ F t b
  have hbs : ∀ b, bw b → s b = none := fun b ⟨t, _, hb⟩ => (hr'.mine t b hb).1
  have hssc : s.le sc := fun b o hb => by
    show (if bw b then w.heap[b]? else s b) = some o
    rw [if_neg (fun h => by rw [hbs b h] at hb; cases hb)]
    exact hb
  have hfzc : Fz sc w := fun b o hb => by
    have hb' : (if bw b then w.heap[b]? else s b) = some o := hb
    split at hb'
    · exact hb'
    · exact hr'.fz b o hb'
  have hargs : ∀ i x, xs[i]? = some x → (xs.map a.eval).toArray.getD i undef = a.eval x := fun i x hx => by
    simp [Array.getD_eq_getD_getElem?, hx]
  have hin : ∀ i, (ins.getD i .any).holds sc w g0 ((xs.map a.eval).toArray.getD i undef) (Fc i) := by
    intro i
    cases hx : xs[i]? with
    | none =>
      have hi' : xs.length ≤ i := by
        rcases Nat.lt_or_ge i xs.length with h | h
        · rw [List.getElem?_eq_getElem h] at hx; cases hx
        · exact h
      rw [List.getD_eq_getElem?_getD, List.getElem?_eq_none (by omega)]
      rintro b ⟨t, ht, _⟩
      rw [List.getElem?_eq_none (by omega)] at ht; cases ht
    | some x =>
      obtain ⟨m, hmi, hok⟩ := hget i x hx
      rw [hargs i x hx]
      cases m with
      | flat =>
        obtain ⟨h1, h2, h3, _⟩ := hok
        refine holds_F (As.holds_free (As.holds_mono hssc (h1 s F hr')) h3) (fun b => ⟨fun h => h.elim, ?_⟩)
        rintro ⟨t, ht, _⟩
        rw [hmi] at ht; cases ht
      | root t =>
        obtain ⟨h1, h2, h3, _⟩ := hok
        have h4 := hr'.slot t
        rw [h2] at h4
        rw [h1.2 s F a w hr']
        refine holds_F (As.holds_free (As.holds_mono hssc h4) (by cases hA : ins.getD i .any <;> rw [hA] at h3 <;> first | rfl | cases h3)) (fun b => ⟨fun h => ⟨t, hmi, h⟩, ?_⟩)
        rintro ⟨t', ht', hb⟩
        rw [hmi] at ht'
        injection ht' with ht'
        injection ht' with ht'
        rw [ht']; exact hb
      | bor t =>
        obtain ⟨h1, h2, _⟩ := hok
        have h4 := hr'.slot t
        rw [h1.2 s F a w hr']
        have hFc : ∀ b, ¬ Fc i b := by
          rintro b ⟨t', ht', _⟩
          rw [hmi] at ht'; cases ht'
        have htm : t ∈ borsOf ms := mem_bors.2 ⟨i, hmi⟩
        have hlook : ∀ g, F t g → sc g = w.heap[g]? := fun g hg => by
          show (if bw g then w.heap[g]? else s g) = _
          rw [if_pos ⟨t, htm, hg⟩]
        generalize ins.getD i .any = A at h2 ⊢
        generalize env t = B at h2 h4
        cases h2 with
        | deep hd => exact holds_F (hd h4 hssc hlook) (fun b => ⟨fun h => h.elim, fun h => hFc b h⟩)
        | own E k zs =>
          obtain ⟨⟨cells, how, hrd⟩, hz0, hF⟩ := h4
          refine ⟨?_, hFc⟩
          rcases how.2 with ⟨hv, hn⟩ | ⟨g, cap, cur, hv, _, hg, hnc, hcm, hcs, htake⟩
          · exact ⟨none, 0, by rw [hv, hn], by omega, by omega, fun h => by omega⟩
          · have hFg : F t g := (hF g).2 (by rw [hv]; rfl)
            refine ⟨some ⟨g, 0, none⟩, cap, by rw [hv], hnc, by simp only [maxLen] at hcm; omega, fun h => ⟨⟨g, 0, none⟩, cells, rfl, hrd.mono hssc, fun j u hu => ?_⟩⟩
            rw [Addr.add_lit, Nat.zero_add]
            unfold Hp.look
            simp only [hlook g hFg, hg]
            rw [← htake, List.getElem?_take] at hu
            split at hu
            · simpa using hu
            · cases hu
        | box E k z =>
          obtain ⟨g, cs, hv, hg, hrd, hF⟩ := h4
          have hFg : F t g := (hF g).2 rfl
          refine ⟨⟨⟨g, 0, none⟩, cs.toList, by rw [hv], k.mono hssc hrd, fun j u hu => ?_⟩, hFc⟩
          rw [Addr.add_lit, Nat.zero_add]
          unfold Hp.look
          simp only [hlook g hFg, hg]
          simpa using hu
  have hnobw : ∀ t b, t ∈ rootsOf ms → F t b → ¬ bw b := by
    rintro t b ht hb ⟨t', ht', hb'⟩
    have := hr'.disj t t' b hb hb'
    subst this
    exact hsep t ht ht'
  have key := hc w sc (xs.map a.eval).toArray Fc hfzc (by simp [hl1]) hin
    (by
      rintro i j b ⟨t, ht, hb⟩ ⟨t', ht', hb'⟩
      have := hr'.disj t t' b hb hb'
      subst this
      exact roots_inj hnd ht ht')
    (by
      rintro i b ⟨t, ht, hb⟩
      show (if bw b then w.heap[b]? else s b) = none
      rw [if_neg (hnobw t b (mem_roots.2 ⟨i, ht⟩) hb)]
      exact (hr'.mine t b hb).1)
  refine Calls.mono key ?_
  rintro e w' ⟨v, s', F', Fr, rfl, h1, h2, h3, h4, h5, h6, h7, h8, h9, h10, h11, h12⟩
  refine ⟨v, rfl, ?_⟩
  -- behind the call
  let sn : Hp := fun b => if bw b then none else s' b
  have hsn1 : s.le sn := fun b o hb => by
    show (if bw b then none else s' b) = some o
    rw [if_neg (fun h => by rw [hbs b h] at hb; cases hb)]
    exact h1 b o (hssc b o hb)
  have hsn2 : ∀ b o, sn b = some o → s' b = some o ∧ ¬ bw b := fun b o hb => by
    have hb' : (if bw b then none else s' b) = some o := hb
    split at hb'
    · cases hb'
    · exact ⟨hb', by assumption⟩
  have hnone : ∀ b, s' b = none → sn b = none := fun b hb => by
    show (if bw b then none else s' b) = none
    split
    · rfl
    · exact hb
  have hFcF : ∀ i b, Fc i b → ∃ t, t ∈ rootsOf ms ∧ F t b := by
    rintro i b ⟨t, ht, hb⟩
    exact ⟨t, mem_roots.2 ⟨i, ht⟩, hb⟩
  have hokb : ∀ b, (w.heap.size ≤ b ∨ ∃ i, Fc i b) → (C.w0.heap.size ≤ b ∨ C.hd b) := by
    rintro b (hb | ⟨i, hb⟩)
    · exact .inl (Nat.le_trans hr'.keep.size hb)
    · obtain ⟨t, _, hb'⟩ := hFcF i b hb
      exact (hr'.mine t b hb').2
  have down : ∀ (A : As), (borsOf ms = [] ∨ A.indep) → ∀ v F, A.holds s' w' g0 v F → A.holds sn w' g0 v F := by
    rintro A (hA | hA) v F hh
    · have : sn = s' := funext fun b => by
        show (if bw b then none else s' b) = s' b
        rw [if_neg]
        rintro ⟨t, ht, _⟩
        rw [hA] at ht; cases ht
      rw [this]; exact hh
    · exact hA s' sn w' v F hh
  let F1 : Nat → FS := fun u b => (∃ i, ms[i]? = some (.root u) ∧ F' i b) ∨ ((∀ i : Nat, ms[i]? ≠ some (Mode.root u)) ∧ F u b)
  have hother : ∀ u b, (∀ i : Nat, ms[i]? ≠ some (Mode.root u)) → F u b → b < w.heap.size ∧ ¬ ∃ i, Fc i b := by
    intro u b hu hb
    refine ⟨As.holds_lt (hr'.slot u) b hb, ?_⟩
    rintro ⟨i, t, ht, hb'⟩
    have := hr'.disj u t b hb hb'
    subst this
    exact hu i ht
  have hrel1 : Rel C.N C.w0 C.hd C.pn C.s0 (updRoots env ms outs) sn F1 a w' := by
    refine ⟨hr'.dfr, hr'.size, fun u => ?_, fun u u' b hb hb' => ?_, fun u b hb => ?_, fun b o hb => h3 b o (hsn2 b o hb).1, ?_, hr'.pin, Hp.le_trans hr'.ext hsn1, fun b o hb hb0 => ?_⟩
    · by_cases hu : ∃ i : Nat, ms[i]? = some (Mode.root u)
      · obtain ⟨i, hmi⟩ := hu
        rw [updRoots_at hnd (by rw [hl2, hl3]) hmi]
        have hil : i < xs.length := by
          rcases Nat.lt_or_ge i xs.length with h | h
          · exact h
          · rw [List.getElem?_eq_none (by omega)] at hmi; cases hmi
        obtain ⟨m, hm1, hok⟩ := hget i xs[i] (List.getElem?_eq_getElem hil)
        rw [hmi] at hm1
        injection hm1 with hm1
        subst hm1
        obtain ⟨k1, k2, k3, k4⟩ := hok
        have h13 := h7 i
        rw [hargs i xs[i] (List.getElem?_eq_getElem hil), k1.2 s F a w hr'] at h13
        have h14 : (outs.getD i .any).holds sn w' g0 (gv a.tmps u) (F' i) := by
          refine down _ ?_ _ _ h13
          rcases hi with hi | ⟨_, hi⟩
          · exact .inl hi
          · refine .inr ?_
            rw [List.getD_eq_getElem?_getD, List.getElem?_eq_getElem (by omega)]
            exact hi _ (List.getElem_mem _)
        refine holds_F (As.holds_free h14 k4) (fun b => ⟨fun h => .inl ⟨i, hmi, h⟩, ?_⟩)
        rintro (⟨j, hj, hb⟩ | ⟨hno, _⟩)
        · have := roots_inj hnd hmi hj; subst this; exact hb
        · exact (hno i hmi).elim
      · have hu' : ∀ i : Nat, ms[i]? ≠ some (Mode.root u) := fun i hi => hu ⟨i, hi⟩
        rw [updRoots_not hu']
        refine holds_F (As.holds_frame (As.holds_mono hsn1 (hr'.slot u)) (fun b hb => ?_)) (fun b => ⟨fun h => .inr ⟨hu', h⟩, ?_⟩)
        · have := hother u b hu' hb
          exact h4.block b this.1 this.2
        · rintro (⟨j, hj, hb⟩ | ⟨_, hb⟩)
          · exact (hu' j hj).elim
          · exact hb
    · rcases hb with ⟨i, hi1, hb1⟩ | ⟨hn1, hb1⟩
      · rcases hb' with ⟨j, hj1, hb2⟩ | ⟨hn2, hb2⟩
        · have := h9 i j b hb1 hb2
          subst this
          rw [hi1] at hj1; injection hj1 with hj1; injection hj1
        · have := hother u' b hn2 hb2
          rcases (h12 i b hb1).2 with h | h
          · omega
          · exact (this.2 h).elim
      · rcases hb' with ⟨j, hj1, hb2⟩ | ⟨hn2, hb2⟩
        · have := hother u b hn1 hb1
          rcases (h12 j b hb2).2 with h | h
          · omega
          · exact (this.2 h).elim
        · exact hr'.disj u u' b hb1 hb2
    · rcases hb with ⟨i, hi1, hb1⟩ | ⟨hn1, hb1⟩
      · exact ⟨hnone b (h12 i b hb1).1, hokb b (h12 i b hb1).2⟩
      · refine ⟨?_, (hr'.mine u b hb1).2⟩
        cases hs' : sn b with
        | none => rfl
        | some o =>
          exfalso
          obtain ⟨e1, e2⟩ := hsn2 b o hs'
          have h13 := hother u b hn1 hb1
          cases hsc : sc b with
          | none =>
            rcases h2 b o e1 hsc with h | h
            · omega
            · exact h13.2 h
          | some o' =>
            have hb' : (if bw b then w.heap[b]? else s b) = some o' := hsc
            rw [if_neg e2, (hr'.mine u b hb1).1] at hb'
            cases hb'
    · refine ⟨h4.os.trans hr'.keep.os, h4.tape.trans hr'.keep.tape, h4.output.trans hr'.keep.output, Nat.le_trans hr'.keep.size h4.size, fun b hb hn => ?_⟩
      rw [h4.block b (Nat.lt_of_lt_of_le hb hr'.keep.size) ?_]
      · exact hr'.keep.block b hb hn
      · rintro ⟨i, hb'⟩
        rcases hokb b (.inr ⟨i, hb'⟩) with h | h
        · omega
        · exact hn h
    · obtain ⟨e1, e2⟩ := hsn2 b o hb
      cases hsc : sc b with
      | none => exact hokb b (h2 b o e1 hsc)
      | some o' =>
        have hb' : (if bw b then w.heap[b]? else s b) = some o' := hsc
        rw [if_neg e2] at hb'
        exact hr'.new b o' hb' hb0
  refine hrel1.putR hdN.1 (Nat.lt_of_lt_of_le hdN.1 C.hN) hdN.2 h5 (fun j => ?_) hof (fun u b j hb hb' => ?_) h8 (fun j b hb => ⟨hnone b (h11 j b hb).1, hokb b (h11 j b hb).2⟩)
  · refine down _ ?_ _ _ (h6 j)
    rcases hi with hi | ⟨hi, _⟩
    · exact .inl hi
    · refine .inr ?_
      rw [List.getD_eq_getElem?_getD]
      cases hj : out[j]? with
      | none => exact fun s s' w v F h => h
      | some A => exact hi A (List.mem_of_getElem? hj)
  · rcases hb with ⟨i, hi1, hb1⟩ | ⟨hn1, hb1⟩
    · exact h10 j i b hb' hb1
    · have h13 := hother u b hn1 hb1
      rcases (h11 j b hb').2 with h | h
      · omega
      · exact h13.2 h

/-- THE RULE FOR A CALL. -/
theorem OpT.call {f : FuncId} {ins out outs : List As} {xs : List Operand} {ms : List Mode} {ts : Array TypeId} (hH : Hd C o (.call { callee := .value (.func f), args := xs.toArray, argTypes := ts }) d)
    (hf : C.P.funcs[f]? = some fn) (hb : fn.body.isNone = false) (hn : (fn.name == "runtime.NumGoroutine") = false)
    (hc : ACall C.P f ins out outs) (ha : Args C env xs ins outs ms) (hm : msOK ms = true) (hi : borsOf ms = [] ∨ (∀ A ∈ out, A.indep) ∧ ∀ A ∈ outs, A.indep) (hof : out.all As.free = true) :
    OpT C o env (updRes (updRoots env ms outs) d out) := by
  intro Q K a w hr hK
  have hrun : (execOp a.eval o).run C.P w = .ok (.enter f (xs.map a.eval).toArray) w := by
    have h1 := run_callFunc hf hb hn (xs.map a.eval).toArray w
    simp only [execOp, hH.1, resolve, Deferred.ofValue, Act.eval, invoke]
    simp [h1]
  unfold Oper.wp
  rw [hrun, Oper.upon_enter, hH.2.1]
  refine Calls.mono (R_call hc ha.at hm hi hof hH.2.2 hr) ?_
  rintro e w' ⟨v, rfl, hR⟩
  exact hK _ _ hR
end
end Go.Proofs.YtfnkphllkbkfaaaDoor.VL
