/- Proved here: rules for calls, what a call takes and gives, and how a function's contract follows from its walk. With the words of VA. General: over every program. -/
import Derived.Test.YtcaeabgfgofefaaDoorVH
set_option linter.unusedVariables false
set_option linter.unusedSimpArgs false
namespace Go.Proofs.YtcaeabgfgofefaaDoor.VL
open Go

def g0 : Nat → Value := fun _ => undef
/-- The parts of what a call gives back: itself, or its tuple's parts. -/
def resV (n : Nat) (v : Value) (j : Nat) : Value := if n = 1 then v else match v with
  | .tuple vs => vs.getD j undef
  | _ => undef

/-- WHAT A CALL TAKES AND GIVES: 'ins' speak of the arguments, 'out' of the results, 'outs' of the arguments behind the call (.any: it isn't told). -/
def ACall (P : Program) (f : FuncId) (ins out outs : List As) : Prop :=
  ∀ (w : World) (s : Hp) (args : Array Value) (F : Nat → FS), Fz s w → args.size = ins.length →
    (∀ i, (ins.getD i .any).holds s w g0 (args.getD i undef) (F i)) → (∀ i j b, F i b → F j b → i = j) → (∀ i b, F i b → s b = none) →
    Calls P f args w fun e w' => ∃ (v : Value) (s' : Hp) (F' Fr : Nat → FS), e = .returned v ∧ s.le s' ∧ (∀ b o, s' b = some o → s b = none → w.heap.size ≤ b ∨ ∃ i, F i b) ∧ Fz s' w' ∧ Keep w (fun b => ∃ i, F i b) w' ∧
      (out.length = 1 ∨ ∃ vs, v = .tuple vs ∧ vs.size = out.length) ∧
      (∀ j, (out.getD j .any).holds s' w' g0 (resV out.length v j) (Fr j)) ∧ (∀ i, (outs.getD i .any).holds s' w' g0 (args.getD i undef) (F' i)) ∧
      (∀ i j b, Fr i b → Fr j b → i = j) ∧ (∀ i j b, F' i b → F' j b → i = j) ∧ (∀ i j b, Fr i b → ¬ F' j b) ∧
      (∀ i b, Fr i b → s' b = none ∧ (w.heap.size ≤ b ∨ ∃ i, F i b)) ∧ (∀ i b, F' i b → s' b = none ∧ (w.heap.size ≤ b ∨ ∃ i, F i b))

/-- What a walk owes where it returns. -/
def Ret (C : Cx) (fn : Func) (out outs : List As) (a : Act) (w : World) : Prop :=
  a.defers = [] ∧ ∃ (v : Value) (s : Hp) (F' Fr : Nat → FS), (results fn a.tmps).run C.P w = .ok v w ∧ C.s0.le s ∧ (∀ b o, s b = some o → C.s0 b = none → C.w0.heap.size ≤ b ∨ C.hd b) ∧ Fz s w ∧ Keep C.w0 C.hd w ∧
      (out.length = 1 ∨ ∃ vs, v = .tuple vs ∧ vs.size = out.length) ∧
      (∀ j, (out.getD j .any).holds s w g0 (resV out.length v j) (Fr j)) ∧ (∀ i, outs.getD i .any = .any ∨ ∃ u, C.pn i = some u ∧ (outs.getD i .any).holds s w g0 u (F' i)) ∧ (∀ i, outs.getD i .any = .any → ∀ b, ¬ F' i b) ∧
      (∀ i j b, Fr i b → Fr j b → i = j) ∧ (∀ i j b, F' i b → F' j b → i = j) ∧ (∀ i j b, Fr i b → ¬ F' j b) ∧
      (∀ i b, Fr i b → s b = none ∧ (C.w0.heap.size ≤ b ∨ C.hd b)) ∧ (∀ i b, F' i b → s b = none ∧ (C.w0.heap.size ≤ b ∨ C.hd b))
def RetQ (C : Cx) (fn : Func) (out outs : List As) : Exit → Act → World → Prop
  | .ret, a, w => Ret C fn out outs a w
  | .normal, a, w => Ret C fn out outs a w
  | _, _, _ => False


def As.isAny : As → Bool
  | .any => true
  | _ => false
theorem As.isAny_eq {A : As} (h : A.isAny = true) : A = .any := by cases A <;> first | rfl | cases h
def pnOf (outs : List As) (args : Array Value) : Nat → Option Value := fun i => if (outs.getD i .any).isAny then none else some (args.getD i undef)
def envOf (ins : List As) : Env := fun t => if t < 10000 then ins.getD t .any else .any

theorem free_getD {ins : List As} (h : ins.all As.free = true) (i : Nat) : (ins.getD i .any).free = true := by
  rw [List.getD_eq_getElem?_getD]
  cases hi : ins[i]? with
  | none => rfl
  | some A => exact List.all_eq_true.1 h A (List.mem_of_getElem? hi)

/-- A function's contract follows from its walk. -/
theorem ACall.intro {P : Program} {f : FuncId} {fn : Func} {c : Code} {N : Nat} {ins out outs : List As} (hf : P.funcs[f]? = some fn) (hb : fn.body = some c) (hn : fn.ntmps = N) (hN : N ≤ 10000) (hle : ins.length ≤ N)
    (hfree : ins.all As.free = true) (hol : outs.length ≤ ins.length)
    (h : ∀ (w0 : World) (hd : FS) (s0 : Hp) (args : Array Value), args.size = ins.length → AW ⟨P, N, w0, hd, hN, pnOf outs args, s0⟩ c (envOf ins) (RetQ ⟨P, N, w0, hd, hN, pnOf outs args, s0⟩ fn out outs)) : ACall P f ins out outs := by
  intro w s args F hfz hsz hh hdj hsn
  refine calls_of_wp hf hb ?_
  have hany : ∀ i, ins.length ≤ i → ins.getD i .any = .any := fun i hi => by rw [List.getD_eq_getElem?_getD, List.getElem?_eq_none hi]; rfl
  have hgv : ∀ t, t < 10000 → gv (args ++ Array.replicate (N - args.size) undef) t = args.getD t undef := fun t ht => by
    rw [gv_lo ht, Array.getD_eq_getD_getElem?, Array.getD_eq_getD_getElem?, Array.getElem?_append]
    split
    · rfl
    · rename_i hge
      rw [Array.getElem?_replicate, Array.getElem?_eq_none (by omega)]
      split <;> rfl
  have hrel : RelE N w (fun b => ∃ i, F i b) (pnOf outs args) s (envOf ins) { tmps := args ++ Array.replicate (fn.ntmps - args.size) undef, defers := [] } w := by
    rw [hn]
    refine ⟨s, F, rfl, ?_, fun t => ?_, hdj2 hdj, fun t b hb => ⟨hsn t b hb, .inr ⟨t, hb⟩⟩, hfz, Keep.refl _ _, fun t v hv => ?_, Hp.le_refl s, fun b o h1 h2 => by rw [h1] at h2; cases h2⟩
    · simp only [Array.size_append, Array.size_replicate]; omega
    · unfold envOf
      by_cases ht : t < 10000
      · rw [if_pos ht]
        rw [hgv t ht]
        exact As.holds_free (hh t) (free_getD hfree t)
      · rw [if_neg ht]
        have h1 := hh t
        rw [hany t (by omega)] at h1
        exact h1
    · unfold pnOf at hv
      split at hv
      · cases hv
      · rename_i hna
        have ht : t < 10000 := by
          rcases Nat.lt_or_ge t 10000 with h1 | h1
          · exact h1
          · exfalso
            apply hna
            rw [List.getD_eq_getElem?_getD, List.getElem?_eq_none (by omega)]
            rfl
        refine ⟨ht, ?_⟩
        injection hv with hv
        rw [← hv]
        exact hgv t ht
  have key := h w (fun b => ∃ i, F i b) s args hsz _ _ hrel
  have fin : ∀ (a : Act) (w' : World), Ret ⟨P, N, w, fun b => ∃ i, F i b, hN, pnOf outs args, s⟩ fn out outs a w' → a.defers = [] ∧ ∃ v, (results fn a.tmps).run P w' = .ok v w' ∧
      ∃ (v' : Value) (s' : Hp) (F' Fr : Nat → FS), Ending.returned v = .returned v' ∧ s.le s' ∧ (∀ b o, s' b = some o → s b = none → w.heap.size ≤ b ∨ ∃ i, F i b) ∧ Fz s' w' ∧ Keep w (fun b => ∃ i, F i b) w' ∧
      (out.length = 1 ∨ ∃ vs, v' = .tuple vs ∧ vs.size = out.length) ∧
      (∀ j, (out.getD j .any).holds s' w' g0 (resV out.length v' j) (Fr j)) ∧ (∀ i, (outs.getD i .any).holds s' w' g0 (args.getD i undef) (F' i)) ∧
      (∀ i j b, Fr i b → Fr j b → i = j) ∧ (∀ i j b, F' i b → F' j b → i = j) ∧ (∀ i j b, Fr i b → ¬ F' j b) ∧
      (∀ i b, Fr i b → s' b = none ∧ (w.heap.size ≤ b ∨ ∃ i, F i b)) ∧ (∀ i b, F' i b → s' b = none ∧ (w.heap.size ≤ b ∨ ∃ i, F i b)) := by
    rintro a w' ⟨hdf, v, s', F', Fr, h1, h2, h3, h4, h5, h6, h7, h8, h8', h9, h10, h11, h12, h13⟩
    refine ⟨hdf, v, h1, v, s', F', Fr, rfl, h2, h3, h4, h5, h6, h7, fun i => ?_, h9, h10, h11, h12, h13⟩
    rcases h8 i with h | ⟨u, hu, h⟩
    · rw [h]; exact h8' i h
    · have hu' : pnOf outs args i = some u := hu
      unfold pnOf at hu'
      split at hu'
      · cases hu'
      · injection hu' with hu'; rw [hu']; exact h
  refine wp_mono key ?_
  intro e a w' hq
  cases e with
  | ret => exact fin a w' hq
  | normal => exact fin a w' hq
  | exit id => exact hq.elim
  | goto l => exact hq.elim
  | panic ch => exact hq.elim
  | outgrown => exact hq.elim
where hdj2 {F : Nat → FS} (h : ∀ i j b, F i b → F j b → i = j) : ∀ t t' b, F t b → F t' b → t = t' := h

section
variable {C : Cx} {env env' : Env} {Q : Exit → Act → World → Prop} {o : Oper} {fn : Func} {p q r : Operand} {c : Code} {ops : Array Oper} {l : List Oper} {d t : Nat} {T T' S E : TypeId} {α β γ : Type} {k : Kd α} {k' : Kd β}

/-- The slot's value is what slot t holds. -/
def At (env : Env) (r t : Nat) : Prop := r < 10000 ∧ t < 10000 ∧ (t = r ∨ env r = .ali t)
theorem At.self (h : t < 10000) : At env t t := ⟨h, h, .inl rfl⟩
theorem At.ali {r : Nat} (h : env r = .ali t) (hr : r < 10000) (ht : t < 10000) : At env r t := ⟨hr, ht, .inr h⟩
theorem At.val {r : Nat} (h : At env r t) {s F a w} (hr : Rel C.N C.w0 C.hd C.pn C.s0 env s F a w) : gv a.tmps r = gv a.tmps t := by
  rcases h.2.2 with h1 | h1
  · rw [h1]
  · have := hr.slot r
    rw [h1] at this
    exact this.1.1

/-- What is told of the arguments at the end. -/
def OutsOK (C : Cx) (env : Env) (outs : List As) (ts : List Nat) : Prop := ∀ i, outs.getD i .any = .any ∨ ((C.pn i).isSome = true ∧ env i = outs.getD i .any ∧ (outs.getD i .any).free = true ∧ i ∉ ts)
theorem OutsOK.nil {ts : List Nat} : OutsOK C env [] ts := fun i => .inl rfl

theorem AX.ret_of {ts : List Nat} {out outs : List As} (hres : ∀ s F a w, Rel C.N C.w0 C.hd C.pn C.s0 env s F a w → ∃ v, (results fn a.tmps).run C.P w = .ok v w ∧ (out.length = 1 ∨ ∃ vs, v = .tuple vs ∧ vs.size = out.length) ∧
      ∀ j, j < out.length → resV out.length v j = gv a.tmps (ts.getD j 0))
    (htl : ts.length = out.length) (hts : ts.Nodup) (hA : ∀ j, j < out.length → env (ts.getD j 0) = out.getD j .any ∧ (out.getD j .any).free = true) (ho : OutsOK C env outs ts)
    {e : Exit} (he : e = .ret ∨ e = .normal) : AX C e env (RetQ C fn out outs) := by
  intro a w hr
  have key : Ret C fn out outs a w := by
    obtain ⟨s, F, hr'⟩ := hr
    obtain ⟨v, h1, h2, h3⟩ := hres s F a w hr'
    classical
    refine ⟨hr'.dfr, v, s, fun i => if outs.getD i .any = .any then FS.no else F i, fun j => if j < out.length then F (ts.getD j 0) else FS.no, h1, hr'.ext, hr'.new, hr'.fz, hr'.keep, h2, fun j => ?_, fun i => ?_, fun i hi b hb => ?_, fun i j b hb hb' => ?_, fun i j b hb hb' => ?_, fun i j b hb hb' => ?_, fun i b hb => ?_, fun i b hb => ?_⟩
    all_goals (try dsimp only)
    all_goals (try dsimp only at hb)
    all_goals (try dsimp only at hb')
    · by_cases hj : j < out.length
      · rw [if_pos hj, h3 j hj]
        have h4 := hr'.slot (ts.getD j 0)
        rw [(hA j hj).1] at h4
        exact As.holds_free h4 (hA j hj).2
      · rw [if_neg hj]
        rw [List.getD_eq_getElem?_getD, List.getElem?_eq_none (by omega)]
        exact fun b hb => hb
    · rcases ho i with h | ⟨h, h5, h6, h7⟩
      · exact .inl h
      · obtain ⟨u, hu⟩ := Option.isSome_iff_exists.1 h
        refine .inr ⟨u, hu, ?_⟩
        have h8 := hr'.slot i
        rw [h5, (hr'.pin i u hu).2] at h8
        by_cases hn : outs.getD i .any = .any
        · rw [if_pos hn, hn]; exact fun b hb => hb
        · rw [if_neg hn]; exact As.holds_free h8 h6
    · rw [if_pos hi] at hb; exact hb
    · by_cases hi : i < out.length
      · by_cases hj : j < out.length
        · rw [if_pos hi] at hb; rw [if_pos hj] at hb'
          have h4 := hr'.disj _ _ b hb hb'
          rw [List.getD_eq_getElem?_getD, List.getD_eq_getElem?_getD, List.getElem?_eq_getElem (by omega), List.getElem?_eq_getElem (by omega)] at h4
          exact (List.getElem_inj hts).1 h4
        · rw [if_neg hj] at hb'; exact hb'.elim
      · rw [if_neg hi] at hb; exact hb.elim
    · split at hb
      · exact hb.elim
      · split at hb'
        · exact hb'.elim
        · exact hr'.disj i j b hb hb'
    · by_cases hi : i < out.length
      · rw [if_pos hi] at hb
        split at hb'
        · exact hb'.elim
        · rename_i hn
          have h4 := hr'.disj _ _ b hb hb'
          rcases ho j with h | ⟨_, _, _, h7⟩
          · exact hn h
          · apply h7
            rw [← h4, List.getD_eq_getElem?_getD, List.getElem?_eq_getElem (by omega)]
            exact List.getElem_mem _
      · rw [if_neg hi] at hb; exact hb.elim
    · by_cases hi : i < out.length
      · rw [if_pos hi] at hb; exact hr'.mine _ b hb
      · rw [if_neg hi] at hb; exact hb.elim
    · split at hb
      · exact hb.elim
      · exact hr'.mine i b hb
  rcases he with rfl | rfl <;> exact key
theorem AX.ret1 {r : Nat} {A : As} {outs : List As} (hres : fn.results = #[.tmp r]) (hat : At env r t) (hA : env t = A) (hf : A.free = true) (ho : OutsOK C env outs [t]) : AX C .ret env (RetQ C fn [A] outs) :=
  AX.ret_of (ts := [t]) (fun s F a w hr => ⟨_, results_tmp hres a.tmps C.P w, .inl rfl, fun j hj => by
    have : j = 0 := by simp at hj; exact hj
    subst this
    show a.tmps.getD r undef = gv a.tmps t
    rw [← hat.val hr, gv_lo hat.1]⟩) rfl (by simp) (fun j hj => by
    have : j = 0 := by simp at hj; exact hj
    subst this
    exact ⟨hA, hf⟩) ho (.inl rfl)
theorem AX.ret2 {r1 r2 t1 t2 : Nat} {A1 A2 : As} {outs : List As} (hres : fn.results = #[.tmp r1, .tmp r2]) (hat1 : At env r1 t1) (hat2 : At env r2 t2) (hne : t1 ≠ t2) (hA1 : env t1 = A1) (hA2 : env t2 = A2) (hf1 : A1.free = true) (hf2 : A2.free = true) (ho : OutsOK C env outs [t1, t2]) : AX C .ret env (RetQ C fn [A1, A2] outs) :=
  AX.ret_of (ts := [t1, t2]) (fun s F a w hr => ⟨_, results_tmp2 hres a.tmps C.P w, .inr ⟨_, rfl, rfl⟩, fun j hj => by
    have h1 := hat1.val hr
    have h2 := hat2.val hr
    rw [gv_lo hat1.1] at h1
    rw [gv_lo hat2.1] at h2
    match j, hj with
    | 0, _ => exact h1
    | 1, _ => exact h2⟩) rfl (by simp [hne]) (fun j hj => by
    match j, hj with
    | 0, _ => exact ⟨hA1, hf1⟩
    | 1, _ => exact ⟨hA2, hf2⟩) ho (.inl rfl)
theorem results_tmp3 {r1 r2 r3 : Nat} (h : fn.results = #[.tmp r1, .tmp r2, .tmp r3]) (tmps : Array Value) (P : Program) (w : World) :
    (results fn tmps).run P w = .ok (.tuple #[tmps.getD r1 undef, tmps.getD r2 undef, tmps.getD r3 undef]) w := by
  simp [results, h]
theorem AX.ret3 {r1 r2 r3 t1 t2 t3 : Nat} {A1 A2 A3 : As} {outs : List As} (hres : fn.results = #[.tmp r1, .tmp r2, .tmp r3]) (hat1 : At env r1 t1) (hat2 : At env r2 t2) (hat3 : At env r3 t3) (hne : t1 ≠ t2 ∧ t1 ≠ t3 ∧ t2 ≠ t3) (hA1 : env t1 = A1) (hA2 : env t2 = A2) (hA3 : env t3 = A3)
    (hf1 : A1.free = true) (hf2 : A2.free = true) (hf3 : A3.free = true) (ho : OutsOK C env outs [t1, t2, t3]) : AX C .ret env (RetQ C fn [A1, A2, A3] outs) :=
  AX.ret_of (ts := [t1, t2, t3]) (fun s F a w hr => ⟨_, results_tmp3 hres a.tmps C.P w, .inr ⟨_, rfl, rfl⟩, fun j hj => by
    have h1 := hat1.val hr
    have h2 := hat2.val hr
    have h3 := hat3.val hr
    rw [gv_lo hat1.1] at h1
    rw [gv_lo hat2.1] at h2
    rw [gv_lo hat3.1] at h3
    match j, hj with
    | 0, _ => exact h1
    | 1, _ => exact h2
    | 2, _ => exact h3⟩) rfl (by simp [hne]) (fun j hj => by
    match j, hj with
    | 0, _ => exact ⟨hA1, hf1⟩
    | 1, _ => exact ⟨hA2, hf2⟩
    | 2, _ => exact ⟨hA3, hf3⟩) ho (.inl rfl)
theorem AX.ret0 {outs : List As} (hres : fn.results = #[]) (ho : OutsOK C env outs []) {e : Exit} (he : e = .ret ∨ e = .normal) : AX C e env (RetQ C fn [] outs) :=
  AX.ret_of (ts := []) (fun s F a w hr => ⟨_, results_none hres a.tmps C.P w, .inr ⟨_, rfl, rfl⟩, fun j hj => by simp at hj⟩) rfl (by simp) (fun j hj => by simp at hj) ho he
end
end Go.Proofs.YtcaeabgfgofefaaDoor.VL
