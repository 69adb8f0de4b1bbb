/- Proved here: rules for calls, what a call takes and gives, and how a function's contract follows from its walk. With the words of VA. General: over every program. -/
import Derived.Test.YtfnkphllkbkfaaaDoorVH
set_option linter.unusedVariables false
set_option linter.unusedSimpArgs false
namespace Go.Proofs.YtfnkphllkbkfaaaDoor.VL
open Go

def g0 : Nat → Value := fun _ => undef
/-- The parts of what a call gives back: itself, or its tuple's parts. -/
def resV (n : Nat) (v : Value) (j : Nat) : Value := if n = 1 then v else match v with
  | .tuple vs => vs.getD j undef
  | _ => undef

/-- WHAT A CALL TAKES AND GIVES: 'ins' speak of the arguments, 'out' of the results, 'outs' of the arguments behind the call (.any: it isn't told). -/
def ACall (P : Program) (f : FuncId) (ins out outs : List As) : Prop :=
  ∀ (w : World) (s : Hp) (args : Array Value) (F : Nat → FS), Fz s w → args.size = ins.length →
    (∀ i, (ins.getD i .any).holds s w g0 (args.getD i undef) (F i)) → (∀ i j b, F i b → F j b → i = j) → (∀ i b, F i b → s b = none) →
    Calls P f args w fun e w' => ∃ (v : Value) (s' : Hp) (F' Fr : Nat → FS), e = .returned v ∧ s.le s' ∧ (∀ b o, s' b = some o → s b = none → w.heap.size ≤ b ∨ ∃ i, F i b) ∧ Fz s' w' ∧ Keep w (fun b => ∃ i, F i b) w' ∧
      (out.length = 1 ∨ ∃ vs, v = .tuple vs ∧ vs.size = out.length) ∧
      (∀ j, (out.getD j .any).holds s' w' g0 (resV out.length v j) (Fr j)) ∧ (∀ i, (outs.getD i .any).holds s' w' g0 (args.getD i undef) (F' i)) ∧
      (∀ i j b, Fr i b → Fr j b → i = j) ∧ (∀ i j b, F' i b → F' j b → i = j) ∧ (∀ i j b, Fr i b → ¬ F' j b) ∧
      (∀ i b, Fr i b → s' b = none ∧ (w.heap.size ≤ b ∨ ∃ i, F i b)) ∧ (∀ i b, F' i b → s' b = none ∧ (w.heap.size ≤ b ∨ ∃ i, F i b))

/-- What a walk owes where it returns. -/
def Ret (C : Cx) (fn : Func) (out outs : List As) (a : Act) (w : World) : Prop :=
  a.defers = [] ∧ ∃ (v : Value) (s : Hp) (F' Fr : Nat → FS), (results fn a.tmps).run C.P w = .ok v w ∧ C.s0.le s ∧ (∀ b o, s b = some o → C.s0 b = none → C.w0.heap.size ≤ b ∨ C.hd b) ∧ Fz s w ∧ Keep C.w0 C.hd w ∧
      (out.length = 1 ∨ ∃ vs, v = .tuple vs ∧ vs.size = out.length) ∧
      (∀ j, (out.getD j .any).holds s w g0 (resV out.length v j) (Fr j)) ∧ (∀ i, outs.getD i .any = .any ∨ ∃ u, C.pn i = some u ∧ (outs.getD i .any).holds s w g0 u (F' i)) ∧ (∀ i, outs.getD i .any = .any → ∀ b, ¬ F' i b) ∧
      (∀ i j b, Fr i b → Fr j b → i = j) ∧ (∀ i j b, F' i b → F' j b → i = j) ∧ (∀ i j b, Fr i b → ¬ F' j b) ∧
      (∀ i b, Fr i b → s b = none ∧ (C.w0.heap.size ≤ b ∨ C.hd b)) ∧ (∀ i b, F' i b → s b = none ∧ (C.w0.heap.size ≤ b ∨ C.hd b))
def RetQ (C : Cx) (fn : Func) (out outs : List As) : Exit → Act → World → Prop
  | .ret, a, w => Ret C fn out outs a w
  | .normal, a, w => Ret C fn out outs a w
  | _, _, _ => False


def As.isAny : As → Bool
  | .any => true
  | _ => false
theorem As.isAny_eq {A : As} (h : A.isAny = true) : A = .any := by cases A <;> first | rfl | cases h
def pnOf (outs : List As) (args : Array Value) : Nat → Option Value := fun i => if (outs.getD i .any).isAny then none else some (args.getD i undef)
def envOf (ins : List As) : Env := fun t => if t < 10000 then ins.getD t .any else .any

theorem free_getD {ins : List As} (h : ins.all As.free = true) (i : Nat) : (ins.getD i .any).free = true := by
  rw [List.getD_eq_getElem?_getD]
  cases hi : ins[i]? with
  | none => rfl
  | some A => exact List.all_eq_true.1 h A (List.mem_of_getElem? hi)

/-- A function's contract follows from its walk. -/
theorem ACall.intro {P : Program} {f : FuncId} {fn : Func} {c : Code} {N : Nat} {ins out outs : List As} (hf : P.funcs[f]? = some fn) (hb : fn.body = some c) (hn : fn.ntmps = N) (hN : N ≤ 10000) (hle : ins.length ≤ N)
    (hfree : ins.all As.free = true) (hol : outs.length ≤ ins.length)
    (h : ∀ (w0 : World) (hd : FS) (s0 : Hp) (args : Array Value), args.size = ins.length → AW ⟨P, N, w0, hd, hN, pnOf outs args, s0⟩ c (envOf ins) (RetQ ⟨P, N, w0, hd, hN, pnOf outs args, s0⟩ fn out outs)) : ACall P f ins out outs := by
  intro w s args F hfz hsz hh hdj hsn
  refine calls_of_wp hf hb ?_
  have hany : ∀ i, ins.length ≤ i → ins.getD i .any = .any := fun i hi => by rw [List.getD_eq_getElem?_getD, List.getElem?_eq_none hi]; rfl
  have hgv : ∀ t, t < 10000 → gv (args ++ Array.replicate (N - args.size) undef) t = args.getD t undef := fun t ht => by
    rw [gv_lo ht, Array.getD_eq_getD_getElem?, Array.getD_eq_getD_getElem?, Array.getElem?_append]
    split
    · rfl
    · rename_i hge
      rw [Array.getElem?_replicate, Array.getElem?_eq_none (by omega)]
      split <;> rfl
  have hrel : RelE N w (fun b => ∃ i, F i b) (pnOf outs args) s (envOf ins) { tmps := args ++ Array.replicate (fn.ntmps - args.size) undef, defers := [] } w := by
    rw [hn]
    refine ⟨s, F, rfl, ?_, fun t => ?_, hdj2 hdj, fun t b hb => ⟨hsn t b hb, .inr ⟨t, hb⟩⟩, hfz, Keep.refl _ _, fun t v hv => ?_, Hp.le_refl s, fun b o h1 h2 => by rw [h1] at h2; cases h2⟩
    · simp only [Array.size_append, Array.size_replicate]; omega
    · unfold envOf
      by_cases ht : t < 10000
      · rw [if_pos ht]
        rw [hgv t ht]
        exact As.holds_free (hh t) (free_getD hfree t)
      · rw [if_neg ht]
        have h1 := hh t
        rw [hany t (by omega)] at h1
        exact h1
    · unfold pnOf at hv
      split at hv
      · cases hv
      · rename_i hna
        have ht : t < 10000 := by
          rcases Nat.lt_or_ge t 10000 with h1 | h1
          · exact h1
          · exfalso
            apply hna
            rw [List.getD_eq_getElem?_getD, List.getElem?_eq_none (by omega)]
            rfl
        refine ⟨ht, ?_⟩
        injection hv with hv
        rw [← hv]
        exact hgv t ht
  have key := h w (fun b => ∃ i, F i b) s args hsz _ _ hrel
  have fin : ∀ (a : Act) (w' : World), Ret ⟨P, N, w, fun b => ∃ i, F i b, hN, pnOf outs args, s⟩ fn out outs a w' → a.defers = [] ∧ ∃ v, (results fn a.tmps).run P w' = .ok v w' ∧
      ∃ (v' : Value) (s' : Hp) (F' Fr : Nat → FS), Ending.returned v = .returned v' ∧ s.le s' ∧ (∀ b o, s' b = some o → s b = none → w.heap.size ≤ b ∨ ∃ i, F i b) ∧ Fz s' w' ∧ Keep w (fun b => ∃ i, F i b) w' ∧
      (out.length = 1 ∨ ∃ vs, v' = .tuple vs ∧ vs.size = out.length) ∧
      (∀ j, (out.getD j .any).holds s' w' g0 (resV out.length v' j) (Fr j)) ∧ (∀ i, (outs.getD i .any).holds s' w' g0 (args.getD i undef) (F' i)) ∧
      (∀ i j b, Fr i b → Fr j b → i = j) ∧ (∀ i j b, F' i b → F' j b → i = j) ∧ (∀ i j b, Fr i b → ¬ F' j b) ∧
      (∀ i b, Fr i b → s' b = none ∧ (w.heap.size ≤ b ∨ ∃ i, F i b)) ∧ (∀ i b, F' i b → s' b = none ∧ (w.heap.size ≤ b ∨ ∃ i, F i b)) := by
    rintro a w' ⟨hdf, v, s', F', Fr, h1, h2, h3, h4, h5, h6, h7, h8, h8', h9, h10, h11, h12, h13⟩
    refine ⟨hdf, v, h1, v, s', F', Fr, rfl, h2, h3, h4, h5, h6, h7, fun i => ?_, h9, h10, h11, h12, h13⟩
    rcases h8 i with h | ⟨u, hu, h⟩
    · rw [h]; exact h8' i h
    · have hu' : pnOf outs args i = some u := hu
      unfold pnOf at hu'
      split at hu'
      · cases hu'
      · injection hu' with hu'; rw [hu']; exact h
  refine wp_mono key ?_
  intro e a w' hq
  cases e with
  | ret => exact fin a w' hq
  | normal => exact fin a w' hq
  | exit id => exact hq.elim
  | goto l => exact hq.elim
  | panic ch => exact hq.elim
  | outgrown => exact hq.elim
where hdj2 {F : Nat → FS} (h : ∀ i j b, F i b → F j b → i = j) : ∀ t t' b, F t b → F t' b → t = t' := h

section
variable {C : Cx} {env env' : Env} {Q : Exit → Act → World → Prop} {o : Oper} {fn : Func} {p q r : Operand} {c : Code} {ops : Array Oper} {l : List Oper} {d t : Nat} {T T' S E : TypeId} {α β γ : Type} {k : Kd α} {k' : Kd β}

/-- The slot's value is what slot t holds. -/
def At (env : Env) (r t : Nat) : Prop := r < 10000 ∧ t < 10000 ∧ (t = r ∨ env r = .ali t)
theorem At.self (h : t < 10000) : At env t t := ⟨h, h, .inl rfl⟩
theorem At.ali {r : Nat} (h : env r = .ali t) (hr : r < 10000) (ht : t < 10000) : At env r t := ⟨hr, ht, .inr h⟩
theorem At.val {r : Nat} (h : At env r t) {s F a w} (hr : Rel C.N C.w0 C.hd C.pn C.s0 env s F a w) : gv a.tmps r = gv a.tmps t := by
  rcases h.2.2 with h1 | h1
  · rw [h1]
  · have := hr.slot r
    rw [h1] at this
    exact this.1.1

/-- What is told of the arguments at the end. -/
def OutsOK (C : Cx) (env : Env) (outs : List As) (ts : List Nat) : Prop := ∀ i, outs.getD i .any = .any ∨ ((C.pn i).isSome = true ∧ env i = outs.getD i .any ∧ (outs.getD i .any).free = true ∧ i ∉ ts)
theorem OutsOK.nil {ts : List Nat} : OutsOK C env [] ts := fun i => .inl rfl

end
end Go.Proofs.YtfnkphllkbkfaaaDoor.VL
