/- Proved here: rules for regions whose order is open, for tuples' parts, and for cuts of what is shared. With the words of VA. General: over every program. -/
import Derived.Test.YtfnkphllkbkfaaaDoorVJ
import Derived.Orders
set_option linter.unusedVariables false
set_option linter.unusedSimpArgs false
namespace Go.Proofs.YtfnkphllkbkfaaaDoor.VL
open Go

section
variable {C : Cx} {env env' env0 : Env} {Q : Exit → Act → World → Prop} {o : Oper} {fn : Func} {p q r : Operand} {c : Code} {ops : Array Oper} {l : List Oper} {d t : Nat} {T T' S E : TypeId} {α β γ : Type} {k : Kd α} {k' : Kd β}

theorem updK_self (env : Env) (d : Nat) (A : As) : updK env d A d = A := if_pos rfl
theorem updK_ne (env : Env) {d u : Nat} (A : As) (h : u ≠ d) : updK env d A u = env u := if_neg h
theorem updK_any_to (env : Env) (d : Nat) : ∀ u, updK env d .any u = .any ∨ updK env d .any u = env u := by
  intro u
  by_cases h : u = d
  · subst h; exact .inl (updK_self _ _ _)
  · exact .inr (updK_ne _ _ h)
/-! ### A tuple's part -/
theorem holds_ne_undef {s : Hp} {w : World} {g : Nat → Value} {F : FS} {A : As} (h : A.holds s w g undef F) : A = .any ∨ A = .val undef ∨ (∃ t, A = .ali t) ∨ (∃ (α β : Type) (t i : Nat) (k : Kd α) (o : Nat) (k' : Kd β) (f : α → β) (h : α → β → α), A = .pel t i k o k' f h) ∨ (∃ t lo hi z, A = .vw t lo hi z) ∨ (∃ O, A = .deep O ∧ O.sur = false) := by
  cases A with
  | any => exact .inl rfl
  | val u => exact .inr (.inl (by rw [h.1]))
  | cel k x => have := k.one h.1 undef (by simp); simp [undef, Value.oneCell'] at this
  | agg k x => obtain ⟨⟨cs, e, _⟩, _⟩ := h; simp [undef] at e
  | own E k xs =>
    obtain ⟨⟨cells, how, _⟩, _⟩ := h
    rcases how.2 with ⟨e, _⟩ | ⟨g, cap, cur, e, _⟩ <;> simp [undef] at e
  | box E k x => obtain ⟨b, cs, e, _⟩ := h; simp [undef] at e
  | ali t => exact .inr (.inr (.inl ⟨t, rfl⟩))
  | pel t i k o k' f h' => exact .inr (.inr (.inr (.inl ⟨_, _, t, i, k, o, k', f, h', rfl⟩)))
  | vw t lo hi z => exact .inr (.inr (.inr (.inr (.inl ⟨t, lo, hi, z, rfl⟩))))
  | deep O =>
    cases hs : O.sur with
    | true => exact (O.sure hs h).elim
    | false => exact .inr (.inr (.inr (.inr (.inr ⟨O, rfl, hs⟩))))
  | clo f k x => obtain ⟨⟨cs, e, _⟩, _⟩ := h; simp [undef] at e
  | cap f ts => obtain ⟨⟨e, _⟩, _⟩ := h; simp [undef] at e
def As.solid : As → Bool
  | .cel .. | .agg .. | .own .. | .box .. | .clo .. => true
  | .deep O => O.sur
  | _ => false
theorem solid_free {A : As} (h : A.solid = true) : A.free = true := by cases A <;> first | rfl | cases h
theorem run_extract {j : Nat} {A : As} (ht : t < 10000) (hA : env (t + 10000 * (j + 1)) = A) (hs : A.solid = true) {s F a w} (hr : Rel C.N C.w0 C.hd C.pn C.s0 env s F a w) :
    (Instr.extract (a.eval (.tmp t)) j).run C.P w = .ok (gv a.tmps (t + 10000 * (j + 1))) w := by
  have h1 := hr.slot (t + 10000 * (j + 1))
  rw [hA] at h1
  have hmod : (t + 10000 * (j + 1)) % 10000 = t := by omega
  have hdiv : (t + 10000 * (j + 1)) / 10000 - 1 = j := by omega
  have hgv : gv a.tmps (t + 10000 * (j + 1)) = match a.tmps.getD t undef with | .tuple vs => vs.getD j undef | _ => undef := by
    unfold gv
    rw [if_neg (by omega), hmod, hdiv]
    cases a.tmps.getD t undef <;> rfl
  have hnu : gv a.tmps (t + 10000 * (j + 1)) ≠ undef := by
    intro e
    rw [e] at h1
    rcases holds_ne_undef h1 with rfl | rfl | ⟨_, rfl⟩ | ⟨_, _, _, _, _, _, _, _, _, rfl⟩ | ⟨_, _, _, _, rfl⟩ | ⟨O, rfl, hO⟩ <;> first | (cases hs; done) | (have hs' : O.sur = true := hs; rw [hO] at hs'; cases hs')
  have he : a.eval (.tmp t) = a.tmps.getD t undef := rfl
  rw [he]
  rw [hgv] at hnu ⊢
  cases hv : a.tmps.getD t undef with
  | tuple vs =>
    rw [hv] at hnu
    simp only at hnu ⊢
    rw [Array.getD_eq_getD_getElem?] at hnu ⊢
    cases hj : vs[j]? with
    | none => rw [hj] at hnu; simp at hnu
    | some u => simp [Instr.extract, hj]
  | _ => rw [hv] at hnu; exact (hnu rfl).elim
theorem OpT.extract {j m : Nat} {A : As} (hH : Hd C o (.extract (.tmp t) j) d) (ht : t < 10000) (hm : m = t + 10000 * (j + 1)) (hA : env m = A) (hf : A.flat = true) (hs : A.solid = true) : OpT C o env (upd env d A) :=
  OpT.pure hH.2.1 hH.2.2 fun s F a w hr => by
    subst hm
    have h1 := hr.slot (t + 10000 * (j + 1))
    rw [hA] at h1
    refine ⟨_, by simp only [execOp, hH.1, Sem.run_bind]; rw [run_extract ht hA hs hr]; rfl, As.holds_free (As.flat_no h1 hf) (solid_free hs)⟩
/-! ### A region whose order is open -/
structure DI where
  d : Nat
  out : List As
  md : Bool
  nd : List Nat
/-- What such an operation writes: a slot (with its tuple's parts), or what a slot's memory holds. -/
def DI.upd (i : DI) (env : Env) : Env := if i.md then updK env i.d (i.out.getD 0 .any) else updRes env i.d i.out
def DI.at (i : DI) (t : Nat) : As := if i.md then (i.out.getD 0 .any) else if t = i.d then oneA i.out else partA i.out (t / 10000 - 1)
def DI.dep (i : DI) (d : Nat) : Bool := i.out.any fun A => A.dep d
/-- One operation of such a region: what it makes hangs on the slots 'nd' alone. -/
def DStep (C : Cx) (ops : Array Oper) (env : Env) (o : Oper) (i : DI) : Prop :=
  (∃ j want t, o.guard = some (j, want) ∧ (ops[j]?).bind (·.dst) = some t ∧ t ∈ i.nd ∧ (env t = .cel Kd.bool (!want) ∨ env t = .val undef) ∧ t < 10000 ∧ i.md = false ∧ (i.out = [.any] ∨ i.out = [.val undef]) ∧ o.dst = some i.d ∧ C.ok i.d) ∨
  ((o.guard = none ∨ (∃ j want t b, o.guard = some (j, want) ∧ (ops[j]?).bind (·.dst) = some t ∧ t ∈ i.nd ∧ env t = .cel Kd.bool b ∧ t < 10000 ∧ b = want)) ∧ ∀ env', (∀ t ∈ i.nd, env' t = env t) → OpT C o env' (i.upd env'))
inductive DC (C : Cx) (ops : Array Oper) : Env → List Oper → List DI → Env → Prop
  | nil (env : Env) : DC C ops env [] [] env
  | cons {env env' : Env} {o : Oper} {i : DI} {l : List Oper} {I : List DI} (h : DStep C ops env o i) (r : DC C ops (i.upd env) l I env') : DC C ops env (o :: l) (i :: I) env'

def ancOf (acc : List (List Nat)) (o : Oper) : List Nat :=
  o.after.toList.flatMap fun e => if Region.binds .any e then e.on :: acc.getD e.on [] else []
def ancs : List Oper → List (List Nat) → List (List Nat)
  | [], acc => acc
  | o :: l, acc => ancs l (acc ++ [ancOf acc o])
def idxOf (ds : List Nat) (t : Nat) : Option Nat := ds.findIdx? (· == t)
/-- Each operation waits for those whose slots it looks at, or they wait for it. -/
def dOK (l : List Oper) (I : List DI) : Bool :=
  let ds := I.map (·.d)
  let an := ancs l []
  decide (l.length = I.length) && decide ds.Nodup && ds.all (fun d => decide (d < 10000)) &&
  (List.range l.length).all fun j => match l[j]?, I[j]? with
    | some o, some i => o.after.all (fun e => !Region.binds .any e || decide (e.on < j)) && i.nd.all (fun t => match idxOf ds (t % 10000) with | some x => (an.getD j []).contains x || (decide (x < l.length) && (an.getD x []).contains j) || decide (x = j) | none => true) &&
        I.all (fun i' => i'.md || !i.dep i'.d || match idxOf ds i'.d with | some x => (an.getD j []).contains x | none => true)
    | _, _ => true
/-- Nothing speaks of a slot that the region writes. -/
def clean (e0 : List (Nat × As)) (I : List DI) : Bool := e0.all fun p => decide (p.1 < 10000) && I.all fun i => i.md || !p.2.dep i.d
theorem idxOf_some {ds : List Nat} {t x : Nat} (h : idxOf ds t = some x) : ds[x]? = some t := by
  unfold idxOf at h
  have h1 := List.findIdx?_eq_some_iff_getElem.1 h
  obtain ⟨hl, h2, _⟩ := h1
  rw [List.getElem?_eq_getElem hl]
  simpa using h2
theorem idxOf_none {ds : List Nat} {t : Nat} (h : idxOf ds t = none) : t ∉ ds := by
  unfold idxOf at h
  intro ht
  have := List.findIdx?_eq_none_iff.1 h t ht
  simp at this
theorem idxOf_get {ds : List Nat} (hn : ds.Nodup) {x t : Nat} (h : ds[x]? = some t) : idxOf ds t = some x := by
  cases hi : idxOf ds t with
  | none => exact (idxOf_none hi (List.mem_of_getElem? h)).elim
  | some y =>
    have h1 := idxOf_some hi
    have hx : x < ds.length := (List.getElem?_eq_some_iff.1 h).1
    have hy : y < ds.length := (List.getElem?_eq_some_iff.1 h1).1
    rw [List.getElem?_eq_getElem hx] at h
    rw [List.getElem?_eq_getElem hy] at h1
    have : ds[x] = ds[y] := by injection h with h; injection h1 with h1; rw [h, h1]
    rw [(List.getElem_inj hn).1 this]

/-- What is known once the operations that are listed are done. -/
def envL (env0 : Env) (I : List DI) (done : Nat → Prop) [DecidablePred done] : Env := fun t =>
  match idxOf (I.map (·.d)) (t % 10000) with
  | some x => if done x then (match I[x]? with | some i => if i.md && !(t == i.d) then env0 t else i.at t | none => .any) else env0 t
  | none => env0 t
/-- In the text's order. -/
def envT (env0 : Env) (I : List DI) : Env := I.foldl (fun e i => i.upd e) env0
theorem DC.get {env env' : Env} {l : List Oper} {I : List DI} (h : DC C ops env l I env') : env' = envT env I ∧ l.length = I.length ∧ ∀ j o i, l[j]? = some o → I[j]? = some i → DStep C ops (envT env (I.take j)) o i := by
  induction h with
  | nil env => exact ⟨rfl, rfl, fun j o i h => by simp at h⟩
  | cons h r ih =>
    obtain ⟨h1, h2, h3⟩ := ih
    refine ⟨h1, by simp [h2], fun j o i ho hi => ?_⟩
    cases j with
    | zero => simp at ho hi; subst ho; subst hi; exact h
    | succ j => exact h3 j o i (by simpa using ho) (by simpa using hi)
theorem ancs_pre : ∀ (l : List Oper) (acc : List (List Nat)), ∃ r, ancs l acc = acc ++ r ∧ r.length = l.length
  | [], acc => ⟨[], by simp [ancs], rfl⟩
  | o :: l, acc => by
    obtain ⟨r, h1, h2⟩ := ancs_pre l (acc ++ [ancOf acc o])
    exact ⟨ancOf acc o :: r, by simp [ancs, h1], by simp [h2]⟩
theorem ancs_at : ∀ (l : List Oper) (acc : List (List Nat)) (j : Nat) (o : Oper), l[j]? = some o →
    (ancs l acc).getD (acc.length + j) [] = ancOf ((ancs l acc).take (acc.length + j)) o
  | [], acc, j, o, h => by simp at h
  | o' :: l, acc, 0, o, h => by
    simp at h
    subst h
    obtain ⟨r, h1, h2⟩ := ancs_pre l (acc ++ [ancOf acc o'])
    simp only [ancs, h1, Nat.add_zero]
    rw [List.append_assoc, List.take_left]
    simp
  | o' :: l, acc, j + 1, o, h => by
    have h1 := ancs_at l (acc ++ [ancOf acc o']) j o (by simpa using h)
    simp only [List.length_append, List.length_singleton] at h1
    simp only [ancs]
    rw [show acc.length + (j + 1) = acc.length + 1 + j by omega]
    exact h1
theorem mem_ancOf {acc : List (List Nat)} {x : Nat} : x ∈ ancOf acc o ↔ ∃ e ∈ o.after, Region.binds .any e = true ∧ (x = e.on ∨ x ∈ acc.getD e.on []) := by
  unfold ancOf
  rw [List.mem_flatMap]
  constructor
  · rintro ⟨e, he, hx⟩
    split at hx
    · exact ⟨e, by simpa using he, by assumption, by simpa using hx⟩
    · cases hx
  · rintro ⟨e, he, hb, hx⟩
    refine ⟨e, by simpa using he, ?_⟩
    rw [if_pos hb]
    simpa using hx

/-- What the look gives. -/
structure DGood (l : List Oper) (I : List DI) : Prop where
  len : l.length = I.length
  nd : (I.map (·.d)).Nodup
  lt : ∀ i ∈ I, i.d < 10000
  edge : ∀ j o, l[j]? = some o → ∀ e ∈ o.after, Region.binds .any e = true → e.on < j
  need : ∀ j o i, l[j]? = some o → I[j]? = some i → ∀ t ∈ i.nd, ∀ x, idxOf (I.map (·.d)) (t % 10000) = some x → (x ∈ (ancs l []).getD j [] ∨ (x < l.length ∧ j ∈ (ancs l []).getD x [])) ∨ x = j
  deps : ∀ j o i, l[j]? = some o → I[j]? = some i → ∀ x i', I[x]? = some i' → i'.md = false → i.dep i'.d = true → x ∈ (ancs l []).getD j []
theorem dOK_good {I : List DI} (h : dOK l I = true) : DGood l I := by
  unfold dOK at h
  simp only [Bool.and_eq_true, decide_eq_true_eq, List.all_eq_true, List.mem_range, List.mem_map, forall_exists_index, and_imp, forall_apply_eq_imp_iff₂] at h
  obtain ⟨⟨⟨h1, h2⟩, h3⟩, h4⟩ := h
  have get : ∀ j o i, l[j]? = some o → I[j]? = some i → (∀ e ∈ o.after, Region.binds .any e = true → e.on < j) ∧ (∀ t ∈ i.nd, ∀ x, idxOf (I.map (·.d)) (t % 10000) = some x → (x ∈ (ancs l []).getD j [] ∨ (x < l.length ∧ j ∈ (ancs l []).getD x [])) ∨ x = j) ∧
      (∀ x i', I[x]? = some i' → i'.md = false → i.dep i'.d = true → x ∈ (ancs l []).getD j []) := by
    intro j o i ho hi
    have hj : j < l.length := (List.getElem?_eq_some_iff.1 ho).1
    have h5 := h4 j hj
    rw [ho, hi] at h5
    simp only [Bool.and_eq_true, Array.all_eq_true_iff_forall_mem, List.all_eq_true, Bool.or_eq_true, Bool.not_eq_true', decide_eq_true_eq] at h5
    obtain ⟨⟨h6, h7⟩, h8⟩ := h5
    refine ⟨fun e he hb => (h6 e he).resolve_left (by simp [hb]), fun t ht x hx => ?_, fun x i' hx hmd hd => ?_⟩
    · have := h7 t ht
      rw [hx] at this
      simpa using this
    · have h9 := h8 i' (List.mem_of_getElem? hx)
      rw [idxOf_get h2 (by rw [List.getElem?_map, hx]; rfl)] at h9
      rcases h9 with (h9 | h9) | h9
      · rw [hmd] at h9; cases h9
      · rw [hd] at h9; cases h9
      · simpa using h9
  refine ⟨h1, h2, h3, fun j o ho => ?_, fun j o i ho hi => (get j o i ho hi).2.1, fun j o i ho hi => (get j o i ho hi).2.2⟩
  have hj : j < l.length := (List.getElem?_eq_some_iff.1 ho).1
  exact (get j o I[j] ho (List.getElem?_eq_getElem (by omega))).1
theorem keep_none : ∀ (e0 : List (Nat × As)) (t : Nat), (∀ p ∈ e0, p.1 ≠ t) → keep e0 t = .any
  | [], t, _ => rfl
  | (d, A) :: r, t, h => by
    unfold keep
    rw [if_neg (fun e => h (d, A) (by simp) e.symm)]
    exact keep_none r t (fun p hp => h p (by simp [hp]))
theorem keep_mem : ∀ (e0 : List (Nat × As)) (t : Nat), keep e0 t = .any ∨ ∃ p ∈ e0, keep e0 t = p.2
  | [], t => .inl rfl
  | (d, A) :: r, t => by
    unfold keep
    by_cases h : t = d
    · rw [if_pos h]; exact .inr ⟨(d, A), by simp, rfl⟩
    · rw [if_neg h]
      rcases keep_mem r t with h1 | ⟨p, hp, h1⟩
      · exact .inl h1
      · exact .inr ⟨p, by simp [hp], h1⟩
theorem at_dep {i : DI} {t d : Nat} (h : (i.at t).dep d = true) : i.dep d = true := by
  unfold DI.dep
  rw [List.any_eq_true]
  have mem : ∀ n, (i.out.getD n .any).dep d = true → ∃ x ∈ i.out, x.dep d = true := by
    intro n hn
    rw [List.getD_eq_getElem?_getD] at hn
    cases hx : i.out[n]? with
    | none => rw [hx] at hn; simp [As.dep] at hn
    | some A => rw [hx] at hn; exact ⟨A, List.mem_of_getElem? hx, hn⟩
  unfold DI.at at h
  split at h
  · exact mem 0 h
  · split at h
    · generalize ho : i.out = out at h
      match out, ho, h with
      | [], _, h => simp [oneA, As.dep] at h
      | [A], ho, h => exact ⟨A, by simp, h⟩
      | A :: B :: l, _, h => simp [oneA, As.dep] at h
    · generalize ho : i.out = out at h
      match out, ho, h with
      | [], _, h => simp [partA, As.dep] at h
      | [A], ho, h => simp [partA, As.dep] at h
      | A :: B :: l, ho, h =>
        have h1 := mem (t / 10000 - 1) (by rw [ho]; exact h)
        rw [ho] at h1
        exact h1
theorem dep_any : ∀ {d : Nat}, ¬ (As.any.dep d = true) := by intro d; simp [As.dep]

/-- One step forward. -/
theorem envL_next {e0 : List (Nat × As)} {I : List DI} (hg : DGood l I) (hcl : clean e0 I = true) {j : Nat} {o : Oper} {i : DI} (ho : l[j]? = some o) (hi : I[j]? = some i) (D D' : Nat → Prop) [DecidablePred D] [DecidablePred D'] (hD : ¬ D j) (hD' : ∀ x, D' x ↔ x = j ∨ D x)
    (hclo : ∀ x, D x → ∀ y ∈ (ancs l []).getD x [], D y) : i.upd (envL (keep e0) I D) = envL (keep e0) I D' := by
  have hidx : idxOf (I.map (·.d)) i.d = some j := idxOf_get hg.nd (by rw [List.getElem?_map, hi]; rfl)
  have hid : i.d < 10000 := hg.lt i (List.mem_of_getElem? hi)
  have hcl' : ∀ p ∈ e0, p.1 < 10000 ∧ (i.md = false → p.2.dep i.d = false) := by
    intro p hp
    have h1 := List.all_eq_true.1 hcl p hp
    simp only [Bool.and_eq_true, decide_eq_true_eq, List.all_eq_true, Bool.or_eq_true, Bool.not_eq_true'] at h1
    exact ⟨h1.1, fun hm => (h1.2 i (List.mem_of_getElem? hi)).resolve_left (by rw [hm]; simp)⟩
  have hsame : ∀ t, t % 10000 ≠ i.d → envL (keep e0) I D t = envL (keep e0) I D' t := by
    intro t ht
    unfold envL
    cases hx : idxOf (I.map (·.d)) (t % 10000) with
    | none => rfl
    | some x =>
      have hxj : x ≠ j := fun e => by
        subst e
        have h1 := idxOf_some hx
        have h2 := idxOf_some hidx
        rw [h1] at h2
        injection h2 with h2
        exact ht h2
      simp only
      by_cases hd : D x
      · rw [if_pos hd, if_pos ((hD' x).2 (.inr hd))]
      · rw [if_neg hd, if_neg (fun h => ((hD' x).1 h).elim hxj hd)]
  have hnew : ∀ t, t % 10000 = i.d → envL (keep e0) I D t = keep e0 t ∧ envL (keep e0) I D' t = (if i.md && !(t == i.d) then keep e0 t else i.at t) := by
    intro t ht
    unfold envL
    rw [ht, hidx]
    simp only
    rw [if_neg hD, if_pos ((hD' j).2 (.inl rfl)), hi]
    exact ⟨rfl, rfl⟩
  funext t
  unfold DI.upd
  by_cases hmd : i.md = true
  · rw [if_pos hmd]
    by_cases ht : t = i.d
    · subst ht
      have h1 := (hnew i.d (Nat.mod_eq_of_lt hid)).2
      rw [h1]
      simp [updK, DI.at, hmd]
    · rw [updK_ne _ _ ht]
      by_cases htm : t % 10000 = i.d
      · have h1 := hnew t htm
        rw [h1.1, h1.2, if_pos (by simp [hmd, ht])]
      · exact hsame t htm
  · have hmd' : i.md = false := by simpa using hmd
    rw [if_neg hmd]
    unfold updRes
    by_cases ht : t = i.d
    · subst ht
      rw [if_pos rfl, (hnew i.d (Nat.mod_eq_of_lt hid)).2]
      simp [DI.at, hmd']
    · rw [if_neg ht]
      by_cases hof : ofSlot i.d t = true
      · rw [if_pos hof]
        have htm : t % 10000 = i.d := by simpa [ofSlot] using hof
        rw [(hnew t htm).2, if_neg (by simp [hmd'])]
        unfold DI.at
        rw [if_neg hmd, if_neg ht]
      · rw [if_neg hof]
        have htm : t % 10000 ≠ i.d := by simpa [ofSlot] using hof
        have hdep : ¬ (envL (keep e0) I D t).dep i.d = true := by
          have hkeep : ¬ (keep e0 t).dep i.d = true := by
            rcases keep_mem e0 t with h | ⟨p, hp, h⟩
            · rw [h]; exact dep_any
            · rw [h, (hcl' p hp).2 hmd']; simp
          unfold envL
          cases hx : idxOf (I.map (·.d)) (t % 10000) with
          | none => exact hkeep
          | some x =>
            simp only
            split
            · rename_i hd
              cases hxi : I[x]? with
              | none => exact dep_any
              | some i' =>
                simp only
                split
                · exact hkeep
                · intro hdd
                  have hxl : x < l.length := by rw [hg.len]; exact (List.getElem?_eq_some_iff.1 hxi).1
                  exact hD (hclo x hd j (hg.deps x l[x] i' (List.getElem?_eq_getElem hxl) hxi j i hi hmd' (at_dep hdd)))
            · exact hkeep
        rw [if_neg hdep]
        exact hsame t htm

theorem anc_lt {I : List DI} (hg : DGood l I) : ∀ (j : Nat) (o : Oper), l[j]? = some o → ∀ x ∈ (ancs l []).getD j [], x < j := by
  intro j
  induction j using Nat.strongRecOn with
  | _ j ih =>
    intro o ho x hx
    have h1 := ancs_at l [] j o ho
    simp only [List.length_nil, Nat.zero_add] at h1
    rw [h1] at hx
    obtain ⟨e, he, hb, hx⟩ := mem_ancOf.1 hx
    have hej := hg.edge j o ho e he hb
    rcases hx with rfl | hx
    · exact hej
    · have hjl : j < l.length := (List.getElem?_eq_some_iff.1 ho).1
      have h2 : ((ancs l []).take j).getD e.on [] = (ancs l []).getD e.on [] := by
        rw [List.getD_eq_getElem?_getD, List.getD_eq_getElem?_getD, List.getElem?_take, if_pos hej]
      rw [h2] at hx
      have := ih e.on hej l[e.on] (List.getElem?_eq_getElem (by omega)) x hx
      omega
/-- In the text's order. -/
theorem envT_take {e0 : List (Nat × As)} {I : List DI} (hg : DGood l I) (hcl : clean e0 I = true) : ∀ j, j ≤ l.length → envT (keep e0) (I.take j) = envL (keep e0) I (fun x => x < j) := by
  intro j
  induction j with
  | zero =>
    intro _
    funext t
    unfold envL
    simp only [List.take_zero]
    cases idxOf (I.map (·.d)) (t % 10000) with
    | none => rfl
    | some x => simp only [Nat.not_lt_zero, if_false]; rfl
  | succ j ih =>
    intro hj
    have hjI : j < I.length := by rw [← hg.len]; omega
    have h1 := ih (by omega)
    have h2 : envT (keep e0) (I.take (j + 1)) = I[j].upd (envT (keep e0) (I.take j)) := by
      unfold envT
      rw [List.take_succ_eq_append_getElem hjI, List.foldl_append]
      rfl
    rw [h2, h1]
    refine envL_next hg hcl (List.getElem?_eq_getElem (by omega : j < l.length)) (List.getElem?_eq_getElem hjI) _ _ (by omega) (fun x => by omega) (fun x hx y hy => ?_)
    have := anc_lt hg x l[x] (List.getElem?_eq_getElem (by omega)) y hy
    omega

theorem draw_go {e0 : List (Nat × As)} {I : List DI} (hg : DGood l I) (hcl : clean e0 I = true) (hst : ∀ j o i, l[j]? = some o → I[j]? = some i → DStep C l.toArray (envT (keep e0) (I.take j)) o i)
    (k : AX C .normal (envT (keep e0) I) Q) : ∀ (fuel : Nat) (listed : Array Bool) (a : Act) (w : World), listed.size = l.length →
      ((List.range l.length).filter fun i => !listed.getD i true).length ≤ fuel →
      (∀ i, listed.getD i false = true → ∀ x ∈ (ancs l []).getD i [], listed.getD x false = true) →
      C.R (envL (keep e0) I (fun x => listed.getD x false = true)) a w → wpAny C.P .any l.toArray Q fuel listed a w := by
  have hfin : ∀ (listed : Array Bool), (∀ j, j < l.length → listed.getD j false = true) → envL (keep e0) I (fun x => listed.getD x false = true) = envT (keep e0) I := by
    intro listed hall
    have h1 := envT_take hg hcl l.length (Nat.le_refl _)
    rw [hg.len, List.take_length] at h1
    rw [h1]
    funext t
    unfold envL
    cases hi : idxOf (I.map (·.d)) (t % 10000) with
    | none => rfl
    | some x =>
      have hx : x < l.length := by
        have := idxOf_some hi
        rw [List.getElem?_map] at this
        cases hxi : I[x]? with
        | none => rw [hxi] at this; cases this
        | some i => rw [hg.len]; exact (List.getElem?_eq_some_iff.1 hxi).1
      simp only
      rw [if_pos (hall x hx), if_pos (by rw [← hg.len]; exact hx)]
  intro fuel
  induction fuel with
  | zero =>
    intro listed a w hsz hcnt hclo hr
    have hall0 : ∀ j, j < l.length → listed.getD j true = true := by
      intro j hj
      cases hb : listed.getD j true with
      | true => rfl
      | false =>
        have : j ∈ (List.range l.length).filter fun i => !listed.getD i true := List.mem_filter.2 ⟨List.mem_range.2 hj, by rw [hb]; rfl⟩
        rw [List.eq_nil_of_length_eq_zero (Nat.le_zero.1 hcnt)] at this
        cases this
    have hall : ∀ j, j < l.length → listed.getD j false = true := fun j hj => by
      have := hall0 j hj
      rw [Array.getD_eq_getD_getElem?, Array.getElem?_eq_getElem (by omega)] at this ⊢
      simpa using this
    have hnil : Region.ready .any l.toArray listed = [] := by
      rw [List.eq_nil_iff_forall_not_mem]
      intro j hj
      obtain ⟨h1, o, ho, _⟩ := mem_ready.1 hj
      have hj' : j < l.length := by
        have := (Array.getElem?_eq_some_iff.1 ho).1
        simpa using this
      rw [hall0 j hj'] at h1
      cases h1
    exact ⟨hnil, k a w (by rw [← hfin listed hall]; exact hr)⟩
  | succ fuel ih =>
    intro listed a w hsz hcnt hclo hr
    refine ⟨fun hnil => ?_, fun j hj => ?_⟩
    · -- nothing can come up: all have come up
      have hall : ∀ j, j < l.length → listed.getD j false = true := by
        intro j
        induction j using Nat.strongRecOn with
        | _ j ihj =>
          intro hjl
          cases hb : listed.getD j false with
          | true => rfl
          | false =>
            exfalso
            have hmem : j ∈ Region.ready .any l.toArray listed := by
              refine mem_ready.2 ⟨?_, l[j], by simp [hjl], fun e he hbd => ?_⟩
              · rw [Array.getD_eq_getD_getElem?, Array.getElem?_eq_getElem (by omega)] at hb ⊢
                simpa using hb
              · have := hg.edge j l[j] (List.getElem?_eq_getElem hjl) e he hbd
                exact ihj e.on this (by omega)
            rw [hnil] at hmem
            cases hmem
      exact k a w (by rw [← hfin listed hall]; exact hr)
    · obtain ⟨hun, o, ho', hedges⟩ := mem_ready.1 hj
      have ho : l[j]? = some o := by simpa using ho'
      have hjl : j < l.length := (List.getElem?_eq_some_iff.1 ho).1
      have hjI : j < I.length := by rw [← hg.len]; exact hjl
      have hi : I[j]? = some I[j] := List.getElem?_eq_getElem hjI
      generalize hii : I[j] = i at hi
      have hunf : ¬ listed.getD j false = true := by
        rw [Array.getD_eq_getD_getElem?, Array.getElem?_eq_getElem (by omega)] at hun ⊢
        simpa using hun
      have hset : ∀ x, (listed.setIfInBounds j true).getD x false = true ↔ x = j ∨ listed.getD x false = true := by
        intro x
        by_cases hxj : x = j
        · subst hxj
          simp [Array.getD_eq_getD_getElem?, show x < listed.size by omega]
        · rw [getD_set_ne false (Ne.symm hxj)]
          simp [hxj]
      -- what it waits for has come up
      have hanc : ∀ x ∈ (ancs l []).getD j [], listed.getD x false = true := by
        intro x hx
        have h1 := ancs_at l [] j o ho
        simp only [List.length_nil, Nat.zero_add] at h1
        rw [h1] at hx
        obtain ⟨e, he, hb, hx⟩ := mem_ancOf.1 hx
        have hej := hg.edge j o ho e he hb
        have h2 := hedges e he hb
        rcases hx with rfl | hx
        · exact h2
        · have h3 : ((ancs l []).take j).getD e.on [] = (ancs l []).getD e.on [] := by
            rw [List.getD_eq_getElem?_getD, List.getD_eq_getElem?_getD, List.getElem?_take, if_pos hej]
          rw [h3] at hx
          exact hclo e.on h2 x hx
      have hstep := hst j o i ho hi
      have hneed : ∀ t ∈ i.nd, envL (keep e0) I (fun x => listed.getD x false = true) t = envT (keep e0) (I.take j) t := by
        intro t ht
        rw [envT_take hg hcl j (by omega)]
        unfold envL
        cases hx : idxOf (I.map (·.d)) (t % 10000) with
        | none => rfl
        | some x =>
          simp only
          rcases hg.need j o i ho hi t ht x hx with (hxa | ⟨hxl, hxa⟩) | rfl
          · rw [if_pos (hanc x hxa), if_pos (anc_lt hg j o ho x hxa)]
          · have hjx := anc_lt hg x l[x] (List.getElem?_eq_getElem hxl) j hxa
            rw [if_neg (fun h => hunf (hclo x h j hxa)), if_neg (by omega)]
          · rw [if_neg hunf, if_neg (by omega)]
      have hnext := envL_next hg hcl ho hi (fun x => listed.getD x false = true) (fun x => (listed.setIfInBounds j true).getD x false = true) hunf hset hclo
      have hgo : ∀ a' w', C.R (i.upd (envL (keep e0) I (fun x => listed.getD x false = true))) a' w' → wpAny C.P .any l.toArray Q fuel (listed.setIfInBounds j true) a' w' := by
        intro a' w' hr'
        refine ih (listed.setIfInBounds j true) a' w' (by simp [hsz]) ?_ ?_ (by rw [← hnext]; exact hr')
        · -- one fewer is left
          have hsub : ((List.range l.length).filter fun x => !(listed.setIfInBounds j true).getD x true).length < ((List.range l.length).filter fun x => !listed.getD x true).length := by
            have e1 : ((List.range l.length).filter fun x => !(listed.setIfInBounds j true).getD x true) = ((List.range l.length).filter fun x => !listed.getD x true).filter fun x => !(x == j) := by
              rw [List.filter_filter]
              apply List.filter_congr
              intro x hx
              by_cases hxj : x = j
              · subst hxj
                simp [Array.getD_eq_getD_getElem?, show x < listed.size by omega]
              · rw [getD_set_ne true (Ne.symm hxj)]
                simp [hxj]
            rw [e1]
            refine List.length_filter_lt_length_iff_exists.2 ⟨j, List.mem_filter.2 ⟨List.mem_range.2 hjl, by rw [hun]; rfl⟩, by simp⟩
          omega
        · intro x hx y hy
          rcases (hset x).1 hx with rfl | h
          · exact (hset y).2 (.inr (hanc y hy))
          · exact (hset y).2 (.inr (hclo x h y hy))
      unfold wpOp
      simp only [ho']
      rcases hstep with ⟨jg, want, tg, hgd, hgt, hgn, hgb, hgl, hmd, hout, hdst, hok⟩ | ⟨hgd, hstep⟩
      · have h1 : Region.wanted o (yielded l.toArray a.tmps) = false := by
          rcases hgb with hgb | hgb
          · rw [wanted_of (C := C) (ops := l.toArray) hgd hgt (by rw [hneed tg hgn]; exact hgb) hgl hr]; cases want <;> rfl
          · exact wanted_no (C := C) (ops := l.toArray) hgd hgt (by rw [hneed tg hgn]; exact hgb) hgl hr
        rw [if_neg (by rw [h1]; simp)]
        rw [hdst]
        obtain ⟨s, F, hr'⟩ := hr
        refine hgo _ _ ?_
        unfold DI.upd
        rcases hout with hout | hout <;> rw [hmd, hout]
        · exact hr'.put0 hok.1 (Nat.lt_of_lt_of_le hok.1 C.hN) hok.2 (fun b hb => hb)
        · exact hr'.put0 hok.1 (Nat.lt_of_lt_of_le hok.1 C.hN) hok.2 ⟨rfl, fun b hb => hb⟩
      · have hw : Region.wanted o (yielded l.toArray a.tmps) = true := by
          rcases hgd with hgd | ⟨jg, want, tg, b, hgd, hgt, hgn, hgb, hgl, hbw⟩
          · simp [Region.wanted, hgd]
          · have h1 := wanted_of (C := C) (ops := l.toArray) hgd hgt (by rw [hneed tg hgn]; exact hgb) hgl hr
            rw [h1, hbw]; simp
        rw [if_pos hw]
        exact .inl (hstep _ hneed Q _ a w hr hgo)

/-- A REGION WHOSE ORDER IS OPEN: its operations need only be walked in the text's order. -/
theorem AW.draw {id : Nat} {e0 : List (Nat × As)} {I : List DI} (hm : C.P.follows .mixedOrders = true) (hdc : DC C l.toArray (keep e0) l I env') (hok : dOK l I = true) (hcl : clean e0 I = true) (k : AX C .normal env' Q) :
    AW C (.region id l.toArray true) (keep e0) Q := by
  intro a w hr
  obtain ⟨h1, h2, h3⟩ := hdc.get
  refine wp_region_any hm ?_
  obtain ⟨s, F, hr'⟩ := hr
  refine draw_go (dOK_good hok) hcl h3 (by rw [← h1]; exact k) l.toArray.size (Array.replicate l.toArray.size false) a { w with drawn := w.drawn + 1 } (by simp) ?_ ?_ ?_
  · exact Nat.le_trans (List.length_filter_le _ _) (by simp)
  · intro i hi
    exfalso
    rw [Array.getD_eq_getD_getElem?, Array.getElem?_replicate] at hi
    split at hi <;> simp at hi
  · have he : envL (keep e0) I (fun x => (Array.replicate l.toArray.size false).getD x false = true) = keep e0 := by
      funext t
      unfold envL
      cases hx : idxOf (I.map (·.d)) (t % 10000) with
      | none => rfl
      | some x =>
        simp only
        rw [if_neg]
        intro hi
        rw [Array.getD_eq_getD_getElem?, Array.getElem?_replicate] at hi
        split at hi <;> simp at hi
    rw [he]
    exact ⟨s, F, hr'.dfr, hr'.size, fun t => As.holds_frame (hr'.slot t) (fun b _ => rfl), hr'.disj, hr'.mine, hr'.fz, ⟨hr'.keep.os, hr'.keep.tape, hr'.keep.output, hr'.keep.size, hr'.keep.block⟩, hr'.pin, hr'.ext, hr'.new⟩
end
end Go.Proofs.YtfnkphllkbkfaaaDoor.VL
