/- Proved here: regions whose order is open, where an operation may write several slots, and several operations may write one slot. General: over every program. -/
import Derived.Test.YtfnkphllkbkfaaaDoorVR
set_option linter.unusedVariables false
set_option linter.unusedSimpArgs false
namespace Go.Proofs.YtfnkphllkbkfaaaDoor.VL
open Go
/-- What is written: a slot (with its tuple's parts), or what a slot's memory holds. -/
inductive Pm : Type 1
  | res (d : Nat) (out : List As)
  | mod (t : Nat) (A : As)
def Pm.slot : Pm → Nat
  | .res d _ => d
  | .mod t _ => t
def Pm.md : Pm → Bool
  | .res .. => false
  | .mod .. => true
def Pm.outs : Pm → List As
  | .res _ out => out
  | .mod _ A => [A]
def Pm.at (p : Pm) (t : Nat) (B : As) : As := match p with
  | .res d out => if t = d then oneA out else if ofSlot d t then partA out (t / 10000 - 1) else if B.dep d then .any else B
  | .mod d A => if t = d then A else B
def Pm.dep (p : Pm) (s : Nat) : Bool := p.outs.any fun A => A.dep s
structure DJ where
  ps : List Pm
  nd : List Nat
def DJ.at (i : DJ) (t : Nat) (B : As) : As := i.ps.foldl (fun B p => p.at t B) B
def DJ.upd (i : DJ) (env : Env) : Env := fun t => i.at t (env t)
def DJ.has (i : DJ) (s : Nat) : Bool := i.ps.any fun p => p.slot == s
def DJ.res (i : DJ) : List Nat := (i.ps.filter fun p => !p.md).map Pm.slot
/-- Two writings that may change places. -/
def Pm.comm (p q : Pm) : Bool := !(p.slot == q.slot) && (q.md || !(p.dep q.slot)) && (p.md || !(q.dep p.slot))
def DJ.comm (i j : DJ) : Bool := i.ps.all fun p => j.ps.all fun q => p.comm q
def As.deps : As → List Nat
  | .ali t => [t]
  | .pel t _ _ _ _ _ _ => [t]
  | .cap _ ts => ts
  | .vw t _ _ _ => [t]
  | _ => []
theorem As.deps_iff (A : As) (s : Nat) : A.dep s = true ↔ s ∈ A.deps := by
  cases A with
  | ali t => exact ⟨fun h => by have : t = s := by simpa [As.dep] using h
                                subst this; exact List.mem_singleton.2 rfl, fun h => by have := List.mem_singleton.1 h; subst this; simp [As.dep]⟩
  | pel t => exact ⟨fun h => by have : t = s := by simpa [As.dep] using h
                                subst this; exact List.mem_singleton.2 rfl, fun h => by have := List.mem_singleton.1 h; subst this; simp [As.dep]⟩
  | cap f ts => simp [As.dep, As.deps]
  | vw t lo hi z => exact ⟨fun h => by have : t = s := by simpa [As.dep] using h
                                       subst this; exact List.mem_singleton.2 rfl, fun h => by have := List.mem_singleton.1 h; subst this; simp [As.dep]⟩
  | _ => simp [As.dep, As.deps]
/-- Which slots are written with words that speak of which. -/
def depsJ (I : List DJ) : List (Nat × Nat) := I.flatMap fun c => c.ps.flatMap fun p => (p.outs.flatMap As.deps).map fun s => (p.slot, s)
theorem depsJ_mem {I : List DJ} {c : DJ} (hc : c ∈ I) {p : Pm} (hp : p ∈ c.ps) {A : As} (hA : A ∈ p.outs) {s : Nat} (h : A.dep s = true) : (p.slot, s) ∈ depsJ I := by
  unfold depsJ
  rw [List.mem_flatMap]
  refine ⟨c, hc, List.mem_flatMap.2 ⟨p, hp, List.mem_map.2 ⟨s, List.mem_flatMap.2 ⟨A, hA, (As.deps_iff A s).1 h⟩, rfl⟩⟩⟩
def relB (an : List (List Nat)) (x j : Nat) : Bool := x == j || (an.getD j []).contains x || (an.getD x []).contains j
def dOKj (l : List Oper) (I : List DJ) : Bool :=
  let an := ancs l []
  let J := I.zipIdx
  decide (l.length = I.length) && I.all (fun i => i.ps.all fun p => decide (p.slot < 10000)) &&
  (l.zipIdx.all fun oj => oj.1.after.all fun e => !Region.binds .any e || decide (e.on < oj.2)) &&
  (J.all fun a => J.all fun b => Nat.ble b.2 a.2 || a.1.comm b.1 || (an.getD b.2 []).contains a.2) &&
  (J.all fun a => a.1.nd.all fun t => J.all fun b => (!(b.1.has (t % 10000)) && (depsJ I).all fun z => !(z.1 == t % 10000) || !(b.1.res.contains z.2)) || relB an b.2 a.2)
def cleanj (e0 : List (Nat × As)) (I : List DJ) : Bool := e0.all fun p => p.2.deps.all fun s => I.all fun i => !(i.res.contains s)

/-! ### Single writings -/
theorem any_dep (s : Nat) : As.any.dep s = false := rfl
theorem any_of {l : List As} {f : As → Bool} (h : (l.any f) = false) {A : As} (hA : A ∈ l) : f A = false := by
  have := List.any_eq_false.1 h A hA
  simpa using this
theorem oneA_mem (out : List As) : oneA out = .any ∨ oneA out ∈ out := by
  match out with
  | [] => exact .inl rfl
  | [A] => exact .inr (by simp [oneA])
  | A :: B :: l => exact .inl rfl
theorem getD_mem (out : List As) (j : Nat) : out.getD j .any = .any ∨ out.getD j .any ∈ out := by
  rw [List.getD_eq_getElem?_getD]
  cases h : out[j]? with
  | none => exact .inl rfl
  | some A => exact .inr (List.mem_of_getElem? h)
theorem partA_mem (out : List As) (j : Nat) : partA out j = .any ∨ partA out j ∈ out := by
  match out with
  | [] => exact .inl rfl
  | [A] => exact .inl rfl
  | A :: B :: l => exact getD_mem _ j
theorem Pm.at_cases (p : Pm) (t : Nat) (B : As) (hp : p.slot < 10000) : (t % 10000 = p.slot ∧ ((p.at t B = .any ∨ p.at t B ∈ p.outs) ∧ (∀ B', p.at t B' = p.at t B) ∨ ∀ B', p.at t B' = B')) ∨
    (t % 10000 ≠ p.slot ∧ ∀ B', p.at t B' = if p.md = false ∧ B'.dep p.slot = true then .any else B') := by
  cases p with
  | res d out =>
    by_cases h : t % 10000 = d
    · refine .inl ⟨h, .inl ?_⟩
      have key : ∀ B', Pm.at (.res d out) t B' = if t = d then oneA out else partA out (t / 10000 - 1) := fun B' => by
        unfold Pm.at
        by_cases h1 : t = d
        · simp [h1]
        · simp [h1, ofSlot, h]
      refine ⟨?_, fun B' => by rw [key, key]⟩
      rw [key]
      split
      · exact oneA_mem out
      · exact partA_mem out _
    · refine .inr ⟨h, fun B' => ?_⟩
      have h1 : t ≠ d := fun e => h (by subst e; exact Nat.mod_eq_of_lt hp)
      unfold Pm.at
      simp [h1, ofSlot, h, Pm.md, Pm.slot]
  | mod d A =>
    by_cases h : t % 10000 = d
    · refine .inl ⟨h, ?_⟩
      by_cases h1 : t = d
      · exact .inl ⟨.inr (by simp [Pm.at, h1, Pm.outs]), fun B' => by simp [Pm.at, h1]⟩
      · exact .inr fun B' => by simp [Pm.at, h1]
    · refine .inr ⟨h, fun B' => ?_⟩
      have h1 : t ≠ d := fun e => h (by subst e; exact Nat.mod_eq_of_lt hp)
      simp [Pm.at, h1, Pm.md]
theorem dep_outs {q p : Pm} (h : q.md = true ∨ p.dep q.slot = false) {A : As} (hA : A = .any ∨ A ∈ p.outs) : (if q.md = false ∧ A.dep q.slot = true then .any else A) = A := by
  rw [if_neg]
  rintro ⟨h1, h2⟩
  rcases h with h | h
  · rw [h] at h1; cases h1
  · rcases hA with rfl | hA
    · rw [any_dep] at h2; cases h2
    · have := any_of h hA; rw [h2] at this; cases this
theorem Pm.comm_at {p q : Pm} (hp : p.slot < 10000) (hq : q.slot < 10000) (h : p.comm q = true) (t : Nat) (B : As) : p.at t (q.at t B) = q.at t (p.at t B) := by
  simp only [Pm.comm, Bool.and_eq_true, Bool.or_eq_true, Bool.not_eq_true', beq_eq_false_iff_ne] at h
  obtain ⟨⟨hne, h1⟩, h2⟩ := h
  rcases p.at_cases t B hp with ⟨e1, hc⟩ | ⟨e1, hc⟩
  · rcases q.at_cases t B hq with ⟨e2, _⟩ | ⟨e2, hd⟩
    · exact absurd (e1.symm.trans e2) hne
    · rcases hc with ⟨hm, hconst⟩ | hid
      · rw [hconst (q.at t B), hd (p.at t B), dep_outs h1 hm]
      · rw [hid, hid]
  · rcases q.at_cases t B hq with ⟨e2, hd⟩ | ⟨e2, hd⟩
    · rcases hd with ⟨hm, hconst⟩ | hid
      · rw [hconst (p.at t B), hc (q.at t B), dep_outs h2 hm]
      · rw [hid, hid]
    · rw [hc (q.at t B), hd B, hd (p.at t B), hc B]
      by_cases a1 : p.md = false ∧ B.dep p.slot = true
      · by_cases a2 : q.md = false ∧ B.dep q.slot = true
        · rw [if_pos a1, if_pos a2]; simp [any_dep]
        · rw [if_pos a1, if_neg a2, if_pos a1]; simp [any_dep]
      · by_cases a2 : q.md = false ∧ B.dep q.slot = true
        · rw [if_neg a1, if_pos a2]; simp [any_dep]
        · rw [if_neg a1, if_neg a2, if_neg a1]
theorem foldl_comm1 {p : Pm} {t : Nat} : ∀ (l : List Pm) (B : As), (∀ q ∈ l, ∀ B, p.at t (q.at t B) = q.at t (p.at t B)) → p.at t (l.foldl (fun B q => q.at t B) B) = l.foldl (fun B q => q.at t B) (p.at t B)
  | [], B, _ => rfl
  | q :: l, B, h => by
    rw [List.foldl_cons, List.foldl_cons, foldl_comm1 l _ (fun q' hq' => h q' (by simp [hq'])), h q (by simp)]
theorem DJ.comm_at {i j : DJ} (hi : ∀ p ∈ i.ps, p.slot < 10000) (hj : ∀ p ∈ j.ps, p.slot < 10000) (h : i.comm j = true) (t : Nat) : ∀ B, i.at t (j.at t B) = j.at t (i.at t B) := by
  have h' : ∀ p ∈ i.ps, ∀ q ∈ j.ps, p.comm q = true := fun p hp q hq => List.all_eq_true.1 (List.all_eq_true.1 h p hp) q hq
  unfold DJ.at
  generalize i.ps = l at *
  induction l with
  | nil => intro B; rfl
  | cons p l ih =>
    intro B
    rw [List.foldl_cons, List.foldl_cons]
    rw [foldl_comm1 j.ps B (fun q hq B => Pm.comm_at (hi p (by simp)) (hj q hq) (h' p (by simp) q hq) t B)]
    exact ih (fun q hq => hi q (by simp [hq])) (fun q hq => h' q (by simp [hq])) (p.at t B)
/-- What comes out: what was there, nothing, or what is written. -/
theorem DJ.at_src (i : DJ) (hi : ∀ p ∈ i.ps, p.slot < 10000) (t : Nat) : ∀ B, i.at t B = B ∨ i.at t B = .any ∨ ∃ p ∈ i.ps, t % 10000 = p.slot ∧ i.at t B ∈ p.outs := by
  unfold DJ.at
  generalize i.ps = l at *
  induction l with
  | nil => intro B; exact .inl rfl
  | cons p l ih =>
    intro B
    rw [List.foldl_cons]
    rcases ih (fun q hq => hi q (by simp [hq])) (p.at t B) with h | h | ⟨q, hq, h1, h2⟩
    · rw [h]
      rcases p.at_cases t B (hi p (by simp)) with ⟨e1, ⟨h1 | h1, _⟩ | hid⟩ | ⟨_, hc⟩
      · exact .inr (.inl h1)
      · exact .inr (.inr ⟨p, by simp, e1, h1⟩)
      · exact .inl (hid B)
      · rw [hc B]
        split
        · exact .inr (.inl rfl)
        · exact .inl rfl
    · exact .inr (.inl h)
    · exact .inr (.inr ⟨q, by simp [hq], h1, h2⟩)
/-- A slot that isn't written keeps what it has. -/
theorem DJ.at_same (i : DJ) (hi : ∀ p ∈ i.ps, p.slot < 10000) {t : Nat} (h1 : i.has (t % 10000) = false) {B : As} (h2 : ∀ s ∈ i.res, B.dep s = false) : i.at t B = B := by
  unfold DJ.has at h1
  unfold DJ.res at h2
  unfold DJ.at
  generalize i.ps = l at *
  induction l with
  | nil => rfl
  | cons p l ih =>
    simp only [List.any_cons, Bool.or_eq_false_iff, beq_eq_false_iff_ne] at h1
    rw [List.foldl_cons]
    have h3 : p.at t B = B := by
      rcases p.at_cases t B (hi p (by simp)) with ⟨e1, _⟩ | ⟨_, hc⟩
      · exact absurd e1.symm h1.1
      · rw [hc B, if_neg]
        rintro ⟨a1, a2⟩
        have := h2 p.slot (by simp [a1])
        rw [a2] at this; cases this
    rw [h3]
    exact ih (fun q hq => hi q (by simp [hq])) h1.2 (fun s hs => h2 s (by
      simp only [List.filter_cons]
      split
      · simp only [List.map_cons, List.mem_cons]; exact .inr hs
      · exact hs))

/-! ### Many operations -/
noncomputable def valJ : List DJ → Nat → (Nat → Prop) → Nat → As → As
  | [], _, _, _, B => B
  | i :: I, k, D, t, B => valJ I (k + 1) D t (@ite _ (D k) (Classical.propDecidable _) (i.at t B) B)
theorem valJ_congr {D D' : Nat → Prop} {t : Nat} : ∀ (I : List DJ) (k : Nat) (B : As), (∀ x, k ≤ x → (D x ↔ D' x)) → valJ I k D t B = valJ I k D' t B
  | [], _, _, _ => rfl
  | i :: I, k, B, h => by
    unfold valJ
    have h1 := h k (Nat.le_refl _)
    by_cases hd : D k
    · rw [if_pos hd, if_pos (h1.1 hd)]; exact valJ_congr I (k + 1) _ (fun x hx => h x (by omega))
    · rw [if_neg hd, if_neg (fun h' => hd (h1.2 h'))]; exact valJ_congr I (k + 1) _ (fun x hx => h x (by omega))
/-- An operation moves behind those with which it may change places. -/
theorem valJ_move {D : Nat → Prop} {t : Nat} {f : As → As} : ∀ (I : List DJ) (k : Nat) (B : As), (∀ x i, I[x]? = some i → D (k + x) → ∀ B, f (i.at t B) = i.at t (f B)) → f (valJ I k D t B) = valJ I k D t (f B)
  | [], _, _, _ => rfl
  | i :: I, k, B, h => by
    unfold valJ
    have ih := fun B => valJ_move (D := D) (t := t) (f := f) I (k + 1) B (fun x j hx hd => h (x + 1) j (by simpa using hx) (by rw [show k + (x + 1) = k + 1 + x by omega]; exact hd))
    rw [ih]
    by_cases hd : D k
    · rw [if_pos hd, if_pos hd, h 0 i rfl hd]
    · rw [if_neg hd, if_neg hd]
theorem valJ_next {D D' : Nat → Prop} {t : Nat} {j : Nat} (hD : ¬ D j) (hD' : ∀ x, D' x ↔ x = j ∨ D x) : ∀ (I : List DJ) (k : Nat) (B : As) (i : DJ), k ≤ j → I[j - k]? = some i → (∀ x y, I[x]? = some y → j < k + x → D (k + x) → ∀ B, i.at t (y.at t B) = y.at t (i.at t B)) →
    i.at t (valJ I k D t B) = valJ I k D' t B
  | [], _, _, _, _, h, _ => by simp at h
  | a :: I, k, B, i, hk, hi, hc => by
    unfold valJ
    by_cases hkj : k = j
    · subst hkj
      rw [Nat.sub_self] at hi
      have : a = i := by simpa using hi
      subst this
      rw [if_neg hD, if_pos ((hD' k).2 (.inl rfl))]
      rw [valJ_move (f := a.at t) I (k + 1) B (fun x y hx hd => hc (x + 1) y (by simpa using hx) (by omega) (by rw [show k + (x + 1) = k + 1 + x by omega]; exact hd))]
      exact valJ_congr I (k + 1) _ (fun x hx => by rw [hD' x]; constructor; exact fun h => .inr h; exact fun h => h.resolve_left (by omega))
    · have e : j - k = (j - (k + 1)) + 1 := by omega
      rw [e] at hi
      have ih := fun B => valJ_next (t := t) hD hD' I (k + 1) B i (by omega) (by simpa using hi) (fun x y hx hlt hd => hc (x + 1) y (by simpa using hx) (by omega) (by rw [show k + (x + 1) = k + 1 + x by omega]; exact hd))
      rw [ih]
      congr 1
      by_cases hd : D k
      · rw [if_pos hd, if_pos ((hD' k).2 (.inr hd))]
      · rw [if_neg hd, if_neg (fun h => ((hD' k).1 h).elim hkj hd)]
/-- Only some of the operations speak for a slot. -/
theorem valJ_need {D R : Nat → Prop} {t : Nat} (P : As → Prop) (ha : P .any) (hRD : ∀ x, R x → D x) : ∀ (I : List DJ) (k : Nat) (B : As), P B →
    (∀ x i, I[x]? = some i → (∀ p ∈ i.ps, p.slot < 10000) ∧ (R (k + x) → ∀ p ∈ i.ps, t % 10000 = p.slot → ∀ A ∈ p.outs, P A) ∧ (D (k + x) → ¬ R (k + x) → i.has (t % 10000) = false ∧ ∀ A, P A → ∀ s ∈ i.res, A.dep s = false)) →
    valJ I k D t B = valJ I k R t B
  | [], _, _, _, _ => rfl
  | i :: I, k, B, hB, h => by
    unfold valJ
    have h' : ∀ x j, I[x]? = some j → (∀ p ∈ j.ps, p.slot < 10000) ∧ (R (k + 1 + x) → ∀ p ∈ j.ps, t % 10000 = p.slot → ∀ A ∈ p.outs, P A) ∧ (D (k + 1 + x) → ¬ R (k + 1 + x) → j.has (t % 10000) = false ∧ ∀ A, P A → ∀ s ∈ j.res, A.dep s = false) := fun x j hx => by
      have := h (x + 1) j (by simpa using hx)
      rwa [show k + (x + 1) = k + 1 + x by omega] at this
    obtain ⟨h1, h2, h3⟩ := h 0 i rfl
    by_cases hr : R k
    · rw [if_pos hr, if_pos (hRD k hr)]
      refine valJ_need P ha hRD I (k + 1) _ ?_ h'
      rcases i.at_src h1 t B with h4 | h4 | ⟨p, hp, h4, h5⟩
      · rw [h4]; exact hB
      · rw [h4]; exact ha
      · exact h2 hr p hp h4 _ h5
    · rw [if_neg hr]
      by_cases hd : D k
      · rw [if_pos hd]
        obtain ⟨h4, h5⟩ := h3 hd hr
        rw [i.at_same h1 h4 (h5 B hB)]
        exact valJ_need P ha hRD I (k + 1) B hB h'
      · rw [if_neg hd]; exact valJ_need P ha hRD I (k + 1) B hB h'

section
variable {C : Cx} {env env' env0 : Env} {e e' : KL} {Q : Exit → Act → World → Prop} {o : Oper} {c : Code} {ops : Array Oper} {l : List Oper} {d t : Nat} {A B : As}
def DSt (C : Cx) (ops : Array Oper) (env : Env) (o : Oper) (i : DJ) : Prop :=
  (∃ j want t d A, o.guard = some (j, want) ∧ (ops[j]?).bind (·.dst) = some t ∧ t ∈ i.nd ∧ (env t = .cel Kd.bool (!want) ∨ env t = .val undef) ∧ t < 10000 ∧ i.ps = [.res d [A]] ∧ (A = .any ∨ A = .val undef) ∧ o.dst = some d ∧ C.ok d) ∨
  ((o.guard = none ∨ (∃ j want t b, o.guard = some (j, want) ∧ (ops[j]?).bind (·.dst) = some t ∧ t ∈ i.nd ∧ env t = .cel Kd.bool b ∧ t < 10000 ∧ b = want)) ∧ ∀ env', (∀ t ∈ i.nd, env' t = env t) → OpT C o env' (i.upd env'))
inductive DCj (C : Cx) (ops : Array Oper) : Env → List Oper → List DJ → Env → Prop
  | nil (env : Env) : DCj C ops env [] [] env
  | cons {env env' : Env} {o : Oper} {i : DJ} {l : List Oper} {I : List DJ} (h : DSt C ops env o i) (r : DCj C ops (i.upd env) l I env') : DCj C ops env (o :: l) (i :: I) env'
noncomputable def envJ (env0 : Env) (I : List DJ) (D : Nat → Prop) : Env := fun t => valJ I 0 D t (env0 t)
def envTj (env0 : Env) (I : List DJ) : Env := I.foldl (fun e i => i.upd e) env0
theorem DCj.get {env env' : Env} {l : List Oper} {I : List DJ} (h : DCj C ops env l I env') : env' = envTj env I ∧ l.length = I.length ∧ ∀ j o i, l[j]? = some o → I[j]? = some i → DSt C ops (envTj env (I.take j)) o i := by
  induction h with
  | nil env => exact ⟨rfl, rfl, fun j o i h => by simp at h⟩
  | cons h r ih =>
    obtain ⟨h1, h2, h3⟩ := ih
    refine ⟨h1, by simp [h2], fun j o i ho hi => ?_⟩
    cases j with
    | zero => simp at ho hi; subst ho; subst hi; exact h
    | succ j => exact h3 j o i (by simpa using ho) (by simpa using hi)
structure DGj (l : List Oper) (I : List DJ) : Prop where
  len : l.length = I.length
  lt : ∀ i ∈ I, ∀ p ∈ i.ps, p.slot < 10000
  edge : ∀ j o, l[j]? = some o → ∀ e ∈ o.after, Region.binds .any e = true → e.on < j
  comm : ∀ j x i y, I[j]? = some i → I[x]? = some y → j < x → j ∈ (ancs l []).getD x [] ∨ i.comm y = true
  need : ∀ j i, I[j]? = some i → ∀ t ∈ i.nd, ∀ x y, I[x]? = some y → (x = j ∨ x ∈ (ancs l []).getD j [] ∨ j ∈ (ancs l []).getD x []) ∨ (y.has (t % 10000) = false ∧ ∀ s ∈ y.res, ∀ (z : Nat) (c : DJ), I[z]? = some c → ∀ p ∈ c.ps, p.slot = t % 10000 → p.dep s = false)
theorem mem_zip {α : Type 1} {I : List α} {j : Nat} {i : α} (h : I[j]? = some i) : (i, j) ∈ I.zipIdx := by
  rw [List.mem_iff_getElem?]
  exact ⟨j, by rw [List.getElem?_zipIdx, h]; simp⟩
theorem mem_zip0 {α : Type} {I : List α} {j : Nat} {i : α} (h : I[j]? = some i) : (i, j) ∈ I.zipIdx := by
  rw [List.mem_iff_getElem?]
  exact ⟨j, by rw [List.getElem?_zipIdx, h]; simp⟩
theorem dOKj_good {I : List DJ} (h : dOKj l I = true) : DGj l I := by
  unfold dOKj at h
  simp only [Bool.and_eq_true, decide_eq_true_eq] at h
  obtain ⟨⟨⟨⟨h1, h2⟩, h3⟩, h4⟩, h5⟩ := h
  refine ⟨h1, fun i hi p hp => of_decide_eq_true (List.all_eq_true.1 (List.all_eq_true.1 h2 i hi) p hp), fun j o ho e he hb => ?_, fun j x i y hi hy hlt => ?_, fun j i hi t ht x y hy => ?_⟩
  · have := List.all_eq_true.1 h3 (o, j) (mem_zip0 ho)
    rw [Array.all_eq_true_iff_forall_mem] at this
    have h6 := this e he
    rw [hb] at h6
    simpa using h6
  · have := List.all_eq_true.1 (List.all_eq_true.1 h4 (i, j) (mem_zip hi)) (y, x) (mem_zip hy)
    simp only [Bool.or_eq_true, List.contains_iff_mem] at this
    rcases this with (h6 | h6) | h6
    · exact absurd (Nat.le_of_ble_eq_true h6) (by omega)
    · exact .inr h6
    · exact .inl h6
  · have := List.all_eq_true.1 (List.all_eq_true.1 (List.all_eq_true.1 h5 (i, j) (mem_zip hi)) t ht) (y, x) (mem_zip hy)
    simp only [relB, Bool.or_eq_true, Bool.and_eq_true, Bool.not_eq_true', beq_iff_eq, List.contains_iff_mem] at this
    rcases this with ⟨h6, h7⟩ | (h6 | h6) | h6
    · refine .inr ⟨h6, fun s hs z c hc p hp h9 => ?_⟩
      cases hd : p.dep s with
      | false => rfl
      | true =>
        obtain ⟨A, hA, hAd⟩ := List.any_eq_true.1 hd
        have h10 := List.all_eq_true.1 h7 _ (depsJ_mem (List.mem_of_getElem? hc) hp hA hAd)
        simp only [h9, Bool.or_eq_true, Bool.not_eq_true', beq_eq_false_iff_ne] at h10
        rcases h10 with h10 | h10
        · exact absurd rfl h10
        · have : y.res.contains s = true := List.contains_iff_mem.2 hs
          rw [h10] at this; cases this
    · exact .inl (.inl h6)
    · exact .inl (.inr (.inl h6))
    · exact .inl (.inr (.inr h6))
theorem anc_ltj {I : List DJ} (hg : DGj l I) : ∀ (j : Nat) (o : Oper), l[j]? = some o → ∀ x ∈ (ancs l []).getD j [], x < j := by
  intro j
  induction j using Nat.strongRecOn with
  | _ j ih =>
    intro o ho x hx
    have h1 := ancs_at l [] j o ho
    simp only [List.length_nil, Nat.zero_add] at h1
    rw [h1] at hx
    obtain ⟨e, he, hb, hx⟩ := mem_ancOf.1 hx
    have hej := hg.edge j o ho e he hb
    rcases hx with rfl | hx
    · exact hej
    · have hjl : j < l.length := (List.getElem?_eq_some_iff.1 ho).1
      have h2 : ((ancs l []).take j).getD e.on [] = (ancs l []).getD e.on [] := by
        rw [List.getD_eq_getElem?_getD, List.getD_eq_getElem?_getD, List.getElem?_take, if_pos hej]
      rw [h2] at hx
      have := ih e.on hej l[e.on] (List.getElem?_eq_getElem (by omega)) x hx
      omega
theorem envJ_next {I : List DJ} (hg : DGj l I) {j : Nat} {i : DJ} (hi : I[j]? = some i) {D D' : Nat → Prop} (hD : ¬ D j) (hD' : ∀ x, D' x ↔ x = j ∨ D x) (hclo : ∀ x, D x → ∀ y ∈ (ancs l []).getD x [], D y) : i.upd (envJ env0 I D) = envJ env0 I D' := by
  funext t
  refine valJ_next hD hD' I 0 _ i (Nat.zero_le _) (by simpa using hi) (fun x y hx hlt hd B => ?_)
  rw [Nat.zero_add] at hlt hd
  rcases hg.comm j x i y hi hx hlt with h | h
  · exact absurd (hclo x hd j h) hD
  · exact DJ.comm_at (hg.lt i (List.mem_of_getElem? hi)) (hg.lt y (List.mem_of_getElem? hx)) h t B
theorem envTj_take {I : List DJ} (hg : DGj l I) : ∀ j, j ≤ l.length → envTj env0 (I.take j) = envJ env0 I (fun x => x < j) := by
  intro j
  induction j with
  | zero =>
    intro _
    funext t
    have : ∀ (I : List DJ) (k : Nat) (B : As), valJ I k (fun x => x < 0) t B = B := by
      intro I
      induction I with
      | nil => intro k B; rfl
      | cons i I ih => intro k B; unfold valJ; rw [if_neg (Nat.not_lt_zero k)]; exact ih _ _
    exact (this I 0 _).symm
  | succ j ih =>
    intro hj
    have hjI : j < I.length := by rw [← hg.len]; omega
    have h1 := ih (by omega)
    have h2 : envTj env0 (I.take (j + 1)) = I[j].upd (envTj env0 (I.take j)) := by
      unfold envTj
      rw [List.take_succ_eq_append_getElem hjI, List.foldl_append]
      rfl
    rw [h2, h1]
    refine envJ_next hg (List.getElem?_eq_getElem hjI) (by omega) (fun x => by omega) (fun x hx y hy => ?_)
    have := anc_ltj hg x l[x] (List.getElem?_eq_getElem (by omega)) y hy
    omega
theorem envJ_need {e0 : List (Nat × As)} {I : List DJ} (hg : DGj l I) (hcl : cleanj e0 I = true) {j : Nat} {i : DJ} (hi : I[j]? = some i) {t : Nat} (ht : t ∈ i.nd) {D : Nat → Prop} (hDj : ¬ D j) (hanc : ∀ x ∈ (ancs l []).getD j [], D x) (hun : ∀ x, D x → j ∉ (ancs l []).getD x []) :
    envJ (keep e0) I D t = envJ (keep e0) I (fun x => x ∈ (ancs l []).getD j []) t := by
  have hcl' : ∀ y ∈ I, ∀ s ∈ y.res, (keep e0 t).dep s = false := by
    intro y hy s hs
    rcases keep_mem e0 t with h | ⟨p, hp, h⟩
    · rw [h]; rfl
    · rw [h]
      cases hd : p.2.dep s with
      | false => rfl
      | true =>
        have := List.all_eq_true.1 (List.all_eq_true.1 (List.all_eq_true.1 hcl p hp) s ((As.deps_iff _ _).1 hd)) y hy
        have h2 : y.res.contains s = true := List.contains_iff_mem.2 hs
        rw [h2] at this; cases this
  refine valJ_need (P := fun A => ∀ y ∈ I, ∀ x, I[x]? = some y → D x → x ∉ (ancs l []).getD j [] → ∀ s ∈ y.res, A.dep s = false) (fun y hy x hx h1 h2 s hs => rfl) hanc I 0 _ (fun y hy x hx h1 h2 s hs => hcl' y hy s hs) ?_
  intro x y hx
  rw [Nat.zero_add]
  refine ⟨hg.lt y (List.mem_of_getElem? hx), fun hr p hp htp A hA => ?_, fun hd hr => ?_⟩
  · intro z hz zx hzx hdz hnz s hs
    rcases hg.need j i hi t ht zx z hzx with (h | h | h) | ⟨_, h⟩
    · subst h; exact absurd hdz hDj
    · exact absurd h hnz
    · exact absurd h (hun zx hdz)
    · exact any_of (h s hs x y hx p hp htp.symm) hA
  · rcases hg.need j i hi t ht x y hx with (h | h | h) | ⟨h, _⟩
    · subst h; exact absurd hd hDj
    · exact absurd h hr
    · exact absurd h (hun x hd)
    · exact ⟨h, fun A hA => hA y (List.mem_of_getElem? hx) x hx hd hr⟩

theorem drawj_go {e0 : List (Nat × As)} {I : List DJ} (hg : DGj l I) (hcl : cleanj e0 I = true) (hst : ∀ j o i, l[j]? = some o → I[j]? = some i → DSt C l.toArray (envTj (keep e0) (I.take j)) o i)
    (k : AX C .normal (envTj (keep e0) I) Q) : ∀ (fuel : Nat) (listed : Array Bool) (a : Act) (w : World), listed.size = l.length →
      ((List.range l.length).filter fun i => !listed.getD i true).length ≤ fuel →
      (∀ i, listed.getD i false = true → ∀ x ∈ (ancs l []).getD i [], listed.getD x false = true) →
      C.R (envJ (keep e0) I (fun x => listed.getD x false = true)) a w → wpAny C.P .any l.toArray Q fuel listed a w := by
  have hfin : ∀ (listed : Array Bool), (∀ j, j < l.length → listed.getD j false = true) → envJ (keep e0) I (fun x => listed.getD x false = true) = envTj (keep e0) I := by
    intro listed hall
    have h1 := envTj_take (env0 := keep e0) hg l.length (Nat.le_refl _)
    rw [hg.len, List.take_length] at h1
    rw [h1]
    funext t
    have : ∀ (J : List DJ) (k : Nat) (B : As), k + J.length ≤ l.length → valJ J k (fun x => listed.getD x false = true) t B = valJ J k (fun x => x < I.length) t B := by
      intro J
      induction J with
      | nil => intro k B _; rfl
      | cons i J ih =>
        intro k B hk
        simp only [List.length_cons] at hk
        unfold valJ
        rw [if_pos (hall k (by omega)), if_pos (by rw [← hg.len]; omega)]
        exact ih _ _ (by omega)
    exact this I 0 _ (by rw [hg.len]; omega)
  intro fuel
  induction fuel with
  | zero =>
    intro listed a w hsz hcnt hclo hr
    have hall0 : ∀ j, j < l.length → listed.getD j true = true := by
      intro j hj
      cases hb : listed.getD j true with
      | true => rfl
      | false =>
        have : j ∈ (List.range l.length).filter fun i => !listed.getD i true := List.mem_filter.2 ⟨List.mem_range.2 hj, by rw [hb]; rfl⟩
        rw [List.eq_nil_of_length_eq_zero (Nat.le_zero.1 hcnt)] at this
        cases this
    have hall : ∀ j, j < l.length → listed.getD j false = true := fun j hj => by
      have := hall0 j hj
      rw [Array.getD_eq_getD_getElem?, Array.getElem?_eq_getElem (by omega)] at this ⊢
      simpa using this
    have hnil : Region.ready .any l.toArray listed = [] := by
      rw [List.eq_nil_iff_forall_not_mem]
      intro j hj
      obtain ⟨h1, o, ho, _⟩ := mem_ready.1 hj
      have hj' : j < l.length := by
        have := (Array.getElem?_eq_some_iff.1 ho).1
        simpa using this
      rw [hall0 j hj'] at h1
      cases h1
    exact ⟨hnil, k a w (by rw [← hfin listed hall]; exact hr)⟩
  | succ fuel ih =>
    intro listed a w hsz hcnt hclo hr
    refine ⟨fun hnil => ?_, fun j hj => ?_⟩
    · have hall : ∀ j, j < l.length → listed.getD j false = true := by
        intro j
        induction j using Nat.strongRecOn with
        | _ j ihj =>
          intro hjl
          cases hb : listed.getD j false with
          | true => rfl
          | false =>
            exfalso
            have hmem : j ∈ Region.ready .any l.toArray listed := by
              refine mem_ready.2 ⟨?_, l[j], by simp [hjl], fun e he hbd => ?_⟩
              · rw [Array.getD_eq_getD_getElem?, Array.getElem?_eq_getElem (by omega)] at hb ⊢
                simpa using hb
              · have := hg.edge j l[j] (List.getElem?_eq_getElem hjl) e he hbd
                exact ihj e.on this (by omega)
            rw [hnil] at hmem
            cases hmem
      exact k a w (by rw [← hfin listed hall]; exact hr)
    · obtain ⟨hun, o, ho', hedges⟩ := mem_ready.1 hj
      have ho : l[j]? = some o := by simpa using ho'
      have hjl : j < l.length := (List.getElem?_eq_some_iff.1 ho).1
      have hjI : j < I.length := by rw [← hg.len]; exact hjl
      have hi : I[j]? = some I[j] := List.getElem?_eq_getElem hjI
      generalize hii : I[j] = i at hi
      have hunf : ¬ listed.getD j false = true := by
        rw [Array.getD_eq_getD_getElem?, Array.getElem?_eq_getElem (by omega)] at hun ⊢
        simpa using hun
      have hset : ∀ x, (listed.setIfInBounds j true).getD x false = true ↔ x = j ∨ listed.getD x false = true := by
        intro x
        by_cases hxj : x = j
        · subst hxj
          simp [Array.getD_eq_getD_getElem?, show x < listed.size by omega]
        · rw [getD_set_ne false (Ne.symm hxj)]
          simp [hxj]
      have hanc : ∀ x ∈ (ancs l []).getD j [], listed.getD x false = true := by
        intro x hx
        have h1 := ancs_at l [] j o ho
        simp only [List.length_nil, Nat.zero_add] at h1
        rw [h1] at hx
        obtain ⟨e, he, hb, hx⟩ := mem_ancOf.1 hx
        have hej := hg.edge j o ho e he hb
        have h2 := hedges e he hb
        rcases hx with rfl | hx
        · exact h2
        · have h3 : ((ancs l []).take j).getD e.on [] = (ancs l []).getD e.on [] := by
            rw [List.getD_eq_getElem?_getD, List.getD_eq_getElem?_getD, List.getElem?_take, if_pos hej]
          rw [h3] at hx
          exact hclo e.on h2 x hx
      have hstep := hst j o i ho hi
      have hneed : ∀ t ∈ i.nd, envJ (keep e0) I (fun x => listed.getD x false = true) t = envTj (keep e0) (I.take j) t := by
        intro t ht
        rw [envTj_take hg j (by omega), envJ_need hg hcl hi ht hunf hanc (fun x hx h => hunf (hclo x hx j h))]
        refine (envJ_need hg hcl hi ht (D := fun x => x < j) (Nat.lt_irrefl j) (fun x hx => anc_ltj hg j o ho x hx) (fun x hx h => ?_)).symm
        have h1 := anc_ltj hg x l[x] (List.getElem?_eq_getElem (by omega)) j h
        omega
      have hnext := envJ_next (env0 := keep e0) hg hi (D := fun x => listed.getD x false = true) (D' := fun x => (listed.setIfInBounds j true).getD x false = true) hunf hset hclo
      have hgo : ∀ a' w', C.R (i.upd (envJ (keep e0) I (fun x => listed.getD x false = true))) a' w' → wpAny C.P .any l.toArray Q fuel (listed.setIfInBounds j true) a' w' := by
        intro a' w' hr'
        refine ih (listed.setIfInBounds j true) a' w' (by simp [hsz]) ?_ ?_ (by rw [← hnext]; exact hr')
        · have hsub : ((List.range l.length).filter fun x => !(listed.setIfInBounds j true).getD x true).length < ((List.range l.length).filter fun x => !listed.getD x true).length := by
            have e1 : ((List.range l.length).filter fun x => !(listed.setIfInBounds j true).getD x true) = ((List.range l.length).filter fun x => !listed.getD x true).filter fun x => !(x == j) := by
              rw [List.filter_filter]
              apply List.filter_congr
              intro x hx
              by_cases hxj : x = j
              · subst hxj
                simp [Array.getD_eq_getD_getElem?, show x < listed.size by omega]
              · rw [getD_set_ne true (Ne.symm hxj)]
                simp [hxj]
            rw [e1]
            refine List.length_filter_lt_length_iff_exists.2 ⟨j, List.mem_filter.2 ⟨List.mem_range.2 hjl, by rw [hun]; rfl⟩, by simp⟩
          omega
        · intro x hx y hy
          rcases (hset x).1 hx with rfl | h
          · exact (hset y).2 (.inr (hanc y hy))
          · exact (hset y).2 (.inr (hclo x h y hy))
      unfold wpOp
      simp only [ho']
      rcases hstep with ⟨jg, want, tg, dg, Ag, hgd, hgt, hgn, hgb, hgl, hps, hout, hdst, hok⟩ | ⟨hgd, hstep⟩
      · have h1 : Region.wanted o (yielded l.toArray a.tmps) = false := by
          rcases hgb with hgb | hgb
          · rw [wanted_of (C := C) (ops := l.toArray) hgd hgt (by rw [hneed tg hgn]; exact hgb) hgl hr]; cases want <;> rfl
          · exact wanted_no (C := C) (ops := l.toArray) hgd hgt (by rw [hneed tg hgn]; exact hgb) hgl hr
        rw [if_neg (by rw [h1]; simp)]
        rw [hdst]
        obtain ⟨s, F, hr'⟩ := hr
        refine hgo _ _ ?_
        have hup : ∀ env : Env, i.upd env = upd env dg Ag := fun env => by
          unfold DJ.upd DJ.at
          rw [hps, ← updRes_one]
          rfl
        rw [hup]
        rcases hout with rfl | rfl
        · exact hr'.put0 hok.1 (Nat.lt_of_lt_of_le hok.1 C.hN) hok.2 (fun b hb => hb)
        · exact hr'.put0 hok.1 (Nat.lt_of_lt_of_le hok.1 C.hN) hok.2 ⟨rfl, fun b hb => hb⟩
      · have hw : Region.wanted o (yielded l.toArray a.tmps) = true := by
          rcases hgd with hgd | ⟨jg, want, tg, b, hgd, hgt, hgn, hgb, hgl, hbw⟩
          · simp [Region.wanted, hgd]
          · have h1 := wanted_of (C := C) (ops := l.toArray) hgd hgt (by rw [hneed tg hgn]; exact hgb) hgl hr
            rw [h1, hbw]; simp
        rw [if_pos hw]
        exact .inl (hstep _ hneed Q _ a w hr hgo)
/-- A REGION WHOSE ORDER IS OPEN. -/
theorem AW.drawj {id : Nat} {e0 : List (Nat × As)} {I : List DJ} (hm : C.P.follows .mixedOrders = true) (hdc : DCj C l.toArray (keep e0) l I env') (hok : dOKj l I = true) (hcl : cleanj e0 I = true) (k : AX C .normal env' Q) :
    AW C (.region id l.toArray true) (keep e0) Q := by
  intro a w hr
  obtain ⟨h1, h2, h3⟩ := hdc.get
  refine wp_region_any hm ?_
  obtain ⟨s, F, hr'⟩ := hr
  refine drawj_go (dOKj_good hok) hcl h3 (by rw [← h1]; exact k) l.toArray.size (Array.replicate l.toArray.size false) a { w with drawn := w.drawn + 1 } (by simp) ?_ ?_ ?_
  · exact Nat.le_trans (List.length_filter_le _ _) (by simp)
  · intro i hi
    exfalso
    rw [Array.getD_eq_getD_getElem?, Array.getElem?_replicate] at hi
    split at hi <;> simp at hi
  · have he : envJ (keep e0) I (fun x => (Array.replicate l.toArray.size false).getD x false = true) = keep e0 := by
      funext t
      have hno : ∀ x, ¬ (Array.replicate l.toArray.size false).getD x false = true := fun x hi => by
        rw [Array.getD_eq_getD_getElem?, Array.getElem?_replicate] at hi
        split at hi <;> simp at hi
      have : ∀ (J : List DJ) (k : Nat) (B : As), valJ J k (fun x => (Array.replicate l.toArray.size false).getD x false = true) t B = B := by
        intro J
        induction J with
        | nil => intro k B; rfl
        | cons i J ih => intro k B; unfold valJ; rw [if_neg (hno k)]; exact ih _ _
      exact this I 0 _
    rw [he]
    exact ⟨s, F, hr'.dfr, hr'.size, fun t => As.holds_frame (hr'.slot t) (fun b _ => rfl), hr'.disj, hr'.mine, hr'.fz, ⟨hr'.keep.os, hr'.keep.tape, hr'.keep.output, hr'.keep.size, hr'.keep.block⟩, hr'.pin, hr'.ext, hr'.new⟩
end
end Go.Proofs.YtfnkphllkbkfaaaDoor.VL
