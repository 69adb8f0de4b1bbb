/- Proved here: maps of the call's own whose keys are pairs of numbers, and ranges over them. General: over every program. -/
import Derived.Test.YtkgboidjghcegaaGreatDoorVLC
import Derived.Test.YtkgboidjghcegaaGreatDoorVLD
import Derived.Test.YtkgboidjghcegaaGreatDoorPXH
import Derived.MapKept
import Derived.Carry
import Derived.Maps.RangeRun
set_option linter.unusedVariables false
set_option linter.unusedSimpArgs false
namespace Go.Proofs.YtkgboidjghcegaaGreatDoor.VL
open Go
abbrev kPP : Kd (Int × Int) := Kd.pair (Kd.int .i64) (Kd.int .i64)
def keyV (k : Int × Int) : Value := .agg #[.int .i64 k.1, .int .i64 k.2]
def parP (p : DPar) : Value × Value := (keyV p.1, .int .i64 p.2)
structure PM (l : List DPar) (es : Array MapEntry) (c : Nat) : Prop where
  is : es.toList.map (fun e => (e.key, e.val)) = l.map parP
  born : es.toList.map (·.born) = List.range l.length
  clock : c = l.length
  inr : ∀ p ∈ l, (inR .i64 p.1.1 ∧ inR .i64 p.1.2) ∧ inR .i64 p.2
structure PKey (P : Program) (T K V E : TypeId) : Prop where
  hT : P.underlying T = some (.map K V)
  hK : P.underlying K = some (.array 2 E)
  hE : P.underlying E = some (.int .i64)
  zK : sizeT P K = some 2
  zE : sizeT P E = some 1
  cE : P.cellsOf E = 1
  zV : ∀ w, (zeroValue V).run P w = .ok (.int .i64 0) w
theorem kPP_cs {s : Hp} {cs : Array Value} {k : Int × Int} (h : kPP.rd s cs.toList k) : Value.agg cs = keyV k ∧ inR .i64 k.1 ∧ inR .i64 k.2 := by
  obtain ⟨c, d, e, h1, h2⟩ := h
  refine ⟨?_, h1.2, h2.2⟩
  have e2 : cs.toList = [.int .i64 k.1, .int .i64 k.2] := by rw [e, h1.1, h2.1]; rfl
  unfold keyV
  congr 1
  exact Array.ext' e2
theorem kPP_rd {s : Hp} {k : Int × Int} (h1 : inR .i64 k.1) (h2 : inR .i64 k.2) : kPP.rd s [.int .i64 k.1, .int .i64 k.2] k := ⟨[.int .i64 k.1], [.int .i64 k.2], rfl, ⟨rfl, h1⟩, ⟨rfl, h2⟩⟩
section
variable {P : Program} {T K V E : TypeId} {l : List DPar} {es : Array MapEntry} {c : Nat} {k : Int × Int}
theorem PKey.aggK (h : PKey P T K V E) : aggT P K = some true := by unfold aggT; rw [h.hK]
theorem PKey.aggE (h : PKey P T K V E) : aggT P E = some false := by unfold aggT; rw [h.hE]
theorem PKey.eq (h : PKey P T K V E) {k k' : Int × Int} (h1 : inR .i64 k.1 ∧ inR .i64 k.2) (h2 : inR .i64 k'.1 ∧ inR .i64 k'.2) (w : World) : (Op.equal K (keyV k) (keyV k')).run P w = .ok (eqv k k') w :=
  (EqT.two (k := Kd.int .i64) h.hK h.zK h.cE (EqT.int h.hE h.zE)).run h.aggK (by decide) (s := fun _ => none) (kPP_rd h1.1 h1.2) (kPP_rd h2.1 h2.2)
theorem PKey.check (h : PKey P T K V E) (b : Bool) (k : Int × Int) (w : World) : (Instr.checkKey b 10000 K (keyV k)).run P w = .ok () w := by
  obtain ⟨i, hi, _⟩ := Option.map_eq_some_iff.1 h.zE
  have hp : ∀ j, j < 2 → ∃ v, (part E #[.int .i64 k.1, .int .i64 k.2] (j * P.cellsOf E)).run P w = .ok (.int .i64 v) w := by
    intro j hj
    rw [h.cE, Nat.mul_one]
    rcases j with _ | _ | j
    · exact ⟨_, run_part_cel h.aggE rfl⟩
    · exact ⟨_, run_part_cel h.aggE rfl⟩
    · omega
  have hc : ∀ v, (Instr.checkKey b 9999 E (.int .i64 v)).run P w = .ok () w := fun v => by
    rw [show (9999 : Nat) = 9998 + 1 from rfl, Instr.checkKey]
    simp [run_underlying h.hE]
  unfold keyV
  rw [show (10000 : Nat) = 9999 + 1 from rfl, Instr.checkKey]
  simp only [Sem.run_bind, run_underlying h.hK, Result.andThen_ok]
  simp only [Std.Legacy.Range.forIn_eq_forIn_range', Std.Legacy.Range.size, Nat.sub_zero, Nat.add_one_sub_one, Nat.div_one]
  have hall : ∀ j ∈ List.range' 0 2 1, j < 2 := fun j hj => by simp at hj; omega
  generalize List.range' 0 2 1 = is at hall
  induction is with
  | nil => simp
  | cons j is ih =>
    obtain ⟨v, hv⟩ := hp j (hall j (by simp))
    simp only [List.forIn_cons, Sem.run_bind, run_sizeOf w hi, Result.andThen_ok, hv, hc, Sem.run_pure]
    exact ih (fun y hy => hall y (by simp [hy]))
theorem PKey.asking (h : PKey P T K V E) (hk : inR .i64 k.1 ∧ inR .i64 k.2) (w : World) : ∀ {l : List DPar} {es : List MapEntry}, es.map (fun e => (e.key, e.val)) = l.map parP → (∀ p ∈ l, (inR .i64 p.1.1 ∧ inR .i64 p.1.2) ∧ inR .i64 p.2) → ∀ i,
    (Instr.findAsking K (keyV k) es i).run P w = .ok ((findP l k).map fun q => (i + q.1, Value.int .i64 q.2)) w
  | [], [], _, _, i => by simp [Instr.findAsking, findP]
  | [], e :: es, hm, _, i => by cases hm
  | p :: l, [], hm, _, i => by cases hm
  | p :: l, e :: es, hm, hin, i => by
    rw [List.map_cons, List.map_cons, List.cons.injEq] at hm
    have h1 : e.key = keyV p.1 := congrArg Prod.fst hm.1
    have h2 : e.val = .int .i64 p.2 := congrArg Prod.snd hm.1
    have ih := PKey.asking h hk w (l := l) (es := es) hm.2 (fun q hq => hin q (List.mem_cons_of_mem _ hq)) (i + 1)
    have he := h.eq hk (hin p (List.mem_cons_self ..)).1 w
    rw [Instr.findAsking, h1, h2]
    simp only [Sem.run_bind, he, Result.andThen_ok, findP]
    by_cases e' : p.1 = k
    · rw [if_pos e', eqv_iff.2 e'.symm]; rfl
    · rw [if_neg e', eqv_ne (Ne.symm e')]
      simp only [Bool.false_eq_true, if_false]
      rw [ih, Option.map_map]
      congr 2
      funext q
      show (i + 1 + q.1, _) = (i + (q.1 + 1), _)
      rw [show i + 1 + q.1 = i + (q.1 + 1) by omega]
theorem PKey.find (h : PKey P T K V E) (hk : inR .i64 k.1 ∧ inR .i64 k.2) (hm : PM l es c) (w : World) : (Instr.findKey K (keyV k) es.toList).run P w = .ok ((findP l k).map fun q => (q.1, Value.int .i64 q.2)) w := by
  have h1 := h.asking hk w hm.is hm.inr 0
  unfold Instr.findKey
  simp only [Sem.run_bind, run_underlying h.hK, Result.andThen_ok]
  cases hes : es.toList with
  | nil =>
    rw [hes] at h1
    simp only [Instr.findNow]
    have : l = [] := by
      have := congrArg List.length hm.is
      rw [hes] at this
      simpa using this.symm
    subst this
    simp [findP]
  | cons e r =>
    rw [hes] at h1
    have h2 : Instr.findNow (TypeDesc.array 2 E) (keyV k) (e :: r) 0 = none := by simp [Instr.findNow, Instr.sameNow]
    simp only [h2]
    rw [h1]
    simp only [Nat.zero_add]
theorem PM.size (h : PM l es c) : es.size = l.length := by
  have := congrArg List.length h.is
  simpa using this
theorem PM.at (h : PM l es c) {i : Nat} {p : DPar} (hi : l[i]? = some p) : ∃ e, es[i]? = some e ∧ e.key = keyV p.1 ∧ e.val = .int .i64 p.2 ∧ e.born = i := by
  have hl := (List.getElem?_eq_some_iff.1 hi).1
  have h1 := congrArg (fun z => z[i]?) h.is
  have h2 := congrArg (fun z => z[i]?) h.born
  simp only [List.getElem?_map, Array.getElem?_toList, hi] at h1 h2
  cases he : es[i]? with
  | none => rw [he] at h1; cases h1
  | some e =>
    rw [he] at h1 h2
    refine ⟨e, rfl, congrArg Prod.fst (Option.some.inj h1), congrArg Prod.snd (Option.some.inj h1), ?_⟩
    have h3 : (List.range l.length)[i]? = some i := by rw [List.getElem?_range hl]
    rw [h3] at h2
    exact Option.some.inj h2
theorem PM.push (h : PM l es c) {x : Int} (hk : inR .i64 k.1 ∧ inR .i64 k.2) (hx : inR .i64 x) : PM (l ++ [(k, x)]) (es.push { key := keyV k, val := .int .i64 x, born := c }) (c + 1) := by
  refine ⟨?_, ?_, by simp [h.clock], fun p hp => ?_⟩
  · rw [Array.toList_push, List.map_append, List.map_append, h.is]; rfl
  · rw [Array.toList_push, List.map_append, h.born, h.clock]
    simp [List.range_succ]
  · rcases List.mem_append.1 hp with h1 | h1
    · exact h.inr p h1
    · rw [List.mem_singleton] at h1; rw [h1]; exact ⟨hk, hx⟩
theorem PM.set (h : PM l es c) {i : Nat} {y x : Int} (hi : l[i]? = some (k, y)) (hx : inR .i64 x) {f : MapEntry → MapEntry} (hf : ∀ e, e.key = keyV k → f e = { e with key := keyV k, val := .int .i64 x }) : PM (l.set i (k, x)) (es.modify i f) c := by
  have hl := (List.getElem?_eq_some_iff.1 hi).1
  obtain ⟨e, he, hek, hev, heb⟩ := h.at hi
  refine ⟨?_, ?_, by simp [h.clock], fun p hp => ?_⟩
  · apply List.ext_getElem?
    intro j
    have h1 := congrArg (fun z => z[j]?) h.is
    simp only [List.getElem?_map, Array.getElem?_toList] at h1
    rw [List.getElem?_map, List.getElem?_map, List.getElem?_set, Array.getElem?_toList, Array.getElem?_modify]
    by_cases e9 : i = j
    · subst e9
      rw [if_pos rfl, if_pos rfl, if_pos hl, he]
      simp only [Option.map_some]
      rw [hf e hek]; rfl
    · rw [if_neg e9, if_neg e9]; exact h1
  · have : (es.modify i f).toList.map (·.born) = es.toList.map (·.born) := by
      apply List.ext_getElem?
      intro j
      rw [List.getElem?_map, List.getElem?_map, Array.getElem?_toList, Array.getElem?_toList, Array.getElem?_modify]
      by_cases e9 : i = j
      · subst e9
        rw [if_pos rfl, he]
        simp only [Option.map_some]
        rw [hf e hek]
      · rw [if_neg e9]
    rw [this, h.born, List.length_set]
  · rcases List.mem_or_eq_of_mem_set hp with h1 | h1
    · exact h.inr p h1
    · rw [h1]; exact ⟨(h.inr _ (List.mem_of_getElem? hi)).1, hx⟩
theorem PM.nodup (h : PM l es c) : (es.toList.map (·.born)).Nodup := by rw [h.born]; exact List.nodup_range
theorem PM.old (h : PM l es c) : ∀ x ∈ es.toList, x.born < c := fun x hx => by
  have : x.born ∈ es.toList.map (·.born) := List.mem_map.2 ⟨x, hx, rfl⟩
  rw [h.born, List.mem_range] at this
  rw [h.clock]; exact this
theorem findIx {i : Nat} (h : PM l es c) (hi : i < l.length) : es.findIdx? (fun e => (e.born : Int) == (i : Int)) = some i := by
  obtain ⟨e, he, _, _, heb⟩ := h.at (List.getElem?_eq_getElem hi)
  have hs : i < es.size := by rw [h.size]; exact hi
  rw [Array.findIdx?_eq_some_iff_getElem]
  refine ⟨hs, ?_, fun j hj => ?_⟩
  · have : es[i] = e := by rw [Array.getElem?_eq_getElem hs] at he; exact Option.some.inj he
    rw [this, heb]; simp
  · obtain ⟨e', he', _, _, heb'⟩ := h.at (List.getElem?_eq_getElem (show j < l.length by omega))
    have : es[j] = e' := by rw [Array.getElem?_eq_getElem (show j < es.size by omega)] at he'; exact Option.some.inj he'
    rw [this, heb']
    simp; omega
end
def entP (l : List DPar) (k : Int × Int) : List DPar := match findP l k with
  | some _ => l
  | none => l ++ [(k, 0)]
def ixP (l : List DPar) (k : Int × Int) : Nat := match findP l k with
  | some q => q.1
  | none => l.length
theorem ixP_le (l : List DPar) (k : Int × Int) : ixP l k ≤ l.length := by
  unfold ixP
  cases h : findP l k with
  | some q => exact Nat.le_of_lt (List.getElem?_eq_some_iff.1 (findP_get h)).1
  | none => exact Nat.le_refl _
theorem entP_at (l : List DPar) (k : Int × Int) : ∃ y, (entP l k)[ixP l k]? = some (k, y) := by
  unfold entP ixP
  cases h : findP l k with
  | some q => exact ⟨_, findP_get h⟩
  | none => exact ⟨0, by simp⟩
theorem entP_set (l : List DPar) (k : Int × Int) (x : Int) : (entP l k).set (ixP l k) (k, x) = stP l k x := by
  unfold entP ixP stP
  cases h : findP l k with
  | some q => rfl
  | none => simp
def OSh.pmap (l : List DPar) : OSh where
  hold s w v F := ∃ b es c, v = .map (some b) ∧ w.heap[b]? = some (.map es c) ∧ PM l es c ∧ ∀ b', F b' ↔ b' = b
  mono hst h := h
  frame h hw := by
    obtain ⟨b, es, c, h1, h2, h3, h5⟩ := h
    exact ⟨b, es, c, h1, by rw [hw b ((h5 b).2 rfl)]; exact h2, h3, h5⟩
  lt h b hb := by
    obtain ⟨b', es, c, h1, h2, h3, h5⟩ := h
    rw [(h5 b).1 hb]
    exact (Array.getElem?_eq_some_iff.1 h2).1
  sur := true
  sure _ h := by
    obtain ⟨b, es, c, h1, _⟩ := h
    simp [undef] at h1
/-- A range over a map: the iterator and the map, and the places that it has handed out. -/
def OSh.piter (l : List DPar) (p : List Nat) : OSh where
  hold s w v F := ∃ r b es, v = .pointer (some ⟨r, 0, none⟩) ∧ w.heap[r]? = some (.mapIter (some b) l.length p.toArray l.length) ∧ w.heap[b]? = some (.map es l.length) ∧ PM l es l.length ∧ ∀ b', F b' ↔ b' = r ∨ b' = b
  mono hst h := h
  frame h hw := by
    obtain ⟨r, b, es, h1, h2, h3, h4, h5⟩ := h
    exact ⟨r, b, es, h1, by rw [hw r ((h5 r).2 (.inl rfl))]; exact h2, by rw [hw b ((h5 b).2 (.inr rfl))]; exact h3, h4, h5⟩
  lt h x hx := by
    obtain ⟨r, b, es, h1, h2, h3, h4, h5⟩ := h
    rcases (h5 x).1 hx with rfl | rfl
    · exact (Array.getElem?_eq_some_iff.1 h2).1
    · exact (Array.getElem?_eq_some_iff.1 h3).1
  sur := true
  sure _ h := by
    obtain ⟨r, b, es, h1, _⟩ := h
    simp [undef] at h1
section
variable {C : Cx} {env env' : Env} {Q : Exit → Act → World → Prop} {o : Oper} {p q r : Operand} {ops : Array Oper} {rest : List Oper} {d t : Nat} {T T' K V E : TypeId} {l : List DPar} {k : Int × Int} {x : Int}
theorem OpT.mkPMap (hH : Hd C o (.makeMap T none) d) : OpT C o env (upd env d (.deep (OSh.pmap []))) := by
  intro Q K a w hr hK
  obtain ⟨s, F, hr'⟩ := hr
  unfold Oper.wp
  have h1 : (execOp a.eval o).run C.P w = .ok (.value (.map (some w.heap.size))) (w.alloc (.map #[] 0)) := by
    simp only [execOp, hH.1]; rfl
  rw [h1, Oper.upon_value, hH.2.1]
  refine hK _ _ (hr'.put (Fd := fun b => b = w.heap.size) hH.2.2.1 (Nat.lt_of_lt_of_le hH.2.2.1 C.hN) hH.2.2.2 ⟨w.heap.size, #[], 0, rfl, heap_alloc_new w _, ⟨rfl, rfl, rfl, (fun p hp => by cases hp)⟩, fun b' => Iff.rfl⟩ (Hp.le_refl s) (fun b o h1 h2 => by rw [h1] at h2; cases h2) (fz_alloc hr'.fz _) (keep_alloc w _) ?_)
  intro b hb
  refine ⟨by omega, ?_⟩
  cases hs : s b with
  | none => rfl
  | some o' => have := hr'.fz.lt hs; omega
theorem gtP_inR {es : Array MapEntry} {c : Nat} (h : PM l es c) : inR .i64 ((gtP l k).getD 0) := by
  unfold gtP
  cases hf : findP l k with
  | none => exact inR_i64.2 (by decide)
  | some q => exact (h.inr _ (List.mem_of_getElem? (findP_get hf))).2
theorem OpT.pGet (hH : Hd C o (.lookup T p q false) d) (hp : Root C env p t) (ht : env t = .deep (OSh.pmap l)) (hq : Opd C env q (.agg kPP k)) (hk : PKey C.P T K V E) :
    OpT C o env (upd env d (.cel (Kd.int .i64) ((gtP l k).getD 0))) :=
  OpT.pure hH.2.1 hH.2.2 fun s F a w hr => by
    have hslot := hr.slot t
    rw [ht] at hslot
    obtain ⟨b, es, c, hv, hb, hm, hF⟩ := hslot
    obtain ⟨cs, hcs, hrd⟩ := hq.geta hr
    obtain ⟨e1, hi1, hi2⟩ := kPP_cs hrd
    have hf := hk.find ⟨hi1, hi2⟩ hm w
    have hc := hk.check es.isEmpty k w
    refine ⟨.int .i64 ((gtP l k).getD 0), ?_, ⟨⟨rfl, gtP_inR hm⟩, fun b hb => hb⟩⟩
    simp only [execOp, hH.1, hp.2 s F a w hr, hv, hcs, e1]
    unfold gtP
    cases hfa : findP l k with
    | none =>
      rw [hfa] at hf
      simp [Instr.lookup, run_underlying hk.hT, MapKept.run_getObj_map hb, hc, hf, hk.zV]
    | some q =>
      rw [hfa] at hf
      simp [Instr.lookup, run_underlying hk.hT, MapKept.run_getObj_map hb, hc, hf]
/-- The map's block gets another map. -/
theorem map_turn {s : Hp} {F : Nat → FS} {a : Act} {w : World} (hr' : Rel C.N C.w0 C.hd C.pn C.s0 env s F a w) {b c c' : Nat} {es es' : Array MapEntry} (hv : gv a.tmps t = .map (some b)) (hb : w.heap[b]? = some (.map es c)) (hF : ∀ b', F t b' ↔ b' = b) {l' : List DPar} (hm' : PM l' es' c') :
    RelE C.N C.w0 C.hd C.pn C.s0 (updK env t (.deep (OSh.pmap l'))) a { w with heap := w.heap.setIfInBounds b (.map es' c') } := by
  have hset := MapKept.heap_set (o' := .map es' c') hb
  have hmn := hr'.mine t b ((hF b).2 rfl)
  refine hr'.turn (s' := s) (Fd := F t) ⟨b, es', c', hv, hset.1, hm', hF⟩ (Hp.le_refl s) (fun b o h1 h2 => by rw [h1] at h2; cases h2) (fun b' o' h9 => ?_) ?_ (fun t' b' hne hb' => ?_) (fun b' hb' => by rw [(hF b').1 hb']; exact hmn)
  · have hne : b' ≠ b := fun e => by rw [e, hmn.1] at h9; cases h9
    show (w.heap.setIfInBounds b _)[b']? = _
    rw [hset.2 b' hne]
    exact hr'.fz b' o' h9
  · have hk := hr'.keep
    refine ⟨hk.1, hk.2, hk.3, by show _ ≤ (w.heap.setIfInBounds b _).size; rw [Array.size_setIfInBounds]; exact hk.4, fun b' h1 h2 => ?_, hk.drn⟩
    have hne : b' ≠ b := fun e => by
      rw [e] at h1 h2
      rcases hmn.2 with h3 | h3
      · omega
      · exact h2 h3
    show (w.heap.setIfInBounds b _)[b']? = _
    rw [hset.2 b' hne]
    exact hk.5 b' h1 h2
  · have hne2 : b' ≠ b := fun e => hne (hr'.disj t' t b' hb' ((hF b').2 e))
    exact ⟨hset.2 b' hne2, (hr'.mine t' b' hb').1, fun h => hne2 ((hF b').1 h)⟩
theorem updK_updRes {out : List As} {A : As} (hne : t ≠ d) (ht : t < 10000) (hA : A.dep d = false) : updRes (updK env t A) d out = updK (updRes env d out) t A := by
  funext u
  unfold updRes updK
  by_cases hu : u = t
  · subst hu
    have h1 : ofSlot d u = false := by simp [ofSlot, Nat.mod_eq_of_lt ht, hne]
    simp [hne, h1, hA]
  · simp [hu]
theorem stays (k : Int × Int) (P : Program) (w : World) : (Instr.keyThatStays (keyV k) (keyV k)).run P w = .ok (keyV k) w := by
  have hsb : Instr.sameBits 10000 (keyV k) (keyV k) = true := by
    unfold keyV
    show Instr.sameBits (9999 + 1) _ _ = true
    simp [Instr.sameBits]
  unfold Instr.keyThatStays
  rw [if_pos hsb]
  rfl
theorem OpT.pEnt (hH : Hd C o (.mapEntry T p q) d) (hp : Root C env p t) (ht : env t = .deep (OSh.pmap l)) (hq : Opd C env q (.agg kPP k)) (hne : t ≠ d) (hk : PKey C.P T K V E) (hlen : l.length ≤ 9223372036854775807) :
    OpT C o env (updRes (updK env t (.deep (OSh.pmap (entP l k)))) d [.any, .cel (Kd.int .i64) (ixP l k : Int)]) := by
  intro Q K' a w hr hK'
  obtain ⟨s, F, hr'⟩ := hr
  have hslot := hr'.slot t
  rw [ht] at hslot
  obtain ⟨b, es, c, hv, hb, hm, hF⟩ := hslot
  obtain ⟨cs, hcs, hrd⟩ := hq.geta hr'
  obtain ⟨e1, hi1, hi2⟩ := kPP_cs hrd
  have hf := hk.find ⟨hi1, hi2⟩ hm w
  have hc := hk.check false k w
  have fin : ∀ es' c' u, (execOp a.eval o).run C.P w = .ok (.value (.tuple #[u, goInt (ixP l k)])) { w with heap := w.heap.setIfInBounds b (.map es' c') } → PM (entP l k) es' c' → o.wp C.P a w K' Q := fun es' c' u hrun hm' => by
    unfold Oper.wp
    rw [hrun, Oper.upon_value, hH.2.1]
    obtain ⟨s1, F1, hr1⟩ := map_turn hr' hv hb hF hm'
    refine hK' _ _ (hr1.putR (Fr := fun _ => FS.no) hH.2.2.1 (Nat.lt_of_lt_of_le hH.2.2.1 C.hN) hH.2.2.2 (.inr ⟨_, rfl, rfl⟩) (fun j => ?_) rfl (fun t b j _ h => h) (fun i j b h => h.elim) (fun j b h => h.elim))
    rcases j with _ | _ | j
    · exact fun b h => h
    · exact ⟨⟨rfl, inR_i64.2 (by have := ixP_le l k; omega)⟩, fun b h => h⟩
    · simp only [List.getD_cons_succ, List.getD_nil]
      exact fun b h => h
  cases hfa : findP l k with
  | some q' =>
    rw [hfa] at hf
    have hl := findP_get hfa
    obtain ⟨e, he, hek, hev, heb⟩ := hm.at hl
    have he1 : entP l k = l := by unfold entP; rw [hfa]
    have he2 : ixP l k = q'.1 := by unfold ixP; rw [hfa]
    have hkey : ((es[q'.1]?).map (·.key)).getD (keyV k) = keyV k := by rw [he]; exact hek
    have hbn : ((es[q'.1]?).map (fun x => (x.born : Int))).getD 0 = (q'.1 : Int) := by rw [he]; show (e.born : Int) = _; rw [heb]
    have hset : l.set q'.1 (k, q'.2) = l := by
      apply List.ext_getElem?
      intro j
      rw [List.getElem?_set]
      split
      · rename_i e9
        subst e9
        rw [if_pos (List.getElem?_eq_some_iff.1 hl).1, hl]
      · rfl
    refine fin (es.modify q'.1 fun e => { e with key := keyV k }) c (.int .i64 q'.2) ?_ ?_
    · rw [he2]
      simp only [execOp, hH.1, hp.2 s F a w hr', hv, hcs, e1]
      simp [Instr.mapEntry, run_underlying hk.hT, MapKept.run_getObj_map hb, hc, hf, hkey, stays, MapKept.run_setObj_map _ hb, Result.andThen, hbn]
    · rw [he1]
      have h9 := hm.set (x := q'.2) hl (hm.inr _ (List.mem_of_getElem? hl)).2 (f := fun e => { e with key := keyV k, val := .int .i64 q'.2 }) (fun e _ => rfl)
      rw [hset] at h9
      have h10 : (es.modify q'.1 fun e => { e with key := keyV k }) = es.modify q'.1 fun e => { e with key := keyV k, val := .int .i64 q'.2 } := by
        apply Array.ext_getElem?
        intro j
        rw [Array.getElem?_modify, Array.getElem?_modify]
        split
        · rename_i e9
          subst e9
          rw [he]
          simp only [Option.map_some, ← hev]
        · rfl
      rw [h10]; exact h9
  | none =>
    rw [hfa] at hf
    have he1 : entP l k = l ++ [(k, 0)] := by unfold entP; rw [hfa]
    have he2 : ixP l k = c := by unfold ixP; rw [hfa, hm.clock]
    refine fin (es.push { key := keyV k, val := .int .i64 0, born := c }) (c + 1) (.int .i64 0) ?_ ?_
    · rw [he2]
      simp only [execOp, hH.1, hp.2 s F a w hr', hv, hcs, e1]
      simp [Instr.mapEntry, run_underlying hk.hT, MapKept.run_getObj_map hb, hc, hf, hk.zV, MapKept.run_setObj_map _ hb, Result.andThen]
    · rw [he1]; exact hm.push ⟨hi1, hi2⟩ (inR_i64.2 (by decide))
theorem OpT.pSet {T : TypeId} (ho : o.op = .entryStore T p q r) (hd : o.dst = none) (hp : Root C env p t) (ht : env t = .deep (OSh.pmap (entP l k))) (hq : Opd C env q (.cel (Kd.int .i64) (ixP l k : Int))) (hr9 : Opd C env r (.cel (Kd.int .i64) x)) :
    OpT C o env (updK env t (.deep (OSh.pmap (stP l k x)))) := by
  intro Q K' a w hr hK'
  obtain ⟨s, F, hr'⟩ := hr
  have hslot := hr'.slot t
  rw [ht] at hslot
  obtain ⟨b, es, c, hv, hb, hm, hF⟩ := hslot
  have hx := (hr9.geti hr')
  have hqv := (hq.geti hr').1
  obtain ⟨y, hy⟩ := entP_at l k
  have hfi := findIx hm (List.getElem?_eq_some_iff.1 hy).1
  have hm' := hm.set (x := x) hy hx.2 (f := fun e => { e with val := .int .i64 x }) (fun e he => by rw [← he])
  rw [entP_set] at hm'
  have hrun : (execOp a.eval o).run C.P w = .ok .skip { w with heap := w.heap.setIfInBounds b (.map (es.modify (ixP l k) fun e => { e with val := .int .i64 x }) c) } := by
    simp only [execOp, ho, hp.2 s F a w hr', hv, hqv, hx.1]
    simp [Instr.entryStore, MapKept.run_getObj_map hb, goInt, asInt, asIntOf, hfi, MapKept.run_setObj_map _ hb, Result.andThen]
  unfold Oper.wp
  rw [hrun, Oper.upon_skip, hd]
  exact hK' _ _ (map_turn hr' hv hb hF hm')
theorem OpT.pRange (hH : Hd C o (.range T p) d) (hp : Root C env p t) (ht : env t = .deep (OSh.pmap l)) (hT : C.P.underlying T = some (.map K V)) :
    OpT C o env (upd (upd env t .any) d (.deep (OSh.piter l []))) := by
  intro Q K' a w hr hK'
  obtain ⟨s, F, hr'⟩ := hr
  have hslot := hr'.slot t
  rw [ht] at hslot
  obtain ⟨b, es, c, hv, hb, hm, hF⟩ := hslot
  have hc := hm.clock
  subst hc
  have hblt : b < w.heap.size := (Array.getElem?_eq_some_iff.1 hb).1
  obtain ⟨F1, h1, h2⟩ := hr'.weaken' (upd_any_to env t)
  have hrun : (execOp a.eval o).run C.P w = .ok (.value (.pointer (some ⟨w.heap.size, 0, none⟩))) (w.alloc (.mapIter (some b) l.length #[] l.length)) := by
    simp only [execOp, hH.1, hp.2 s F a w hr', hv, run_range_map w T K V b es _ hT hb, Sem.run_bind, Result.andThen_ok]
    rfl
  have hnot : ∀ b, ¬ F1 t b := fun b hb => by
    have h3 := h1.slot t
    have h4 : upd env t .any t = .any := by unfold upd; rw [if_pos rfl]
    rw [h4] at h3
    exact h3 b hb
  have hka := keep_alloc w (.mapIter (some b) l.length #[] l.length)
  unfold Oper.wp
  rw [hrun, Oper.upon_value, hH.2.1]
  refine hK' _ _ ⟨s, _, h1.putG (Fd := fun b' => b' = w.heap.size ∨ b' = b) hH.2.2.1 (Nat.lt_of_lt_of_le hH.2.2.1 C.hN) hH.2.2.2 ⟨w.heap.size, b, es, rfl, heap_alloc_new w _, by rw [heap_alloc_old w _ hblt]; exact hb, hm, fun b' => Iff.rfl⟩ (Hp.le_refl s) (fun b o h1 h2 => by rw [h1] at h2; cases h2) (fz_alloc hr'.fz _) ?_ (fun t' b' hne' hof hb' => ?_) (fun b' hb' => ?_)⟩
  · have hk := hr'.keep
    exact ⟨hk.os, hk.tape, hk.output, Nat.le_trans hk.size hka.size, fun b' hb' hn => by
      rw [hka.block b' (Nat.lt_of_lt_of_le hb' hk.size) (fun h => h)]
      exact hk.block b' hb' hn, hk.drn⟩
  · have hlt := As.holds_lt (h1.slot t') b' hb'
    refine ⟨heap_alloc_old w _ hlt, (h1.mine t' b' hb').1, ?_⟩
    rintro (rfl | rfl)
    · omega
    · have h3 := h2 t' b' hb'
      have := hr'.disj t' t b' h3.1 ((hF b').2 rfl)
      subst this
      exact hnot _ hb'
  · rcases hb' with rfl | rfl
    · refine ⟨?_, .inl hr'.keep.size⟩
      cases hs : s w.heap.size with
      | none => rfl
      | some o' => have := hr'.fz.lt hs; omega
    · exact hr'.mine t b' ((hF b').2 rfl)
/-- The iterator's block gets other places. -/
theorem iter_turn {s : Hp} {F : Nat → FS} {a : Act} {w w1 : World} (hr' : Rel C.N C.w0 C.hd C.pn C.s0 env s F a w) (hw1 : w1 = w ∨ w1 = w.drew) {r b : Nat} {es : Array MapEntry} {p p' : List Nat} (hv : gv a.tmps t = .pointer (some ⟨r, 0, none⟩)) (hr : w.heap[r]? = some (.mapIter (some b) l.length p.toArray l.length)) (hb : w.heap[b]? = some (.map es l.length)) (hm : PM l es l.length) (hF : ∀ b', F t b' ↔ b' = r ∨ b' = b) :
    RelE C.N C.w0 C.hd C.pn C.s0 (updK env t (.deep (OSh.piter l p'))) a (ChangeMaps.setBlock w1 r (.mapIter (some b) l.length p'.toArray l.length)) := by
  have hh : w1.heap = w.heap := by rcases hw1 with rfl | rfl <;> rfl
  have hset := MapKept.heap_set (o' := .mapIter (some b) l.length p'.toArray l.length) hr
  have hne0 : b ≠ r := fun e => by rw [e, hr] at hb; cases hb
  have hheap : ∀ b' : Nat, (ChangeMaps.setBlock w1 r (.mapIter (some b) l.length p'.toArray l.length)).heap[b']? = (w.heap.setIfInBounds r (.mapIter (some b) l.length p'.toArray l.length))[b']? := fun b' => by
    show (w1.heap.setIfInBounds r _)[b']? = _
    rw [hh]
  have hmn := hr'.mine t r ((hF r).2 (.inl rfl))
  have hmb := hr'.mine t b ((hF b).2 (.inr rfl))
  refine hr'.turn (s' := s) (Fd := F t) ⟨r, b, es, hv, by rw [hheap]; exact hset.1, by rw [hheap, hset.2 b hne0]; exact hb, hm, hF⟩ (Hp.le_refl s) (fun b o h1 h2 => by rw [h1] at h2; cases h2) (fun b' o' h9 => ?_) ?_ (fun t' b' hne hb' => ?_) (fun b' hb' => by
    rcases (hF b').1 hb' with rfl | rfl
    · exact hmn
    · exact hmb)
  · have hne : b' ≠ r := fun e => by rw [e, hmn.1] at h9; cases h9
    rw [hheap, hset.2 b' hne]
    exact hr'.fz b' o' h9
  · have hk := hr'.keep
    have hsz : (ChangeMaps.setBlock w1 r (.mapIter (some b) l.length p'.toArray l.length)).heap.size = w.heap.size := by
      show (w1.heap.setIfInBounds r _).size = _
      rw [Array.size_setIfInBounds, hh]
    refine ⟨?_, ?_, ?_, by rw [hsz]; exact hk.4, fun b' h1 h2 => ?_, fun hon => ?_⟩
    · rcases hw1 with rfl | rfl <;> exact hk.1
    · rcases hw1 with rfl | rfl <;> exact hk.2
    · rcases hw1 with rfl | rfl <;> exact hk.3
    · have hne : b' ≠ r := fun e => by
        rw [e] at h1 h2
        rcases hmn.2 with h3 | h3
        · omega
        · exact h2 h3
      rw [hheap, hset.2 b' hne]
      exact hk.5 b' h1 h2
    · have := hk.drn hon
      rcases hw1 with rfl | rfl
      · exact this
      · exact Nat.le_trans this (Nat.le_add_right _ _)
  · have hne2 : b' ≠ r := fun e => hne (hr'.disj t' t b' hb' ((hF b').2 (.inl e)))
    exact ⟨by rw [hheap]; exact hset.2 b' hne2, (hr'.mine t' b' hb').1, fun h => hne (hr'.disj t' t b' hb' h)⟩
/-- 'next': a place that has not been handed out, or the end: all have been. -/
theorem AWl.pnext {pl : List Nat} (hg : o.guard = none) (hH : Hd C o (.next (.tmp t) false) d) (htl : t < 10000) (hne : t ≠ d) (hdl : 10000 + d < 20000) (ht : env t = .deep (OSh.piter l pl)) (hnd : pl.Nodup) (hin : ∀ i ∈ pl, i < l.length)
    (h : ∀ (b : Bool) (i : Nat) (x : DPar) (pl' : List Nat), (b = true → l[i]? = some x ∧ i ∉ pl ∧ pl' = pl ++ [i]) → (b = false → pl' = pl ∧ ∀ i, i < l.length → i ∈ pl) →
      AWl C ops rest (updK (updRes env d [.cel Kd.bool b, .any, .any]) t (.deep (OSh.piter l pl'))) Q) : AWl C ops (o :: rest) env Q := fun a w hr =>
  wpList_plain hg fun K hK => by
    obtain ⟨s, F, hr'⟩ := hr
    have hslot := hr'.slot t
    rw [ht] at hslot
    obtain ⟨rb, b, es, hv, hrr, hb, hm, hF⟩ := hslot
    have hev : a.eval (.tmp t) = .pointer (some ⟨rb, 0, none⟩) := by rw [← hv, gv_lo htl]; rfl
    have hes : ∀ (i : Nat) (e : MapEntry), es[i]? = some e → e.born = i := fun i e he => by
      have hi : i < l.length := by rw [← hm.size]; exact (Array.getElem?_eq_some_iff.1 he).1
      obtain ⟨e', he', _, _, hb'⟩ := hm.at (List.getElem?_eq_getElem hi)
      rw [he] at he'
      rw [Option.some.inj he']; exact hb'
    have put : ∀ (env1 : Env) (vs : Array Value) (b : Bool) a1 w1, RelE C.N C.w0 C.hd C.pn C.s0 env1 a1 w1 → vs.getD 0 undef = .bool b → C.R (updRes env1 d [.cel Kd.bool b, .any, .any]) (a1.put (some d) (.tuple vs)) w1 := by
      intro env1 vs b a1 w1 h9 hvs
      obtain ⟨s1, F1, hr1⟩ := h9
      obtain ⟨s2, F2, hr2⟩ := hr1.put0 (A := .any) (v := .tuple vs) hH.2.2.1 (Nat.lt_of_lt_of_le hH.2.2.1 C.hN) hH.2.2.2 (fun b hb => hb)
      have hgv : gv (a1.put (some d) (.tuple vs)).tmps (10000 + d) = .bool b := by
        have hd1 : d < 10000 := Nat.lt_of_lt_of_le hH.2.2.1 C.hN
        have h5 : (a1.put (some d) (.tuple vs)).tmps.getD d undef = .tuple vs := by
          have := gv_put_eq (tmps := a1.tmps) (.tuple vs) hd1 (by rw [hr1.size]; exact hH.2.2.1)
          rwa [gv_lo hd1] at this
        unfold gv
        rw [if_neg (by omega), show (10000 + d) % 10000 = d by omega, h5]
        show vs.getD ((10000 + d) / 10000 - 1) undef = _
        rw [show (10000 + d) / 10000 - 1 = 0 by omega]
        exact hvs
      obtain ⟨s3, F3, hr3⟩ := hr2.turn (d := 10000 + d) (s' := s2) (Fd := FS.no) (A := .cel Kd.bool b) ⟨by rw [hgv]; rfl, fun b hb => hb⟩ (Hp.le_refl s2) (fun b o h1 h2 => by rw [h1] at h2; cases h2) hr2.fz hr2.keep (fun t' b' hne' hb' => ⟨rfl, (hr2.mine t' b' hb').1, fun h => h⟩) (fun b' hb' => hb'.elim)
      refine hr3.weaken (fun u => ?_)
      unfold updRes updK upd
      have hd1 : d < 10000 := Nat.lt_of_lt_of_le hH.2.2.1 C.hN
      by_cases hu : u = d
      · rw [if_pos hu]; exact .inl rfl
      · rw [if_neg hu]
        by_cases hof : ofSlot d u = true
        · rw [if_pos hof]
          have hmod : u % 10000 = d := by simpa [ofSlot] using hof
          by_cases hu0 : u = 10000 + d
          · rw [if_pos hu0, hu0, show (10000 + d) / 10000 - 1 = 0 by omega]
            exact .inr rfl
          · have : u / 10000 - 1 ≠ 0 := by omega
            refine .inl ?_
            unfold partA
            rcases hj : u / 10000 - 1 with _ | _ | _ | j
            · omega
            · rfl
            · rfl
            · simp
        · rw [if_neg hof]
          have hu0 : u ≠ 10000 + d := fun e => by
            apply hof
            rw [e]
            show (10000 + d) % 10000 == d
            rw [show (10000 + d) % 10000 = d by omega]; simp
          rw [if_neg hu0]
          simp only [hu, hof, if_false, Bool.false_eq_true]
          split
          · exact .inl rfl
          · first | exact .inr rfl | exact .inr trivial
    unfold Oper.wp
    rcases run_next_at (P := C.P) w o.type rb b l.length l.length pl.toArray es l.length hrr hb hm.old (Nat.le_refl _) with ⟨h0, hrun⟩ | ⟨e, he, w1, hw1, hrun⟩
    · have h1 : (execOp a.eval o).run C.P w = .ok (.value (.tuple #[.bool false])) w := by
        simp only [execOp, hH.1, hev, hrun, Sem.run_bind, Result.andThen_ok]
        rfl
      rw [h1, Oper.upon_value, hH.2.1]
      refine hK _ _ (h false 0 ((0, 0), 0) pl (fun h => by cases h) (fun _ => ⟨rfl, fun i hi => ?_⟩) _ _ ?_)
      · obtain ⟨e, he, _, _, heb⟩ := hm.at (List.getElem?_eq_getElem hi)
        by_cases hin2 : i ∈ pl
        · exact hin2
        · exfalso
          have hmem : e ∈ leftOf es pl.toArray := by
            unfold leftOf
            rw [Array.mem_filter]
            refine ⟨Array.mem_of_getElem? he, ?_⟩
            rw [heb]
            simpa using hin2
          have := Array.size_pos_of_mem hmem
          omega
      · have h2 := put env #[.bool false] false a w ⟨s, F, hr'⟩ rfl
        have h3 : updK (updRes env d [.cel Kd.bool false, .any, .any]) t (.deep (OSh.piter l pl)) = updRes env d [.cel Kd.bool false, .any, .any] := by
          funext u
          unfold updK
          by_cases hu : u = t
          · subst hu
            have h4 : ofSlot d u = false := by simp [ofSlot, Nat.mod_eq_of_lt htl, hne]
            simp [updRes, hne, h4, ht, As.dep]
          · rw [if_neg hu]
        rw [h3]; exact h2
    · have he' : e ∈ leftOf es pl.toArray := by simpa using he
      unfold leftOf at he'
      rw [Array.mem_filter] at he'
      obtain ⟨i, hi, hie⟩ := Array.mem_iff_getElem.1 he'.1
      have hei : es[i]? = some e := by rw [Array.getElem?_eq_getElem hi, hie]
      have hbi := hes i e hei
      have hil : i < l.length := by rw [← hm.size]; exact hi
      have hni : i ∉ pl := by
        have := he'.2
        rw [hbi] at this
        simpa using this
      have h1 : (execOp a.eval o).run C.P w = .ok (.value (.tuple #[.bool true, e.key, e.val])) (ChangeMaps.setBlock w1 rb (.mapIter (some b) l.length (pl ++ [i]).toArray l.length)) := by
        simp only [execOp, hH.1, hev, hrun, Sem.run_bind, Result.andThen_ok]
        rw [hbi, show (pl ++ [i]).toArray = pl.toArray.push i by simp]
        rfl
      rw [h1, Oper.upon_value, hH.2.1]
      refine hK _ _ (h true i l[i] (pl ++ [i]) (fun _ => ⟨List.getElem?_eq_getElem hil, hni, rfl⟩) (fun h => by cases h) _ _ ?_)
      rw [← updK_updRes hne htl rfl]
      exact put _ #[.bool true, e.key, e.val] true a _ (iter_turn (p' := pl ++ [i]) hr' hw1 hv hrr hb hm hF) rfl
/-- 'entry', behind a step that gave a place. -/
theorem OpT.pEntry {pl : List Nat} {i : Nat} {x : DPar} (hH : Hd C o (.entry (.tmp t)) d) (htl : t < 10000) (ht : env t = .deep (OSh.piter l (pl ++ [i]))) (hx : l[i]? = some x) :
    OpT C o env (updRes env d [.agg kPP x.1, .cel (Kd.int .i64) x.2]) := by
  intro Q K' a w hr hK'
  obtain ⟨s, F, hr'⟩ := hr
  have hslot := hr'.slot t
  rw [ht] at hslot
  obtain ⟨rb, b, es, hv, hrr, hb, hm, hF⟩ := hslot
  have hev : a.eval (.tmp t) = .pointer (some ⟨rb, 0, none⟩) := by rw [← hv, gv_lo htl]; rfl
  obtain ⟨e, he, hek, hevl, heb⟩ := hm.at hx
  have hin := hm.inr x (List.mem_of_getElem? hx)
  have hrr' : w.heap[rb]? = some (.mapIter (some b) l.length (pl.toArray.push e.born) l.length) := by
    rw [heb, show pl.toArray.push i = (pl ++ [i]).toArray by simp]; exact hrr
  have hmem : e ∈ es.toList := by simpa using Array.mem_of_getElem? he
  have hrun : (execOp a.eval o).run C.P w = .ok (.value (.tuple #[keyV x.1, .int .i64 x.2])) w := by
    simp only [execOp, hH.1, hev, run_entry_at w rb b l.length pl.toArray es l.length e hrr' hb hmem hm.nodup, Sem.run_bind, Result.andThen_ok, hek, hevl]
    rfl
  unfold Oper.wp
  rw [hrun, Oper.upon_value, hH.2.1]
  refine hK' _ _ (hr'.putR (Fr := fun _ => FS.no) hH.2.2.1 (Nat.lt_of_lt_of_le hH.2.2.1 C.hN) hH.2.2.2 (.inr ⟨_, rfl, rfl⟩) (fun j => ?_) rfl (fun t b j _ h => h) (fun i j b h => h.elim) (fun j b h => h.elim))
  rcases j with _ | _ | j
  · exact ⟨⟨_, rfl, kPP_rd hin.1.1 hin.1.2⟩, fun b h => h⟩
  · exact ⟨⟨rfl, hin.2⟩, fun b h => h⟩
  · simp only [List.getD_cons_succ, List.getD_nil]
    exact fun b h => h
theorem dz {A B O : As} {e : KL} {K : KL → List DJ → Prop} {l : List Oper} (nds : List Nat) (h : ∀ env', (∀ t ∈ nds, env' t = keep e t) → OpT C o env' (updRes (updK env' t O) d [A, B])) (hn : (o.guard.isNone && nodep d ((t, O) :: e) && Nat.blt d 10000) = true)
    (r : DH C ops ((d + 10000, A) :: (d + 20000, B) :: (t, O) :: e) l (fun e' I => K e' (⟨[.mod t O, .res d [A, B]], nds⟩ :: I))) : DH C ops e (o :: l) K := by
  rw [Bool.and_eq_true, Bool.and_eq_true] at hn
  have key : ∀ env : Env, DJ.upd ⟨[.mod t O, .res d [A, B]], nds⟩ env = updRes (updK env t O) d [A, B] := fun env => rfl
  exact DH.step (.inr ⟨.inl (by simpa using hn.1.1), fun env' he => by rw [key]; exact h env' he⟩) (by rw [key, updK_keep]; exact updRes_two hn.1.2 hn.2) r
theorem Kp {l l' : List DPar} (h : env t = .deep (OSh.pmap l)) (hp : l = l') : env t = .deep (OSh.pmap l') := hp ▸ h
end
end Go.Proofs.YtkgboidjghcegaaGreatDoor.VL
