/- Proved here: maps of the call's own, from numbers to numbers. General: over every program. -/
import Derived.Test.YtkgboidjghcegaaGreatDoorVLC
import Derived.MapKept
import Derived.Carry
set_option linter.unusedVariables false
set_option linter.unusedSimpArgs false
namespace Go.Proofs.YtkgboidjghcegaaGreatDoor.VL
open Go
def findAt : List (Int × Int) → Int → Option (Nat × Int)
  | [], _ => none
  | p :: r, k => if p.1 = k then some (0, p.2) else (findAt r k).map fun q => (q.1 + 1, q.2)
def getL (l : List (Int × Int)) (k : Int) : Option Int := (findAt l k).map (·.2)
def setL (l : List (Int × Int)) (k x : Int) : List (Int × Int) := match findAt l k with
  | some q => l.set q.1 (k, x)
  | none => l ++ [(k, x)]
def entOf (e : MapEntry) : Value × Value := (e.key, e.val)
def parOf (p : Int × Int) : Value × Value := (.int .i64 p.1, .int .i64 p.2)
def mapIs (l : List (Int × Int)) (es : List MapEntry) : Prop := es.map entOf = l.map parOf
theorem findAt_get : ∀ {l : List (Int × Int)} {k : Int} {q : Nat × Int}, findAt l k = some q → l[q.1]? = some (k, q.2)
  | [], k, q, h => by cases h
  | p :: r, k, q, h => by
    rw [findAt] at h
    split at h
    · rename_i e
      obtain rfl := Option.some.inj h
      subst e
      rfl
    · cases hr : findAt r k with
      | none => rw [hr] at h; cases h
      | some q' =>
        rw [hr] at h
        obtain rfl := Option.some.inj h
        show r[q'.1]? = some (k, q'.2)
        exact findAt_get hr
theorem find_map : ∀ {l : List (Int × Int)} {es : List MapEntry}, mapIs l es → ∀ (k : Int) (i : Nat), Instr.findNow (.int .i64) (.int .i64 k) es i = some ((findAt l k).map fun q => (i + q.1, Value.int .i64 q.2))
  | [], [], _, k, i => rfl
  | [], e :: es, h, k, i => by cases h
  | p :: l, [], h, k, i => by cases h
  | p :: l, e :: es, h, k, i => by
    unfold mapIs at h
    rw [List.map_cons, List.map_cons, List.cons.injEq] at h
    have h1 : e.key = .int .i64 p.1 := congrArg Prod.fst h.1
    have h2 : e.val = .int .i64 p.2 := congrArg Prod.snd h.1
    have ih := find_map (l := l) (es := es) h.2 k (i + 1)
    have hs : Instr.sameNow (.int .i64) (.int .i64 k) e.key = some (k == p.1) := by rw [h1]; simp [Instr.sameNow]
    rw [Instr.findNow, hs, findAt]
    by_cases e' : p.1 = k
    · have : (k == p.1) = true := by rw [e']; simp
      rw [this, if_pos e', h2]
      rfl
    · have : (k == p.1) = false := by rw [beq_eq_false_iff_ne]; exact fun h => e' h.symm
      rw [this, if_neg e']
      show Instr.findNow _ _ es (i + 1) = _
      rw [ih, Option.map_map]
      congr 2
      funext q
      show (i + 1 + q.1, _) = (i + (q.1 + 1), _)
      rw [show i + 1 + q.1 = i + (q.1 + 1) by omega]
def OSh.imap (l : List (Int × Int)) : OSh where
  hold s w v F := ∃ b es c, v = .map (some b) ∧ w.heap[b]? = some (.map es c) ∧ mapIs l es.toList ∧ (∀ p ∈ l, inR .i64 p.2) ∧ ∀ b', F b' ↔ b' = b
  mono hst h := h
  frame h hw := by
    obtain ⟨b, es, c, h1, h2, h3, h4, h5⟩ := h
    exact ⟨b, es, c, h1, by rw [hw b ((h5 b).2 rfl)]; exact h2, h3, h4, h5⟩
  lt h b hb := by
    obtain ⟨b', es, c, h1, h2, h3, h4, h5⟩ := h
    rw [(h5 b).1 hb]
    exact (Array.getElem?_eq_some_iff.1 h2).1
  sur := true
  sure _ h := by
    obtain ⟨b, es, c, h1, _⟩ := h
    simp [undef] at h1
section
variable {C : Cx} {env env' : Env} {Q : Exit → Act → World → Prop} {o : Oper} {p q r : Operand} {ops : Array Oper} {d t : Nat} {T K V : TypeId} {l : List (Int × Int)} {k x : Int}
theorem OpT.mkMap (hH : Hd C o (.makeMap T none) d) : OpT C o env (upd env d (.deep (OSh.imap []))) := by
  intro Q K a w hr hK
  obtain ⟨s, F, hr'⟩ := hr
  unfold Oper.wp
  have h1 : (execOp a.eval o).run C.P w = .ok (.value (.map (some w.heap.size))) (w.alloc (.map #[] 0)) := by
    simp only [execOp, hH.1]; rfl
  rw [h1, Oper.upon_value, hH.2.1]
  refine hK _ _ (hr'.put (Fd := fun b => b = w.heap.size) hH.2.2.1 (Nat.lt_of_lt_of_le hH.2.2.1 C.hN) hH.2.2.2 ⟨w.heap.size, #[], 0, rfl, heap_alloc_new w _, rfl, (fun p hp => by cases hp), fun b' => Iff.rfl⟩ (Hp.le_refl s) (fun b o h1 h2 => by rw [h1] at h2; cases h2) (fz_alloc hr'.fz _) (keep_alloc w _) ?_)
  intro b hb
  refine ⟨by omega, ?_⟩
  cases hs : s b with
  | none => rfl
  | some o' => have := hr'.fz.lt hs; omega
theorem OpT.mapGet (hH : Hd C o (.lookup T p q true) d) (hp : Root C env p t) (ht : env t = .deep (OSh.imap l)) (hq : Opd C env q (.cel (Kd.int .i64) k)) (hT : C.P.underlying T = some (.map K V)) (hK : C.P.underlying K = some (.int .i64)) (hV : ∀ w, (zeroValue V).run C.P w = .ok (.int .i64 0) w) :
    OpT C o env (updRes env d [.cel (Kd.int .i64) ((getL l k).getD 0), .cel Kd.bool (getL l k).isSome]) := by
  intro Q K' a w hr hK'
  obtain ⟨s, F, hr'⟩ := hr
  have hslot := hr'.slot t
  rw [ht] at hslot
  obtain ⟨b, es, c, hv, hb, hm, hin, hF⟩ := hslot
  have hf := find_map hm k 0
  have hgi : inR .i64 ((getL l k).getD 0) := by
    unfold getL
    cases hfa : findAt l k with
    | none => exact inR_i64.2 (by decide)
    | some q => exact hin _ (List.mem_of_getElem? (findAt_get hfa))
  have hrun : (execOp a.eval o).run C.P w = .ok (.value (.tuple #[.int .i64 ((getL l k).getD 0), .bool (getL l k).isSome])) w := by
    simp only [execOp, hH.1, hp.2 s F a w hr', hv, (hq.geti hr').1]
    unfold getL
    cases hfa : findAt l k with
    | none =>
      rw [hfa] at hf
      simp [Instr.lookup, run_underlying hT, MapKept.run_getObj_map hb, MapKept.run_checkKey hK (show MapKept.IsKey (.int .i64) (.int .i64 k) from rfl), MapKept.run_findKey hK hf, hV]
    | some q =>
      rw [hfa] at hf
      simp [Instr.lookup, run_underlying hT, MapKept.run_getObj_map hb, MapKept.run_checkKey hK (show MapKept.IsKey (.int .i64) (.int .i64 k) from rfl), MapKept.run_findKey hK hf]
  unfold Oper.wp
  rw [hrun, Oper.upon_value, hH.2.1]
  refine hK' _ _ (hr'.putR (Fr := fun _ => FS.no) hH.2.2.1 (Nat.lt_of_lt_of_le hH.2.2.1 C.hN) hH.2.2.2 (.inr ⟨_, rfl, rfl⟩) (fun j => ?_) rfl (fun t b j _ h => h) (fun i j b h => h.elim) (fun j b h => h.elim))
  rcases j with _ | _ | j
  · exact ⟨⟨rfl, hgi⟩, fun b h => h⟩
  · exact ⟨rfl, fun b h => h⟩
  · simp only [List.getD_cons_succ, List.getD_nil]
    exact fun b h => h
theorem mapIs_set {l : List (Int × Int)} {es : Array MapEntry} {k x : Int} {q : Nat × Int} {u : Value} (h : mapIs l es.toList) (hf : findAt l k = some q) (hu : u = .int .i64 k) : mapIs (l.set q.1 (k, x)) (es.modify q.1 fun e => { e with key := u, val := .int .i64 x }).toList := by
  unfold mapIs at h ⊢
  apply List.ext_getElem?
  intro i
  have h1 := congrArg (fun z => z[i]?) h
  simp only [List.getElem?_map] at h1
  rw [List.getElem?_map, List.getElem?_map, List.getElem?_set, Array.getElem?_toList, Array.getElem?_modify]
  rw [Array.getElem?_toList] at h1
  by_cases e : q.1 = i
  · have h2 := findAt_get hf
    rw [e] at h2
    rw [h2] at h1
    have hl := (List.getElem?_eq_some_iff.1 h2).1
    rw [if_pos e, if_pos e, if_pos (by omega)]
    cases he : es[i]? with
    | none => rw [he] at h1; cases h1
    | some w => rw [hu]; rfl
  · rw [if_neg e, if_neg e]
    exact h1
theorem OpT.mapSet (ho : o.op = .mapUpdate T p q r) (hd : o.dst = none) (hp : Root C env p t) (ht : env t = .deep (OSh.imap l)) (hq : Opd C env q (.cel (Kd.int .i64) k)) (hr9 : Opd C env r (.cel (Kd.int .i64) x)) (hT : C.P.underlying T = some (.map K V)) (hK : C.P.underlying K = some (.int .i64)) :
    OpT C o env (updK env t (.deep (OSh.imap (setL l k x)))) := by
  intro Q K' a w hr hK'
  obtain ⟨s, F, hr'⟩ := hr
  have hslot := hr'.slot t
  rw [ht] at hslot
  obtain ⟨b, es, c, hv, hb, hm, hin, hF⟩ := hslot
  have hf := find_map hm k 0
  have hx := (hr9.geti hr').2
  have fin : ∀ es' c', (execOp a.eval o).run C.P w = .ok .skip { w with heap := w.heap.setIfInBounds b (.map es' c') } → mapIs (setL l k x) es'.toList → (∀ p ∈ setL l k x, inR .i64 p.2) → o.wp C.P a w K' Q := fun es' c' hrun hm' hin' => by
    unfold Oper.wp
    rw [hrun, Oper.upon_skip, hd]
    have hset := MapKept.heap_set (o' := .map es' c') hb
    have hmn := hr'.mine t b ((hF b).2 rfl)
    refine hK' _ _ (hr'.turn (s' := s) (Fd := F t) ⟨b, es', c', hv, hset.1, hm', hin', hF⟩ (Hp.le_refl s) (fun b o h1 h2 => by rw [h1] at h2; cases h2) (fun b' o' h9 => ?_) ?_ (fun t' b' hne hb' => ?_) (fun b' hb' => by rw [(hF b').1 hb']; exact hmn))
    · have hne : b' ≠ b := fun e => by rw [e, hmn.1] at h9; cases h9
      show (w.heap.setIfInBounds b _)[b']? = _
      rw [hset.2 b' hne]
      exact hr'.fz b' o' h9
    · have hk := hr'.keep
      refine ⟨hk.1, hk.2, hk.3, by show _ ≤ (w.heap.setIfInBounds b _).size; rw [Array.size_setIfInBounds]; exact hk.4, fun b' h1 h2 => ?_, hk.drn⟩
      have hne : b' ≠ b := fun e => by
        rw [e] at h1 h2
        rcases hmn.2 with h3 | h3
        · omega
        · exact h2 h3
      show (w.heap.setIfInBounds b _)[b']? = _
      rw [hset.2 b' hne]
      exact hk.5 b' h1 h2
    · have hne2 : b' ≠ b := fun e => hne (hr'.disj t' t b' hb' ((hF b').2 e))
      exact ⟨hset.2 b' hne2, (hr'.mine t' b' hb').1, fun h => hne2 ((hF b').1 h)⟩
  cases hfa : findAt l k with
  | some q' =>
    rw [hfa] at hf
    have hsl : setL l k x = l.set q'.1 (k, x) := by unfold setL; rw [hfa]
    have hl := findAt_get hfa
    have hkey : ((es[q'.1]?).map (·.key)).getD (.int .i64 k) = .int .i64 k := by
      have h1 := congrArg (fun z => z[q'.1]?) hm
      simp only [List.getElem?_map, Array.getElem?_toList] at h1
      rw [hl] at h1
      cases he : es[q'.1]? with
      | none => rfl
      | some e =>
        rw [he] at h1
        exact congrArg Prod.fst (Option.some.inj h1)
    refine fin (es.modify q'.1 fun e => { e with key := .int .i64 k, val := .int .i64 x }) c ?_ (by rw [hsl]; exact mapIs_set hm hfa rfl) (by
      rw [hsl]
      intro p hp
      rcases List.mem_or_eq_of_mem_set hp with h | h
      · exact hin p h
      · rw [h]; exact hx)
    have hks : ∀ w : World, (Instr.keyThatStays (Value.int .i64 k) (Value.int .i64 k)).run C.P w = .ok (Value.int .i64 k) w := fun w => by
      have hsb : Instr.sameBits 10000 (Value.int .i64 k) (Value.int .i64 k) = true := by
        show (IntKind.i64 == IntKind.i64 && k == k) = true
        simp
      unfold Instr.keyThatStays
      rw [if_pos hsb]
      rfl
    simp only [execOp, ho, hp.2 s F a w hr', hv, (hq.geti hr').1, (hr9.geti hr').1]
    simp [Instr.mapUpdate, run_underlying hT, MapKept.run_getObj_map hb, MapKept.run_checkKey hK (show MapKept.IsKey (.int .i64) (.int .i64 k) from rfl), MapKept.run_findKey hK hf, hkey, hks, MapKept.run_setObj_map _ hb, Result.andThen]
  | none =>
    rw [hfa] at hf
    have hsl : setL l k x = l ++ [(k, x)] := by unfold setL; rw [hfa]
    refine fin (es.push { key := .int .i64 k, val := .int .i64 x, born := c }) (c + 1) ?_ (by
      rw [hsl]
      unfold mapIs at hm ⊢
      rw [Array.toList_push, List.map_append, List.map_append, hm]; rfl) (by
      rw [hsl]
      intro p hp
      rcases List.mem_append.1 hp with h | h
      · exact hin p h
      · rw [List.mem_singleton] at h; rw [h]; exact hx)
    simp only [execOp, ho, hp.2 s F a w hr', hv, (hq.geti hr').1, (hr9.geti hr').1]
    simp [Instr.mapUpdate, run_underlying hT, MapKept.run_getObj_map hb, MapKept.run_checkKey hK (show MapKept.IsKey (.int .i64) (.int .i64 k) from rfl), MapKept.run_findKey hK hf, MapKept.run_setObj_map _ hb, Result.andThen]
theorem Km {l l' : List (Int × Int)} (h : env t = .deep (OSh.imap l)) (hp : l = l') : env t = .deep (OSh.imap l') := hp ▸ h
end
end Go.Proofs.YtkgboidjghcegaaGreatDoor.VL
