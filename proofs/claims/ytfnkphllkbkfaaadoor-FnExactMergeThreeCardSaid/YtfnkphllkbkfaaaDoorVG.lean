/- Proved here: rules for stores, rows that are made and appended to, and for handing on what is owned. With the words of VA. General: over every program. -/
import Derived.Test.YtfnkphllkbkfaaaDoorVF
set_option linter.unusedVariables false
set_option linter.unusedSimpArgs false
namespace Go.Proofs.YtfnkphllkbkfaaaDoor.VL
open Go

theorem splice_elem {cs c : List Value} {a sz off m : Nat} (h1 : off + m ≤ sz) (h2 : a + sz ≤ cs.length) (hc : c.length = m) :
    cs.take a ++ ((((cs.drop a).take sz).take off ++ (c ++ ((cs.drop a).take sz).drop (off + m))) ++ cs.drop (a + sz)) = cs.take (a + off) ++ (c ++ cs.drop (a + off + m)) := by
  rw [List.take_take, Nat.min_eq_left (by omega), List.drop_take, List.drop_drop, List.take_add, List.append_assoc, List.append_assoc, List.append_assoc]
  congr 3
  have e2 : cs.drop (a + sz) = (cs.drop (a + (off + m))).drop (sz - (off + m)) := by rw [List.drop_drop]; congr 1; omega
  rw [e2, show a + off + m = a + (off + m) by omega]
  exact List.take_append_drop _ _
theorem take_splice {L c : List Value} {O m N : Nat} (h1 : O + m ≤ N) (h2 : N ≤ L.length) (hc : c.length = m) :
    (L.take O ++ (c ++ L.drop (O + m))).take N = (L.take N).take O ++ (c ++ (L.take N).drop (O + m)) := by
  have hl : (L.take O).length = O := by rw [List.length_take]; omega
  rw [List.take_append, List.take_append, hl, hc, List.take_of_length_le (l := L.take O) (by omega), List.take_of_length_le (l := c) (by omega), List.take_take, Nat.min_eq_left (by omega), List.drop_take]
  congr 3
  omega

section
variable {C : Cx} {env env' : Env} {Q : Exit → Act → World → Prop} {o : Oper} {p q : Operand} {d t : Nat} {T T' S E : TypeId} {α β γ : Type} {k : Kd α} {k' : Kd β}

theorem keep_setRow {w0 w : World} {hd : FS} {g : Nat} (h : Keep w0 hd w) (hg : w0.heap.size ≤ g ∨ hd g) (cs : Array Value) : Keep w0 hd (w.setRow g cs) :=
  ⟨h.os, h.tape, h.output, by rw [setRow_size]; exact h.size, fun b hb hn => by
    rw [setRow_other w g b cs (fun e => by subst e; rcases hg with h1 | h1; · omega
                                           · exact hn h1)]
    exact h.block b hb hn⟩
theorem fz_setRow {s : Hp} {w : World} (h : Fz s w) {g : Nat} (hg : s g = none) (cs : Array Value) : Fz s (w.setRow g cs) := fun b o hb => by
  rw [setRow_other w g b cs (fun e => by subst e; rw [hg] at hb; cases hb)]
  exact h b o hb

theorem run_store_at {P : Program} {w : World} {g O : Nat} {cur : Array Value} {Eg : TypeId} {v : Value} {c : List Value} (hg : w.heap[g]? = some (.cells cur Eg (0, 0))) (hv : Value.cl v = c) (hn : sizeT P T = some c.length) (hO : O + c.length ≤ cur.size) (h1 : ∀ u ∈ c, u.oneCell' = true) :
    (Instr.storeAt T (.pointer (some ((⟨g, 0, none⟩ : Addr).add O))) v).run P w = .ok () (w.setRow g (cur.toList.take O ++ (c ++ cur.toList.drop (O + c.length))).toArray) := by
  have h2 := run_storeCells_at P g O Eg c 0 cur w hg (by omega) h1
  have h3 : v.cells.size = c.length := by rw [← hv]; simp [Value.cl]
  have h4 : v.cells.toList = c := hv
  rw [Addr.add_lit, Nat.zero_add]
  simp only [Instr.storeAt, Instr.sureAddr, Sem.run_bind, Sem.run_pure, Result.andThen_ok, storeVar, run_sizeT hn, h3, ne_eq, not_true_eq_false, if_false, h4]
  simp only [Nat.add_zero, List.append_assoc] at h2
  exact h2

/-- A store into what is owned. -/
theorem OpT.store_of {i off : Nat} {x : α} {y : β} {f : α → β} {g : α → β → α} {A : As} (ho : o.op = .store T p q) (hd : o.dst = none) (hp : Opd C env p (.pel t i k off k' f g)) (hh : Has env t k i x)
    (hA : (∃ E, env t = .box E k x ∧ i = 0 ∧ A = .box E k (g x y)) ∨ (∃ E xs, env t = .own E k xs ∧ xs[i]? = some x ∧ A = .own E k (xs.set i (g x y))))
    (hz : sizeT C.P T = some k'.sz) (hz0 : 0 < k'.sz)
    (hq : ∀ s F a w, Rel C.N C.w0 C.hd C.pn C.s0 env s F a w → ∃ c, Value.cl (a.eval q) = c ∧ k'.rd s c y) : OpT C o env (updK env t A) := by
  intro Q K a w hr hK
  obtain ⟨s, F, hr'⟩ := hr
  obtain ⟨⟨e, ht, hs⟩, _⟩ := hp s F a w hr'
  obtain ⟨c, hc1, hc2⟩ := hq s F a w hr'
  have hcl := k'.len hc2
  have hslot := hr'.slot t
  have finish : ∀ (b : Nat) (Eb : TypeId) (cur : Array Value), a.eval p = .pointer (some ((⟨b, 0, none⟩ : Addr).add (i * k.sz + off))) → w.heap[b]? = some (.cells cur Eb (0, 0)) → i * k.sz + off + k'.sz ≤ cur.size → F t b → (∀ b', F t b' → b' = b) →
      A.holds s (w.setRow b (cur.toList.take (i * k.sz + off) ++ (c ++ cur.toList.drop (i * k.sz + off + c.length))).toArray) (gv a.tmps) (gv a.tmps t) (F t) → o.wp C.P a w K Q := by
    intro b Eb cur e' hg hle hFb hFo hAh
    have hrun := run_store_at (P := C.P) (T := T) (v := a.eval q) hg hc1 (by rw [hz, hcl]) (by rw [hcl]; exact hle) (k'.one hc2)
    unfold Oper.wp
    simp only [execOp, ho, e', Sem.run_bind]
    rw [hrun]
    simp only [Result.andThen_ok, Sem.run_pure]
    rw [Oper.upon_skip, hd]
    have hm := hr'.mine t b hFb
    refine hK _ _ (hr'.turn hAh (Hp.le_refl s) (fun b o h1 h2 => by rw [h1] at h2; cases h2) (fz_setRow hr'.fz hm.1 _) (keep_setRow hr'.keep hm.2 _) (fun t' b' hne hb' => ?_) (fun b' hb' => by rw [hFo b' hb']; exact hm))
    have hbb : b' ≠ b := fun e => by subst e; exact hne (hr'.disj t' t b' hb' hFb)
    exact ⟨setRow_other w b b' _ hbb, (hr'.mine t' b' hb').1, fun h => hbb (hFo b' h)⟩
  rcases hA with ⟨E, hE, rfl, rfl⟩ | ⟨E, xs, hE, hx, rfl⟩
  · rw [hE] at hslot
    obtain ⟨b, cs, ev, hg, hrd, hF⟩ := hslot
    have hle := (hs.le hrd).resolve_right (by omega)
    rw [Array.length_toList] at hle
    rw [ev] at e
    refine finish b E cs e hg (by omega) ((hF b).2 rfl) (fun b' h => (hF b').1 h) ?_
    refine ⟨b, _, ev, setRow_heap w b cs _ E (0, 0) hg, ?_, hF⟩
    have := hs.wr hrd hc2
    rw [Nat.zero_mul, Nat.zero_add, hcl]
    simpa using this
  · rw [hE] at hslot
    obtain ⟨⟨cells, how, hrd⟩, hz1, hF⟩ := hslot
    have hi : i < xs.length := (List.getElem?_eq_some_iff.1 hx).1
    have hxe := (List.getElem?_eq_some_iff.1 hx).2
    rcases how.2 with ⟨_, hn⟩ | ⟨b, cap, cur, hv, hb0, hg, hncap, hcm, hcs, htake⟩
    · omega
    · have helem := hrd.get i hi
      have hle := (hs.le helem).resolve_right (by omega)
      have hl1 : cells.length = xs.length * k.sz := hrd.len
      have hmul : (i + 1) * k.sz ≤ xs.length * k.sz := Nat.mul_le_mul_right _ hi
      have hmul2 : xs.length * k.sz ≤ cap * k.sz := Nat.mul_le_mul_right _ hncap
      have hs1 : (i + 1) * k.sz = i * k.sz + k.sz := Nat.succ_mul _ _
      rw [List.length_take, List.length_drop] at hle
      have hoff : off + k'.sz ≤ k.sz := by omega
      rw [hv] at e
      refine finish b E cur e hg (by omega) ((hF b).2 (by rw [hv]; rfl)) (fun b' h => by have := (hF b').1 h; rw [hv] at this; simpa [Value.ownBlock] using this.symm) ?_
      have hset := hrd.set i hi (hs.wr helem hc2)
      rw [hs1] at hset
      rw [splice_elem hoff (by omega) hcl, hxe] at hset
      refine ⟨⟨_, ⟨?_, .inr ⟨b, cap, _, by rw [List.length_set]; exact hv, hb0, setRow_heap w b cur _ E (0, 0) hg, by rw [List.length_set]; exact hncap, hcm, ?_, ?_⟩⟩, hset⟩, hz1, hF⟩
      · rw [hset.len]
      · simp only [List.size_toArray, List.length_append, List.length_take, List.length_drop, Array.length_toList, hcl]
        omega
      · rw [hcl, List.length_set]
        have hct : cur.toList.length = cur.size := Array.length_toList
        rw [show (cur.toList.take (i * k.sz + off) ++ (c ++ cur.toList.drop (i * k.sz + off + k'.sz))).toArray.toList = (cur.toList.take (i * k.sz + off) ++ (c ++ cur.toList.drop (i * k.sz + off + k'.sz))) from rfl,
          take_splice (by omega) (by omega) hcl, htake]
theorem OpT.storeO {i off : Nat} {xs : List α} {x : α} {y : β} {f : α → β} {g : α → β → α} (ho : o.op = .store T p q) (hd : o.dst = none) (hp : Opd C env p (.pel t i k off k' f g)) (hb : env t = .own E k xs) (hx : xs[i]? = some x)
    (hz : sizeT C.P T = some 1) (hz1 : k'.sz = 1) (hq : Opd C env q (.cel k' y)) : OpT C o env (updK env t (.own E k (xs.set i (g x y)))) :=
  OpT.store_of (y := y) ho hd hp (.inr ⟨E, xs, hb, hx⟩) (.inr ⟨E, xs, hb, hx, rfl⟩) (by rw [hz, hz1]) (by omega) fun s F a w hr => ⟨_, cl_cel (hq.gets1 hr), hq.gets1 hr⟩
theorem OpT.storeOA {i off : Nat} {xs : List α} {x : α} {y : β} {f : α → β} {g : α → β → α} (ho : o.op = .store T p q) (hd : o.dst = none) (hp : Opd C env p (.pel t i k off k' f g)) (hb : env t = .own E k xs) (hx : xs[i]? = some x)
    (hz : sizeT C.P T = some k'.sz) (hz1 : 0 < k'.sz) (hq : Opd C env q (.agg k' y)) : OpT C o env (updK env t (.own E k (xs.set i (g x y)))) :=
  OpT.store_of (y := y) ho hd hp (.inr ⟨E, xs, hb, hx⟩) (.inr ⟨E, xs, hb, hx, rfl⟩) hz hz1 fun s F a w hr => by
    obtain ⟨cs, e, h1⟩ := hq.geta hr
    exact ⟨_, by rw [e]; rfl, h1⟩
theorem OpT.storeB {off : Nat} {x : α} {y : β} {f : α → β} {g : α → β → α} (ho : o.op = .store T p q) (hd : o.dst = none) (hp : Opd C env p (.pel t 0 k off k' f g)) (hb : env t = .box E k x)
    (hz : sizeT C.P T = some 1) (hz1 : k'.sz = 1) (hq : Opd C env q (.cel k' y)) : OpT C o env (updK env t (.box E k (g x y))) :=
  OpT.store_of (y := y) ho hd hp (.inl ⟨E, hb, rfl⟩) (.inl ⟨E, hb, rfl, rfl⟩) (by rw [hz, hz1]) (by omega) fun s F a w hr => ⟨_, cl_cel (hq.gets1 hr), hq.gets1 hr⟩
theorem OpT.storeBA {off : Nat} {x : α} {y : β} {f : α → β} {g : α → β → α} (ho : o.op = .store T p q) (hd : o.dst = none) (hp : Opd C env p (.pel t 0 k off k' f g)) (hb : env t = .box E k x)
    (hz : sizeT C.P T = some k'.sz) (hz1 : 0 < k'.sz) (hq : Opd C env q (.agg k' y)) : OpT C o env (updK env t (.box E k (g x y))) :=
  OpT.store_of (y := y) ho hd hp (.inl ⟨E, hb, rfl⟩) (.inl ⟨E, hb, rfl, rfl⟩) hz hz1 fun s F a w hr => by
    obtain ⟨cs, e, h1⟩ := hq.geta hr
    exact ⟨_, by rw [e]; rfl, h1⟩
/-- The whole variable as a part of itself. -/
theorem Opd.whole (hp : Root C env p t) {x : α} (hb : env t = .box E k x) : Opd C env p (.pel t 0 k 0 k (fun x => x) (fun _ y => y)) := fun s F a w hr => by
  have h1 := hr.slot t
  rw [hb] at h1
  obtain ⟨b, cs, e, _⟩ := h1
  refine ⟨⟨?_, hp.1, Sub.whole k⟩, fun b hb => hb⟩
  rw [hp.2 s F a w hr, e]
  simp [ptrIn, Addr.add]
theorem OpT.indexAddrO {xs : List α} {x : α} {kk : IntKind} {i : Int} (hH : Hd C o (.indexAddr T p q) d) (hp : Root C env p t) (hb : env t = .own E k xs) (hne : t ≠ d) (hq : Opd C env q (.cel (Kd.int kk) i))
    (hT : elT C.P T = some S) (hz : sizeT C.P S = some k.sz) (h0 : 0 ≤ i) (hx : xs[i.toNat]? = some x) : OpT C o env (upd env d (.pel t i.toNat k 0 k (fun x => x) (fun _ y => y))) :=
  OpT.pure hH.2.1 hH.2.2 fun s F a w hr => by
    have h1 := hr.slot t
    rw [hb] at h1
    obtain ⟨⟨cells, how, hrd⟩, hz1, hF⟩ := h1
    have hi : i.toNat < xs.length := (List.getElem?_eq_some_iff.1 hx).1
    have hu : C.P.underlying T = some (.slice S) := by
      unfold elT at hT
      split at hT
      · simp only [Option.some.injEq] at hT; subst hT; assumption
      · cases hT
    rcases how.2 with ⟨_, hn⟩ | ⟨b, cap, cur, hv, hb0, hg, hncap, hcm, hcs, htake⟩
    · omega
    · refine ⟨.pointer (some ((⟨b, 0, none⟩ : Addr).add (i.toNat * k.sz))), ?_, ⟨?_, hp.1, Sub.whole k⟩, fun b hb => hb⟩
      · have h6 : 0 ≤ i ∧ i < (xs.length : Int) := ⟨h0, by omega⟩
        simp only [execOp, hH.1, hp.2 s F a w hr, hv, (hq.geti hr).1]
        simp [Instr.indexAt, asIntOf, run_underlying hu, run_sizeT hz, h6]
      · rw [gv_put_ne _ (by simp [ofSlot, Nat.mod_eq_of_lt hp.1, hne]), hv]
        rfl
theorem OpT.lenO {xs : List α} (hH : Hd C o (.call { callee := .builtin .len, args := #[p], argTypes := #[T] }) d) (hp : Root C env p t) (hb : env t = .own E k xs)
    (hT : elT C.P T = some S) : OpT C o env (upd env d (.cel (Kd.int .i64) (xs.length : Int))) :=
  OpT.pure hH.2.1 hH.2.2 fun s F a w hr => by
    have h1 := hr.slot t
    rw [hb] at h1
    obtain ⟨⟨cells, how, hrd⟩, hz1, hF⟩ := h1
    have hu : C.P.underlying T = some (.slice S) := by
      unfold elT at hT
      split at hT
      · simp only [Option.some.injEq] at hT; subst hT; assumption
      · cases hT
    obtain ⟨A, c, hv, hl⟩ : ∃ A c, gv a.tmps t = .slice A xs.length c ∧ xs.length ≤ 9223372036854775807 := by
      rcases how.2 with ⟨hv, hn⟩ | ⟨b, cap, cur, hv, hb0, hg, hncap, hcm, hcs, htake⟩
      · exact ⟨none, 0, by rw [hv, hn], by omega⟩
      · exact ⟨_, cap, hv, by simp only [maxLen] at hcm; omega⟩
    refine ⟨.int .i64 xs.length, ?_, ⟨⟨rfl, by rw [inR_i64]; omega⟩, fun b hb => hb⟩⟩
    simp only [execOp, hH.1, resolve, invoke, builtin]
    simp [hp.2 s F a w hr, hv, Builtin.len_, run_underlying hu, goInt]
end
end Go.Proofs.YtfnkphllkbkfaaaDoor.VL
