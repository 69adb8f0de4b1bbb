/- Proved here: rules for rows that are made, appended to, cut, handed on and frozen. With the words of VA. General: over every program. -/
import Derived.Test.YtfnkphllkbkfaaaDoorVG
import Derived.Great.BuildSlice
import Derived.Maps.AppendAt
set_option linter.unusedVariables false
set_option linter.unusedSimpArgs false
namespace Go.Proofs.YtfnkphllkbkfaaaDoor.VL
open Go

/-- So many elements side by side. -/
def Kd.arr {α : Type} (n : Nat) (k : Kd α) : Kd (List α) where
  sz := n * k.sz
  rd s cs xs := RdL k s cs xs ∧ xs.length = n
  len h := by rw [h.1.len, h.2]
  mono hst h := ⟨h.1.mono hst, h.2⟩
  one h := h.1.one
theorem sub_arr {α : Type} {k : Kd α} {n i : Nat} (hi : i < n) (z : α) : Sub (Kd.arr n k) (i * k.sz) k (fun xs => xs.getD i z) (fun xs y => xs.set i y) where
  rd {s cs x} h := by
    have h1 : i < x.length := by rw [h.2]; exact hi
    have := h.1.get i h1
    simpa [List.getD_eq_getElem?_getD, List.getElem?_eq_getElem h1] using this
  wr {s cs x c y} h hc := by
    have h1 := h.1.set i (by rw [h.2]; exact hi) hc
    rw [Nat.succ_mul] at h1
    exact ⟨h1, by rw [List.length_set]; exact h.2⟩

theorem made_list (z : Array Value) (n : Nat) : (madeCells z (n * z.size)).toList = (List.replicate n z.toList).flatten := by
  induction n with
  | zero => simp [madeCells]
  | succ n ih =>
    rw [List.replicate_succ', List.flatten_append, ← ih]
    unfold madeCells
    rw [Nat.succ_mul]
    simp only [Array.toList_map, Array.toList_range, List.range_add, List.map_append, List.map_map, List.flatten_cons, List.flatten_nil, List.append_nil]
    congr 1
    apply List.ext_getElem
    · simp
    · intro j h1 h2
      simp at h1
      simp [Nat.add_mod, Nat.mod_eq_of_lt h1, h1]
theorem RdL_made {α : Type} {k : Kd α} {s : Hp} {c : List Value} {x : α} (h : k.rd s c x) (n : Nat) : RdL k s (List.replicate n c).flatten (List.replicate n x) := by
  induction n with
  | zero => exact rfl
  | succ n ih => exact ⟨c, _, by rw [List.replicate_succ, List.flatten_cons], h, ih⟩

/-- Less is known, said in full. -/
theorem Rel.weaken' {N : Nat} {w0 : World} {hd : FS} {pn : Nat → Option Value} {s0 : Hp} {env env' : Env} {s : Hp} {F : Nat → FS} {a : Act} {w : World}
    (h : Rel N w0 hd pn s0 env s F a w) (he : ∀ t, env' t = .any ∨ env' t = env t) : ∃ F', Rel N w0 hd pn s0 env' s F' a w ∧ ∀ t b, F' t b → F t b ∧ env' t = env t := by
  classical
  refine ⟨fun t => if env' t = env t then F t else FS.no, ⟨h.dfr, h.size, fun t => ?_, fun t t' b hb hb' => ?_, fun t b hb => ?_, h.fz, h.keep, h.pin, h.ext, h.new⟩, fun t b hb => ?_⟩
  · by_cases ht : env' t = env t
    · simp only [ht, if_true]; exact h.slot t
    · simp only [if_neg ht]
      rw [(he t).resolve_right ht]
      exact fun b hb => hb
  · try dsimp only at hb hb'
    split at hb
    · split at hb'
      · exact h.disj t t' b hb hb'
      · exact hb'.elim
    · exact hb.elim
  · try dsimp only at hb
    split at hb
    · exact h.mine t b hb
    · exact hb.elim
  · try dsimp only at hb
    split at hb
    · exact ⟨hb, by assumption⟩
    · exact hb.elim
theorem upd_any_to (env : Env) (t : Nat) : ∀ u, upd env t .any u = .any ∨ upd env t .any u = env u := by
  intro u
  unfold upd
  split
  · exact .inl rfl
  · split
    · exact .inl rfl
    · split
      · exact .inl rfl
      · exact .inr rfl

section
variable {C : Cx} {env env' : Env} {Q : Exit → Act → World → Prop} {o : Oper} {p q r : Operand} {c : Code} {ops : Array Oper} {l : List Oper} {d t : Nat} {T T' S E : TypeId} {α β γ : Type} {k : Kd α} {k' : Kd β}

theorem OpT.own_new {xs : List α} (hd : o.dst = some d) (hdN : C.ok d) (hz0 : 0 < k.sz)
    (h : ∀ s F a w, Rel C.N C.w0 C.hd C.pn C.s0 env s F a w → ∃ (cs : Array Value), (execOp a.eval o).run C.P w = .ok (.value (.slice (some ⟨w.heap.size, 0, none⟩) xs.length xs.length)) (w.alloc (.cells cs E)) ∧ RdL k s cs.toList xs ∧ xs.length ≤ 9223372036854775807) : OpT C o env (upd env d (.own E k xs)) := by
  intro Q K a w hr hK
  obtain ⟨s, F, hr'⟩ := hr
  obtain ⟨cs, h1, h2, h3⟩ := h s F a w hr'
  unfold Oper.wp
  rw [h1, Oper.upon_value, hd]
  have hl := h2.len
  rw [Array.length_toList] at hl
  refine hK _ _ (hr'.put (Fd := fun b => b = w.heap.size) hdN.1 (Nat.lt_of_lt_of_le hdN.1 C.hN) hdN.2 ⟨⟨cs.toList, World.ownsRow_lit w cs xs.length (Nat.zero_le _) (by simp only [maxLen]; omega) hl, h2⟩, hz0, fun b' => ?_⟩ (Hp.le_refl s) (fun b o h1 h2 => by rw [h1] at h2; cases h2) (fz_alloc hr'.fz _) (keep_alloc w _) ?_)
  · simp only [Value.ownBlock, Option.some.injEq]; exact ⟨fun h => h.symm, fun h => h.symm⟩
  · intro b hb
    refine ⟨by omega, ?_⟩
    cases hs : s b with
    | none => rfl
    | some o' => have := hr'.fz.lt hs; omega
theorem OpT.make {n : Nat} {i1 i2 : IntKind} {z : Value} {by_ : Nat} {x : α} (hH : Hd C o (.makeSlice T p q) d) (hp : Opd C env p (.cel (Kd.int i1) (n : Int))) (hq : Opd C env q (.cel (Kd.int i2) (n : Int)))
    (hT : elT C.P T = some E) (hz : zeroT C.P E = some z) (hsz : sizeT C.P E = some k.sz) (hby : bytesT C.P E = some by_) (hz0 : 0 < k.sz) (hx : ∀ s, k.rd s (Value.cl z) x) (hn : by_ * n ≤ 281474976710656) (hn2 : n ≤ 9223372036854775807) :
    OpT C o env (upd env d (.own E k (List.replicate n x))) :=
  OpT.own_new hH.2.1 hH.2.2 hz0 fun s F a w hr => by
    obtain ⟨i, hi, hzz⟩ := Option.bind_eq_some_iff.1 hz
    have hu : C.P.underlying T = some (.slice E) := by
      unfold elT at hT
      split at hT
      · simp only [Option.some.injEq] at hT; subst hT; assumption
      · cases hT
    unfold sizeT at hsz
    unfold bytesT at hby
    rw [hi] at hsz hby
    simp only [Option.map_some, Option.some.injEq] at hsz hby
    have hl := k.len (hx s)
    have hzs : z.cells.size = k.sz := by simpa [Value.cl] using hl
    have hb : (i.bytes : Int) * (n : Int) ≤ 281474976710656 := by rw [hby]; have : ((by_ * n : Nat) : Int) ≤ 281474976710656 := by omega
                                                                  rwa [Int.natCast_mul] at this
    have hrun := run_make (P := C.P) w T E i z hu hi hzz i1 i2 (n : Int) (n : Int) (by omega) (Int.le_refl _) hb (by omega)
    simp only [Int.toNat_natCast, hsz] at hrun
    refine ⟨madeCells z.cells (n * k.sz), ?_, ?_, by rw [List.length_replicate]; exact hn2⟩
    · simp only [execOp, hH.1, (hp.geti hr).1, (hq.geti hr).1, Sem.run_bind]
      rw [hrun, List.length_replicate]
      rfl
    · rw [← hzs, made_list]
      exact RdL_made (hx s) n
theorem OpT.buildSlice {n m : Nat} {parts : List (Nat × Operand)} {z : Value} {x : α} {xs : List α} (hH : Hd C o (.buildSlice T n parts.toArray) d)
    (hT : elT C.P T = some E) (hz : zeroT C.P E = some z) (hm : sizeT C.P E = some m) (hmk : k.sz = m) (hz0 : 0 < m) (hx : ∀ s, k.rd s (Value.cl z) x) (hnm : 0 < n ∧ n * m ≤ 16777216)
    (hb : Built C env (Kd.arr n k) (fun i => some (i * m, m)) parts (List.replicate n x) xs) : OpT C o env (upd env d (.own E k xs)) :=
  OpT.own_new hH.2.1 hH.2.2 (by omega) fun s F a w hr => by
    obtain ⟨i, hi, hzz⟩ := Option.bind_eq_some_iff.1 hz
    have hu : C.P.underlying T = some (.slice E) := by
      unfold elT at hT
      split at hT
      · simp only [Option.some.injEq] at hT; subst hT; assumption
      · cases hT
    unfold sizeT at hm
    rw [hi] at hm
    simp only [Option.map_some, Option.some.injEq] at hm
    have hl := k.len (hx s)
    have hzs : z.cells.size = m := by rw [← hmk]; simpa [Value.cl] using hl
    have hstart : (Kd.arr n k).rd s ((Array.range (n * m)).map (z.cells[· % z.cells.size]!)).toList (List.replicate n x) := by
      refine ⟨?_, List.length_replicate⟩
      have h1 : ((Array.range (n * m)).map (z.cells[· % z.cells.size]!)) = madeCells z.cells (n * z.cells.size) := by
        have e : n * m = n * z.cells.size := by rw [hzs]
        rw [e]; rfl
      rw [h1, made_list]
      exact RdL_made (hx s) n
    obtain ⟨cells', h1, h2⟩ := hb.fill hr _ hstart
    have hpos : 0 < n * m := Nat.mul_pos hnm.1 hz0
    have hrun := Go.run_buildSlice (P := C.P) w T E n (parts.toArray.map fun (i, x) => (i, a.eval x)) cells' i z hu hi hzz (by rw [hm]; omega) (by rw [hm]; omega) (by rw [hm]; rw [← h1]; simp)
    refine ⟨cells', ?_, h2.1, ?_⟩
    · simp only [execOp, hH.1, Sem.run_bind]
      rw [hrun, h2.2]
      rfl
    · have h3 := h2.2
      have : n ≤ n * m := Nat.le_mul_of_pos_right _ hz0
      omega
/-- A literal without elements. -/
theorem OpT.buildSlice0 {m : Nat} {z : Value} (k : Kd α) (hH : Hd C o (.buildSlice T 0 #[]) d)
    (hT : elT C.P T = some E) (hm : sizeT C.P E = some k.sz) (hz0 : 0 < k.sz) : OpT C o env (upd env d (.own E k [])) :=
  OpT.own_new hH.2.1 hH.2.2 hz0 fun s F a w hr => by
    have hu : C.P.underlying T = some (.slice E) := by
      unfold elT at hT
      split at hT
      · simp only [Option.some.injEq] at hT; subst hT; assumption
      · cases hT
    refine ⟨#[], ?_, rfl, by simp⟩
    simp [execOp, hH.1, Instr.buildSlice, run_underlying hu, run_sizeT hm, Instr.fill, newRow, Array.range_zero']

/-- What is owned goes to another slot. -/
theorem OpT.take {A : As} (ho : o.op = .assign p ∨ o.op = .move p) (hd : o.dst = some d) (hdN : C.ok d) (hp : Root C env p t) (hA : env t = A) (hf : A.flat = false) (hne : t ≠ d) : OpT C o env (upd (upd env t .any) d A) := by
  intro Q K a w hr hK
  obtain ⟨s, F, hr'⟩ := hr
  have hev := hp.2 s F a w hr'
  obtain ⟨F1, h1, h2⟩ := hr'.weaken' (upd_any_to env t)
  have hslot := hr'.slot t
  rw [hA] at hslot
  have hrun : (execOp a.eval o).run C.P w = .ok (.value (gv a.tmps t)) w := by rcases ho with ho | ho <;> simp only [execOp, ho, hev] <;> rfl
  unfold Oper.wp
  rw [hrun, Oper.upon_value, hd]
  have hnot : ∀ b, ¬ F1 t b := fun b hb => by
    have h3 := h1.slot t
    have h4 : upd env t .any t = .any := by unfold upd; rw [if_pos rfl]
    rw [h4] at h3
    exact h3 b hb
  refine hK _ _ ⟨s, _, h1.putG (Fd := F t) hdN.1 (Nat.lt_of_lt_of_le hdN.1 C.hN) hdN.2 ?_ (Hp.le_refl s) (fun b o h1 h2 => by rw [h1] at h2; cases h2) h1.fz h1.keep (fun t' b hne' hof hb => ?_) (fun b hb => hr'.mine t b hb)⟩
  · refine As.holds_free hslot ?_
    cases A <;> first | rfl | cases hf
  · have h3 := h2 t' b hb
    refine ⟨rfl, (h1.mine t' b hb).1, fun hFb => ?_⟩
    have := hr'.disj t' t b h3.1 hFb
    subst this
    exact hnot b hb

/-- What is appended: a row of the call's own, or what is shared. -/
def Src (C : Cx) (env : Env) (q : Operand) {α : Type} (k : Kd α) (ys : List α) : Prop :=
  ∀ s F a w, Rel C.N C.w0 C.hd C.pn C.s0 env s F a w → ∃ A m, a.eval q = .slice A ys.length m ∧ (A = none → ys = []) ∧ ∃ cells, RdL k s cells ys ∧ ∀ ad, A = some ad → ∀ j u, cells[j]? = some u → w.cell? (ad.add j) = some u
theorem Src.shared {ys : List α} (h : Opd C env q (.cel (Kd.slice k) ys)) : Src C env q k ys := fun s F a w hr => by
  obtain ⟨A, c, e, h1, h2, h3⟩ := (h s F a w hr).1
  have e' : a.eval q = .slice A ys.length c := by simpa using e
  refine ⟨A, c, e', ?_, ?_⟩
  · intro hn
    rcases Nat.eq_zero_or_pos ys.length with h0 | h0
    · exact List.eq_nil_of_length_eq_zero h0
    · obtain ⟨ad, cells, h4, _⟩ := h3 h0
      rw [hn] at h4; cases h4
  · rcases Nat.eq_zero_or_pos ys.length with h0 | h0
    · have : ys = [] := List.eq_nil_of_length_eq_zero h0
      subst this
      exact ⟨[], rfl, fun ad _ j u hu => by simp at hu⟩
    · obtain ⟨ad, cells, h4, h5, h6⟩ := h3 h0
      refine ⟨cells, h5, fun ad' he j u hu => ?_⟩
      rw [h4] at he
      injection he with he
      subst he
      exact hr.fz.cell (h6 j u hu)
theorem Src.own {ys : List α} {u : Nat} (h : Root C env q u) (hu : env u = .own E k ys) : Src C env q k ys := fun s F a w hr => by
  have h1 := hr.slot u
  rw [hu] at h1
  obtain ⟨⟨cells, how, hrd⟩, hz, hF⟩ := h1
  rw [h.2 s F a w hr]
  rcases how.2 with ⟨hv, hn⟩ | ⟨g, cap, cur, hv, _, hg, _, _, _, htake⟩
  · refine ⟨none, 0, by rw [hv, hn], (fun _ => List.eq_nil_of_length_eq_zero hn), cells, hrd, (fun ad he => by cases he)⟩
  · refine ⟨some ⟨g, 0, none⟩, cap, hv, (fun he => by cases he), cells, hrd, fun ad he j u hu => ?_⟩
    injection he with he
    subst he
    refine own_cell hg ?_
    rw [← htake, List.getElem?_take] at hu
    split at hu
    · simpa using hu
    · cases hu
theorem OpT.append {xs ys : List α} {z : Value} {by_ : Nat} (hH : Hd C o (.call { callee := .builtin .append, args := #[p, q], argTypes := #[T, T] }) d) (hp : Root C env p t) (hA : env t = .own E k xs) (hq : Src C env q k ys) (hne : t ≠ d)
    (hT : elT C.P T = some E) (hz : zeroT C.P E = some z) (hzl : (Value.cl z).length = k.sz) (hsz : sizeT C.P E = some k.sz) (hby : bytesT C.P E = some by_) (hb0 : 0 < by_) (hn : (xs.length + ys.length) * by_ ≤ 140737488355328) :
    OpT C o env (upd (upd env t .any) d (.own E k (xs ++ ys))) := by
  intro Q K a w hr hK
  obtain ⟨s, F, hr'⟩ := hr
  have hev := hp.2 s F a w hr'
  obtain ⟨F1, h1, h2⟩ := hr'.weaken' (upd_any_to env t)
  have hslot := hr'.slot t
  rw [hA] at hslot
  obtain ⟨⟨cells, how, hrd⟩, hz0, hF⟩ := hslot
  have hu : C.P.underlying T = some (.slice E) := by
    unfold elT at hT
    split at hT
    · simp only [Option.some.injEq] at hT; subst hT; assumption
    · cases hT
  obtain ⟨i, hi, hzz⟩ := Option.bind_eq_some_iff.1 hz
  unfold sizeT at hsz
  unfold bytesT at hby
  rw [hi] at hsz hby
  simp only [Option.map_some, Option.some.injEq] at hsz hby
  have hle : xs.length + ys.length ≤ 140737488355328 := Nat.le_trans (Nat.le_mul_of_pos_right _ hb0) hn
  obtain ⟨A, m, hqe, hA0, cy, hcy, hcell⟩ := hq s F a w hr'
  have hrun : ∃ v' w', (Builtin.append_ #[T, T] o.type #[gv a.tmps t, .slice A ys.length m]).run C.P w = .ok v' w' ∧ w'.ownsRow 0 E k.sz v' (xs.length + ys.length) (cells ++ cy) ∧ w.grownBy w' (gv a.tmps t).ownBlock ∧ (v'.ownBlock = (gv a.tmps t).ownBlock ∨ v'.ownBlock = some w.heap.size) := by
    cases A with
    | none =>
      have hy := hA0 rfl
      subst hy
      simp only [RdL] at hcy
      subst hcy
      have e0 : (Builtin.append_ #[T, T] o.type #[gv a.tmps t, .slice none 0 m]).run C.P w = .ok (gv a.tmps t) w := by
        rcases how.2 with ⟨hv, hn0⟩ | ⟨g, cap, cur, hv, _, _, hnc, _⟩
        · rw [hv]; simp [Builtin.append_, run_underlying hu, sizeOf, typeInfo, hi, Builtin.lenOf, Builtin.firstCells]
        · rw [hv]; simp [Builtin.append_, run_underlying hu, sizeOf, typeInfo, hi, Builtin.lenOf, Builtin.firstCells, hnc, storeCells]
      exact ⟨_, w, e0, by simpa using how, ⟨rfl, rfl, rfl, Nat.le_refl _, fun _ _ _ => rfl⟩, .inl rfl⟩
    | some ad =>
      obtain ⟨v', w', r1, r2, r3, _, r5⟩ := run_append_own_at (P := C.P) w 0 T o.type E i z k.sz by_ hu hi hzz hsz hby (by rw [← hzl]; simp [Value.cl]) hz0 (gv a.tmps t) xs.length cells how ad ys.length m cy hcy.len (hcell ad rfl) hcy.one (by simp only [maxLen]; omega) hn (Nat.zero_le _)
      exact ⟨v', w', r1, r2, r3, r5⟩
  obtain ⟨v', w', r1, r2, r3, r4⟩ := hrun
  have hrun2 : (execOp a.eval o).run C.P w = .ok (.value v') w' := by
    simp only [execOp, hH.1, resolve, invoke, builtin]
    simp [hev, hqe, r1]
  unfold Oper.wp
  rw [hrun2, Oper.upon_value, hH.2.1]
  have hnot : ∀ b, ¬ F1 t b := fun b hb => by
    have h3 := h1.slot t
    have h4 : upd env t .any t = .any := by unfold upd; rw [if_pos rfl]
    rw [h4] at h3
    exact h3 b hb
  have hmine : ∀ b, (gv a.tmps t).ownBlock = some b → s b = none ∧ (C.w0.heap.size ≤ b ∨ C.hd b) := fun b hb => hr'.mine t b ((hF b).2 hb)
  have hnew : ∀ b, b = w.heap.size → s b = none ∧ (C.w0.heap.size ≤ b ∨ C.hd b) := fun b hb => by
    refine ⟨?_, .inl (by have := hr'.keep.size; omega)⟩
    cases hs : s b with
    | none => rfl
    | some o' => have := hr'.fz.lt hs; omega
  have hblk : ∀ b, b < w.heap.size → (gv a.tmps t).ownBlock ≠ some b → w'.heap[b]? = w.heap[b]? := fun b hb hne' => r3.block b hb (fun e => hne' e.symm)
  refine hK _ _ ⟨s, _, h1.putG (Fd := fun b => v'.ownBlock = some b) hH.2.2.1 (Nat.lt_of_lt_of_le hH.2.2.1 C.hN) hH.2.2.2 ?_ (Hp.le_refl s) (fun b o h1 h2 => by rw [h1] at h2; cases h2) (fun b o' hb => ?_) ⟨r3.os.trans h1.keep.os, r3.tape.trans h1.keep.tape, r3.output.trans h1.keep.output, Nat.le_trans h1.keep.size r3.size, fun b hb hn' => ?_⟩ (fun t' b hne' hof hb => ?_) (fun b hb => ?_)⟩
  · exact ⟨⟨cells ++ cy, by rw [List.length_append]; exact r2, hrd.app hcy⟩, hz0, fun b => Iff.rfl⟩
  · have hlt := h1.fz.lt hb
    rw [hblk b hlt (fun e => by rw [(hmine b e).1] at hb; cases hb)]
    exact h1.fz b o' hb
  · rw [hblk b (Nat.lt_of_lt_of_le hb h1.keep.size) (fun e => by rcases (hmine b e).2 with h | h; · omega
                                                                 · exact hn' h)]
    exact h1.keep.block b hb hn'
  · have h3 := h2 t' b hb
    have hlt : b < w.heap.size := As.holds_lt (hr'.slot t') b h3.1
    have hneb : (gv a.tmps t).ownBlock ≠ some b := fun e => by
      have := hr'.disj t' t b h3.1 ((hF b).2 e)
      subst this
      exact hnot b hb
    refine ⟨hblk b hlt hneb, (h1.mine t' b hb).1, fun hFb => ?_⟩
    rcases r4 with h | h
    · exact hneb (h ▸ hFb)
    · rw [h] at hFb; injection hFb with hFb; omega
  · rcases r4 with h | h
    · exact hmine b (h ▸ hb)
    · rw [h] at hb; injection hb with hb; exact hnew b hb.symm

/-! ### What is owned stays as it is from here on -/
def Hp.and (s : Hp) (b : Nat) (o : Obj) : Hp := fun b' => if b' = b then some o else s b'
theorem R_freeze {xs : List α} (ht : env t = .own E k xs) {a : Act} {w : World} (hr : C.R env a w) : C.R (updK env t (.cel (Kd.slice k) xs)) a w := by
  obtain ⟨s, F, hr'⟩ := hr
  have hslot := hr'.slot t
  rw [ht] at hslot
  obtain ⟨⟨cells, how, hrd⟩, hz0, hF⟩ := hslot
  rcases how.2 with ⟨hv, hn⟩ | ⟨g, cap, cur, hv, _, hg, hnc, hcm, hcs, htake⟩
  · refine hr'.turn (Fd := FS.no) ⟨⟨none, 0, by rw [hv, hn], by omega, by omega, fun h => by omega⟩, fun b hb => hb⟩ (Hp.le_refl s) (fun b o h1 h2 => by rw [h1] at h2; cases h2) hr'.fz hr'.keep (fun t' b hne hb => ⟨rfl, (hr'.mine t' b hb).1, fun h => h⟩) (fun b hb => hb.elim)
  · have hFg : F t g := (hF g).2 (by rw [hv]; rfl)
    have hsg := (hr'.mine t g hFg).1
    have hle : s.le (s.and g (.cells cur E (0, 0))) := fun b o hb => by
      unfold Hp.and
      by_cases hbg : b = g
      · subst hbg; rw [hsg] at hb; cases hb
      · rw [if_neg hbg]; exact hb
    refine hr'.turn (s' := s.and g (.cells cur E (0, 0))) (Fd := FS.no) ⟨⟨some ⟨g, 0, none⟩, cap, by rw [hv], hnc, by simp only [maxLen] at hcm; omega, fun h => ⟨⟨g, 0, none⟩, cells, rfl, hrd.mono hle, fun j u hu => ?_⟩⟩, fun b hb => hb⟩ hle (fun b o hb hb0 => ?_) (fun b o hb => ?_) hr'.keep (fun t' b hne hb => ⟨rfl, ?_, fun h => h⟩) (fun b hb => hb.elim)
    · rw [Addr.add_lit, Nat.zero_add]
      unfold Hp.look Hp.and
      simp only [if_true]
      rw [← htake, List.getElem?_take] at hu
      split at hu
      · simpa using hu
      · cases hu
    · unfold Hp.and at hb
      by_cases hbg : b = g
      · subst hbg; exact (hr'.mine t b hFg).2
      · rw [if_neg hbg, hb0] at hb; cases hb
    · unfold Hp.and at hb
      by_cases hbg : b = g
      · subst hbg; rw [if_pos rfl] at hb; injection hb with hb; rw [← hb]; exact hg
      · rw [if_neg hbg] at hb; exact hr'.fz b o hb
    · have hbg : b ≠ g := fun e => by subst e; exact hne (hr'.disj t' t b hb hFg)
      unfold Hp.and
      rw [if_neg hbg]
      exact (hr'.mine t' b hb).1
theorem R_freezeB {x : α} (ht : env t = .box E k x) {a : Act} {w : World} (hr : C.R env a w) : C.R (updK env t (.cel (Kd.ptr k) x)) a w := by
  obtain ⟨s, F, hr'⟩ := hr
  have hslot := hr'.slot t
  rw [ht] at hslot
  obtain ⟨g, cs, hv, hg, hrd, hF⟩ := hslot
  have hFg : F t g := (hF g).2 rfl
  have hsg := (hr'.mine t g hFg).1
  have hle : s.le (s.and g (.cells cs E (0, 0))) := fun b o hb => by
    unfold Hp.and
    by_cases hbg : b = g
    · subst hbg; rw [hsg] at hb; cases hb
    · rw [if_neg hbg]; exact hb
  refine hr'.turn (s' := s.and g (.cells cs E (0, 0))) (Fd := FS.no) ⟨⟨⟨g, 0, none⟩, cs.toList, by rw [hv], k.mono hle hrd, fun j u hu => ?_⟩, fun b hb => hb⟩ hle (fun b o hb hb0 => ?_) (fun b o hb => ?_) hr'.keep (fun t' b hne hb => ⟨rfl, ?_, fun h => h⟩) (fun b hb => hb.elim)
  · rw [Addr.add_lit, Nat.zero_add]
    unfold Hp.look Hp.and
    simp only [if_true]
    simpa using hu
  · unfold Hp.and at hb
    by_cases hbg : b = g
    · subst hbg; exact (hr'.mine t b hFg).2
    · rw [if_neg hbg, hb0] at hb; cases hb
  · unfold Hp.and at hb
    by_cases hbg : b = g
    · subst hbg; rw [if_pos rfl] at hb; injection hb with hb; rw [← hb]; exact hg
    · rw [if_neg hbg] at hb; exact hr'.fz b o hb
  · have hbg : b ≠ g := fun e => by subst e; exact hne (hr'.disj t' t b hb hFg)
    unfold Hp.and
    rw [if_neg hbg]
    exact (hr'.mine t' b hb).1
theorem AW.freezeB {x : α} (ht : env t = .box E k x) (h : AW C c (updK env t (.cel (Kd.ptr k) x)) Q) : AW C c env Q := fun a w hr => h a w (R_freezeB ht hr)
theorem AWl.freezeB {x : α} (ht : env t = .box E k x) (h : AWl C ops l (updK env t (.cel (Kd.ptr k) x)) Q) : AWl C ops l env Q := fun a w hr => h a w (R_freezeB ht hr)
end
end Go.Proofs.YtfnkphllkbkfaaaDoor.VL
