/- Proved here: a row that is cut and put together within itself. General: over every program. -/
import Derived.Test.YtfnkphllkbkfaaaDoorVU
import Derived.Laws.CopyRow
set_option linter.unusedVariables false
set_option linter.unusedSimpArgs false
namespace Go.Proofs.YtfnkphllkbkfaaaDoor.VL
open Go
/-- A row that has room for some more. -/
def OSh.owx {α : Type} (E : TypeId) (k : Kd α) (xs : List α) (m : Nat) : OSh where
  hold s w v F := ((∃ cells, w.ownsRow 0 E k.sz v xs.length cells ∧ RdL k s cells xs) ∧ xs.length + m ≤ capV v) ∧ 0 < k.sz ∧ ∀ b, F b ↔ v.ownBlock = some b
  mono hst h := by obtain ⟨⟨⟨cells, h1, h2⟩, h3⟩, h4⟩ := h; exact ⟨⟨⟨cells, h1, h2.mono hst⟩, h3⟩, h4⟩
  frame h hw := by
    obtain ⟨⟨⟨cells, h1, h2⟩, hc⟩, h0, h3⟩ := h
    exact ⟨⟨⟨cells, ownsRow_at h1 (fun b hb => hw b ((h3 b).2 hb)), h2⟩, hc⟩, h0, h3⟩
  lt h b hb := by
    obtain ⟨⟨⟨cells, h1, h2⟩, hc⟩, h0, h3⟩ := h
    exact (h1.lt b ((h3 b).1 hb)).2
  sure h := by
    obtain ⟨⟨⟨cells, how, _⟩, _⟩, _⟩ := h
    rcases how.2 with ⟨e, _⟩ | ⟨g, cap, cur, e, _⟩ <;> simp [undef] at e
section
variable {C : Cx} {env env' : Env} {Q : Exit → Act → World → Prop} {o : Oper} {p q r : Operand} {ops : Array Oper} {l rest : List Oper} {d t : Nat} {T T' S E : TypeId} {α β : Type} {k : Kd α} {A B : As}
/-- What an owned row's value is. -/
theorem own_slice {w : World} {v : Value} {n sz : Nat} {cells : List Value} (h : w.ownsRow 0 E sz v n cells) : ∃ Ad c, v = .slice Ad n c ∧ n ≤ c ∧ c ≤ maxLen ∧ (Ad = none → n = 0 ∧ c = 0) := by
  rcases h.2 with ⟨hv, hn⟩ | ⟨g, cap, cur, hv, _, hg, hnc, hcm, hcs, htake⟩
  · subst hn; exact ⟨none, 0, hv, Nat.le_refl _, Nat.zero_le _, fun _ => ⟨rfl, rfl⟩⟩
  · exact ⟨_, cap, hv, hnc, hcm, fun h => by cases h⟩
theorem gv_hold {a : Act} {v : Value} (ht : t < 10000) (hne : t ≠ d) : gv (a.tmps.setIfInBounds d v) t = gv a.tmps t := gv_put_ne _ (by simp [ofSlot, Nat.mod_eq_of_lt ht, hne])
theorem OpT.vwH {xs : List α} {kk : IntKind} {i : Int} (hH : Hd C o (.slice T p none (some q) none) d) (hp : Root C env p t) (ht : env t = .own E k xs) (hq : Opd C env q (.cel (Kd.int kk) i)) (hT : elT C.P T = some E) (hz : sizeT C.P E = some k.sz) (h0 : 0 ≤ i ∧ i ≤ xs.length) (hne : t ≠ d) :
    OpT C o env (upd env d (.vw t 0 i.toNat k.sz)) :=
  OpT.pure hH.2.1 hH.2.2 fun s F a w hr => by
    have h1 := hr.slot t
    rw [ht] at h1
    obtain ⟨⟨cells, how, hrd⟩, _⟩ := h1
    obtain ⟨Ad, c, hv, hnc, _⟩ := own_slice how
    obtain ⟨hu, hu', he⟩ := el_elem hT
    refine ⟨sliced Ad 0 i.toNat c k.sz, ?_, ⟨?_, hp.1⟩, fun b hb => hb⟩
    · simp [execOp, hH.1, hp.2 s F a w hr, hv, (hq.geti hr).1, run_sliceAt_slice w T _ _ _ _ hu', run_slice_h w T Ad xs.length c hu' kk i h0.1 (by omega), he, run_sizeT hz]
    · rw [gv_hold hp.1 hne, hv]; rfl
theorem OpT.vwL {xs : List α} {kk : IntKind} {i : Int} (hH : Hd C o (.slice T p (some q) none none) d) (hp : Root C env p t) (ht : env t = .own E k xs) (hq : Opd C env q (.cel (Kd.int kk) i)) (hT : elT C.P T = some E) (hz : sizeT C.P E = some k.sz) (h0 : 0 ≤ i ∧ i ≤ xs.length) (hne : t ≠ d) :
    OpT C o env (upd env d (.vw t i.toNat xs.length k.sz)) :=
  OpT.pure hH.2.1 hH.2.2 fun s F a w hr => by
    have h1 := hr.slot t
    rw [ht] at h1
    obtain ⟨⟨cells, how, hrd⟩, _⟩ := h1
    obtain ⟨Ad, c, hv, hnc, _⟩ := own_slice how
    obtain ⟨hu, hu', he⟩ := el_elem hT
    refine ⟨sliced Ad i.toNat xs.length c k.sz, ?_, ⟨?_, hp.1⟩, fun b hb => hb⟩
    · simp [execOp, hH.1, hp.2 s F a w hr, hv, (hq.geti hr).1, run_sliceAt_slice w T _ _ _ _ hu', run_slice_l w T Ad xs.length c hu' kk i h0.1 h0.2, he, run_sizeT hz]
    · rw [gv_hold hp.1 hne, hv]; rfl
/-- Behind the row's end. -/
theorem OpT.vwX {xs : List α} {m : Nat} {kk kk' : IntKind} {i j : Int} (hH : Hd C o (.slice T p (some q) (some r) none) d) (hp : Root C env p t) (ht : env t = .deep (OSh.owx E k xs m)) (hq : Opd C env q (.cel (Kd.int kk) i)) (hr' : Opd C env r (.cel (Kd.int kk') j)) (hT : elT C.P T = some E) (hz : sizeT C.P E = some k.sz) (h0 : 0 ≤ i ∧ i ≤ j ∧ j ≤ xs.length + m) (hne : t ≠ d) :
    OpT C o env (upd env d (.vw t i.toNat j.toNat k.sz)) :=
  OpT.pure hH.2.1 hH.2.2 fun s F a w hr => by
    have h1 := hr.slot t
    rw [ht] at h1
    obtain ⟨⟨⟨cells, how, hrd⟩, hcap⟩, _⟩ := h1
    obtain ⟨Ad, c, hv, hnc, _⟩ := own_slice how
    rw [hv] at hcap
    have hcap' : xs.length + m ≤ c := hcap
    obtain ⟨hu, hu', he⟩ := el_elem hT
    refine ⟨sliced Ad i.toNat j.toNat c k.sz, ?_, ⟨?_, hp.1⟩, fun b hb => hb⟩
    · simp [execOp, hH.1, hp.2 s F a w hr, hv, (hq.geti hr).1, (hr'.geti hr).1, run_sliceAt_slice w T _ _ _ _ hu', run_slice_lh w T Ad xs.length c hu' kk kk' i j h0.1 h0.2.1 (by omega), he, run_sizeT hz]
    · rw [gv_hold hp.1 hne, hv]; rfl
/-- A cut that is only tried. -/
theorem OpT.vw3 {r' : Operand} {xs : List α} {kk kk' kk2 : IntKind} {i j m : Int} (hH : Hd C o (.slice T p (some q) (some r) (some r')) d) (hp : Root C env p t) (ht : env t = .own E k xs) (hq : Opd C env q (.cel (Kd.int kk) i)) (hr' : Opd C env r (.cel (Kd.int kk') j)) (hr2 : Opd C env r' (.cel (Kd.int kk2) m)) (hT : elT C.P T = some E) (hz : sizeT C.P E = some k.sz) (h0 : 0 ≤ i ∧ i ≤ j ∧ j ≤ m ∧ m ≤ xs.length) :
    OpT C o env (upd env d .any) :=
  OpT.pure hH.2.1 hH.2.2 fun s F a w hr => by
    have h1 := hr.slot t
    rw [ht] at h1
    obtain ⟨⟨cells, how, hrd⟩, _⟩ := h1
    obtain ⟨Ad, c, hv, hnc, _⟩ := own_slice how
    obtain ⟨hu, hu', he⟩ := el_elem hT
    refine ⟨sliced Ad i.toNat j.toNat m.toNat k.sz, ?_, fun b hb => hb⟩
    simp [execOp, hH.1, hp.2 s F a w hr, hv, (hq.geti hr).1, (hr'.geti hr).1, (hr2.geti hr).1, run_sliceAt_slice w T _ _ _ _ hu', run_slice_lhm w T Ad xs.length c hu' kk kk' kk2 i j m h0.1 h0.2.1 h0.2.2.1 (by omega), he, run_sizeT hz]
theorem OpT.lenX {xs : List α} {m : Nat} (hH : Hd C o (.call { callee := .builtin .len, args := #[p], argTypes := #[T] }) d) (hp : Root C env p t) (ht : env t = .deep (OSh.owx E k xs m)) (hT : elT C.P T = some E) : OpT C o env (upd env d (.cel (Kd.int .i64) (xs.length : Int))) :=
  OpT.pure hH.2.1 hH.2.2 fun s F a w hr => by
    have h1 := hr.slot t
    rw [ht] at h1
    obtain ⟨⟨⟨cells, how, hrd⟩, hcap⟩, _⟩ := h1
    obtain ⟨Ad, c, hv, hnc, hcm, _⟩ := own_slice how
    have hu : C.P.underlying T = some (.slice E) := by
      unfold elT at hT
      split at hT
      · simp only [Option.some.injEq] at hT; subst hT; assumption
      · cases hT
    refine ⟨.int .i64 xs.length, ?_, ⟨⟨rfl, by rw [inR_i64]; simp only [maxLen] at hcm; omega⟩, fun b hb => hb⟩⟩
    simp [execOp, hH.1, hp.2 s F a w hr, hv, resolve, invoke, builtin, Builtin.len_, run_underlying hu, goInt]
/-- A row's end moves forward. -/
theorem OpT.appS {xs : List α} {i j n : Nat} (hH : Hd C o (.call { callee := .builtin .append, args := #[p, q], argTypes := #[T, T] }) d) (hA : env t = .own E k xs) (hp : Opd C env p (.vw t 0 i k.sz)) (hq : Opd C env q (.vw t j n k.sz)) (hne : t ≠ d)
    (hT : elT C.P T = some E) (hsz : sizeT C.P E = some k.sz) (hn : i ≤ j ∧ j ≤ n ∧ n = xs.length) : OpT C o env (upd (upd env t .any) d (.deep (OSh.owx E k (xs.take i ++ xs.drop j) (j - i)))) := by
  intro Q K a w hr hK
  obtain ⟨s, F, hr'⟩ := hr
  obtain ⟨⟨hpv, htl⟩, _⟩ := hp s F a w hr'
  obtain ⟨⟨hqv, _⟩, _⟩ := hq s F a w hr'
  obtain ⟨F1, h1, h2⟩ := hr'.weaken' (upd_any_to env t)
  have hslot := hr'.slot t
  rw [hA] at hslot
  obtain ⟨⟨cells, how, hrd⟩, hz0, hF⟩ := hslot
  obtain ⟨hij, hjn, hnl⟩ := hn
  have hu : C.P.underlying T = some (.slice E) := by
    unfold elT at hT
    split at hT
    · simp only [Option.some.injEq] at hT; subst hT; assumption
    · cases hT
  obtain ⟨ie, hie, hsize⟩ := Option.map_eq_some_iff.1 hsz
  have hlen : (xs.take i ++ xs.drop j).length = i + (n - j) := by rw [List.length_append, List.length_take, List.length_drop]; omega
  have hrd2 : RdL k s (cells.take (i * k.sz) ++ cells.drop (j * k.sz)) (xs.take i ++ xs.drop j) := (hrd.take i).app (hrd.drop j)
  have hclen : cells.length = xs.length * k.sz := hrd.len
  have hrun : ∃ v' w', (Builtin.append_ #[T, T] o.type #[a.eval p, a.eval q]).run C.P w = .ok v' w' ∧ w'.ownsRow 0 E k.sz v' (i + (n - j)) (cells.take (i * k.sz) ++ cells.drop (j * k.sz)) ∧ n ≤ capV v' ∧ w.grownBy w' (gv a.tmps t).ownBlock ∧ v'.ownBlock = (gv a.tmps t).ownBlock := by
    rw [hpv, hqv]
    rcases how.2 with ⟨hv, hx0⟩ | ⟨g, cap, cur, hv, hb0, hg, hnc, hcm, hcs, htake⟩
    · have hn0 : n = 0 := by omega
      subst hn0
      obtain rfl : j = 0 := by omega
      obtain rfl : i = 0 := by omega
      rw [hv]
      refine ⟨.slice none 0 0, w, ?_, ?_, Nat.zero_le _, ⟨rfl, rfl, rfl, Nat.le_refl _, fun _ _ _ => rfl⟩, rfl⟩
      · simp [cutV, Builtin.append_, run_underlying hu, sizeOf, typeInfo, hie, Builtin.lenOf, Builtin.firstCells]
      · have hc0 : cells = [] := List.eq_nil_of_length_eq_zero (by rw [hclen, hx0]; simp)
        subst hc0
        exact ⟨by simp, .inl ⟨rfl, by simp⟩⟩
    · rw [hv]
      have e1 : cutV (.slice (some ⟨g, 0, none⟩) xs.length cap) 0 i k.sz = .slice (some ⟨g, 0, none⟩) i cap := by
        unfold cutV
        simp only [Nat.zero_mul, Nat.sub_zero]
        congr 1
        split <;> simp [Addr.add]
      have e2 : cutV (.slice (some ⟨g, 0, none⟩) xs.length cap) j n k.sz = .slice (some (if cap = j then ⟨g, 0, none⟩ else (⟨g, 0, none⟩ : Addr).add (j * k.sz))) (n - j) (cap - j) := by
        show Value.slice (if cap = j then some _ else Option.map _ (some _)) _ _ = _
        congr 1
        split <;> rfl
      rw [e1, e2]
      have hown1 : w.ownsRow 0 E k.sz (.slice (some ⟨g, 0, none⟩) i cap) i (cells.take (i * k.sz)) := by
        refine ⟨?_, .inr ⟨g, cap, cur, rfl, hb0, hg, by omega, hcm, hcs, ?_⟩⟩
        · rw [List.length_take, hclen]; exact Nat.min_eq_left (Nat.mul_le_mul_right _ (by omega))
        · rw [← htake, List.take_take, Nat.min_eq_left (Nat.mul_le_mul_right _ (by omega))]
      have hl : (cells.drop (j * k.sz)).length = (n - j) * k.sz := by rw [List.length_drop, hclen, hnl, Nat.sub_mul]
      obtain ⟨w', r1, r2, r3⟩ := run_append_fits (P := C.P) w 0 T o.type E ie k.sz hu hie hsize g i cap (cells.take (i * k.sz)) hown1 (if cap = j then ⟨g, 0, none⟩ else (⟨g, 0, none⟩ : Addr).add (j * k.sz)) (n - j) (cap - j) (cells.drop (j * k.sz)) hl (fun x u hx => by
        rw [List.getElem?_drop] at hx
        have hx1 := (List.getElem?_eq_some_iff.1 hx).1
        split
        · exfalso
          have h3 : xs.length * k.sz ≤ j * k.sz := Nat.mul_le_mul_right _ (by omega)
          omega
        · rw [add_add]
          refine own_cell hg ?_
          rw [← htake, List.getElem?_take] at hx
          split at hx
          · simpa using hx
          · cases hx) (fun u hu' => hrd.one u (List.mem_of_mem_drop hu')) (by omega)
      exact ⟨_, w', r1, r2, by show n ≤ cap; omega, r3, rfl⟩
  obtain ⟨v', w', r1, r2, r2c, r3, r4⟩ := hrun
  have hrun2 : (execOp a.eval o).run C.P w = .ok (.value v') w' := by
    simp only [execOp, hH.1, resolve, invoke, builtin]
    simp [r1]
  unfold Oper.wp
  rw [hrun2, Oper.upon_value, hH.2.1]
  have hnot : ∀ b, ¬ F1 t b := fun b hb => by
    have h3 := h1.slot t
    have h4 : upd env t .any t = .any := by unfold upd; rw [if_pos rfl]
    rw [h4] at h3
    exact h3 b hb
  have hmine : ∀ b, (gv a.tmps t).ownBlock = some b → s b = none ∧ (C.w0.heap.size ≤ b ∨ C.hd b) := fun b hb => hr'.mine t b ((hF b).2 hb)
  have hblk : ∀ b, b < w.heap.size → (gv a.tmps t).ownBlock ≠ some b → w'.heap[b]? = w.heap[b]? := fun b hb hne' => r3.block b hb (fun e => hne' e.symm)
  refine hK _ _ ⟨s, _, h1.putG (Fd := fun b => v'.ownBlock = some b) hH.2.2.1 (Nat.lt_of_lt_of_le hH.2.2.1 C.hN) hH.2.2.2 ?_ (Hp.le_refl s) (fun b o h1 h2 => by rw [h1] at h2; cases h2) (fun b o' hb => ?_) ⟨r3.os.trans h1.keep.os, r3.tape.trans h1.keep.tape, r3.output.trans h1.keep.output, Nat.le_trans h1.keep.size r3.size, fun b hb hn' => ?_⟩ (fun t' b hne' hof hb => ?_) (fun b hb => ?_)⟩
  · refine ⟨⟨⟨_, by rw [hlen]; exact r2, hrd2⟩, by rw [hlen]; omega⟩, hz0, fun b => Iff.rfl⟩
  · have hlt := h1.fz.lt hb
    rw [hblk b hlt (fun e => by rw [(hmine b e).1] at hb; cases hb)]
    exact h1.fz b o' hb
  · rw [hblk b (Nat.lt_of_lt_of_le hb h1.keep.size) (fun e => by rcases (hmine b e).2 with h | h; · omega
                                                                 · exact hn' h)]
    exact h1.keep.block b hb hn'
  · have h3 := h2 t' b hb
    have hlt : b < w.heap.size := As.holds_lt (hr'.slot t') b h3.1
    have hneb : (gv a.tmps t).ownBlock ≠ some b := fun e => by
      have := hr'.disj t' t b h3.1 ((hF b).2 e)
      subst this
      exact hnot b hb
    exact ⟨hblk b hlt hneb, (h1.mine t' b hb).1, fun hFb => hneb (r4 ▸ hFb)⟩
  · exact hmine b (r4 ▸ hb)
/-- Appended to a row's beginning. -/
theorem OpT.appV {xs ys : List α} {i : Nat} {z : Value} {by_ : Nat} (hH : Hd C o (.call { callee := .builtin .append, args := #[p, q], argTypes := #[T, T] }) d) (hA : env t = .own E k xs) (hp : Opd C env p (.vw t 0 i k.sz)) (hq : Src C env q k ys) (hne : t ≠ d) (hi : i ≤ xs.length)
    (hT : elT C.P T = some E) (hz : zeroT C.P E = some z) (hzl : (Value.cl z).length = k.sz) (hsz : sizeT C.P E = some k.sz) (hby : bytesT C.P E = some by_) (hb0 : 0 < by_) (hn : (i + ys.length) * by_ ≤ 140737488355328) :
    OpT C o env (upd (upd env t .any) d (.own E k (xs.take i ++ ys))) := by
  intro Q K a w hr hK
  obtain ⟨s, F, hr'⟩ := hr
  obtain ⟨⟨hpv, htl⟩, _⟩ := hp s F a w hr'
  obtain ⟨F1, h1, h2⟩ := hr'.weaken' (upd_any_to env t)
  have hslot := hr'.slot t
  rw [hA] at hslot
  obtain ⟨⟨cells0, how0, hrd0⟩, hz0, hF⟩ := hslot
  have hu : C.P.underlying T = some (.slice E) := by
    unfold elT at hT
    split at hT
    · simp only [Option.some.injEq] at hT; subst hT; assumption
    · cases hT
  obtain ⟨ie, hie, hzz⟩ := Option.bind_eq_some_iff.1 hz
  unfold sizeT at hsz
  unfold bytesT at hby
  rw [hie] at hsz hby
  simp only [Option.map_some, Option.some.injEq] at hsz hby
  have hle : i + ys.length ≤ 140737488355328 := Nat.le_trans (Nat.le_mul_of_pos_right _ hb0) hn
  have hclen : cells0.length = xs.length * k.sz := hrd0.len
  have how : w.ownsRow 0 E k.sz (a.eval p) i (cells0.take (i * k.sz)) ∧ (a.eval p).ownBlock = (gv a.tmps t).ownBlock := by
    rw [hpv]
    rcases how0.2 with ⟨hv, hx0⟩ | ⟨g, cap, cur, hv, hb0', hg, hnc, hcm, hcs, htake⟩
    · obtain rfl : i = 0 := by omega
      rw [hv]
      have hc0 : cells0 = [] := List.eq_nil_of_length_eq_zero (by rw [hclen, hx0]; simp)
      subst hc0
      exact ⟨⟨by simp, .inl ⟨rfl, rfl⟩⟩, rfl⟩
    · have e1 : cutV (.slice (some ⟨g, 0, none⟩) xs.length cap) 0 i k.sz = .slice (some ⟨g, 0, none⟩) i cap := by
        unfold cutV
        simp only [Nat.zero_mul, Nat.sub_zero]
        congr 1
        split <;> simp [Addr.add]
      rw [hv, e1]
      refine ⟨⟨?_, .inr ⟨g, cap, cur, rfl, hb0', hg, by omega, hcm, hcs, ?_⟩⟩, rfl⟩
      · rw [List.length_take, hclen]; exact Nat.min_eq_left (Nat.mul_le_mul_right _ (by omega))
      · rw [← htake, List.take_take, Nat.min_eq_left (Nat.mul_le_mul_right _ (by omega))]
  obtain ⟨how, hblock⟩ := how
  have hrd := hrd0.take i
  generalize cells0.take (i * k.sz) = cells at how hrd
  obtain ⟨A, m, hqe, hA0, cy, hcy, hcell⟩ := hq s F a w hr'
  have hrun : ∃ v' w', (Builtin.append_ #[T, T] o.type #[a.eval p, .slice A ys.length m]).run C.P w = .ok v' w' ∧ w'.ownsRow 0 E k.sz v' (i + ys.length) (cells ++ cy) ∧ w.grownBy w' (gv a.tmps t).ownBlock ∧ (v'.ownBlock = (gv a.tmps t).ownBlock ∨ v'.ownBlock = some w.heap.size) := by
    cases A with
    | none =>
      have hy := hA0 rfl
      subst hy
      simp only [RdL] at hcy
      subst hcy
      have e0 : (Builtin.append_ #[T, T] o.type #[a.eval p, .slice none 0 m]).run C.P w = .ok (a.eval p) w := by
        rcases how.2 with ⟨hv, hn0⟩ | ⟨g, cap, cur, hv, _, _, hnc, _⟩
        · rw [hv]; simp [Builtin.append_, run_underlying hu, sizeOf, typeInfo, hie, Builtin.lenOf, Builtin.firstCells]
        · rw [hv]; simp [Builtin.append_, run_underlying hu, sizeOf, typeInfo, hie, Builtin.lenOf, Builtin.firstCells, hnc, storeCells]
      exact ⟨_, w, e0, by simpa using how, ⟨rfl, rfl, rfl, Nat.le_refl _, fun _ _ _ => rfl⟩, .inl hblock⟩
    | some ad =>
      obtain ⟨v', w', r1, r2, r3, _, r5⟩ := run_append_own_at (P := C.P) w 0 T o.type E ie z k.sz by_ hu hie hzz hsz hby (by rw [← hzl]; simp [Value.cl]) hz0 (a.eval p) i cells how ad ys.length m cy hcy.len (hcell ad rfl) hcy.one (by simp only [maxLen]; omega) hn (Nat.zero_le _)
      rw [hblock] at r3 r5
      exact ⟨v', w', r1, r2, r3, r5⟩
  obtain ⟨v', w', r1, r2, r3, r4⟩ := hrun
  have hrun2 : (execOp a.eval o).run C.P w = .ok (.value v') w' := by
    simp only [execOp, hH.1, resolve, invoke, builtin]
    simp [hqe, r1]
  unfold Oper.wp
  rw [hrun2, Oper.upon_value, hH.2.1]
  have hnot : ∀ b, ¬ F1 t b := fun b hb => by
    have h3 := h1.slot t
    have h4 : upd env t .any t = .any := by unfold upd; rw [if_pos rfl]
    rw [h4] at h3
    exact h3 b hb
  have hmine : ∀ b, (gv a.tmps t).ownBlock = some b → s b = none ∧ (C.w0.heap.size ≤ b ∨ C.hd b) := fun b hb => hr'.mine t b ((hF b).2 hb)
  have hnew : ∀ b, b = w.heap.size → s b = none ∧ (C.w0.heap.size ≤ b ∨ C.hd b) := fun b hb => by
    refine ⟨?_, .inl (by have := hr'.keep.size; omega)⟩
    cases hs : s b with
    | none => rfl
    | some o' => have := hr'.fz.lt hs; omega
  have hblk : ∀ b, b < w.heap.size → (gv a.tmps t).ownBlock ≠ some b → w'.heap[b]? = w.heap[b]? := fun b hb hne' => r3.block b hb (fun e => hne' e.symm)
  have hlen : (xs.take i ++ ys).length = i + ys.length := by rw [List.length_append, List.length_take]; omega
  refine hK _ _ ⟨s, _, h1.putG (Fd := fun b => v'.ownBlock = some b) hH.2.2.1 (Nat.lt_of_lt_of_le hH.2.2.1 C.hN) hH.2.2.2 ?_ (Hp.le_refl s) (fun b o h1 h2 => by rw [h1] at h2; cases h2) (fun b o' hb => ?_) ⟨r3.os.trans h1.keep.os, r3.tape.trans h1.keep.tape, r3.output.trans h1.keep.output, Nat.le_trans h1.keep.size r3.size, fun b hb hn' => ?_⟩ (fun t' b hne' hof hb => ?_) (fun b hb => ?_)⟩
  · exact ⟨⟨cells ++ cy, by rw [hlen]; exact r2, hrd.app hcy⟩, hz0, fun b => Iff.rfl⟩
  · have hlt := h1.fz.lt hb
    rw [hblk b hlt (fun e => by rw [(hmine b e).1] at hb; cases hb)]
    exact h1.fz b o' hb
  · rw [hblk b (Nat.lt_of_lt_of_le hb h1.keep.size) (fun e => by rcases (hmine b e).2 with h | h; · omega
                                                                 · exact hn' h)]
    exact h1.keep.block b hb hn'
  · have h3 := h2 t' b hb
    have hlt : b < w.heap.size := As.holds_lt (hr'.slot t') b h3.1
    have hneb : (gv a.tmps t).ownBlock ≠ some b := fun e => by
      have := hr'.disj t' t b h3.1 ((hF b).2 e)
      subst this
      exact hnot b hb
    refine ⟨hblk b hlt hneb, (h1.mine t' b hb).1, fun hFb => ?_⟩
    rcases r4 with h | h
    · exact hneb (h ▸ hFb)
    · rw [h] at hFb; injection hFb with hFb; omega
  · rcases r4 with h | h
    · exact hmine b (h ▸ hb)
    · rw [h] at hb; injection hb with hb; exact hnew b hb.symm
/-- What lies behind the end is wiped. -/
theorem OpT.clearX {xs : List α} {m lo hi : Nat} {z : Value} (ho : o.op = .call { callee := .builtin .clear, args := #[p], argTypes := #[T] }) (hd : o.dst = none) (hA : env t = .deep (OSh.owx E k xs m)) (hp : Opd C env p (.vw t lo hi k.sz)) (hT : elT C.P T = some E) (hz : zeroT C.P E = some z) (hzl : (Value.cl z).length = k.sz) (hz1 : ∀ u ∈ Value.cl z, u.oneCell' = true)
    (h0 : xs.length ≤ lo ∧ lo ≤ hi ∧ hi ≤ xs.length + m) : OpT C o env env := by
  intro Q K a w hr hK
  obtain ⟨s, F, hr'⟩ := hr
  obtain ⟨⟨hpv, htl⟩, _⟩ := hp s F a w hr'
  have hslot := hr'.slot t
  rw [hA] at hslot
  obtain ⟨⟨⟨cells, how, hrd⟩, hcap⟩, hz0, hF⟩ := hslot
  have hu : C.P.underlying T = some (.slice E) := by
    unfold elT at hT
    split at hT
    · simp only [Option.some.injEq] at hT; subst hT; assumption
    · cases hT
  obtain ⟨ie, hie, hzz⟩ := Option.bind_eq_some_iff.1 hz
  have hzc : z.cells.size = k.sz := by rw [← hzl]; simp [Value.cl]
  have hrun : ∃ w', (Builtin.clear_ #[T] o.type #[a.eval p]).run C.P w = .ok (.tuple #[]) w' ∧ (As.deep (OSh.owx E k xs m)).holds s w' (gv a.tmps) (gv a.tmps t) (F t) ∧ w.grownBy w' (gv a.tmps t).ownBlock := by
    rw [hpv]
    rcases how.2 with ⟨hv, hx0⟩ | ⟨g, cap, cur, hv, hb0, hg, hnc, hcm, hcs, htake⟩
    · refine ⟨w, ?_, ⟨⟨⟨cells, how, hrd⟩, hcap⟩, hz0, hF⟩, ⟨rfl, rfl, rfl, Nat.le_refl _, fun _ _ _ => rfl⟩⟩
      rw [hv]
      have : (cutV (.slice none 0 0) lo hi k.sz) = .slice none (hi - lo) (0 - lo) := by
        show Value.slice (if 0 = lo then none else Option.map _ none) _ _ = _
        congr 1
        split <;> rfl
      rw [this]
      simp [Builtin.clear_, run_underlying hu]
    · rw [hv] at hcap
      have hcap' : xs.length + m ≤ cap := hcap
      have e2 : cutV (.slice (some ⟨g, 0, none⟩) xs.length cap) lo hi k.sz = .slice (some (if cap = lo then ⟨g, 0, none⟩ else (⟨g, 0, none⟩ : Addr).add (lo * k.sz))) (hi - lo) (cap - lo) := by
        show Value.slice (if cap = lo then some _ else Option.map _ (some _)) _ _ = _
        congr 1
        split <;> rfl
      rw [hv, e2]
      by_cases h3 : hi - lo = 0
      · refine ⟨w, ?_, ⟨⟨⟨cells, hv ▸ how, hrd⟩, hcap'⟩, hz0, hv ▸ hF⟩, ⟨rfl, rfl, rfl, Nat.le_refl _, fun _ _ _ => rfl⟩⟩
        rw [h3]
        simp [Builtin.clear_, run_underlying hu]
      · have hne : cap ≠ lo := by omega
        rw [if_neg hne]
        have hadr : (⟨g, 0, none⟩ : Addr).add (lo * k.sz) = ⟨g, lo * k.sz, none⟩ := by unfold Addr.add; split <;> simp_all
        rw [hadr]
        have hzs : (Builtin.zeroCells z.cells (hi - lo)).toList.length = (hi - lo) * k.sz := by simp [Builtin.zeroCells, hzc]
        have hfit : lo * k.sz + 0 + (Builtin.zeroCells z.cells (hi - lo)).toList.length ≤ cur.size := by
          rw [hzs, hcs, Nat.add_zero, ← Nat.add_mul]; exact Nat.mul_le_mul_right _ (by omega)
        have hone : ∀ u ∈ (Builtin.zeroCells z.cells (hi - lo)).toList, u.oneCell' = true := by
          intro u hu'
          simp only [Builtin.zeroCells, Array.toList_map, List.mem_map] at hu'
          obtain ⟨x, _, rfl⟩ := hu'
          refine hz1 _ ?_
          have hlt : x % z.cells.size < z.cells.size := Nat.mod_lt _ (by omega)
          rw [getElem!_pos z.cells _ hlt]
          simp [Value.cl]
        have hst := run_storeCells_at (P := C.P) g (lo * k.sz) E _ 0 cur w hg hfit hone
        have hrunc : (Builtin.clear_ #[T] o.type #[.slice (some ⟨g, lo * k.sz, none⟩) (hi - lo) (cap - lo)]).run C.P w = .ok (.tuple #[]) (w.setRow g (cur.toList.take (lo * k.sz + 0) ++ (Builtin.zeroCells z.cells (hi - lo)).toList ++ cur.toList.drop (lo * k.sz + 0 + (Builtin.zeroCells z.cells (hi - lo)).toList.length)).toArray) := by
          obtain ⟨nn, hnn⟩ : ∃ nn, hi - lo = nn + 1 := ⟨hi - lo - 1, by omega⟩
          rw [hnn] at hst ⊢
          simp only [Builtin.clear_, Sem.run_bind]
          simp [run_underlying hu, zeroValue, typeInfo, hie, hzz]
          simp only [Array.length_toList] at hst
          rw [hst]
          simp
        refine ⟨_, hrunc, ?_, ⟨rfl, rfl, rfl, by simp [World.setRow], fun b _ hb => setRow_other w g b _ (fun e => hb (by simp [Value.ownBlock, e]))⟩⟩
        · refine ⟨⟨⟨cells, ⟨how.1, .inr ⟨g, cap, _, hv ▸ rfl, hb0, setRow_heap w g cur _ E _ hg, hnc, hcm, ?_, ?_⟩⟩, hrd⟩, hcap'⟩, hz0, hv ▸ hF⟩
          · simp only [List.size_toArray, List.length_append, List.length_take, List.length_drop, Array.length_toList, Nat.add_zero] at hfit ⊢
            omega
          · show ((cur.toList.take (lo * k.sz + 0) ++ _ ++ _).toArray).toList.take (xs.length * k.sz) = cells
            have h4 : xs.length * k.sz ≤ lo * k.sz := Nat.mul_le_mul_right _ h0.1
            have h5 : lo * k.sz ≤ cur.size := by rw [hcs]; exact Nat.mul_le_mul_right _ (by omega)
            rw [List.append_assoc, List.toList_toArray, List.take_append_of_le_length (by rw [List.length_take]; have h6 : cur.toList.length = cur.size := Array.length_toList; omega), List.take_take, Nat.min_eq_left (by omega)]
            exact htake
  obtain ⟨w', r1, r2, r3⟩ := hrun
  have hrun2 : (execOp a.eval o).run C.P w = .ok (.value (.tuple #[])) w' := by
    simp only [execOp, ho, resolve, invoke, builtin]
    simp [r1]
  unfold Oper.wp
  rw [hrun2, Oper.upon_value, hd]
  have hmine : ∀ b, (gv a.tmps t).ownBlock = some b → s b = none ∧ (C.w0.heap.size ≤ b ∨ C.hd b) := fun b hb => hr'.mine t b ((hF b).2 hb)
  have hblk : ∀ b, b < w.heap.size → (gv a.tmps t).ownBlock ≠ some b → w'.heap[b]? = w.heap[b]? := fun b hb hne' => r3.block b hb (fun e => hne' e.symm)
  refine hK _ _ ?_
  have hput : a.put none (.tuple #[]) = a := rfl
  rw [hput]
  have := hr'.turn (d := t) (A := .deep (OSh.owx E k xs m)) (Fd := F t) (s' := s) (w' := w') r2 (Hp.le_refl s) (fun b o h1 h2 => by rw [h1] at h2; cases h2) (fun b o' hb => by
      have hlt := hr'.fz.lt hb
      rw [hblk b hlt (fun e => by rw [(hmine b e).1] at hb; cases hb)]
      exact hr'.fz b o' hb) ⟨r3.os.trans hr'.keep.os, r3.tape.trans hr'.keep.tape, r3.output.trans hr'.keep.output, Nat.le_trans hr'.keep.size r3.size, fun b hb hn' => by
      rw [hblk b (Nat.lt_of_lt_of_le hb hr'.keep.size) (fun e => by rcases (hmine b e).2 with h | h; · omega
                                                                    · exact hn' h)]
      exact hr'.keep.block b hb hn'⟩ (fun t' b hne' hb => by
      have hlt : b < w.heap.size := As.holds_lt (hr'.slot t') b hb
      have hnF : ¬ F t b := fun h => hne' (hr'.disj t' t b hb h)
      exact ⟨hblk b hlt (fun e => hnF ((hF b).2 e)), (hr'.mine t' b hb).1, hnF⟩) (fun b hb => hr'.mine t b hb)
  have he : updK env t (.deep (OSh.owx E k xs m)) = env := by
    funext u
    unfold updK
    split
    · rename_i hu'; rw [hu', hA]
    · rfl
  rwa [he] at this
/-- The room is forgotten. -/
theorem R_owx {xs : List α} {m : Nat} (ht : env t = .deep (OSh.owx E k xs m)) {a : Act} {w : World} (hr : C.R env a w) : C.R (updK env t (.own E k xs)) a w := by
  obtain ⟨s, F, hr'⟩ := hr
  have hslot := hr'.slot t
  rw [ht] at hslot
  obtain ⟨⟨⟨cells, how, hrd⟩, hcap⟩, hz0, hF⟩ := hslot
  exact hr'.turn (Fd := F t) (s' := s) (w' := w) ⟨⟨cells, how, hrd⟩, hz0, hF⟩ (Hp.le_refl s) (fun b o h1 h2 => by rw [h1] at h2; cases h2) hr'.fz hr'.keep (fun t' b hne hb => ⟨rfl, (hr'.mine t' b hb).1, fun h => hne (hr'.disj t' t b hb h)⟩) (fun b hb => hr'.mine t b hb)
theorem AX.owx {e : Exit} {xs : List α} {m : Nat} (ht : env t = .deep (OSh.owx E k xs m)) (h : AX C e (updK env t (.own E k xs)) Q) : AX C e env Q := fun a w hr => h a w (R_owx ht hr)
end
end Go.Proofs.YtfnkphllkbkfaaaDoor.VL
