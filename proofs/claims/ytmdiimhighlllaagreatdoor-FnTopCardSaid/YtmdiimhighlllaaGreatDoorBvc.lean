/- Proved here: a row that is cut and put together within itself. General: over every program. -/
import Derived.Test.YtmdiimhighlllaaGreatDoorBvb
import Derived.Laws.CopyRow
import Derived.WalkKit
import Derived.ProofKit
import Derived.OpenShut
import Derived.ShutString
import Derived.ChangeOld
import Derived.Below
import Derived.Carry
import Derived.SizedLaws
import Derived.JoinedOf
set_option linter.unusedVariables false
set_option linter.unusedSimpArgs false
namespace Go.Proofs.YtmdiimhighlllaaGreatDoor.VL
open Go
/-- A row that has room for some more. -/
def OSh.owx {α : Type} (E : TypeId) (k : Kd α) (xs : List α) (m : Nat) : OSh where
  hold s w v F := ((∃ cells, w.ownsRow 0 E k.sz v xs.length cells ∧ RdL k s cells xs) ∧ xs.length + m ≤ capV v) ∧ 0 < k.sz ∧ ∀ b, F b ↔ v.ownBlock = some b
  mono hst h := by obtain ⟨⟨⟨cells, h1, h2⟩, h3⟩, h4⟩ := h; exact ⟨⟨⟨cells, h1, h2.mono hst⟩, h3⟩, h4⟩
  frame h hw := by
    obtain ⟨⟨⟨cells, h1, h2⟩, hc⟩, h0, h3⟩ := h
    exact ⟨⟨⟨cells, ownsRow_at h1 (fun b hb => hw b ((h3 b).2 hb)), h2⟩, hc⟩, h0, h3⟩
  lt h b hb := by
    obtain ⟨⟨⟨cells, h1, h2⟩, hc⟩, h0, h3⟩ := h
    exact (h1.lt b ((h3 b).1 hb)).2
  sur := true
  sure _ h := by
    obtain ⟨⟨⟨cells, how, _⟩, _⟩, _⟩ := h
    rcases how.2 with ⟨e, _⟩ | ⟨g, cap, cur, e, _⟩ <;> simp [undef] at e
section
variable {C : Cx} {env env' : Env} {Q : Exit → Act → World → Prop} {o : Oper} {p q r : Operand} {ops : Array Oper} {l rest : List Oper} {d t : Nat} {T T' S E : TypeId} {α β : Type} {k : Kd α} {A B : As}
/-- What an owned row's value is. -/
theorem own_slice {w : World} {v : Value} {n sz : Nat} {cells : List Value} (h : w.ownsRow 0 E sz v n cells) : ∃ Ad c, v = .slice Ad n c ∧ n ≤ c ∧ c ≤ maxLen ∧ (Ad = none → n = 0 ∧ c = 0) := by
  rcases h.2 with ⟨hv, hn⟩ | ⟨g, cap, cur, hv, _, hg, hnc, hcm, hcs, htake⟩
  · subst hn; exact ⟨none, 0, hv, Nat.le_refl _, Nat.zero_le _, fun _ => ⟨rfl, rfl⟩⟩
  · exact ⟨_, cap, hv, hnc, hcm, fun h => by cases h⟩
theorem gv_hold {a : Act} {v : Value} (ht : t < 10000) (hne : t ≠ d) : gv (a.tmps.setIfInBounds d v) t = gv a.tmps t := gv_put_ne _ (by simp [ofSlot, Nat.mod_eq_of_lt ht, hne])
theorem OpT.vwH {xs : List α} {kk : IntKind} {i : Int} (hH : Hd C o (.slice T p none (some q) none) d) (hp : Root C env p t) (ht : env t = .own E k xs) (hq : Opd C env q (.cel (Kd.int kk) i)) (hT : elT C.P T = some E) (hz : sizeT C.P E = some k.sz) (h0 : 0 ≤ i ∧ i ≤ xs.length) (hne : t ≠ d) :
    OpT C o env (upd env d (.vw t 0 i.toNat k.sz)) :=
  OpT.pure hH.2.1 hH.2.2 fun s F a w hr => by
    have h1 := hr.slot t
    rw [ht] at h1
    obtain ⟨⟨cells, how, hrd⟩, _⟩ := h1
    obtain ⟨Ad, c, hv, hnc, _⟩ := own_slice how
    obtain ⟨hu, hu', he⟩ := el_elem hT
    refine ⟨sliced Ad 0 i.toNat c k.sz, ?_, ⟨?_, hp.1⟩, fun b hb => hb⟩
    · simp [execOp, hH.1, hp.2 s F a w hr, hv, (hq.geti hr).1, run_sliceAt_slice w T _ _ _ _ hu', run_slice_h w T Ad xs.length c hu' kk i h0.1 (by omega), he, run_sizeT hz]
    · rw [gv_hold hp.1 hne, hv]; rfl
theorem OpT.vwL {xs : List α} {kk : IntKind} {i : Int} (hH : Hd C o (.slice T p (some q) none none) d) (hp : Root C env p t) (ht : env t = .own E k xs) (hq : Opd C env q (.cel (Kd.int kk) i)) (hT : elT C.P T = some E) (hz : sizeT C.P E = some k.sz) (h0 : 0 ≤ i ∧ i ≤ xs.length) (hne : t ≠ d) :
    OpT C o env (upd env d (.vw t i.toNat xs.length k.sz)) :=
  OpT.pure hH.2.1 hH.2.2 fun s F a w hr => by
    have h1 := hr.slot t
    rw [ht] at h1
    obtain ⟨⟨cells, how, hrd⟩, _⟩ := h1
    obtain ⟨Ad, c, hv, hnc, _⟩ := own_slice how
    obtain ⟨hu, hu', he⟩ := el_elem hT
    refine ⟨sliced Ad i.toNat xs.length c k.sz, ?_, ⟨?_, hp.1⟩, fun b hb => hb⟩
    · simp [execOp, hH.1, hp.2 s F a w hr, hv, (hq.geti hr).1, run_sliceAt_slice w T _ _ _ _ hu', run_slice_l w T Ad xs.length c hu' kk i h0.1 h0.2, he, run_sizeT hz]
    · rw [gv_hold hp.1 hne, hv]; rfl
/-- Behind the row's end. -/
theorem OpT.vwX {xs : List α} {m : Nat} {kk kk' : IntKind} {i j : Int} (hH : Hd C o (.slice T p (some q) (some r) none) d) (hp : Root C env p t) (ht : env t = .deep (OSh.owx E k xs m)) (hq : Opd C env q (.cel (Kd.int kk) i)) (hr' : Opd C env r (.cel (Kd.int kk') j)) (hT : elT C.P T = some E) (hz : sizeT C.P E = some k.sz) (h0 : 0 ≤ i ∧ i ≤ j ∧ j ≤ xs.length + m) (hne : t ≠ d) :
    OpT C o env (upd env d (.vw t i.toNat j.toNat k.sz)) :=
  OpT.pure hH.2.1 hH.2.2 fun s F a w hr => by
    have h1 := hr.slot t
    rw [ht] at h1
    obtain ⟨⟨⟨cells, how, hrd⟩, hcap⟩, _⟩ := h1
    obtain ⟨Ad, c, hv, hnc, _⟩ := own_slice how
    rw [hv] at hcap
    have hcap' : xs.length + m ≤ c := hcap
    obtain ⟨hu, hu', he⟩ := el_elem hT
    refine ⟨sliced Ad i.toNat j.toNat c k.sz, ?_, ⟨?_, hp.1⟩, fun b hb => hb⟩
    · simp [execOp, hH.1, hp.2 s F a w hr, hv, (hq.geti hr).1, (hr'.geti hr).1, run_sliceAt_slice w T _ _ _ _ hu', run_slice_lh w T Ad xs.length c hu' kk kk' i j h0.1 h0.2.1 (by omega), he, run_sizeT hz]
    · rw [gv_hold hp.1 hne, hv]; rfl
/-- A cut that is only tried. -/
theorem OpT.vw3 {r' : Operand} {xs : List α} {kk kk' kk2 : IntKind} {i j m : Int} (hH : Hd C o (.slice T p (some q) (some r) (some r')) d) (hp : Root C env p t) (ht : env t = .own E k xs) (hq : Opd C env q (.cel (Kd.int kk) i)) (hr' : Opd C env r (.cel (Kd.int kk') j)) (hr2 : Opd C env r' (.cel (Kd.int kk2) m)) (hT : elT C.P T = some E) (hz : sizeT C.P E = some k.sz) (h0 : 0 ≤ i ∧ i ≤ j ∧ j ≤ m ∧ m ≤ xs.length) :
    OpT C o env (upd env d .any) :=
  OpT.pure hH.2.1 hH.2.2 fun s F a w hr => by
    have h1 := hr.slot t
    rw [ht] at h1
    obtain ⟨⟨cells, how, hrd⟩, _⟩ := h1
    obtain ⟨Ad, c, hv, hnc, _⟩ := own_slice how
    obtain ⟨hu, hu', he⟩ := el_elem hT
    refine ⟨sliced Ad i.toNat j.toNat m.toNat k.sz, ?_, fun b hb => hb⟩
    simp [execOp, hH.1, hp.2 s F a w hr, hv, (hq.geti hr).1, (hr'.geti hr).1, (hr2.geti hr).1, run_sliceAt_slice w T _ _ _ _ hu', run_slice_lhm w T Ad xs.length c hu' kk kk' kk2 i j m h0.1 h0.2.1 h0.2.2.1 (by omega), he, run_sizeT hz]
theorem OpT.lenX {xs : List α} {m : Nat} (hH : Hd C o (.call { callee := .builtin .len, args := #[p], argTypes := #[T] }) d) (hp : Root C env p t) (ht : env t = .deep (OSh.owx E k xs m)) (hT : elT C.P T = some E) : OpT C o env (upd env d (.cel (Kd.int .i64) (xs.length : Int))) :=
  OpT.pure hH.2.1 hH.2.2 fun s F a w hr => by
    have h1 := hr.slot t
    rw [ht] at h1
    obtain ⟨⟨⟨cells, how, hrd⟩, hcap⟩, _⟩ := h1
    obtain ⟨Ad, c, hv, hnc, hcm, _⟩ := own_slice how
    have hu : C.P.underlying T = some (.slice E) := by
      unfold elT at hT
      split at hT
      · simp only [Option.some.injEq] at hT; subst hT; assumption
      · cases hT
    refine ⟨.int .i64 xs.length, ?_, ⟨⟨rfl, by rw [inR_i64]; simp only [maxLen] at hcm; omega⟩, fun b hb => hb⟩⟩
    simp [execOp, hH.1, hp.2 s F a w hr, hv, resolve, invoke, builtin, Builtin.len_, run_underlying hu, goInt]
/-- A row's end moves forward. -/
theorem OpT.appS {xs : List α} {i j n : Nat} (hH : Hd C o (.call { callee := .builtin .append, args := #[p, q], argTypes := #[T, T] }) d) (hA : env t = .own E k xs) (hp : Opd C env p (.vw t 0 i k.sz)) (hq : Opd C env q (.vw t j n k.sz)) (hne : t ≠ d)
    (hT : elT C.P T = some E) (hsz : sizeT C.P E = some k.sz) (hn : i ≤ j ∧ j ≤ n ∧ n = xs.length) : OpT C o env (upd (upd env t .any) d (.deep (OSh.owx E k (xs.take i ++ xs.drop j) (j - i)))) := by
  intro Q K a w hr hK
  obtain ⟨s, F, hr'⟩ := hr
  obtain ⟨⟨hpv, htl⟩, _⟩ := hp s F a w hr'
  obtain ⟨⟨hqv, _⟩, _⟩ := hq s F a w hr'
  obtain ⟨F1, h1, h2⟩ := hr'.weaken' (upd_any_to env t)
  have hslot := hr'.slot t
  rw [hA] at hslot
  obtain ⟨⟨cells, how, hrd⟩, hz0, hF⟩ := hslot
  obtain ⟨hij, hjn, hnl⟩ := hn
  have hu : C.P.underlying T = some (.slice E) := by
    unfold elT at hT
    split at hT
    · simp only [Option.some.injEq] at hT; subst hT; assumption
    · cases hT
  obtain ⟨ie, hie, hsize⟩ := Option.map_eq_some_iff.1 hsz
  have hlen : (xs.take i ++ xs.drop j).length = i + (n - j) := by rw [List.length_append, List.length_take, List.length_drop]; omega
  have hrd2 : RdL k s (cells.take (i * k.sz) ++ cells.drop (j * k.sz)) (xs.take i ++ xs.drop j) := (hrd.take i).app (hrd.drop j)
  have hclen : cells.length = xs.length * k.sz := hrd.len
  have hrun : ∃ v' w', (Builtin.append_ #[T, T] o.type #[a.eval p, a.eval q]).run C.P w = .ok v' w' ∧ w'.ownsRow 0 E k.sz v' (i + (n - j)) (cells.take (i * k.sz) ++ cells.drop (j * k.sz)) ∧ n ≤ capV v' ∧ w.grownBy w' (gv a.tmps t).ownBlock ∧ v'.ownBlock = (gv a.tmps t).ownBlock := by
    rw [hpv, hqv]
    rcases how.2 with ⟨hv, hx0⟩ | ⟨g, cap, cur, hv, hb0, hg, hnc, hcm, hcs, htake⟩
    · have hn0 : n = 0 := by omega
      subst hn0
      obtain rfl : j = 0 := by omega
      obtain rfl : i = 0 := by omega
      rw [hv]
      refine ⟨.slice none 0 0, w, ?_, ?_, Nat.zero_le _, ⟨rfl, rfl, rfl, Nat.le_refl _, fun _ _ _ => rfl⟩, rfl⟩
      · simp [cutV, Builtin.append_, run_underlying hu, sizeOf, typeInfo, hie, Builtin.lenOf, Builtin.firstCells]
      · have hc0 : cells = [] := List.eq_nil_of_length_eq_zero (by rw [hclen, hx0]; simp)
        subst hc0
        exact ⟨by simp, .inl ⟨rfl, by simp⟩⟩
    · rw [hv]
      have e1 : cutV (.slice (some ⟨g, 0, none⟩) xs.length cap) 0 i k.sz = .slice (some ⟨g, 0, none⟩) i cap := by
        unfold cutV
        simp only [Nat.zero_mul, Nat.sub_zero]
        congr 1
        split <;> simp [Addr.add]
      have e2 : cutV (.slice (some ⟨g, 0, none⟩) xs.length cap) j n k.sz = .slice (some (if cap = j then ⟨g, 0, none⟩ else (⟨g, 0, none⟩ : Addr).add (j * k.sz))) (n - j) (cap - j) := by
        show Value.slice (if cap = j then some _ else Option.map _ (some _)) _ _ = _
        congr 1
        split <;> rfl
      rw [e1, e2]
      have hown1 : w.ownsRow 0 E k.sz (.slice (some ⟨g, 0, none⟩) i cap) i (cells.take (i * k.sz)) := by
        refine ⟨?_, .inr ⟨g, cap, cur, rfl, hb0, hg, by omega, hcm, hcs, ?_⟩⟩
        · rw [List.length_take, hclen]; exact Nat.min_eq_left (Nat.mul_le_mul_right _ (by omega))
        · rw [← htake, List.take_take, Nat.min_eq_left (Nat.mul_le_mul_right _ (by omega))]
      have hl : (cells.drop (j * k.sz)).length = (n - j) * k.sz := by rw [List.length_drop, hclen, hnl, Nat.sub_mul]
      obtain ⟨w', r1, r2, r3⟩ := run_append_fits (P := C.P) w 0 T o.type E ie k.sz hu hie hsize g i cap (cells.take (i * k.sz)) hown1 (if cap = j then ⟨g, 0, none⟩ else (⟨g, 0, none⟩ : Addr).add (j * k.sz)) (n - j) (cap - j) (cells.drop (j * k.sz)) hl (fun x u hx => by
        rw [List.getElem?_drop] at hx
        have hx1 := (List.getElem?_eq_some_iff.1 hx).1
        split
        · exfalso
          have h3 : xs.length * k.sz ≤ j * k.sz := Nat.mul_le_mul_right _ (by omega)
          omega
        · rw [add_add]
          refine own_cell hg ?_
          rw [← htake, List.getElem?_take] at hx
          split at hx
          · simpa using hx
          · cases hx) (fun u hu' => hrd.one u (List.mem_of_mem_drop hu')) (by omega)
      exact ⟨_, w', r1, r2, by show n ≤ cap; omega, r3, rfl⟩
  obtain ⟨v', w', r1, r2, r2c, r3, r4⟩ := hrun
  have hrun2 : (execOp a.eval o).run C.P w = .ok (.value v') w' := by
    simp only [execOp, hH.1, resolve, invoke, builtin]
    simp [r1]
  unfold Oper.wp
  rw [hrun2, Oper.upon_value, hH.2.1]
  have hnot : ∀ b, ¬ F1 t b := fun b hb => by
    have h3 := h1.slot t
    have h4 : upd env t .any t = .any := by unfold upd; rw [if_pos rfl]
    rw [h4] at h3
    exact h3 b hb
  have hmine : ∀ b, (gv a.tmps t).ownBlock = some b → s b = none ∧ (C.w0.heap.size ≤ b ∨ C.hd b) := fun b hb => hr'.mine t b ((hF b).2 hb)
  have hblk : ∀ b, b < w.heap.size → (gv a.tmps t).ownBlock ≠ some b → w'.heap[b]? = w.heap[b]? := fun b hb hne' => r3.block b hb (fun e => hne' e.symm)
  refine hK _ _ ⟨s, _, h1.putG (Fd := fun b => v'.ownBlock = some b) hH.2.2.1 (Nat.lt_of_lt_of_le hH.2.2.1 C.hN) hH.2.2.2 ?_ (Hp.le_refl s) (fun b o h1 h2 => by rw [h1] at h2; cases h2) (fun b o' hb => ?_) ⟨r3.os.trans h1.keep.os, r3.tape.trans h1.keep.tape, r3.output.trans h1.keep.output, Nat.le_trans h1.keep.size r3.size, fun b hb hn' => ?_⟩ (fun t' b hne' hof hb => ?_) (fun b hb => ?_)⟩
  · refine ⟨⟨⟨_, by rw [hlen]; exact r2, hrd2⟩, by rw [hlen]; omega⟩, hz0, fun b => Iff.rfl⟩
  · have hlt := h1.fz.lt hb
    rw [hblk b hlt (fun e => by rw [(hmine b e).1] at hb; cases hb)]
    exact h1.fz b o' hb
  · rw [hblk b (Nat.lt_of_lt_of_le hb h1.keep.size) (fun e => by rcases (hmine b e).2 with h | h; · omega
                                                                 · exact hn' h)]
    exact h1.keep.block b hb hn'
  · have h3 := h2 t' b hb
    have hlt : b < w.heap.size := As.holds_lt (hr'.slot t') b h3.1
    have hneb : (gv a.tmps t).ownBlock ≠ some b := fun e => by
      have := hr'.disj t' t b h3.1 ((hF b).2 e)
      subst this
      exact hnot b hb
    exact ⟨hblk b hlt hneb, (h1.mine t' b hb).1, fun hFb => hneb (r4 ▸ hFb)⟩
  · exact hmine b (r4 ▸ hb)
/-- What lies behind the end is wiped. -/
theorem OpT.clearX {xs : List α} {m lo hi : Nat} {z : Value} (ho : o.op = .call { callee := .builtin .clear, args := #[p], argTypes := #[T] }) (hd : o.dst = none) (hA : env t = .deep (OSh.owx E k xs m)) (hp : Opd C env p (.vw t lo hi k.sz)) (hT : elT C.P T = some E) (hz : zeroT C.P E = some z) (hzl : (Value.cl z).length = k.sz) (hz1 : ∀ u ∈ Value.cl z, u.oneCell' = true)
    (h0 : xs.length ≤ lo ∧ lo ≤ hi ∧ hi ≤ xs.length + m) : OpT C o env env := by
  intro Q K a w hr hK
  obtain ⟨s, F, hr'⟩ := hr
  obtain ⟨⟨hpv, htl⟩, _⟩ := hp s F a w hr'
  have hslot := hr'.slot t
  rw [hA] at hslot
  obtain ⟨⟨⟨cells, how, hrd⟩, hcap⟩, hz0, hF⟩ := hslot
  have hu : C.P.underlying T = some (.slice E) := by
    unfold elT at hT
    split at hT
    · simp only [Option.some.injEq] at hT; subst hT; assumption
    · cases hT
  obtain ⟨ie, hie, hzz⟩ := Option.bind_eq_some_iff.1 hz
  have hzc : z.cells.size = k.sz := by rw [← hzl]; simp [Value.cl]
  have hrun : ∃ w', (Builtin.clear_ #[T] o.type #[a.eval p]).run C.P w = .ok (.tuple #[]) w' ∧ (As.deep (OSh.owx E k xs m)).holds s w' (gv a.tmps) (gv a.tmps t) (F t) ∧ w.grownBy w' (gv a.tmps t).ownBlock := by
    rw [hpv]
    rcases how.2 with ⟨hv, hx0⟩ | ⟨g, cap, cur, hv, hb0, hg, hnc, hcm, hcs, htake⟩
    · refine ⟨w, ?_, ⟨⟨⟨cells, how, hrd⟩, hcap⟩, hz0, hF⟩, ⟨rfl, rfl, rfl, Nat.le_refl _, fun _ _ _ => rfl⟩⟩
      rw [hv]
      have : (cutV (.slice none 0 0) lo hi k.sz) = .slice none (hi - lo) (0 - lo) := by
        show Value.slice (if 0 = lo then none else Option.map _ none) _ _ = _
        congr 1
        split <;> rfl
      rw [this]
      simp [Builtin.clear_, run_underlying hu]
    · rw [hv] at hcap
      have hcap' : xs.length + m ≤ cap := hcap
      have e2 : cutV (.slice (some ⟨g, 0, none⟩) xs.length cap) lo hi k.sz = .slice (some (if cap = lo then ⟨g, 0, none⟩ else (⟨g, 0, none⟩ : Addr).add (lo * k.sz))) (hi - lo) (cap - lo) := by
        show Value.slice (if cap = lo then some _ else Option.map _ (some _)) _ _ = _
        congr 1
        split <;> rfl
      rw [hv, e2]
      by_cases h3 : hi - lo = 0
      · refine ⟨w, ?_, ⟨⟨⟨cells, hv ▸ how, hrd⟩, hcap'⟩, hz0, hv ▸ hF⟩, ⟨rfl, rfl, rfl, Nat.le_refl _, fun _ _ _ => rfl⟩⟩
        rw [h3]
        simp [Builtin.clear_, run_underlying hu]
      · have hne : cap ≠ lo := by omega
        rw [if_neg hne]
        have hadr : (⟨g, 0, none⟩ : Addr).add (lo * k.sz) = ⟨g, lo * k.sz, none⟩ := by unfold Addr.add; split <;> simp_all
        rw [hadr]
        have hzs : (Builtin.zeroCells z.cells (hi - lo)).toList.length = (hi - lo) * k.sz := by simp [Builtin.zeroCells, hzc]
        have hfit : lo * k.sz + 0 + (Builtin.zeroCells z.cells (hi - lo)).toList.length ≤ cur.size := by
          rw [hzs, hcs, Nat.add_zero, ← Nat.add_mul]; exact Nat.mul_le_mul_right _ (by omega)
        have hone : ∀ u ∈ (Builtin.zeroCells z.cells (hi - lo)).toList, u.oneCell' = true := by
          intro u hu'
          simp only [Builtin.zeroCells, Array.toList_map, List.mem_map] at hu'
          obtain ⟨x, _, rfl⟩ := hu'
          refine hz1 _ ?_
          have hlt : x % z.cells.size < z.cells.size := Nat.mod_lt _ (by omega)
          rw [getElem!_pos z.cells _ hlt]
          simp [Value.cl]
        have hst := run_storeCells_at (P := C.P) g (lo * k.sz) E _ 0 cur w hg hfit hone
        have hrunc : (Builtin.clear_ #[T] o.type #[.slice (some ⟨g, lo * k.sz, none⟩) (hi - lo) (cap - lo)]).run C.P w = .ok (.tuple #[]) (w.setRow g (cur.toList.take (lo * k.sz + 0) ++ (Builtin.zeroCells z.cells (hi - lo)).toList ++ cur.toList.drop (lo * k.sz + 0 + (Builtin.zeroCells z.cells (hi - lo)).toList.length)).toArray) := by
          obtain ⟨nn, hnn⟩ : ∃ nn, hi - lo = nn + 1 := ⟨hi - lo - 1, by omega⟩
          rw [hnn] at hst ⊢
          simp only [Builtin.clear_, Sem.run_bind]
          simp [run_underlying hu, zeroValue, typeInfo, hie, hzz]
          simp only [Array.length_toList] at hst
          rw [hst]
          simp
        refine ⟨_, hrunc, ?_, ⟨rfl, rfl, rfl, by simp [World.setRow], fun b _ hb => setRow_other w g b _ (fun e => hb (by simp [Value.ownBlock, e]))⟩⟩
        · refine ⟨⟨⟨cells, ⟨how.1, .inr ⟨g, cap, _, hv ▸ rfl, hb0, setRow_heap w g cur _ E _ hg, hnc, hcm, ?_, ?_⟩⟩, hrd⟩, hcap'⟩, hz0, hv ▸ hF⟩
          · simp only [List.size_toArray, List.length_append, List.length_take, List.length_drop, Array.length_toList, Nat.add_zero] at hfit ⊢
            omega
          · show ((cur.toList.take (lo * k.sz + 0) ++ _ ++ _).toArray).toList.take (xs.length * k.sz) = cells
            have h4 : xs.length * k.sz ≤ lo * k.sz := Nat.mul_le_mul_right _ h0.1
            have h5 : lo * k.sz ≤ cur.size := by rw [hcs]; exact Nat.mul_le_mul_right _ (by omega)
            rw [List.append_assoc, List.toList_toArray, List.take_append_of_le_length (by rw [List.length_take]; have h6 : cur.toList.length = cur.size := Array.length_toList; omega), List.take_take, Nat.min_eq_left (by omega)]
            exact htake
  obtain ⟨w', r1, r2, r3⟩ := hrun
  have hrun2 : (execOp a.eval o).run C.P w = .ok (.value (.tuple #[])) w' := by
    simp only [execOp, ho, resolve, invoke, builtin]
    simp [r1]
  unfold Oper.wp
  rw [hrun2, Oper.upon_value, hd]
  have hmine : ∀ b, (gv a.tmps t).ownBlock = some b → s b = none ∧ (C.w0.heap.size ≤ b ∨ C.hd b) := fun b hb => hr'.mine t b ((hF b).2 hb)
  have hblk : ∀ b, b < w.heap.size → (gv a.tmps t).ownBlock ≠ some b → w'.heap[b]? = w.heap[b]? := fun b hb hne' => r3.block b hb (fun e => hne' e.symm)
  refine hK _ _ ?_
  have hput : a.put none (.tuple #[]) = a := rfl
  rw [hput]
  have := hr'.turn (d := t) (A := .deep (OSh.owx E k xs m)) (Fd := F t) (s' := s) (w' := w') r2 (Hp.le_refl s) (fun b o h1 h2 => by rw [h1] at h2; cases h2) (fun b o' hb => by
      have hlt := hr'.fz.lt hb
      rw [hblk b hlt (fun e => by rw [(hmine b e).1] at hb; cases hb)]
      exact hr'.fz b o' hb) ⟨r3.os.trans hr'.keep.os, r3.tape.trans hr'.keep.tape, r3.output.trans hr'.keep.output, Nat.le_trans hr'.keep.size r3.size, fun b hb hn' => by
      rw [hblk b (Nat.lt_of_lt_of_le hb hr'.keep.size) (fun e => by rcases (hmine b e).2 with h | h; · omega
                                                                    · exact hn' h)]
      exact hr'.keep.block b hb hn'⟩ (fun t' b hne' hb => by
      have hlt : b < w.heap.size := As.holds_lt (hr'.slot t') b hb
      have hnF : ¬ F t b := fun h => hne' (hr'.disj t' t b hb h)
      exact ⟨hblk b hlt (fun e => hnF ((hF b).2 e)), (hr'.mine t' b hb).1, hnF⟩) (fun b hb => hr'.mine t b hb)
  have he : updK env t (.deep (OSh.owx E k xs m)) = env := by
    funext u
    unfold updK
    split
    · rename_i hu'; rw [hu', hA]
    · rfl
  rwa [he] at this
/-- The room is forgotten. -/
theorem R_owx {xs : List α} {m : Nat} (ht : env t = .deep (OSh.owx E k xs m)) {a : Act} {w : World} (hr : C.R env a w) : C.R (updK env t (.own E k xs)) a w := by
  obtain ⟨s, F, hr'⟩ := hr
  have hslot := hr'.slot t
  rw [ht] at hslot
  obtain ⟨⟨⟨cells, how, hrd⟩, hcap⟩, hz0, hF⟩ := hslot
  exact hr'.turn (Fd := F t) (s' := s) (w' := w) ⟨⟨cells, how, hrd⟩, hz0, hF⟩ (Hp.le_refl s) (fun b o h1 h2 => by rw [h1] at h2; cases h2) hr'.fz hr'.keep (fun t' b hne hb => ⟨rfl, (hr'.mine t' b hb).1, fun h => hne (hr'.disj t' t b hb h)⟩) (fun b hb => hr'.mine t b hb)
theorem AX.owx {e : Exit} {xs : List α} {m : Nat} (ht : env t = .deep (OSh.owx E k xs m)) (h : AX C e (updK env t (.own E k xs)) Q) : AX C e env Q := fun a w hr => h a w (R_owx ht hr)
end
end Go.Proofs.YtmdiimhighlllaaGreatDoor.VL
/- Proved here: what is owned within what is owned. General: over every program. -/
set_option linter.unusedVariables false
set_option linter.unusedSimpArgs false
namespace Go.Proofs.YtmdiimhighlllaaGreatDoor.VL
open Go
/-- Memory that is owned, wherever its addresses lie. -/
structure GP where
  ho : Hp → World → FS → Prop
  mono : ∀ {s t : Hp} {w : World} {F : FS}, s.le t → ho s w F → ho t w F
  frame : ∀ {s : Hp} {w w' : World} {F : FS}, ho s w F → (∀ b, F b → w'.heap[b]? = w.heap[b]?) → ho s w' F
  lt : ∀ {s : Hp} {w : World} {F : FS}, ho s w F → ∀ b, F b → b < w.heap.size
def GP.pure (p : Prop) : GP where
  ho _ _ F := p ∧ ∀ b, ¬ F b
  mono _ h := h
  frame h _ := h
  lt h b hb := (h.2 b hb).elim
def GP.sep (G H : GP) : GP where
  ho s w F := ∃ F1 F2, G.ho s w F1 ∧ H.ho s w F2 ∧ (∀ b, F1 b → ¬ F2 b) ∧ ∀ b, F b ↔ F1 b ∨ F2 b
  mono hst h := by obtain ⟨F1, F2, h1, h2, h3, h4⟩ := h; exact ⟨F1, F2, G.mono hst h1, H.mono hst h2, h3, h4⟩
  frame h hw := by
    obtain ⟨F1, F2, h1, h2, h3, h4⟩ := h
    exact ⟨F1, F2, G.frame h1 (fun b hb => hw b ((h4 b).2 (.inl hb))), H.frame h2 (fun b hb => hw b ((h4 b).2 (.inr hb))), h3, h4⟩
  lt h b hb := by
    obtain ⟨F1, F2, h1, h2, h3, h4⟩ := h
    exact ((h4 b).1 hb).elim (G.lt h1 b) (H.lt h2 b)
def GP.own {α : Type} (E : TypeId) (k : Kd α) (xs : List α) (v : Value) : GP where
  ho s w F := (As.own E k xs).holds s w g0 v F
  mono hst h := As.holds_mono hst h
  frame h hw := As.holds_frame h hw
  lt h := As.holds_lt h
/-- A slot that holds nothing but the right to memory. -/
def OSh.gh (G : GP) : OSh where
  hold s w _ F := G.ho s w F
  mono hst h := G.mono hst h
  frame h hw := G.frame h hw
  lt h := G.lt h
  sur := false
  sure h := by cases h
structure GP.ent (G H : GP) : Prop where
  go : ∀ {s w F}, G.ho s w F → H.ho s w F
theorem GP.ent.tr {G H K : GP} (h : G.ent H) (k : H.ent K) : G.ent K := ⟨fun x => k.go (h.go x)⟩
theorem GP.ent.rf {G : GP} : G.ent G := ⟨fun x => x⟩
theorem GP.comm {G H : GP} : (G.sep H).ent (H.sep G) := ⟨fun {s w F} h => by
  obtain ⟨F1, F2, h1, h2, h3, h4⟩ := h
  exact ⟨F2, F1, h2, h1, fun b hb hb' => h3 b hb' hb, fun b => (h4 b).trans or_comm⟩⟩
theorem GP.assoc {G H K : GP} : ((G.sep H).sep K).ent (G.sep (H.sep K)) := ⟨fun {s w F} h => by
  obtain ⟨F12, F3, ⟨F1, F2, h1, h2, h3, h4⟩, h5, h6, h7⟩ := h
  refine ⟨F1, fun b => F2 b ∨ F3 b, h1, ⟨F2, F3, h2, h5, fun b hb => h6 b ((h4 b).2 (.inr hb)), fun b => Iff.rfl⟩, fun b hb hb' => ?_, fun b => ?_⟩
  · rcases hb' with hb' | hb'
    · exact h3 b hb hb'
    · exact h6 b ((h4 b).2 (.inl hb)) hb'
  · rw [h7, h4, or_assoc]⟩
theorem GP.assoc' {G H K : GP} : (G.sep (H.sep K)).ent ((G.sep H).sep K) := ⟨fun {s w F} h => by
  obtain ⟨F1, F23, h1, ⟨F2, F3, h2, h5, h3, h4⟩, h6, h7⟩ := h
  refine ⟨fun b => F1 b ∨ F2 b, F3, ⟨F1, F2, h1, h2, fun b hb hb' => h6 b hb ((h4 b).2 (.inl hb')), fun b => Iff.rfl⟩, h5, fun b hb hb' => ?_, fun b => ?_⟩
  · rcases hb with hb | hb
    · exact h6 b hb ((h4 b).2 (.inr hb'))
    · exact h3 b hb hb'
  · rw [h7, h4, or_assoc]⟩
theorem GP.both {G G' H H' : GP} (h : G.ent G') (h' : H.ent H') : (G.sep H).ent (G'.sep H') := ⟨fun {s w F} hh => by
  obtain ⟨F1, F2, h1, h2, h3, h4⟩ := hh
  exact ⟨F1, F2, h.go h1, h'.go h2, h3, h4⟩⟩
theorem GP.left {G H K : GP} (h : G.ent H) : (G.sep K).ent (H.sep K) := GP.both h .rf
theorem GP.right {G H K : GP} (h : G.ent H) : (K.sep G).ent (K.sep H) := GP.both .rf h
theorem GP.ex {G H K : GP} : (G.sep (H.sep K)).ent (H.sep (G.sep K)) := (GP.assoc'.tr (GP.left GP.comm)).tr GP.assoc
theorem GP.pure_i {p : Prop} {G : GP} {s w F} (hp : p) (h : G.ho s w F) : ((GP.pure p).sep G).ho s w F :=
  ⟨FS.no, F, ⟨hp, fun b hb => hb⟩, h, fun b hb => hb.elim, fun b => ⟨.inr, fun h => h.resolve_left fun h => h⟩⟩

/-! ### Data whose parts are owned -/
/-- A value, as it lies in its cell. -/
def Kd.raw : Kd Value where
  sz := 1
  rd _ cs v := cs = [v] ∧ v.oneCell' = true
  len h := by rw [h.1]; rfl
  mono _ h := h
  one h := by rw [h.1]; intro c hc; simp at hc; subst hc; exact h.2
/-- How data lies, and what it owns. -/
structure Inn (ρ α : Type) where
  k : Kd ρ
  ho : ρ → α → GP
def Inn.flat {α : Type} (k : Kd α) : Inn α α := ⟨k, fun x y => GP.pure (x = y)⟩
def Inn.row {α : Type} (E : TypeId) (k : Kd α) : Inn Value (List α) := ⟨Kd.raw, fun v xs => GP.own E k xs v⟩
def Inn.pair {ρ σ α β : Type} (d : Inn ρ α) (e : Inn σ β) : Inn (ρ × σ) (α × β) := ⟨Kd.pair d.k e.k, fun r x => (d.ho r.1 x.1).sep (e.ho r.2 x.2)⟩
def Inn.all {ρ α : Type} (d : Inn ρ α) : List ρ → List α → GP
  | [], [] => GP.pure True
  | r :: rs, x :: xs => (d.ho r x).sep (Inn.all d rs xs)
  | _, _ => GP.pure False
section
variable {ρ σ α β : Type} {d : Inn ρ α}
theorem Inn.all_len {s w} : ∀ {rs : List ρ} {xs : List α} {F}, (d.all rs xs).ho s w F → rs.length = xs.length
  | [], [], _, _ => rfl
  | r :: rs, x :: xs, F, h => by
    obtain ⟨F1, F2, h1, h2, h3, h4⟩ := h
    rw [List.length_cons, List.length_cons, Inn.all_len h2]
  | [], _ :: _, _, h => h.1.elim
  | _ :: _, [], _, h => h.1.elim
/-- All but one. -/
def Inn.hole (d : Inn ρ α) (rs : List ρ) (xs : List α) (i : Nat) : GP := (d.all (rs.take i) (xs.take i)).sep (d.all (rs.drop (i + 1)) (xs.drop (i + 1)))
end
/-! ### Rows and structs that own what lies in them -/
def OSh.rows {ρ α : Type} (E : TypeId) (d : Inn ρ α) (xs : List α) : OSh where
  hold s w v F := ∃ rs F1 F2, (As.own E d.k rs).holds s w g0 v F1 ∧ (d.all rs xs).ho s w F2 ∧ (∀ b, F1 b → ¬ F2 b) ∧ ∀ b, F b ↔ F1 b ∨ F2 b
  mono hst h := by obtain ⟨rs, F1, F2, h1, h2, h3, h4⟩ := h; exact ⟨rs, F1, F2, As.holds_mono hst h1, GP.mono _ hst h2, h3, h4⟩
  frame h hw := by
    obtain ⟨rs, F1, F2, h1, h2, h3, h4⟩ := h
    exact ⟨rs, F1, F2, As.holds_frame h1 (fun b hb => hw b ((h4 b).2 (.inl hb))), GP.frame _ h2 (fun b hb => hw b ((h4 b).2 (.inr hb))), h3, h4⟩
  lt h b hb := by
    obtain ⟨rs, F1, F2, h1, h2, h3, h4⟩ := h
    exact ((h4 b).1 hb).elim (As.holds_lt h1 b) (GP.lt _ h2 b)
  sur := true
  sure _ h := by
    obtain ⟨rs, F1, F2, ⟨⟨cells, how, _⟩, _⟩, _⟩ := h
    rcases how.2 with ⟨e, _⟩ | ⟨g, cap, cur, e, _⟩ <;> simp [undef] at e
def OSh.dagg {ρ α : Type} (d : Inn ρ α) (x : α) : OSh where
  hold s w v F := ∃ cs r, v = .agg cs ∧ d.k.rd s cs.toList r ∧ (d.ho r x).ho s w F
  mono hst h := by obtain ⟨cs, r, h1, h2, h3⟩ := h; exact ⟨cs, r, h1, d.k.mono hst h2, GP.mono _ hst h3⟩
  frame h hw := by obtain ⟨cs, r, h1, h2, h3⟩ := h; exact ⟨cs, r, h1, h2, GP.frame _ h3 hw⟩
  lt h := by obtain ⟨cs, r, h1, h2, h3⟩ := h; exact GP.lt _ h3
  sur := true
  sure _ h := by obtain ⟨cs, r, h1, _⟩ := h; simp [undef] at h1
/-! ### Two slots change what they hold; memory and values stay -/
section
variable {C : Cx} {env : Env} {Q : Exit → Act → World → Prop} {ops : Array Oper} {l : List Oper} {c : Code} {t g : Nat}
theorem R_two {ι : Type} {A B : ι → As} (hne : t ≠ g) (h : ∀ {s w gg v u F1 F2}, (env t).holds s w gg v F1 → (env g).holds s w gg u F2 → (∀ b, F1 b → ¬ F2 b) → ∃ i F1' F2', (A i).holds s w gg v F1' ∧ (B i).holds s w gg u F2' ∧ (∀ b, F1' b → ¬ F2' b) ∧ ∀ b, F1' b ∨ F2' b → F1 b ∨ F2 b)
    {a : Act} {w : World} (hr : C.R env a w) : ∃ i, C.R (updK (updK env t (A i)) g (B i)) a w := by
  obtain ⟨s, F, hr'⟩ := hr
  obtain ⟨i, F1, F2, h1, h2, h3, h4⟩ := h (hr'.slot t) (hr'.slot g) (fun b hb hb' => hne (hr'.disj t g b hb hb'))
  refine ⟨i, s, fun u => if u = g then F2 else if u = t then F1 else F u, hr'.dfr, hr'.size, fun u => ?_, fun u u' b hb hb' => ?_, fun u b hb => ?_, hr'.fz, hr'.keep, hr'.pin, hr'.ext, hr'.new⟩
  · unfold updK
    by_cases hg : u = g
    · subst hg; simp only [if_true]; exact h2
    · simp only [if_neg hg]
      by_cases ht : u = t
      · subst ht; simp only [if_true]; exact h1
      · simp only [if_neg ht]; exact hr'.slot u
  · have key : ∀ u, (if u = g then F2 else if u = t then F1 else F u) b → (u = g ∧ F2 b) ∨ (u = t ∧ F1 b) ∨ (u ≠ g ∧ u ≠ t ∧ F u b) := by
      intro u hb
      split at hb
      · exact .inl ⟨by assumption, hb⟩
      · split at hb
        · exact .inr (.inl ⟨by assumption, hb⟩)
        · exact .inr (.inr ⟨by assumption, by assumption, hb⟩)
    have out : ∀ u, u ≠ g → u ≠ t → F u b → ¬ (F1 b ∨ F2 b) := by
      intro u hg ht hb h
      rcases h4 b h with h | h
      · exact ht (hr'.disj u t b hb h)
      · exact hg (hr'.disj u g b hb h)
    rcases key u hb with ⟨e, hb⟩ | ⟨e, hb⟩ | ⟨e1, e2, hb⟩ <;> rcases key u' hb' with ⟨e', hb'⟩ | ⟨e', hb'⟩ | ⟨e1', e2', hb'⟩
    · rw [e, e']
    · exact (h3 b hb' hb).elim
    · exact (out u' e1' e2' hb' (.inr hb)).elim
    · exact (h3 b hb hb').elim
    · rw [e, e']
    · exact (out u' e1' e2' hb' (.inl hb)).elim
    · exact (out u e1 e2 hb (.inr hb')).elim
    · exact (out u e1 e2 hb (.inl hb')).elim
    · exact hr'.disj u u' b hb hb'
  · have mine : F1 b ∨ F2 b → s b = none ∧ (C.w0.heap.size ≤ b ∨ C.hd b) := fun h => by
      rcases h4 b h with h | h
      · exact hr'.mine t b h
      · exact hr'.mine g b h
    split at hb
    · exact mine (.inr hb)
    · split at hb
      · exact mine (.inl hb)
      · exact hr'.mine u b hb
/-- A change of view. -/
def Vw (C : Cx) (env : Env) {ι : Type} (env' : ι → Env) : Prop := ∀ a w, C.R env a w → ∃ i, C.R (env' i) a w
theorem AWl.vw {ι : Type} {env' : ι → Env} (h : Vw C env env') (k : ∀ i, AWl C ops l (env' i) Q) : AWl C ops l env Q := fun a w hr => by
  obtain ⟨i, hr'⟩ := h a w hr
  exact k i a w hr'
theorem AX.vw {ι : Type} {env' : ι → Env} {e : Exit} (h : Vw C env env') (k : ∀ i, AX C e (env' i) Q) : AX C e env Q := fun a w hr => by
  obtain ⟨i, hr'⟩ := h a w hr
  exact k i a w hr'
theorem AW.vw {ι : Type} {env' : ι → Env} (h : Vw C env env') (k : ∀ i, AW C c (env' i) Q) : AW C c env Q := fun a w hr => by
  obtain ⟨i, hr'⟩ := h a w hr
  exact k i a w hr'
theorem OpT.vw {o : Oper} {ι : Type} {env1 env2 : ι → Env} {env3 : Env} (h : Vw C env env1) (h1 : ∀ i, OpT C o (env1 i) (env2 i)) (h2 : ∀ i, Vw C (env2 i) fun _ : Unit => env3) : OpT C o env env3 := by
  intro Q K a w hr hK
  obtain ⟨i, hr'⟩ := h a w hr
  exact h1 i Q K a w hr' fun a' w' hr2 => by
    obtain ⟨_, hr3⟩ := h2 i a' w' hr2
    exact hK a' w' hr3
end
end Go.Proofs.YtmdiimhighlllaaGreatDoor.VL
/- Proved here: short rules for what is owned within what is owned. General: over every program. -/
set_option linter.unusedVariables false
set_option linter.unusedSimpArgs false
namespace Go.Proofs.YtmdiimhighlllaaGreatDoor.VL
open Go
theorem own_one {α : Type} {E : TypeId} {k : Kd α} {xs : List α} {s w g v F} (h : (As.own E k xs).holds s w g v F) : v.oneCell' = true := by
  obtain ⟨⟨cells, how, _⟩, _⟩ := h
  rcases how.2 with ⟨e, _⟩ | ⟨g, cap, cur, e, _⟩ <;> rw [e] <;> rfl
section
variable {C : Cx} {env : Env} {e : KL} {Q : Exit → Act → World → Prop} {ops : Array Oper} {l : List Oper} {c : Code} {α ρ : Type} {k : Kd α} {E : TypeId} {xs : List α} {v : Value}
theorem keep_two {t g : Nat} {A B : As} : updK (updK (keep e) t A) g B = keep ((g, B) :: (t, A) :: e) := by rw [updK_keep, updK_keep]
theorem Vw.two {ι : Type} {A B : ι → As} (t g : Nat) (hne : t ≠ g) (h : ∀ {s w gg v u F1 F2}, (keep e t).holds s w gg v F1 → (keep e g).holds s w gg u F2 → (∀ b, F1 b → ¬ F2 b) → ∃ i F1' F2', (A i).holds s w gg v F1' ∧ (B i).holds s w gg u F2' ∧ (∀ b, F1' b → ¬ F2' b) ∧ ∀ b, F1' b ∨ F2' b → F1 b ∨ F2 b) :
    Vw C (keep e) fun i => keep ((g, B i) :: (t, A i) :: e) := fun a w hr => by
  obtain ⟨i, h'⟩ := R_two hne h hr
  exact ⟨i, by show C.R (keep ((g, B i) :: (t, A i) :: e)) a w; rw [← keep_two]; exact h'⟩
/-- An owned row is its header, and the right to its memory. -/
theorem vmelt (t g : Nat) (h1 : keep e t = .own E k xs) (h2 : keep e g = .any) (hne : t ≠ g) : Vw C (keep e) fun v : Value => keep ((g, .deep (OSh.gh (GP.own E k xs v))) :: (t, .cel Kd.raw v) :: e) :=
  Vw.two t g hne fun {s w gg v u F1 F2} a1 a2 _ => by
    rw [h1] at a1
    exact ⟨v, FS.no, F1, ⟨⟨rfl, own_one a1⟩, fun b hb => hb⟩, a1, fun b hb => hb.elim, fun b hb => hb.elim (fun h => h.elim) .inl⟩
theorem vunmelt (t g : Nat) (h1 : keep e t = .cel Kd.raw v) (h2 : keep e g = .deep (OSh.gh (GP.own E k xs v))) (hne : t ≠ g) : Vw C (keep e) fun _ : Unit => keep ((g, .any) :: (t, .own E k xs) :: e) :=
  Vw.two t g hne fun {s w gg v' u F1 F2} a1 a2 _ => by
    rw [h1] at a1; rw [h2] at a2
    have e1 : v' = v := by have := a1.1.1; simpa using this
    subst e1
    exact ⟨(), F2, FS.no, a2, fun b hb => hb, fun b hb hb' => hb', fun b hb => hb.elim .inr (fun h => h.elim)⟩
variable {d : Inn ρ α} {G H : GP}
/-- Two rights are put together, and seen as something else. -/
theorem vjoin {K : GP} (t g : Nat) (h : (G.sep H).ent K) (h1 : keep e t = .deep (OSh.gh G)) (h2 : keep e g = .deep (OSh.gh H)) (hne : t ≠ g) : Vw C (keep e) fun _ : Unit => keep ((g, .any) :: (t, .deep (OSh.gh K)) :: e) :=
  Vw.two t g hne fun {s w gg v' u F1 F2} a1 a2 hd => by
    rw [h1] at a1; rw [h2] at a2
    exact ⟨(), fun b => F1 b ∨ F2 b, FS.no, h.go ⟨F1, F2, a1, a2, hd, fun b => Iff.rfl⟩, fun b hb => hb, fun b hb hb' => hb', fun b hb => hb.elim id (fun h => h.elim)⟩
end
theorem ROc {C : Cx} {env : Env} {ρ α : Type} {d : Inn ρ α} {r : ρ} {x y : α} {E T : TypeId} {t : Nat} (g : Nat) (hr : t < 10000) {G : GP} (h : env t = .box E d.k r) (hg : env g = .deep (OSh.gh G)) (he : G.ent (d.ho r x)) (hx : x = y) (hT : aggT C.P T = some true) (hz : sizeT C.P T = some d.k.sz) : RO C env (.cell t T) (.deep (OSh.dagg d y)) (some g) :=
  RO.cellG (fun {s F a w} hr' => by
    subst hx
    have h1 := hr'.slot t
    rw [h] at h1
    obtain ⟨b, cs, e, h2, h3, _⟩ := h1
    have h4 := hr'.slot g
    rw [hg] at h4
    rw [gv_lo hr] at e
    have h6 : ∀ j u, cs.toList[j]? = some u → w.cell? ((⟨b, 0, none⟩ : Addr).add j) = some u := fun j u hu => own_cell h2 (by simpa using hu)
    refine ⟨.agg cs.toList.toArray, ?_, cs.toList.toArray, r, rfl, by simpa using h3, he.go h4⟩
    simp only [runRes, e, asAddr, Sem.run_bind, Sem.run_pure, Result.andThen_ok]
    exact run_loadVar_agg hT (by rw [hz, Kd.len _ h3]) h6) rfl
section
variable {C : Cx} {e : KL} {G H : GP}
theorem vnown {α : Type} (E : TypeId) (k : Kd α) (hk : Nat.blt 0 k.sz = true) (t g : Nat) (h1 : keep e t = .any) (h2 : keep e g = .any) (hne : t ≠ g) : Vw C (keep e) fun _ : Unit => keep ((g, .any) :: (t, .deep (OSh.gh (GP.own E k [] (.slice none 0 0)))) :: e) :=
  Vw.two t g hne fun {s w gg v' u F1 F2} a1 a2 hd => by
    rw [h1] at a1; rw [h2] at a2
    refine ⟨(), F1, F2, ⟨⟨[], ⟨by simp, .inl ⟨rfl, rfl⟩⟩, rfl⟩, Nat.le_of_ble_eq_true hk, fun b => ⟨fun h => (a1 b h).elim, fun h => by cases h⟩⟩, a2, hd, fun b hb => hb⟩
end
theorem Kh {env : Env} {t : Nat} {α : Type} {E : TypeId} {k : Kd α} {v : Value} {x y : List α} (h : env t = .deep (OSh.gh (GP.own E k x v))) (hx : x = y) : env t = .deep (OSh.gh (GP.own E k y v)) := hx ▸ h
/-! ### What is owned, lent -/
/-- Where what is owned is seen as shared, it reads as data. -/
structure Inn.Reads {ρ α : Type} (d : Inn ρ α) (k : Kd α) : Prop where
  rd : ∀ {s w F sc cs r x}, d.k.rd s cs r → (d.ho r x).ho s w F → Hp.le s sc → (∀ b, F b → sc b = w.heap[b]?) → k.rd sc cs x
  sz : d.k.sz = k.sz
theorem own_shared {α : Type} {E : TypeId} {k : Kd α} {xs : List α} {s w g v F sc} (h4 : (As.own E k xs).holds s w g v F) (hs : Hp.le s sc) (hl : ∀ b, F b → sc b = w.heap[b]?) : (Kd.slice k).rd sc [v] xs := by
  obtain ⟨⟨cells, how, hrd⟩, hz0, hF⟩ := h4
  rcases how.2 with ⟨hv, hn⟩ | ⟨g, cap, cur, hv, _, hg, hnc, hcm, hcs, htake⟩
  · exact ⟨none, 0, by rw [hv, hn], by omega, by omega, fun h => by omega⟩
  · have hFg : F g := (hF g).2 (by rw [hv]; rfl)
    refine ⟨some ⟨g, 0, none⟩, cap, by rw [hv], hnc, by simp only [maxLen] at hcm; omega, fun h => ⟨⟨g, 0, none⟩, cells, rfl, hrd.mono hs, fun j u hu => ?_⟩⟩
    rw [Addr.add_lit, Nat.zero_add]
    unfold Hp.look
    simp only [hl g hFg, hg]
    rw [← htake, List.getElem?_take] at hu
    split at hu
    · simpa using hu
    · cases hu
theorem Inn.Reads.flat {α : Type} (k : Kd α) : (Inn.flat k).Reads k where
  rd h h' hs _ := by obtain ⟨rfl, _⟩ := h'; exact k.mono hs h
  sz := rfl
theorem Inn.Reads.row {α : Type} (E : TypeId) (k : Kd α) : (Inn.row E k).Reads (Kd.slice k) where
  rd h h' hs hl := by obtain ⟨rfl, _⟩ := h; exact own_shared (g := g0) h' hs hl
  sz := rfl
theorem Inn.Reads.pair {ρ σ α β : Type} {d : Inn ρ α} {e : Inn σ β} {k : Kd α} {k' : Kd β} (h : d.Reads k) (h' : e.Reads k') : (Inn.pair d e).Reads (Kd.pair k k') where
  rd hr ho hs hl := by
    obtain ⟨c, c', e1, h1, h2⟩ := hr
    obtain ⟨F1, F2, o1, o2, _, o4⟩ := ho
    exact ⟨c, c', e1, h.rd h1 o1 hs (fun b hb => hl b ((o4 b).2 (.inl hb))), h'.rd h2 o2 hs (fun b hb => hl b ((o4 b).2 (.inr hb)))⟩
  sz := by show d.k.sz + e.k.sz = k.sz + k'.sz; rw [h.sz, h'.sz]
theorem Inn.Reads.all {ρ α : Type} {d : Inn ρ α} {k : Kd α} (h : d.Reads k) {s w sc} (hs : Hp.le s sc) : ∀ {rs : List ρ} {xs : List α} {cs F}, RdL d.k s cs rs → (d.all rs xs).ho s w F → (∀ b, F b → sc b = w.heap[b]?) → RdL k sc cs xs
  | [], [], cs, F, hr, _, _ => hr
  | r :: rs, x :: xs, cs, F, hr, ho, hl => by
    obtain ⟨c, c', e1, h1, h2⟩ := hr
    obtain ⟨F1, F2, o1, o2, _, o4⟩ := ho
    exact ⟨c, c', e1, h.rd h1 o1 hs (fun b hb => hl b ((o4 b).2 (.inl hb))), Inn.Reads.all h hs h2 o2 (fun b hb => hl b ((o4 b).2 (.inr hb)))⟩
  | [], _ :: _, _, _, _, ho, _ => ho.1.elim
  | _ :: _, [], _, _, _, ho, _ => ho.1.elim
theorem Bor.rows {ρ α : Type} {E : TypeId} {d : Inn ρ α} {k : Kd α} {xs : List α} (h : d.Reads k) : Bor (.deep (OSh.rows E d xs)) (.cel (Kd.slice k) xs) :=
  Bor.deep fun {s w g v F sc} hh hs hl => by
    obtain ⟨rs, F1, F2, h1, h2, _, h4⟩ := hh
    have hlen := Inn.all_len h2
    refine ⟨?_, fun b hb => hb⟩
    obtain ⟨⟨cells, how, hrd⟩, hz0, hF⟩ := h1
    have hrd' := Inn.Reads.all h hs hrd h2 (fun b hb => hl b ((h4 b).2 (.inr hb)))
    have h5 : (As.own E k xs).holds sc w g0 v F1 := ⟨⟨cells, by rw [← hlen, ← h.sz]; exact how, hrd'⟩, by rw [← h.sz]; exact hz0, hF⟩
    exact own_shared h5 (Hp.le_refl sc) (fun b hb => hl b ((h4 b).2 (.inl hb)))
theorem Bor.dagg {ρ α : Type} {d : Inn ρ α} {k : Kd α} {x : α} (h : d.Reads k) : Bor (.deep (OSh.dagg d x)) (.agg k x) :=
  Bor.deep fun {s w g v F sc} hh hs hl => by
    obtain ⟨cs, r, h1, h2, h3⟩ := hh
    exact ⟨⟨cs, h1, h.rd h2 h3 hs hl⟩, fun b hb => hb⟩
/-! ### Results that are owned become shared -/
def Shr (A A' : As) : Prop := ∀ {s w v F sc}, A.holds s w g0 v F → Hp.le s sc → (∀ b, F b → sc b = w.heap[b]?) → A'.holds sc w g0 v FS.no
theorem Shr.frz (A : As) : Shr A A.frz := fun h hs hF => frz_holds h hs hF
theorem Shr.rows {ρ α : Type} {E : TypeId} {d : Inn ρ α} {k : Kd α} {xs : List α} (h : d.Reads k) : Shr (.deep (OSh.rows E d xs)) (.cel (Kd.slice k) xs) := fun {s w v F sc} hh hs hl => by
  obtain ⟨rs, F1, F2, h1, h2, _, h4⟩ := hh
  have hlen := Inn.all_len h2
  refine ⟨?_, fun b hb => hb⟩
  obtain ⟨⟨cells, how, hrd⟩, hz0, hF⟩ := h1
  have hrd' := Inn.Reads.all h hs hrd h2 (fun b hb => hl b ((h4 b).2 (.inr hb)))
  have h5 : (As.own E k xs).holds sc w g0 v F1 := ⟨⟨cells, by rw [← hlen, ← h.sz]; exact how, hrd'⟩, by rw [← h.sz]; exact hz0, hF⟩
  exact own_shared h5 (Hp.le_refl sc) (fun b hb => hl b ((h4 b).2 (.inl hb)))
theorem Shr.dagg {ρ α : Type} {d : Inn ρ α} {k : Kd α} {x : α} (h : d.Reads k) : Shr (.deep (OSh.dagg d x)) (.agg k x) := fun {s w v F sc} hh hs hl => by
  obtain ⟨cs, r, h1, h2, h3⟩ := hh
  exact ⟨⟨cs, h1, h.rd h2 h3 hs hl⟩, fun b hb => hb⟩
inductive Shrs : List As → List As → Prop
  | nil : Shrs [] []
  | cons {A A' : As} {l l' : List As} (h : Shr A A') (r : Shrs l l') : Shrs (A :: l) (A' :: l')
theorem Shrs.get {l l' : List As} (h : Shrs l l') : l.length = l'.length ∧ ∀ j, Shr (l.getD j .any) (l'.getD j .any) := by
  induction h with
  | nil => exact ⟨rfl, fun j {s w v F sc} _ _ _ => fun b hb => hb⟩
  | cons h r ih =>
    refine ⟨by simp [ih.1], fun j => ?_⟩
    cases j with
    | zero => exact h
    | succ j => exact ih.2 j
theorem AC.shr {P : Program} {f : FuncId} {ins out out' outs : List As} (h : AC P f ins out outs) (ho : Shrs out out') : AC P f ins out' outs := by
  classical
  refine ⟨?_, h.2⟩
  intro w s args F h1 hgl h2 h3 h4 h5
  obtain ⟨hlen, hget⟩ := ho.get
  refine (h.1 w s args F h1 hgl h2 h3 h4 h5).mono ?_
  rintro e w' ⟨v, s', F', Fr, he, hle, hnew, hfz, hk, hsh, hout, houts, hd1, hd2, hd3, hf1, hf2⟩
  let s2 : Hp := fun b => if ∃ j, Fr j b then w'.heap[b]? else s' b
  have hin : ∀ b, (∃ j, Fr j b) → s2 b = w'.heap[b]? := fun b hb => if_pos hb
  have hout2 : ∀ b, (¬ ∃ j, Fr j b) → s2 b = s' b := fun b hb => if_neg hb
  have hle2 : s'.le s2 := fun b o hb => by
    rw [hout2 b (fun ⟨j, hj⟩ => by rw [(hf1 j b hj).1] at hb; cases hb)]; exact hb
  refine ⟨v, s2, F', fun _ => FS.no, he, Hp.le_trans hle hle2, fun b o hb hb0 => ?_, fun b o hb => ?_, hk, by rw [← hlen]; exact hsh, fun j => ?_, fun i => As.holds_mono hle2 (houts i), fun i j b hb => hb.elim, hd2, fun i j b hb => hb.elim, fun i b hb => hb.elim, fun i b hb => ?_⟩
  · by_cases hx : ∃ j, Fr j b
    · obtain ⟨j, hj⟩ := hx; exact (hf1 j b hj).2
    · rw [hout2 b hx] at hb; exact hnew b o hb hb0
  · by_cases hx : ∃ j, Fr j b
    · rw [hin b hx] at hb; exact hb
    · rw [hout2 b hx] at hb; exact hfz b o hb
  · rw [← hlen]
    exact hget j (hout j) hle2 (fun b hb => hin b ⟨j, hb⟩)
  · refine ⟨?_, (hf2 i b hb).2⟩
    rw [hout2 b (fun ⟨j, hj⟩ => hd3 j i b hj hb)]
    exact (hf2 i b hb).1
/-! ### What doesn't hang on what is shared -/
structure Inn.Ind {ρ α : Type} (d : Inn ρ α) : Prop where
  rd : ∀ s s' cs x, d.k.rd s cs x → d.k.rd s' cs x
  ho : ∀ s s' w F r x, (d.ho r x).ho s w F → (d.ho r x).ho s' w F
theorem Inn.Ind.flat {α : Type} {k : Kd α} (hk : ∀ s s' cs x, k.rd s cs x → k.rd s' cs x) : (Inn.flat k).Ind := ⟨hk, fun _ _ _ _ _ _ h => h⟩
theorem Inn.Ind.row {α : Type} {E : TypeId} {k : Kd α} (hk : ∀ s s' cs x, k.rd s cs x → k.rd s' cs x) : (Inn.row E k).Ind := ⟨fun _ _ _ _ h => h, fun s s' w F r x h => by
  have : (As.own E k x).indep := indO hk
  exact this s s' w r F h⟩
theorem Inn.Ind.pair {ρ σ α β : Type} {d : Inn ρ α} {e : Inn σ β} (h : d.Ind) (h' : e.Ind) : (Inn.pair d e).Ind := ⟨fun s s' cs x hh => by
  obtain ⟨c, c', e1, h1, h2⟩ := hh
  exact ⟨c, c', e1, h.rd _ _ _ _ h1, h'.rd _ _ _ _ h2⟩, fun s s' w F r x hh => by
  obtain ⟨F1, F2, h1, h2, h3⟩ := hh
  exact ⟨F1, F2, h.ho _ _ _ _ _ _ h1, h'.ho _ _ _ _ _ _ h2, h3⟩⟩
theorem Inn.Ind.all {ρ α : Type} {d : Inn ρ α} (h : d.Ind) {s s' w} : ∀ {rs : List ρ} {xs : List α} {F}, (d.all rs xs).ho s w F → (d.all rs xs).ho s' w F
  | [], [], F, hh => hh
  | r :: rs, x :: xs, F, hh => by
    obtain ⟨F1, F2, h1, h2, h3⟩ := hh
    exact ⟨F1, F2, h.ho _ _ _ _ _ _ h1, Inn.Ind.all h h2, h3⟩
  | [], _ :: _, _, hh => hh.1.elim
  | _ :: _, [], _, hh => hh.1.elim
/-! ### A struct whose cells are known -/
def OSh.tie {ρ α : Type} (d : Inn ρ α) (r : ρ) (x : α) : OSh where
  hold s w v F := ∃ cs, v = .agg cs ∧ d.k.rd s cs.toList r ∧ (d.ho r x).ho s w F
  mono hst h := by obtain ⟨cs, h1, h2, h3⟩ := h; exact ⟨cs, h1, d.k.mono hst h2, GP.mono _ hst h3⟩
  frame h hw := by obtain ⟨cs, h1, h2, h3⟩ := h; exact ⟨cs, h1, h2, GP.frame _ h3 hw⟩
  lt h := by obtain ⟨cs, h1, h2, h3⟩ := h; exact GP.lt _ h3
  sur := true
  sure _ h := by obtain ⟨cs, h1, _⟩ := h; simp [undef] at h1
def Det {ρ : Type} (k : Kd ρ) : Prop := ∀ s t cs r r', k.rd s cs r → k.rd t cs r' → r = r'
theorem Det.int (k : IntKind) : Det (Kd.int k) := fun s t cs r r' h h' => by
  have := h.1.symm.trans h'.1; simpa using this
theorem Det.u64 : Det Kd.u64 := fun s t cs r r' h h' => by
  have h1 : cs = [.int .u64 (r.toNat : Int)] := h
  have h2 : cs = [.int .u64 (r'.toNat : Int)] := h'
  have := h1.symm.trans h2
  simp only [List.cons.injEq, Value.int.injEq, and_true, true_and] at this
  exact BitVec.eq_of_toNat_eq (by omega)
theorem Det.raw : Det Kd.raw := fun s t cs r r' h h' => by
  have := h.1.symm.trans h'.1; simpa using this
theorem Det.pair {α β : Type} {a : Kd α} {b : Kd β} (h : Det a) (h' : Det b) : Det (Kd.pair a b) := fun s t cs r r' h1 h2 => by
  obtain ⟨c, d, e, x1, x2⟩ := h1
  obtain ⟨c', d', e', y1, y2⟩ := h2
  have hl : c.length = c'.length := by rw [a.len x1, a.len y1]
  obtain ⟨rfl, rfl⟩ := List.append_inj (e.symm.trans e') hl
  exact Prod.ext (h _ _ _ _ _ x1 y1) (h' _ _ _ _ _ x2 y2)
theorem AC.tie {P : Program} {f : FuncId} {ρ α : Type} {d : Inn ρ α} {x y : α} {ins out outs : List As} (hd : Det d.k) (h : AC P f (.deep (OSh.dagg d x) :: ins) out (.deep (OSh.dagg d y) :: outs)) (r : ρ) : AC P f (.deep (OSh.tie d r x) :: ins) out (.deep (OSh.tie d r y) :: outs) := by
  refine ⟨fun w s args F h1 hgl h2 h3 h4 h5 => ?_, h.2⟩
  have h0 : ∃ cs, args.getD 0 undef = .agg cs ∧ d.k.rd s cs.toList r ∧ (d.ho r x).ho s w (F 0) := h3 0
  obtain ⟨cs, e0, e1, e2⟩ := h0
  refine (h.1 w s args F h1 hgl (by simpa using h2) (fun i => ?_) h4 h5).mono ?_
  · cases i with
    | zero => exact ⟨cs, r, e0, e1, e2⟩
    | succ i => exact h3 (i + 1)
  · rintro e w' ⟨v, s', F', Fr, g1, g2, g3, g4, g5, g6, g7, g8, g9⟩
    refine ⟨v, s', F', Fr, g1, g2, g3, g4, g5, g6, g7, fun i => ?_, g9⟩
    cases i with
    | zero =>
      obtain ⟨cs', r', q0, q1, q2⟩ := g8 0
      have ec : cs' = cs := by have := q0.symm.trans e0; simpa using this
      subst ec
      obtain rfl := hd _ _ _ _ _ e1 q1
      exact ⟨cs', e0, q1, q2⟩
    | succ i => exact g8 (i + 1)
theorem Bor.tie {ρ α : Type} {d : Inn ρ α} {k : Kd α} {r : ρ} {x : α} (h : d.Reads k) : Bor (.deep (OSh.tie d r x)) (.agg k x) :=
  Bor.deep fun {s w g v F sc} hh hs hl => by
    obtain ⟨cs, h1, h2, h3⟩ := hh
    exact ⟨⟨cs, h1, h.rd h2 h3 hs hl⟩, fun b hb => hb⟩
section
variable {C : Cx} {e : KL} {ρ α : Type} {d : Inn ρ α} {x : α} {r : ρ}
end
/-! ### What owns nothing yet -/
section
variable {C : Cx} {e : KL} {G : GP}
end
end Go.Proofs.YtmdiimhighlllaaGreatDoor.VL
/- Proved here: values of which a property alone is told. General: over every program. -/
set_option linter.unusedVariables false
set_option linter.unusedSimpArgs false
namespace Go.Proofs.YtmdiimhighlllaaGreatDoor.VL
open Go
/-- There is one that has the property, and this is what the slot holds. -/
def OSh.ex {ι : Type} (A : ι → As) (p : ι → Prop) : OSh where
  hold s w v F := ∃ x, p x ∧ (A x).holds s w g0 v F
  mono hst h := by obtain ⟨x, h1, h2⟩ := h; exact ⟨x, h1, As.holds_mono hst h2⟩
  frame h hw := by obtain ⟨x, h1, h2⟩ := h; exact ⟨x, h1, As.holds_frame h2 hw⟩
  lt h := by obtain ⟨x, _, h2⟩ := h; exact As.holds_lt h2
  sur := false
  sure h := by cases h
section
variable {C : Cx} {e : KL} {ι : Type} {A : ι → As} {p : ι → Prop}
theorem vex (t g : Nat) (h1 : keep e t = .deep (OSh.ex A p)) (h2 : keep e g = .any) (hne : t ≠ g) (hf : ∀ x, (A x).free = true) : Vw C (keep e) fun x : {x // p x} => keep ((g, .any) :: (t, A x.1) :: e) :=
  Vw.two t g hne fun {s w gg v u F1 F2} a1 a2 hd => by
    rw [h1] at a1; rw [h2] at a2
    obtain ⟨x, hx, ha⟩ := a1
    exact ⟨⟨x, hx⟩, F1, F2, As.holds_free ha (hf x), a2, hd, fun b hb => hb⟩
theorem vclo (x : ι) (hx : p x) (t g : Nat) (h1 : keep e t = A x) (h2 : keep e g = .any) (hne : t ≠ g) (hf : (A x).free = true) : Vw C (keep e) fun _ : Unit => keep ((g, .any) :: (t, .deep (OSh.ex A p)) :: e) :=
  Vw.two t g hne fun {s w gg v u F1 F2} a1 a2 hd => by
    rw [h1] at a1; rw [h2] at a2
    exact ⟨(), F1, F2, ⟨x, hx, As.holds_free a1 hf⟩, a2, hd, fun b hb => hb⟩
end
theorem Ke {env : Env} {t : Nat} {ι : Type} {A : ι → As} {p q : ι → Prop} (h : env t = .deep (OSh.ex A p)) (hp : p = q) : env t = .deep (OSh.ex A q) := hp ▸ h
/-! ### Rows of rows stay as they are from here on -/
section
variable {C : Cx} {env : Env} {Q : Exit → Act → World → Prop} {c : Code} {ops : Array Oper} {l : List Oper} {ρ α : Type} {d : Inn ρ α} {k : Kd α} {E : TypeId} {xs : List α} {t : Nat}
end
/-! ### In a region whose order is open: a call that changes what is owned -/
def rootOut : List Mode → List As → As
  | .root _ :: _, O :: _ => O
  | _ :: ms, _ :: outs => rootOut ms outs
  | _, _ => .any
theorem updRoots_O {env : Env} {t : Nat} : ∀ {ms : List Mode} {outs : List As}, rootsOf ms = [t] → ms.length = outs.length → updRoots env ms outs = updK env t (rootOut ms outs)
  | [], _, h, _ => by simp [rootsOf] at h
  | _ :: _, [], _, h => by simp at h
  | .root u :: ms, O :: outs, h, h2 => by
    have hr : rootsOf (.root u :: ms) = u :: rootsOf ms := rfl
    rw [hr, List.cons.injEq] at h
    obtain ⟨rfl, h⟩ := h
    show updK (updRoots env ms outs) u O = _
    rw [updRoots_none (outs := outs) h]; rfl
  | .flat :: ms, O :: outs, h, h2 => updRoots_O (ms := ms) (outs := outs) h (by simpa using h2)
  | .bor u :: ms, O :: outs, h, h2 => updRoots_O (ms := ms) (outs := outs) h (by simpa using h2)
section
variable {C : Cx} {env : Env} {e : KL} {o : Oper} {d t : Nat} {A O : As} {ops : Array Oper}
theorem crdo {f : FuncId} {ins outs : List As} {xs : List Operand} {ms : List Mode} {ts : Array TypeId} (hc : AC C.P f ins [A] outs) (hH : Hd C o (.call { callee := .value (.func f), args := xs.toArray, argTypes := ts }) d)
    (ha : Args C env xs ins outs ms) (ho : rootOut ms outs = O) (hz : (rootsOf ms, msOK ms, borsOf ms, A.free, ms.length == outs.length) = ([t], true, [], true, true)) : OpT C o env (updRes (updK env t O) d [A]) := by
  simp only [Prod.mk.injEq] at hz
  obtain ⟨h2, h3, h4, h5, h6⟩ := hz
  have := OpT.cr hc hH ha h3 (.inl h4) (by simp [h5])
  rwa [updRoots_O h2 (by simpa using h6), ho] at this
theorem dwo {K : KL → List DJ → Prop} {l : List Oper} (nds : List Nat) (h : ∀ env', (∀ t ∈ nds, env' t = keep e t) → OpT C o env' (updRes (updK env' t O) d [A])) (hn : (o.guard.isNone && nd d ((t, O) :: e)) = true)
    (r : DH C ops ((d, A) :: (t, O) :: e) l (fun e' I => K e' (⟨[.mod t O, .res d [A]], nds⟩ :: I))) : DH C ops e (o :: l) K := by
  rw [Bool.and_eq_true] at hn
  have key : ∀ env : Env, DJ.upd ⟨[.mod t O, .res d [A]], nds⟩ env = updRes (updK env t O) d [A] := fun env => rfl
  exact DH.step (.inr ⟨.inl (by simpa using hn.1), fun env' he => by rw [key]; exact h env' he⟩) (by rw [key, updK_keep, updRes_one, upd_nd hn.2]) r
end
end Go.Proofs.YtmdiimhighlllaaGreatDoor.VL
/- Proved here: what a law is handed reads as data, and a law's row follows from its contract. With the words of VA..VN. General: over every program. -/
set_option linter.unusedVariables false
set_option linter.unusedSimpArgs false
namespace Go.Proofs.YtmdiimhighlllaaGreatDoor.VL
open Go Go.ChangeShapes Go.RowKit

/-- The memory of a world. -/
def hpOf (w : World) : Hp := fun b => w.heap[b]?
theorem fz_hpOf (w : World) : Fz (hpOf w) w := fun _ _ h => h
theorem look_hpOf {w : World} {a : Addr} {v : Value} (h : w.cell? a = some v) : (hpOf w).look a = some v := by
  unfold World.cell? at h
  unfold Hp.look hpOf
  exact h

abbrev Light {H : Type} (P : Program) (T : TypeId) (d : DataW H) : Prop := (d.weights P T).all (· ≤ reachBytes) = true
/-- What reads as the type reads as the kind; and it is no larger than told. -/
def KT {α : Type} (P : Program) (T : TypeId) (k : Kd α) (sm : α → Prop) : Prop :=
  P.cellsOf T = k.sz ∧ ∀ {H : Type} {enc : TypeId × Value → H} {w : World} {sp : Nat → Bool} {fuel : Nat} {cs : List Value} {x : DataW H × List MemPlace},
    DataW.trod enc P w 0 sp true fuel T cs = some x → Light P T x.1 → ∃ z, k.rd (hpOf w) cs z ∧ sm z

section
variable {P : Program} {T E : TypeId} {α β : Type}
theorem KT.int {kk : IntKind} (h : P.underlying T = some (.int kk)) (hz : P.cellsOf T = 1) : KT P T (Kd.int kk) (fun _ => True) := by
  refine ⟨hz, fun {H enc w sp fuel cs x} ht hl => ?_⟩
  obtain ⟨n, rfl, rfl, hw⟩ := DataW.trod_int h ht
  refine ⟨n, ⟨rfl, ?_⟩, trivial⟩
  simpa [Lit.wf, inR] using hw
theorem KT.bool (h : P.underlying T = some .bool) (hz : P.cellsOf T = 1) : KT P T Kd.bool (fun _ => True) := by
  refine ⟨hz, fun {H enc w sp fuel cs x} ht hl => ?_⟩
  obtain ⟨b, rfl, rfl⟩ := DataW.trod_bool h ht
  exact ⟨b, rfl, trivial⟩
theorem mapM_cells {w : World} {a : Addr} {n : Nat} {cs : List Value} (h : w.cells? 0 a n = some cs) : cs.length = n ∧ ∀ j u, cs[j]? = some u → (hpOf w).look (a.add j) = some u := by
  unfold World.cells? at h
  rw [if_pos (Nat.zero_le _)] at h
  have hl := mapM_some_length h
  refine ⟨by simpa using hl, fun j u hu => look_hpOf ?_⟩
  have hj : j < n := by
    have := (List.getElem?_eq_some_iff.1 hu).1
    rw [hl] at this; simpa using this
  have := mapM_some_get h j j (by simp [hj])
  rw [this]; exact hu

theorem weightsAll_mem {H : Type} {P : Program} {e : TypeId} : ∀ {ds : List (DataW H)}, (DataW.weightsAll P e ds).all (· ≤ reachBytes) = true → ∀ d ∈ ds, Light P e d
  | [], _, d, hd => by cases hd
  | d' :: r, h, d, hd => by
    rw [DataW.weightsAll, List.all_append, Bool.and_eq_true] at h
    rcases List.mem_cons.1 hd with rfl | hd
    · exact h.1
    · exact weightsAll_mem h.2 d hd

theorem KT.slice {k : Kd α} {sm : α → Prop} {B : Nat} (h : P.underlying T = some (.slice E)) (hz : P.cellsOf T = 1) (he : KT P E k sm) (hB : P.bytesOf E = B) : KT P T (Kd.slice k) (fun xs => (∀ z ∈ xs, sm z) ∧ xs.length * B ≤ 140737488351232) := by
  refine ⟨hz, fun {H enc w sp fuel cs x} ht hl => ?_⟩
  rcases DataW.trod_slice h ht with ⟨rfl, rfl⟩ | ⟨a, len, cap, elems, rest, n, rfl, rfl, rfl, h1, h2, h3, h4, h5, h6, h7⟩
  · exact ⟨[], ⟨none, 0, rfl, Nat.le_refl _, Nat.zero_le _, fun h => absurd h (Nat.lt_irrefl 0)⟩, (fun z hz => by cases hz), by rw [List.length_nil, Nat.zero_mul]; exact Nat.zero_le _⟩
  · simp only [Light, DataW.weights, h, List.all_cons, List.all_append, Bool.and_eq_true, decide_eq_true_eq] at hl
    obtain ⟨hl1, hl2, hl3⟩ := hl
    have hel := weightsAll_mem hl2
    -- the elements, one by one
    have key : ∀ m, m ≤ len → ∃ xs cells, xs.length = m ∧ RdL k (hpOf w) cells xs ∧ (∀ z ∈ xs, sm z) ∧ ∀ j u, cells[j]? = some u → (hpOf w).look (a.add j) = some u := by
      intro m
      induction m with
      | zero => intro _; exact ⟨[], [], rfl, rfl, (fun z hz => by cases hz), fun j u hu => by cases hu⟩
      | succ m ih =>
        intro hm
        obtain ⟨xs, cells, e1, e2, e3, e4⟩ := ih (by omega)
        have hm5 := h5 m (by omega)
        have hlt : m < elems.length := by omega
        rw [List.getElem?_eq_getElem hlt] at hm5
        obtain ⟨c, hc1, hc2⟩ := Option.bind_eq_some_iff.1 hm5
        obtain ⟨hc3, hc4⟩ := mapM_cells hc1
        obtain ⟨z, hz1, hz2⟩ := he.2 hc2 (hel _ (List.mem_map_of_mem (List.getElem_mem hlt)))
        refine ⟨xs ++ [z], cells ++ c, by simp [e1], e2.app (RdL.single hz1), ?_, ?_⟩
        · intro y hy
          rcases List.mem_append.1 hy with hy | hy
          · exact e3 y hy
          · rw [List.mem_singleton] at hy; subst hy; exact hz2
        · intro j u hu
          have hlen := e2.len
          rw [e1] at hlen
          rw [List.getElem?_append] at hu
          split at hu
          · exact e4 j u hu
          · have := hc4 (j - cells.length) u hu
            rw [add_add, he.1, hlen] at this
            rw [← this]; congr 2; omega
    obtain ⟨xs, cells, e1, e2, e3, e4⟩ := key len (Nat.le_refl _)
    refine ⟨xs, ⟨some a, cap, by rw [e1], by omega, by simp only [maxLen] at h3; omega, fun h0 => ⟨a, cells, rfl, e2, e4⟩⟩, e3, ?_⟩
    rw [hB] at hl1
    simp only [reachBytes, List.length_map] at hl1
    have : xs.length * B ≤ (elems.length + rest.length) * B := Nat.mul_le_mul_right _ (by omega)
    omega

/-! ### A law's arguments -/
theorem okWide_one {w : World} {r : Reach} {base : Nat} {v : Value} (hT : aggT P T = some false) (h : Value.okWide P w r base T v) : v.cells.toList = [v] := by
  unfold aggT at hT
  unfold Value.okWide at h
  split at hT
  · cases hT
  · cases hT
  · rename_i u h1 h2 hu
    rw [hu] at h
    have h' : Cell.okWide P w r base T v := by
      cases u <;> first | exact h | exact (h1 _ rfl).elim | exact (h2 _ _ rfl).elim
    cases v with
    | agg cs => exfalso; cases u <;> simp_all [Cell.okWide, Cell.ok]
    | _ => rfl
  · cases hT
theorem KT.arg {H : Type} {enc : TypeId × Value → H} {w : World} {r : Reach} {base : Nat} {sp : Nat → Bool} {v : Value} {d : DataW H} {ps : List MemPlace} {k : Kd α} {sm : α → Prop} (h : KT P T k sm) (hT : aggT P T = some false)
    (hok : Value.okWide P w r base T v) (ht : DataW.Trod enc P w 0 sp true T v d ps) (hl : Light P T d) : ∃ x, (As.cel k x).holds (hpOf w) w g0 v FS.no ∧ sm x := by
  obtain ⟨fuel, ht⟩ := ht
  rw [okWide_one hT hok] at ht
  obtain ⟨x, h1, h2⟩ := h.2 ht hl
  exact ⟨x, ⟨h1, fun b hb => hb⟩, h2⟩
theorem trodAll_frame {H : Type} {enc : TypeId × Value → H} (hl : laidOutB P = true) {W W' : World} (hb : Below W.heap.size W W') : ∀ {ts : List TypeId} {vs : List Value} {ds : List (DataW H)} {ps : List MemPlace},
    (ts.all fun t => P.readableRec t && decide (t < P.types.size)) = true → DataW.TrodAll enc P W 0 (fun _ => true) true ts vs ds ps → (∀ x ∈ ps, x.block < W.heap.size) →
    DataW.TrodAll enc P W' 0 (fun b => decide (b < W.heap.size)) true ts vs ds ps
  | [], vs, ds, ps, hr, h, hlt => by
    obtain ⟨rfl, rfl, rfl⟩ := trodAll_nil h
    rfl
  | t :: ts, vs, ds, ps, hr, h, hlt => by
    obtain ⟨v, vs, d, ds, p, q, rfl, rfl, rfl, h1, h2⟩ := trodAll_cons h
    simp only [List.all_cons, Bool.and_eq_true, decide_eq_true_eq] at hr
    exact ⟨p, q, Below.trod hl hr.1.1 hr.1.2 h1 hb (fun x hx => hlt x (List.mem_append_left _ hx)), trodAll_frame hl hb hr.2 h2 (fun x hx => hlt x (List.mem_append_right _ hx)), rfl⟩
theorem Keep.below {w w' : World} (h : Keep w (fun b => ∃ i : Nat, FS.no b) w') : Below w.heap.size w w' :=
  ⟨h.os, h.tape, h.output, h.size, fun k hk => h.block k hk (fun ⟨_, e⟩ => e)⟩
/-- A law's row follows from its contract. -/
theorem law_calls {H : Type} {enc : TypeId × Value → H} {f : FuncId} {fn : Func} {s : ChangeSpec} {W : World} {args : Array Value} {ds gs : List (DataW H)} {before : List MemPlace} {ins : List As} {tb : TypeId}
    (hlay : laidOutB P = true) (hr : (fn.params.toList.all fun t => P.readableRec t && decide (t < P.types.size)) = true) (hv : s.vars = []) (hres : fn.resultTypes = #[tb]) (hb : P.underlying tb = some .bool)
    (hfn : (s.fn H ds).results = [.lit (.bool true)] ∧ (s.fn H ds).args = ds ∧ (s.fn H ds).vars = [])
    (hW : DataW.Whole enc P fn.params.toList s.vars false W args.toList ds gs before) (hc : ACall P f ins [.cel Kd.bool true] []) (hG : Glb P (hpOf W))
    (hsz : args.size = ins.length) (hh : ∀ i, (ins.getD i .any).holds (hpOf W) W g0 (args.getD i undef) FS.no) :
    Calls P f args W fun e W' => ∃ v, e = .returned v ∧ s.post enc P fn false true false false W args v W' := by
  refine (hc W (hpOf W) args (fun _ => FS.no) (fz_hpOf W) hG hsz hh (fun i j b hb => hb.elim) (fun i b hb => hb.elim)).mono fun e W' ⟨v, s', F', Fr, he, _, _, _, hk, _, hr', _⟩ => ?_
  have hbel : Below W.heap.size W W' := hk.below
  have h0 := hr' 0
  simp only [List.getD_cons_zero, As.holds, resV, List.length_cons, List.length_nil, Nat.zero_add, if_true] at h0
  have hvb : v = .bool true := by
    have := h0.1
    simpa [Kd.bool] using this
  have hlt := hW.lt
  have hW0 := hW
  obtain ⟨p, q, hA, hV, rfl, hfz, hnd⟩ := hW
  rw [hv] at hV
  obtain ⟨rfl, rfl⟩ := trodVars_none hV
  refine ⟨v, he, ds, [], _, [], p, [], hW0, ?_, ?_, ?_, hbel.frame _, fun h => by cases h⟩
  · rw [List.append_nil, hfn.1, hres, hvb]
    exact trodAll_mk1 (shut_bool hb _)
  · rw [List.append_nil, hfn.2.1]
    exact trodAll_frame hlay hbel hr hA (fun x hx => hlt x (List.mem_append_left _ hx))
  · rw [List.append_nil, hfn.2.2, hv]
    rfl
end
/-- A row's closed facts, in parts: the kernel weighs each by itself. -/
theorem joinedFacts_of {P : Program} {f : FuncId} {fn : Func} {s : ChangeSpec} {c : OpenClaim}
    (h1 : (c.wf (OpenSpec.ofChange s) && laidOutB P && mapsRowed P && fn.params.all (P.readableRec ·) && namedTie P c.named s.vars && (c.stops == []) && (P.stops == []) && (c.knobs == []) && (P.stopKnobs == [])) = true)
    (h2 : (c.inPlace == P.inPlace f) = true) (h3 : (c.unfollowed == P.unfollowed f) = true) (h4 : (c.recurses == P.recurses f) = true) (h5 : (c.named == P.varsNamed f) = true)
    (h6 : ((c.maps == (fn.params.toList ++ s.plain.varTypes P).any (P.mapsRec ·)) && (c.ifaces == (fn.params.toList ++ s.plain.varTypes P).any (P.ifacesRec ·)) && (c.mapsOut == P.mapsAmong fn.resultTypes.toList) &&
      (c.loops == (fn.params.toList ++ s.plain.varTypes P).any (P.loopsFrom ·)) && (c.wideKeys == (fn.params.toList ++ s.plain.varTypes P ++ fn.resultTypes.toList).any (P.wideKeysFrom ·)) &&
      s.vars.all (P.varReadable ·) && fn.resultTypes.all (fun t => P.readableRec t && decide (t < P.types.size)) && (c.ifacesOut == fn.resultTypes.toList.any (P.ifacesRec ·)) && (c.loopsOut == fn.resultTypes.toList.any (P.loopsFrom ·)) && (c.plainKeys == P.plainKeys) && c.shortTexts.isNone && P.stopsHeard) = true)
    (h7 : P.mayEnter = true) (h8 : (c.lifted == P.liftsFinal) = true) (h9 : (P.make == some c.make) = true)
    (h10 : ((c.kinds == (if c.domain.isEmpty then [] else fn.params.toList.map fun t => match P.underlying t with | some (.int k) => some k | _ => none)) && (c.pinned == c.pinnedBy) &&
      (c.veiled == (fn.params.toList ++ s.plain.varTypes P ++ fn.resultTypes.toList).any (P.veiledRec ·)) && c.veiledFits P fn.params.toList (fn.params.toList ++ s.plain.varTypes P ++ fn.resultTypes.toList)) = true) :
    joinedFacts P f fn s c = true := by
  simp only [Bool.and_eq_true] at h1 h6 h10
  simp only [joinedFacts, Bool.and_eq_true]
  obtain ⟨⟨⟨⟨⟨⟨⟨⟨a1, a2⟩, a3⟩, a4⟩, a5⟩, a6⟩, a7⟩, a8⟩, a9⟩ := h1
  obtain ⟨⟨⟨⟨⟨⟨⟨⟨⟨⟨⟨b1, b2⟩, b3⟩, b4⟩, b5⟩, b6⟩, b7⟩, b8⟩, b9⟩, b10⟩, b11⟩, b12⟩ := h6
  obtain ⟨⟨⟨c1, c2⟩, c3⟩, c4⟩ := h10
  exact ⟨⟨⟨⟨⟨⟨⟨⟨⟨⟨⟨⟨⟨⟨⟨⟨⟨⟨⟨⟨⟨⟨⟨⟨⟨⟨⟨⟨⟨⟨⟨a1, a2⟩, a3⟩, a4⟩, a5⟩, a6⟩, a7⟩, a8⟩, a9⟩, h2⟩, h3⟩, h4⟩, h5⟩, b1⟩, b2⟩, b3⟩, b4⟩, b5⟩, b6⟩, b7⟩, b8⟩, b9⟩, b10⟩, b11⟩, b12⟩, h7⟩, h8⟩, h9⟩, c1⟩, c2⟩, c3⟩, c4⟩
end Go.Proofs.YtmdiimhighlllaaGreatDoor.VL
