/- Proved here: rules for memory that a call owns: variables and rows, read, stored into, appended to. With the words of VA. General: over every program. -/
import Derived.Test.YtfnkphllkbkfaaaDoorVE
set_option linter.unusedVariables false
set_option linter.unusedSimpArgs false
namespace Go.Proofs.YtfnkphllkbkfaaaDoor.VL
open Go

section
variable {C : Cx} {env env' : Env} {Q : Exit → Act → World → Prop} {o : Oper} {p q : Operand} {d t : Nat} {T T' S E : TypeId} {α β γ : Type} {k : Kd α} {k' : Kd β}

/-- The operand is the value of slot t. -/
def Root (C : Cx) (env : Env) (p : Operand) (t : Nat) : Prop := t < 10000 ∧ ∀ s F a w, Rel C.N C.w0 C.hd C.pn C.s0 env s F a w → a.eval p = gv a.tmps t
theorem Root.self (h : t < 10000) : Root C env (.tmp t) t := ⟨h, fun s F a w hr => by rw [gv_lo h]; rfl⟩
theorem Root.ali {u : Nat} (h : env u = .ali t) (hu : u < 10000) (ht : t < 10000) : Root C env (.tmp u) t := ⟨ht, fun s F a w hr => (Opd.tmp (C := C) h hu rfl s F a w hr).1.1⟩

theorem keep_alloc (w : World) (ob : Obj) : Keep w FS.no (w.alloc ob) := ⟨rfl, rfl, rfl, by simp, fun b hb _ => Go.RowKit.Below.heap_alloc w ob b hb⟩
theorem fz_alloc {s : Hp} {w : World} (h : Fz s w) (ob : Obj) : Fz s (w.alloc ob) := fun b o hb => by
  rw [Go.RowKit.Below.heap_alloc w ob b (h.lt hb)]; exact h b o hb

/-! ### Variables -/
theorem OpT.box_of {ob : Oper} {cs : Array Value} {x : α} (hd : o.dst = some d) (hdN : C.ok d)
    (h : ∀ s F a w, Rel C.N C.w0 C.hd C.pn C.s0 env s F a w → ∃ cs : Array Value, (execOp a.eval o).run C.P w = .ok (.value (.pointer (some ⟨w.heap.size, 0, none⟩))) (w.alloc (.cells cs E)) ∧ k.rd s cs.toList x) : OpT C o env (upd env d (.box E k x)) := by
  intro Q K a w hr hK
  obtain ⟨s, F, hr'⟩ := hr
  obtain ⟨cs, h1, h2⟩ := h s F a w hr'
  unfold Oper.wp
  rw [h1, Oper.upon_value, hd]
  refine hK _ _ (hr'.put (Fd := fun b => b = w.heap.size) hdN.1 (Nat.lt_of_lt_of_le hdN.1 C.hN) hdN.2 ⟨w.heap.size, cs, rfl, heap_alloc_new w _, h2, fun b' => Iff.rfl⟩ (Hp.le_refl s) (fun b o h1 h2 => by rw [h1] at h2; cases h2) (fz_alloc hr'.fz _) (keep_alloc w _) ?_)
  intro b hb
  refine ⟨by omega, ?_⟩
  cases hs : s b with
  | none => rfl
  | some o' => have := hr'.fz.lt hs; omega
theorem OpT.boxA {x : α} (hH : Hd C o (.box E p) d) (hp : Opd C env p (.agg k x)) : OpT C o env (upd env d (.box E k x)) :=
  OpT.box_of (ob := o) (cs := #[]) hH.2.1 hH.2.2 fun s F a w hr => by
    obtain ⟨cs, e, h1⟩ := hp.geta hr
    exact ⟨cs, by simp only [execOp, hH.1, e]; rfl, h1⟩
theorem OpT.box {x : α} (hH : Hd C o (.box E p) d) (hp : Opd C env p (.cel k x)) : OpT C o env (upd env d (.box E k x)) :=
  OpT.box_of (ob := o) (cs := #[]) hH.2.1 hH.2.2 fun s F a w hr => by
    have h1 := hp.gets1 hr
    have h2 := cl_cel h1
    refine ⟨(a.eval p).cells, by simp only [execOp, hH.1]; rfl, ?_⟩
    rw [show (a.eval p).cells.toList = [a.eval p] from h2]
    exact h1
theorem OpT.alloc {z : Value} {x : α} (hH : Hd C o (.alloc E) d) (hz : zeroT C.P E = some z) (hx : ∀ s, k.rd s (Value.cl z) x) : OpT C o env (upd env d (.box E k x)) :=
  OpT.box_of (ob := o) (cs := #[]) hH.2.1 hH.2.2 fun s F a w hr => by
    refine ⟨z.cells, ?_, hx s⟩
    unfold zeroT at hz
    obtain ⟨i, hi, hzz⟩ := Option.bind_eq_some_iff.1 hz
    simp [execOp, hH.1, Instr.alloc, zeroValue, typeInfo, hi, hzz, newVar, newRow]
theorem OpT.fieldAddrB {x : α} {i off n : Nat} {f : α → β} {g : α → β → α} (hH : Hd C o (.fieldAddr S p i) d) (hp : Root C env p t) (hb : env t = .box E k x) (hne : t ≠ d)
    (hf : fldT C.P S i = some (T, off)) (hn : sizeT C.P T = some n) (h0 : n ≠ 0) (hs : Sub k off k' f g) : OpT C o env (upd env d (.pel t 0 k off k' f g)) :=
  OpT.pure hH.2.1 hH.2.2 fun s F a w hr => by
    have h1 := hr.slot t
    rw [hb] at h1
    obtain ⟨b, cs, e, _⟩ := h1
    refine ⟨.pointer (some ((⟨b, 0, none⟩ : Addr).add off)), ?_, ⟨?_, hp.1, hs⟩, fun b hb => hb⟩
    · have := run_fieldAt (P := C.P) (w := w) (ad := ⟨b, 0, none⟩) hf hn h0
      simp only [execOp, hH.1, hp.2 s F a w hr, e]
      simp [this]
    · rw [gv_put_ne _ (by simp [ofSlot, Nat.mod_eq_of_lt hp.1, hne]), e]
      simp [ptrIn]
/-- A slot that holds memory of the call's own. -/
def Has (env : Env) (t : Nat) {α : Type} (k : Kd α) (i : Nat) (x : α) : Prop := (∃ E, env t = .box E k x ∧ i = 0) ∨ (∃ E xs, env t = .own E k xs ∧ xs[i]? = some x)
/-- Where it lies. -/
theorem Has.get {i : Nat} {x : α} (h : Has env t k i x) {s F a w} (hr : Rel C.N C.w0 C.hd C.pn C.s0 env s F a w) :
    ∃ (g : Nat) (E : TypeId) (cur : Array Value) (L : List Value), (∀ o, ptrIn (gv a.tmps t) o = .pointer (some ((⟨g, 0, none⟩ : Addr).add o))) ∧ w.heap[g]? = some (.cells cur E (0, 0)) ∧ (∀ (j : Nat) (u : Value), L[j]? = some u → cur[j]? = some u) ∧ k.rd s ((L.drop (i * k.sz)).take k.sz) x := by
  have h1 := hr.slot t
  rcases h with ⟨E, h, rfl⟩ | ⟨E, xs, h, hx⟩
  · rw [h] at h1
    obtain ⟨b, cs, e, h2, h3, _⟩ := h1
    refine ⟨b, E, cs, cs.toList, fun o => by rw [e]; rfl, h2, fun j u hu => by simpa using hu, ?_⟩
    rw [Nat.zero_mul, List.drop_zero, ← k.len h3, List.take_length]
    exact h3
  · rw [h] at h1
    obtain ⟨⟨cells, h2, h3⟩, hz, _⟩ := h1
    have hi : i < xs.length := (List.getElem?_eq_some_iff.1 hx).1
    have hxe := (List.getElem?_eq_some_iff.1 hx).2
    rcases h2.2 with ⟨_, hn⟩ | ⟨g, cap, cur, hv, _, hg, _, _, _, htake⟩
    · omega
    · refine ⟨g, E, cur, cells, fun o => by rw [hv]; rfl, hg, fun j u hu => ?_, by rw [← hxe]; exact h3.get i hi⟩
      rw [← htake, List.getElem?_take] at hu
      split at hu
      · simpa using hu
      · cases hu
theorem own_cell {w : World} {g : Nat} {cur : Array Value} {E : TypeId} (hg : w.heap[g]? = some (.cells cur E (0, 0))) {j : Nat} {u : Value} (h : cur[j]? = some u) : w.cell? ((⟨g, 0, none⟩ : Addr).add j) = some u := by
  rw [Addr.add_lit, Nat.zero_add]
  unfold World.cell?
  simp [hg, h]
theorem OpT.loadP {i off : Nat} {x : α} {f : α → β} {g : α → β → α} (hH : Hd C o (.load T p) d) (hp : Opd C env p (.pel t i k off k' f g)) (hh : Has env t k i x) (hT : aggT C.P T = some false) (hz : k'.sz = 1) : OpT C o env (upd env d (.cel k' (f x))) :=
  OpT.pure hH.2.1 hH.2.2 fun s F a w hr => by
    obtain ⟨⟨e, ht, hs⟩, _⟩ := hp s F a w hr
    obtain ⟨b, E, cur, L, h1, h2, h3, h4⟩ := Has.get hh hr
    obtain ⟨v, h5, h6⟩ := sub_cell hs hz h4
    rw [h1] at e
    have h7 : w.cell? ((⟨b, 0, none⟩ : Addr).add (i * k.sz + off)) = some v := by
      refine own_cell h2 (h3 _ _ ?_)
      rw [List.getElem?_take] at h5
      split at h5
      · rwa [List.getElem?_drop] at h5
      · cases h5
    exact ⟨v, by simp only [execOp, hH.1, e]; simp [Instr.loadAt, Instr.sureAddr, run_loadVar_cel hT h7], ⟨h6, fun b hb => hb⟩⟩
theorem own_part {w : World} {g : Nat} {cur : Array Value} {E : TypeId} (hg : w.heap[g]? = some (.cells cur E (0, 0))) {L : List Value} (hL : ∀ (j : Nat) (u : Value), L[j]? = some u → cur[j]? = some u) (o1 n1 o2 n2 : Nat) :
    ∀ (j : Nat) (u : Value), ((((L.drop o1).take n1).drop o2).take n2)[j]? = some u → w.cell? (((⟨g, 0, none⟩ : Addr).add (o1 + o2)).add j) = some u := by
  intro j u hu
  rw [add_add]
  refine own_cell hg (hL _ _ ?_)
  rw [List.getElem?_take] at hu
  split at hu
  · rw [List.getElem?_drop, List.getElem?_take] at hu
    split at hu
    · rw [List.getElem?_drop] at hu
      rw [show o1 + o2 + j = o1 + (o2 + j) by omega]
      exact hu
    · cases hu
  · cases hu
theorem OpT.loadPA {i off : Nat} {x : α} {f : α → β} {g : α → β → α} (hH : Hd C o (.load T p) d) (hp : Opd C env p (.pel t i k off k' f g)) (hh : Has env t k i x) (hT : aggT C.P T = some true) (hz : sizeT C.P T = some k'.sz) : OpT C o env (upd env d (.agg k' (f x))) :=
  OpT.pure hH.2.1 hH.2.2 fun s F a w hr => by
    obtain ⟨⟨e, ht, hs⟩, _⟩ := hp s F a w hr
    obtain ⟨b, E, cur, L, h1, h2, h3, h4⟩ := Has.get hh hr
    rw [h1] at e
    have h5 := hs.rd h4
    have h6 := own_part h2 h3 (i * k.sz) k.sz off k'.sz
    have h7 := run_loadVar_agg hT (by rw [hz, k'.len h5]) h6
    refine ⟨.agg ((((L.drop (i * k.sz)).take k.sz).drop off).take k'.sz).toArray, ?_, ⟨⟨_, rfl, by simpa using h5⟩, fun b hb => hb⟩⟩
    simp only [execOp, hH.1, e, Instr.loadAt, Instr.sureAddr, Sem.run_bind, Sem.run_pure, Result.andThen_ok]
    rw [h7]
    rfl
/-- A whole variable. -/
theorem OpT.loadB {x : α} (hH : Hd C o (.load T p) d) (hp : Root C env p t) (hb : env t = .box E k x) (hT : aggT C.P T = some true) (hz : sizeT C.P T = some k.sz) : OpT C o env (upd env d (.agg k x)) :=
  OpT.pure hH.2.1 hH.2.2 fun s F a w hr => by
    have h1 := hr.slot t
    rw [hb] at h1
    obtain ⟨b, cs, e, h2, h3, _⟩ := h1
    have h6 : ∀ j u, cs.toList[j]? = some u → w.cell? ((⟨b, 0, none⟩ : Addr).add j) = some u := fun j u hu => own_cell h2 (by simpa using hu)
    exact ⟨_, by simp only [execOp, hH.1, hp.2 s F a w hr, e]; simp only [Instr.loadAt, Instr.sureAddr, Sem.run_bind, Sem.run_pure, Result.andThen_ok]; rw [run_loadVar_agg hT (by rw [hz, k.len h3]) h6]; rfl, ⟨⟨_, rfl, by simpa using h3⟩, fun b hb => hb⟩⟩
end
end Go.Proofs.YtfnkphllkbkfaaaDoor.VL
