/- Proved here: rules for reading memory, for structs and arrays, with the words of VA. General: over every program. -/
import Derived.Test.YtfnkphllkbkfaaaDoorVC
import Derived.Laws.Cells
import Derived.Laws.Entries
set_option linter.unusedVariables false
set_option linter.unusedSimpArgs false
namespace Go.Proofs.YtfnkphllkbkfaaaDoor.VL
open Go

/-! ### What the program's table of types says -/
def aggT (P : Program) (T : TypeId) : Option Bool := match P.underlying T with
  | some (.struct _) => some true
  | some (.array _ _) => some true
  | some _ => some false
  | none => none
def sizeT (P : Program) (T : TypeId) : Option Nat := (P.info? T).map (·.size)
def zeroT (P : Program) (T : TypeId) : Option Value := (P.info? T).bind (·.zero)
def bytesT (P : Program) (T : TypeId) : Option Nat := (P.info? T).map (·.bytes)
def fldT (P : Program) (S : TypeId) (i : Nat) : Option (TypeId × Nat) := match P.underlying S with
  | some (.struct fs) => (fs[i]?).map fun f => (f.type, f.offset)
  | _ => none
def elT (P : Program) (T : TypeId) : Option TypeId := match P.underlying T with
  | some (.slice e) => some e
  | _ => none
def arT (P : Program) (T : TypeId) : Option (Nat × TypeId) := match P.underlying T with
  | some (.array n e) => some (n, e)
  | _ => none

section
variable {P : Program} {w : World} {T S E : TypeId}
theorem run_isAgg {b : Bool} (h : aggT P T = some b) : (isAgg T).run P w = .ok b w := by
  unfold aggT at h
  cases hu : P.underlying T with
  | none => rw [hu] at h; cases h
  | some u =>
    rw [hu] at h
    cases u <;> simp only [Option.some.injEq] at h <;> subst h <;> simp [isAgg, run_underlying hu]
theorem run_sizeT {n : Nat} (h : sizeT P T = some n) : (sizeOf T).run P w = .ok n w := by
  obtain ⟨i, hi, rfl⟩ := Option.map_eq_some_iff.1 h
  simp [sizeOf, typeInfo, hi]
theorem run_loadVar_cel {ad : Addr} {v : Value} (h : aggT P T = some false) (hv : w.cell? ad = some v) : (loadVar T ad).run P w = .ok v w := by
  simp [loadVar, run_isAgg h, hv]
theorem run_loadVar_agg {ad : Addr} {c : List Value} (h : aggT P T = some true) (hn : sizeT P T = some c.length) (hc : ∀ j u, c[j]? = some u → w.cell? (ad.add j) = some u) :
    (loadVar T ad).run P w = .ok (.agg c.toArray) w := by
  simp [loadVar, run_isAgg h, run_sizeT hn, run_loadCells_list w ad c hc]
theorem run_part_cel {cs : Array Value} {o : Nat} {v : Value} (h : aggT P T = some false) (hv : cs[o]? = some v) : (part T cs o).run P w = .ok v w := by
  simp [part, run_isAgg h, hv]
theorem run_part_agg {cs : Array Value} {o n : Nat} (h : aggT P T = some true) (hn : sizeT P T = some n) : (part T cs o).run P w = .ok (.agg (cs.extract o (o + n))) w := by
  simp [part, run_isAgg h, run_sizeT hn]
end

theorem add_add (a : Addr) (i j : Nat) : (a.add i).add j = a.add (i + j) := by
  unfold Addr.add
  by_cases h1 : i = 0 <;> by_cases h2 : j = 0 <;> simp [h1, h2, Nat.add_assoc]
theorem cellsAt_sub {s : Hp} {ad : Addr} {c : List Value} (h : ∀ j u, c[j]? = some u → s.look (ad.add j) = some u) (o n : Nat) :
    ∀ j u, ((c.drop o).take n)[j]? = some u → s.look ((ad.add o).add j) = some u := by
  intro j u hu
  rw [add_add]
  refine h _ _ ?_
  rw [List.getElem?_take] at hu
  split at hu
  · rwa [List.getElem?_drop] at hu
  · cases hu

section
variable {C : Cx} {env env' : Env} {Q : Exit → Act → World → Prop} {o : Oper} {p q : Operand} {d : Nat} {T T' S E : TypeId} {α β γ : Type} {k : Kd α} {k' : Kd β}

theorem Opd.getp {x : α} (h : Opd C env p (.cel (Kd.ptr k) x)) {s F a w} (hr : Rel C.N C.w0 C.hd C.pn C.s0 env s F a w) :
    ∃ ad c, a.eval p = .pointer (some ad) ∧ k.rd s c x ∧ ∀ j u, c[j]? = some u → s.look (ad.add j) = some u := by
  obtain ⟨ad, c, e, h1, h2⟩ := (h s F a w hr).1
  exact ⟨ad, c, by simpa using e, h1, h2⟩
theorem Opd.gets1 {x : α} (h : Opd C env p (.cel k x)) {s F a w} (hr : Rel C.N C.w0 C.hd C.pn C.s0 env s F a w) : k.rd s [a.eval p] x := (h s F a w hr).1
theorem Opd.geta {x : α} (h : Opd C env p (.agg k x)) {s F a w} (hr : Rel C.N C.w0 C.hd C.pn C.s0 env s F a w) : ∃ cs, a.eval p = .agg cs ∧ k.rd s cs.toList x := (h s F a w hr).1

/-! ### Through a pointer to what stays as it is -/
theorem OpT.nilCheck {x : α} (hH : Hd C o (.nilCheck p) d) (hp : Opd C env p (.cel (Kd.ptr k) x)) : OpT C o env (upd env d (.cel (Kd.ptr k) x)) :=
  OpT.pure hH.2.1 hH.2.2 fun s F a w hr => by
    obtain ⟨ad, c, e, h1, h2⟩ := hp.getp hr
    refine ⟨.pointer (some ad), by simp [execOp, hH.1, e], ⟨⟨ad, c, rfl, h1, h2⟩, fun b hb => hb⟩⟩
theorem OpT.load {x : α} (hH : Hd C o (.load T p) d) (hp : Opd C env p (.cel (Kd.ptr k) x)) (hT : aggT C.P T = some false) (hz : k.sz = 1) : OpT C o env (upd env d (.cel k x)) :=
  OpT.pure hH.2.1 hH.2.2 fun s F a w hr => by
    obtain ⟨ad, c, e, h1, h2⟩ := hp.getp hr
    have hl := k.len h1
    rw [hz] at hl
    obtain ⟨v, rfl⟩ := List.length_eq_one_iff.1 hl
    have hv : w.cell? ad = some v := by have := hr.fz.cell (h2 0 v rfl); simpa [Addr.add] using this
    exact ⟨v, by simp [execOp, hH.1, e, Instr.loadAt, Instr.sureAddr, run_loadVar_cel hT hv], ⟨h1, fun b hb => hb⟩⟩
theorem OpT.loadA {x : α} (hH : Hd C o (.load T p) d) (hp : Opd C env p (.cel (Kd.ptr k) x)) (hT : aggT C.P T = some true) (hz : sizeT C.P T = some k.sz) : OpT C o env (upd env d (.agg k x)) :=
  OpT.pure hH.2.1 hH.2.2 fun s F a w hr => by
    obtain ⟨ad, c, e, h1, h2⟩ := hp.getp hr
    exact ⟨.agg c.toArray, by simp [execOp, hH.1, e, Instr.loadAt, Instr.sureAddr, run_loadVar_agg hT (by rw [hz, k.len h1]) (fun j u hu => hr.fz.cell (h2 j u hu))], ⟨⟨_, rfl, h1⟩, fun b hb => hb⟩⟩
theorem run_fieldAt {P : Program} {w : World} {i off n : Nat} {ad : Addr} (hf : fldT P S i = some (T, off)) (hn : sizeT P T = some n) (h0 : n ≠ 0) :
    (Instr.fieldAt S (.pointer (some ad)) i).run P w = .ok (.pointer (some (ad.add off))) w := by
  unfold fldT at hf
  split at hf
  · rename_i fs hu
    obtain ⟨f, hf1, hf2⟩ := Option.map_eq_some_iff.1 hf
    simp only [Prod.mk.injEq] at hf2
    obtain ⟨rfl, rfl⟩ := hf2
    simp [Instr.fieldAt, run_underlying hu, hf1, Instr.sureAddr, fieldPlace, run_sizeT hn, h0]
  · cases hf
theorem OpT.fieldAddr {x : α} {i off n : Nat} {f : α → β} {g : α → β → α} (hH : Hd C o (.fieldAddr S p i) d) (hp : Opd C env p (.cel (Kd.ptr k) x))
    (hf : fldT C.P S i = some (T, off)) (hn : sizeT C.P T = some n) (h0 : n ≠ 0) (hs : Sub k off k' f g) : OpT C o env (upd env d (.cel (Kd.ptr k') (f x))) :=
  OpT.pure hH.2.1 hH.2.2 fun s F a w hr => by
    obtain ⟨ad, c, e, h1, h2⟩ := hp.getp hr
    refine ⟨.pointer (some (ad.add off)), ?_, ⟨⟨ad.add off, _, rfl, hs.rd h1, cellsAt_sub h2 off k'.sz⟩, fun b hb => hb⟩⟩
    have := run_fieldAt (P := C.P) (w := w) (ad := ad) hf hn h0
    simp only [execOp, hH.1, e]
    simp [this]
theorem OpT.indexAddr {xs : List α} {x : α} {kk : IntKind} {i : Int} (hH : Hd C o (.indexAddr T p q) d) (hp : Opd C env p (.cel (Kd.slice k) xs)) (hq : Opd C env q (.cel (Kd.int kk) i))
    (hT : elT C.P T = some E) (hz : sizeT C.P E = some k.sz) (h0 : 0 ≤ i) (hx : xs[i.toNat]? = some x) : OpT C o env (upd env d (.cel (Kd.ptr k) x)) :=
  OpT.pure hH.2.1 hH.2.2 fun s F a w hr => by
    obtain ⟨A, c, e, h1, h2, h3⟩ := (hp s F a w hr).1
    have hi : i.toNat < xs.length := (List.getElem?_eq_some_iff.1 hx).1
    have hxe : xs[i.toNat] = x := (List.getElem?_eq_some_iff.1 hx).2
    obtain ⟨ad, cells, rfl, h4, h5⟩ := h3 (by omega)
    have e' : a.eval p = .slice (some ad) xs.length c := by simpa using e
    have hu : C.P.underlying T = some (.slice E) := by
      unfold elT at hT
      split at hT
      · simp only [Option.some.injEq] at hT; subst hT; assumption
      · cases hT
    refine ⟨.pointer (some (ad.add (i.toNat * k.sz))), ?_, ⟨⟨_, _, rfl, by rw [← hxe]; exact h4.get i.toNat hi, cellsAt_sub h5 _ _⟩, fun b hb => hb⟩⟩
    have h6 : 0 ≤ i ∧ i < (xs.length : Int) := ⟨h0, by omega⟩
    simp [execOp, hH.1, e', (hq.geti hr).1, Instr.indexAt, asIntOf, run_underlying hu, run_sizeT hz, h6]
theorem OpT.len {xs : List α} (hH : Hd C o (.call { callee := .builtin .len, args := #[p], argTypes := #[T] }) d) (hp : Opd C env p (.cel (Kd.slice k) xs))
    (hT : elT C.P T = some E) : OpT C o env (upd env d (.cel (Kd.int .i64) (xs.length : Int))) :=
  OpT.pure hH.2.1 hH.2.2 fun s F a w hr => by
    obtain ⟨A, c, e, h1, h2, h3⟩ := (hp s F a w hr).1
    have e' : a.eval p = .slice A xs.length c := by simpa using e
    have hu : C.P.underlying T = some (.slice E) := by
      unfold elT at hT
      split at hT
      · simp only [Option.some.injEq] at hT; subst hT; assumption
      · cases hT
    refine ⟨.int .i64 xs.length, ?_, ⟨⟨rfl, by rw [inR_i64]; omega⟩, fun b hb => hb⟩⟩
    simp [execOp, hH.1, e', resolve, invoke, builtin, Builtin.len_, run_underlying hu, goInt]
theorem OpT.lenS {x : ByteArray} (hH : Hd C o (.call { callee := .builtin .len, args := #[p], argTypes := #[T] }) d) (hp : Opd C env p (.cel Kd.str x))
    (hT : C.P.underlying T = some .string) : OpT C o env (upd env d (.cel (Kd.int .i64) (x.size : Int))) :=
  OpT.pure hH.2.1 hH.2.2 fun s F a w hr => by
    refine ⟨.int .i64 x.size, ?_, ⟨⟨rfl, by rw [inR_i64]; have := (hp.gets hr).2; omega⟩, fun b hb => hb⟩⟩
    simp [execOp, hH.1, (hp.gets hr).1, resolve, invoke, builtin, Builtin.len_, run_underlying hT, goInt]
/-- A byte of a text. -/
theorem OpT.indexS {x : ByteArray} {kk : IntKind} {i : Int} {b : UInt8} (hH : Hd C o (.index T p q) d) (hp : Opd C env p (.cel Kd.str x)) (hq : Opd C env q (.cel (Kd.int kk) i))
    (hT : C.P.underlying T = some .string) (h0 : 0 ≤ i) (hb : x[i.toNat]? = some b) : OpT C o env (upd env d (.cel (Kd.int .u8) (b.toNat : Int))) :=
  OpT.pure hH.2.1 hH.2.2 fun s F a w hr => by
    refine ⟨.int .u8 b.toNat, ?_, ⟨⟨rfl, by rw [inR_u8]; have := b.toNat_lt; omega⟩, fun b hb => hb⟩⟩
    simp [execOp, hH.1, (hp.gets hr).1, (hq.geti hr).1, Instr.index, asIntOf, run_underlying hT, h0, hb]

/-! ### Structs and arrays -/
theorem sub_cell {s : Hp} {off : Nat} {f : α → β} {g : α → β → α} (hs : Sub k off k' f g) (hz : k'.sz = 1) {cs : List Value} {x : α} (h : k.rd s cs x) : ∃ v, cs[off]? = some v ∧ k'.rd s [v] (f x) := by
  have h1 := hs.rd h
  have h2 := k'.len h1
  rw [hz] at h1 h2
  have h3 : off < cs.length := by rw [List.length_take, List.length_drop] at h2; omega
  refine ⟨cs[off], List.getElem?_eq_getElem h3, ?_⟩
  rw [List.drop_eq_getElem_cons h3] at h1
  exact h1
end
end Go.Proofs.YtfnkphllkbkfaaaDoor.VL
