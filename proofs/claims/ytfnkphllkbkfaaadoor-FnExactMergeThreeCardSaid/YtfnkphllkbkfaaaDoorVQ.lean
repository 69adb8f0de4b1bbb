/- Proved here: the program's '==' on structs and arrays is equality of data. With the words of VA..VP. General: over every program. -/
import Derived.Test.YtfnkphllkbkfaaaDoorVP
import Derived.Laws.StructEq
import Derived.ChangeKeysEq
import Derived.Laws.Slices
set_option linter.unusedVariables false
set_option linter.unusedSimpArgs false
namespace Go.Proofs.YtfnkphllkbkfaaaDoor.VL
open Go

/-- Are two data the same? -/
noncomputable def eqv {α : Type} (x y : α) : Bool := @decide (x = y) (Classical.propDecidable _)
theorem eqv_iff {α : Type} {x y : α} : eqv x y = true ↔ x = y := by unfold eqv; exact @decide_eq_true_iff _ (Classical.propDecidable _)
theorem eqv_false_iff {α : Type} {x y : α} : eqv x y = false ↔ x ≠ y := by unfold eqv; exact @decide_eq_false_iff_not _ (Classical.propDecidable _)
theorem eqv_self {α : Type} (x : α) : eqv x x = true := eqv_iff.2 rfl
theorem eqv_ne {α : Type} {x y : α} (h : x ≠ y) : eqv x y = false := eqv_false_iff.2 h
theorem eqv_of {α : Type} {x y : α} {b : Bool} (h : b = true ↔ x = y) : b = eqv x y := by
  rw [Bool.eq_iff_iff, eqv_iff]; exact h
theorem eqv_pair {α β : Type} {x y : α × β} : eqv x y = (eqv x.1 y.1 && eqv x.2 y.2) := by
  symm; refine eqv_of ?_
  rw [Bool.and_eq_true, eqv_iff, eqv_iff, Prod.ext_iff]
theorem eqv_beq {α : Type} [BEq α] [LawfulBEq α] (x y : α) : (x == y) = eqv x y := eqv_of (by simp)
theorem eqv_bne {α : Type} [BEq α] [LawfulBEq α] (x y : α) : (x != y) = !(eqv x y) := by rw [bne, eqv_beq]

def rdV {α : Type} (agg : Bool) (k : Kd α) (s : Hp) (v : Value) (x : α) : Prop := match agg with
  | true => ∃ cs, v = .agg cs ∧ k.rd s cs.toList x
  | false => k.rd s [v] x
/-- The program's '==' on a type is equality of data. -/
def EqT {α : Type} (P : Program) (T : TypeId) (k : Kd α) (n : Nat) : Prop :=
  ∃ agg, aggT P T = some agg ∧ sizeT P T = some k.sz ∧ (agg = true ∨ k.sz = 1) ∧ ∀ {s : Hp} {v u : Value} {x y : α} {w : World} {d : Nat}, n ≤ d → rdV agg k s v x → rdV agg k s u y → (Op.equalIn d T v u).run P w = .ok (eqv x y) w

section
variable {P : Program} {T E : TypeId} {α β : Type}
theorem EqT.int {kk : IntKind} (h : P.underlying T = some (.int kk)) (hz : sizeT P T = some 1) : EqT P T (Kd.int kk) 1 := by
  refine ⟨false, by unfold aggT; rw [h], hz, .inr rfl, fun {s v u x y w d} hd h1 h2 => ?_⟩
  obtain ⟨e1, _⟩ := h1
  obtain ⟨e2, _⟩ := h2
  simp only [List.cons.injEq, and_true] at e1 e2
  subst e1; subst e2
  obtain ⟨d, rfl⟩ : ∃ d', d = d' + 1 := ⟨d - 1, by omega⟩
  rw [run_equalIn_int w d T kk kk x y h, eqv_beq]
theorem EqT.u64 (h : P.underlying T = some (.int .u64)) (hz : sizeT P T = some 1) : EqT P T Kd.u64 1 := by
  refine ⟨false, by unfold aggT; rw [h], hz, .inr rfl, fun {s v u x y w d} hd h1 h2 => ?_⟩
  simp only [rdV, Kd.u64, List.cons.injEq, and_true] at h1 h2
  subst h1; subst h2
  obtain ⟨d, rfl⟩ : ∃ d', d = d' + 1 := ⟨d - 1, by omega⟩
  rw [run_equalIn_int w d T .u64 .u64 _ _ h]
  congr 1
  refine eqv_of ?_
  simp only [beq_iff_eq]
  exact ⟨fun e => BitVec.eq_of_toNat_eq (by omega), fun e => by rw [e]⟩
theorem EqT.bool (h : P.underlying T = some .bool) (hz : sizeT P T = some 1) : EqT P T Kd.bool 1 := by
  refine ⟨false, by unfold aggT; rw [h], hz, .inr rfl, fun {s v u x y w d} hd h1 h2 => ?_⟩
  simp only [rdV, Kd.bool, List.cons.injEq, and_true] at h1 h2
  subst h1; subst h2
  obtain ⟨d, rfl⟩ : ∃ d', d = d' + 1 := ⟨d - 1, by omega⟩
  rw [run_equalIn_bool' w d T x y h, eqv_beq]
theorem toList_inj {a b : ByteArray} (h : a.toList = b.toList) : a = b := by
  rw [ByteArray.toList_eq, ByteArray.toList_eq] at h
  exact ByteArray.ext (Array.toList_inj.1 h)
theorem EqT.str (h : P.underlying T = some .string) (hz : sizeT P T = some 1) : EqT P T Kd.str 1 := by
  refine ⟨false, by unfold aggT; rw [h], hz, .inr rfl, fun {s v u x y w d} hd h1 h2 => ?_⟩
  obtain ⟨e1, _⟩ := h1
  obtain ⟨e2, _⟩ := h2
  simp only [List.cons.injEq, and_true] at e1 e2
  subst e1; subst e2
  obtain ⟨d, rfl⟩ : ∃ d', d = d' + 1 := ⟨d - 1, by omega⟩
  rw [run_equalIn_string w d T x y h]
  congr 1
  refine eqv_of ?_
  simp only [beq_iff_eq]
  exact ⟨toList_inj, fun e => by rw [e]⟩
theorem part_rd {agg : Bool} {k : Kd α} {s : Hp} {xs : Array Value} {o : Nat} {x : α} {w : World} (ha : aggT P T = some agg) (hs : sizeT P T = some k.sz) (hz : agg = true ∨ k.sz = 1)
    (h : k.rd s ((xs.toList.drop o).take k.sz) x) : ∃ v, (part T xs o).run P w = .ok v w ∧ rdV agg k s v x := by
  cases agg with
  | true =>
    refine ⟨_, run_part_agg ha hs, _, rfl, ?_⟩
    have e : (xs.extract o (o + k.sz)).toList = (xs.toList.drop o).take k.sz := by
      rw [Array.toList_extract, List.extract_eq_take_drop]; congr 1; omega
    rw [e]; exact h
  | false =>
    have hz1 : k.sz = 1 := by simpa using hz
    have hl := k.len h
    rw [hz1] at hl h
    rw [List.length_take, List.length_drop, Array.length_toList] at hl
    have ho : o < xs.size := by omega
    refine ⟨xs[o], run_part_cel ha (by simp [ho]), ?_⟩
    have e : (xs.toList.drop o).take 1 = [xs[o]] := by
      rw [List.drop_eq_getElem_cons (by simpa using ho)]
      simp
    rw [e] at h
    exact h
def EqFs {α : Type} (P : Program) (fs : List Field) (o : Nat) (k : Kd α) (n : Nat) : Prop :=
  ∀ (s : Hp) (xs ys : Array Value) (x y : α) (w : World) (d : Nat), n ≤ d → k.rd s (xs.toList.drop o) x → k.rd s (ys.toList.drop o) y → (Op.eqFields d xs ys fs).run P w = .ok (eqv x y) w
theorem EqFs.one {k : Kd α} {f : Field} {o n : Nat} (ho : f.offset = o) (hn : (f.name == "_") = false) (h : EqT P f.type k n) : EqFs P [f] o k n := by
  intro s xs ys x y w d hd hx hy
  obtain ⟨agg, h1, h2, h3, h4⟩ := h
  obtain ⟨v, a1, a2⟩ := part_rd (w := w) h1 h2 h3 (xs := xs) (o := o) (x := x) (s := s) (by rw [List.take_of_length_le (by rw [k.len hx]; exact Nat.le_refl _)]; exact hx)
  obtain ⟨u, b1, b2⟩ := part_rd (w := w) h1 h2 h3 (xs := ys) (o := o) (x := y) (s := s) (by rw [List.take_of_length_le (by rw [k.len hy]; exact Nat.le_refl _)]; exact hy)
  have hn' : f.name ≠ "_" := by simpa using hn
  have e0 := h4 (w := w) (d := d) hd a2 b2
  simp only [Op.eqFields, if_pos hn', Sem.run_bind, ho, a1, b1, e0, Result.andThen_ok]
  cases eqv x y <;> simp
theorem rd_pair_drop {k : Kd α} {k' : Kd β} {s : Hp} {l : List Value} {x : α × β} (h : (Kd.pair k k').rd s l x) : k.rd s (l.take k.sz) x.1 ∧ k'.rd s (l.drop k.sz) x.2 := by
  obtain ⟨c, d, rfl, h1, h2⟩ := h
  rw [← k.len h1, List.take_left, List.drop_left]
  exact ⟨h1, h2⟩
theorem EqFs.cons {k : Kd α} {k' : Kd β} {f : Field} {fs : List Field} {o n m r : Nat} (ho : f.offset = o) (hn : (f.name == "_") = false) (h : EqT P f.type k n) (hs : EqFs P fs (o + k.sz) k' m) (hnr : Nat.ble n r = true) (hmr : Nat.ble m r = true) : EqFs P (f :: fs) o (Kd.pair k k') r := by
  have hnr' := Nat.le_of_ble_eq_true hnr
  have hmr' := Nat.le_of_ble_eq_true hmr
  intro s xs ys x y w d hd hx hy
  obtain ⟨agg, h1, h2, h3, h4⟩ := h
  obtain ⟨hx1, hx2⟩ := rd_pair_drop hx
  obtain ⟨hy1, hy2⟩ := rd_pair_drop hy
  rw [List.drop_drop] at hx2 hy2
  obtain ⟨v, a1, a2⟩ := part_rd (w := w) h1 h2 h3 (xs := xs) (o := o) hx1
  obtain ⟨u, b1, b2⟩ := part_rd (w := w) h1 h2 h3 (xs := ys) (o := o) hy1
  have hn' : f.name ≠ "_" := by simpa using hn
  have hr := hs s xs ys x.2 y.2 w d (by omega) hx2 hy2
  rw [Op.eqFields]
  have e0 := h4 (w := w) (d := d) (by omega) a2 b2
  simp only [if_pos hn', Sem.run_bind, ho, a1, b1, e0, Result.andThen_ok]
  rw [eqv_pair]
  cases eqv x.1 y.1
  · simp
  · simpa using hr
theorem EqT.struct {k : Kd α} {fs : Array Field} {n : Nat} (hu : P.underlying T = some (.struct fs)) (hz : sizeT P T = some k.sz) (hp : P.stoodInHeld T = false) (h : EqFs P fs.toList 0 k n) : EqT P T k (n + 1) := by
  refine ⟨true, by unfold aggT; rw [hu], hz, .inl rfl, fun {s v u x y w d} hd h1 h2 => ?_⟩
  obtain ⟨cs, rfl, h1⟩ := h1
  obtain ⟨ds, rfl, h2⟩ := h2
  obtain ⟨d, rfl⟩ : ∃ d', d = d' + 1 := ⟨d - 1, by omega⟩
  have hf : P.fieldsOf T = fs := by simp [Program.fieldsOf, hu]
  rw [run_equalIn_struct (P := P) w d T cs ds (by rw [hf]; exact hu) hp, hf]
  exact h s cs ds x y w d (by omega) h1 h2
theorem EqT.two {k : Kd α} {n : Nat} (hu : P.underlying T = some (.array 2 E)) (hz : sizeT P T = some (k.sz + k.sz)) (he : P.cellsOf E = k.sz) (h : EqT P E k n) : EqT P T (Kd.pair k k) (n + 1) := by
  refine ⟨true, by unfold aggT; rw [hu], hz, .inl rfl, fun {s v u x y w d} hd h1 h2 => ?_⟩
  obtain ⟨agg, g1, g2, g3, g4⟩ := h
  obtain ⟨i, hi, _⟩ := Option.map_eq_some_iff.1 g2
  obtain ⟨cs, rfl, h1⟩ := h1
  obtain ⟨ds, rfl, h2⟩ := h2
  obtain ⟨d, rfl⟩ : ∃ d', d = d' + 1 := ⟨d - 1, by omega⟩
  rw [run_equalIn_array w d cs ds hu hi, he]
  obtain ⟨hx1, hx2⟩ := rd_pair_drop h1
  obtain ⟨hy1, hy2⟩ := rd_pair_drop h2
  obtain ⟨v0, a1, a2⟩ := part_rd (w := w) g1 g2 g3 (xs := cs) (o := 0) (x := x.1) (s := s) (by simpa using hx1)
  obtain ⟨u0, b1, b2⟩ := part_rd (w := w) g1 g2 g3 (xs := ds) (o := 0) (x := y.1) (s := s) (by simpa using hy1)
  obtain ⟨v1, a3, a4⟩ := part_rd (w := w) g1 g2 g3 (xs := cs) (o := 1 * k.sz) (x := x.2) (s := s) (by rw [List.take_of_length_le (by rw [Nat.one_mul, k.len hx2]; exact Nat.le_refl _)]; simpa using hx2)
  obtain ⟨u1, b3, b4⟩ := part_rd (w := w) g1 g2 g3 (xs := ds) (o := 1 * k.sz) (x := y.2) (s := s) (by rw [List.take_of_length_le (by rw [Nat.one_mul, k.len hy2]; exact Nat.le_refl _)]; simpa using hy2)
  have e0 := g4 (w := w) (d := d) (by omega) a2 b2
  have e1 := g4 (w := w) (d := d) (by omega) a4 b4
  rw [Nat.one_mul] at a3 b3
  show (Op.eqItems d E k.sz cs ds [0, 1]).run P w = _
  simp only [Op.eqItems, Sem.run_bind, Nat.zero_mul, Nat.one_mul, a1, b1, a3, b3, e0, e1, Result.andThen_ok]
  rw [eqv_pair]
  cases eqv x.1 y.1
  · simp
  · simp only [Bool.not_true, Bool.false_eq_true, if_false, Sem.run_bind, Sem.run_ite, a3, b3, e1, Result.andThen_ok, Bool.true_and]
    cases eqv x.2 y.2 <;> simp
end
section
variable {C : Cx} {env : Env} {o : Oper} {T T' : TypeId} {p q : Operand} {d : Nat} {α : Type} {k : Kd α}
theorem EqT.run {P : Program} {n : Nat} (h : EqT P T k n) (hT : aggT P T = some true) (hn : n ≤ 10000) {s : Hp} {cs ds : Array Value} {x y : α} {w : World} (h1 : k.rd s cs.toList x) (h2 : k.rd s ds.toList y) :
    (Op.equalIn 10000 T (.agg cs) (.agg ds)).run P w = .ok (eqv x y) w := by
  obtain ⟨agg, g1, g2, g3, g4⟩ := h
  rw [hT] at g1
  obtain rfl : agg = true := by simpa using g1.symm
  exact g4 hn ⟨cs, rfl, h1⟩ ⟨ds, rfl, h2⟩
theorem OpT.eqA {n : Nat} {x y : α} (hH : Hd C o (.binOp .eql T p q T') d) (hp : Opd C env p (.agg k x)) (hq : Opd C env q (.agg k y)) (h : EqT C.P T k n) (hT : aggT C.P T = some true) (hn : Nat.ble n 10000 = true)
    (hg : C.P.eqGuardType C.P.depth T = false) : OpT C o env (upd env d (.cel Kd.bool (eqv x y))) :=
  OpT.pure hH.2.1 hH.2.2 fun s F a w hr => by
    obtain ⟨cs, e1, h1⟩ := hp.geta hr
    obtain ⟨ds, e2, h2⟩ := hq.geta hr
    refine ⟨.bool (eqv x y), ?_, ⟨rfl, fun b hb => hb⟩⟩
    simp only [execOp, hH.1, e1, e2, Sem.run_bind, run_eqGuard_agg w _ T p q cs ds hg, run_eql_struct, h.run hT (Nat.le_of_ble_eq_true hn) h1 h2, Result.andThen_ok]
    rfl
theorem OpT.neA {n : Nat} {x y : α} (hH : Hd C o (.binOp .neq T p q T') d) (hp : Opd C env p (.agg k x)) (hq : Opd C env q (.agg k y)) (h : EqT C.P T k n) (hT : aggT C.P T = some true) (hn : Nat.ble n 10000 = true)
    (hg : C.P.eqGuardType C.P.depth T = false) : OpT C o env (upd env d (.cel Kd.bool (!(eqv x y)))) :=
  OpT.pure hH.2.1 hH.2.2 fun s F a w hr => by
    obtain ⟨cs, e1, h1⟩ := hp.geta hr
    obtain ⟨ds, e2, h2⟩ := hq.geta hr
    refine ⟨.bool (!(eqv x y)), ?_, ⟨rfl, fun b hb => hb⟩⟩
    simp only [execOp, hH.1, e1, e2, Sem.run_bind, run_eqGuard_agg w _ T p q cs ds hg, run_neq_struct, h.run hT (Nat.le_of_ble_eq_true hn) h1 h2, Result.andThen_ok]
    rfl
/-- '==' of texts. -/
theorem OpT.seqv {x y : ByteArray} (hH : Hd C o (.binOp .eql T p q T') d) (hp : Opd C env p (.cel Kd.str x)) (hq : Opd C env q (.cel Kd.str y)) : OpT C o env (upd env d (.cel Kd.bool (eqv x y))) := by
  have h := OpT.seql hH hp hq
  rwa [show (x.toList == y.toList) = eqv x y from eqv_of (by simp only [beq_iff_eq]; exact ⟨toList_inj, fun e => by rw [e]⟩)] at h
theorem OpT.snev {x y : ByteArray} (hH : Hd C o (.binOp .neq T p q T') d) (hp : Opd C env p (.cel Kd.str x)) (hq : Opd C env q (.cel Kd.str y)) : OpT C o env (upd env d (.cel Kd.bool (!(eqv x y)))) := by
  have h := OpT.sneq hH hp hq
  rwa [show (x.toList == y.toList) = eqv x y from eqv_of (by simp only [beq_iff_eq]; exact ⟨toList_inj, fun e => by rw [e]⟩)] at h
end
/-! ### Parts of slices -/
theorem slice_cut {α : Type} {k : Kd α} {s : Hp} {A : Option Addr} {n c : Nat} {xs : List α} (h : (Kd.slice k).rd s [.slice A n c] xs) {l hh : Nat} (h1 : l ≤ hh) (h2 : hh ≤ xs.length) : (Kd.slice k).rd s [sliced A l hh c k.sz] ((xs.take hh).drop l) := by
  obtain ⟨A', c', e, h3, h4, h5⟩ := h
  simp only [List.cons.injEq, Value.slice.injEq, and_true] at e
  obtain ⟨rfl, rfl, rfl⟩ := e
  have hl : ((xs.take hh).drop l).length = hh - l := by rw [List.length_drop, List.length_take]; omega
  refine ⟨if c = l then A else A.map (·.add (l * k.sz)), c - l, ?_, by omega, by omega, fun h0 => ?_⟩
  · rw [hl]; rfl
  · obtain ⟨ad, cells, rfl, g1, g2⟩ := h5 (by omega)
    rw [if_neg (by omega)]
    refine ⟨ad.add (l * k.sz), (cells.take (hh * k.sz)).drop (l * k.sz), rfl, (g1.take hh).drop l, fun j u hu => ?_⟩
    rw [add_add]
    refine g2 _ _ ?_
    rw [List.getElem?_drop, List.getElem?_take] at hu
    split at hu
    · exact hu
    · cases hu
section
variable {C : Cx} {env : Env} {o : Oper} {T E : TypeId} {p q r : Operand} {d : Nat} {α : Type} {k : Kd α}
theorem el_elem {P : Program} (hT : elT P T = some E) : P.underlying T = some (.slice E) ∧ P.underlying T = some (.slice (P.elem T)) ∧ P.elem T = E := by
  have hu : P.underlying T = some (.slice E) := by
    unfold elT at hT
    split at hT
    · simp only [Option.some.injEq] at hT; subst hT; assumption
    · cases hT
  have he : P.elem T = E := by simp [Program.elem, hu]
  exact ⟨hu, by rw [he]; exact hu, he⟩
theorem Opd.getsl {xs : List α} (h : Opd C env p (.cel (Kd.slice k) xs)) {s F a w} (hr : Rel C.N C.w0 C.hd C.pn C.s0 env s F a w) : ∃ A c, a.eval p = .slice A xs.length c ∧ xs.length ≤ c ∧ (Kd.slice k).rd s [.slice A xs.length c] xs := by
  have h1 := h.gets1 hr
  obtain ⟨A, c, e, h2, h3⟩ := h1
  simp only [List.cons.injEq, and_true] at e
  exact ⟨A, c, e, h2, ⟨A, c, rfl, h2, h3⟩⟩
theorem OpT.cutH {xs : List α} {kk : IntKind} {i : Int} (hH : Hd C o (.slice T p none (some q) none) d) (hp : Opd C env p (.cel (Kd.slice k) xs)) (hq : Opd C env q (.cel (Kd.int kk) i))
    (hT : elT C.P T = some E) (hz : sizeT C.P E = some k.sz) (h0 : 0 ≤ i ∧ i ≤ xs.length) : OpT C o env (upd env d (.cel (Kd.slice k) (xs.take i.toNat))) :=
  OpT.pure hH.2.1 hH.2.2 fun s F a w hr => by
    obtain ⟨A, c, e, h2, h3⟩ := hp.getsl hr
    obtain ⟨hu, hu', he⟩ := el_elem hT
    refine ⟨sliced A 0 i.toNat c k.sz, ?_, ?_, fun b hb => hb⟩
    · simp [execOp, hH.1, e, (hq.geti hr).1, run_sliceAt_slice w T _ _ _ _ hu', run_slice_h w T A xs.length c hu' kk i h0.1 (by omega), he, run_sizeT hz]
    · have := slice_cut h3 (l := 0) (hh := i.toNat) (by omega) (by omega)
      rwa [List.drop_zero] at this
end
/-! ### Calls that are handed what is owned -/
section
variable {C : Cx} {env : Env} {o : Oper} {d : Nat} {A : As}
theorem Ar {A O : As} {xs : List Operand} {ins outs : List As} {ms : List Mode} {x : Operand} {t : Nat} (h : Root C env x t) (h0 : env t = A) (h1 : A.flat = false) (h2 : O.free = true) (r : Args C env xs ins outs ms) : Args C env (x :: xs) (A :: ins) (O :: outs) (.root t :: ms) := Args.cons ⟨h, h0, h1, h2⟩ r
theorem Ab {α : Type} {E : TypeId} {k : Kd α} {ys : List α} {xs : List Operand} {ins outs : List As} {ms : List Mode} {x : Operand} {t : Nat} (h : Root C env x t) (h0 : env t = .own E k ys) (r : Args C env xs ins outs ms) : Args C env (x :: xs) (.cel (Kd.slice k) ys :: ins) (.any :: outs) (.bor t :: ms) :=
  Args.cons ⟨h, by rw [h0]; exact Bor.own E k ys, rfl⟩ r
theorem ind_any : As.any.indep := fun _ _ _ _ _ h => h
theorem ind_anys {l : List As} (h : l.all As.isAny = true) : ∀ B ∈ l, B.indep := fun B hB => by
  rw [As.isAny_eq (List.all_eq_true.1 h B hB)]; exact ind_any
theorem ind1 (h : A.indep) : ∀ B ∈ [A], B.indep := fun B hB => by rw [List.mem_singleton] at hB; subst hB; exact h
theorem ind2 {A' : As} (h : A.indep) (h' : A'.indep) : ∀ B ∈ [A, A'], B.indep := fun B hB => by
  rcases List.mem_cons.1 hB with rfl | hB
  · exact h
  · rw [List.mem_singleton] at hB; subst hB; exact h'
theorem OpT.cr {f : FuncId} {ins out outs : List As} {xs : List Operand} {ms : List Mode} {ts : Array TypeId} (hc : AC C.P f ins out outs) (hH : Hd C o (.call { callee := .value (.func f), args := xs.toArray, argTypes := ts }) d)
    (ha : Args C env xs ins outs ms) (hm : msOK ms = true) (hb : borsOf ms = [] ∨ (∀ A ∈ out, A.indep) ∧ ∀ A ∈ outs, A.indep) (hf : out.all As.free = true) : OpT C o env (updRes (updRoots env ms outs) d out) := by
  obtain ⟨hc, fn, h1, h2, h3⟩ := hc
  exact OpT.call hH h1 h2 h3 hc ha hm hb hf
theorem getD_anys {l : List As} (h : l.all As.isAny = true) (i : Nat) : l.getD i .any = .any := by
  rw [List.getD_eq_getElem?_getD]
  cases hi : l[i]? with
  | none => rfl
  | some B => exact As.isAny_eq (List.all_eq_true.1 h B (List.mem_of_getElem? hi))
theorem OpT.crn {f : FuncId} {ins out outs : List As} {xs : List Operand} {ms : List Mode} {ts : Array TypeId} (hc : AC C.P f ins out []) (hH : Hd C o (.call { callee := .value (.func f), args := xs.toArray, argTypes := ts }) d)
    (ha : Args C env xs ins outs ms) (hz : outs.all As.isAny = true) (hm : msOK ms = true) (hb : borsOf ms = [] ∨ (∀ A ∈ out, A.indep) ∧ ∀ A ∈ outs, A.indep) (hf : out.all As.free = true) : OpT C o env (updRes (updRoots env ms outs) d out) :=
  OpT.cr ⟨hc.1.anys (getD_anys hz), hc.2⟩ hH ha hm hb hf
end
/-! ### Calls of function values that have caught nothing -/
section
variable {C : Cx} {env : Env} {o : Oper} {d : Nat} {A B : As}
theorem OpT.callV {f : FuncId} {fn : Func} {t : Nat} {ins out outs : List As} {xs : List Operand} {ms : List Mode} {ts : Array TypeId} (hH : Hd C o (.call { callee := .value (.tmp t), args := xs.toArray, argTypes := ts }) d)
    (hv : Opd C env (.tmp t) (.clo f Kd.unit ())) (hf : C.P.funcs[f]? = some fn) (hb : fn.body.isNone = false) (hn : (fn.name == "runtime.NumGoroutine") = false)
    (hc : ACall C.P f ins out outs) (ha : Args C env xs ins outs ms) (hm : msOK ms = true) (hi : borsOf ms = [] ∨ (∀ A ∈ out, A.indep) ∧ ∀ A ∈ outs, A.indep) (hof : out.all As.free = true) :
    OpT C o env (updRes (updRoots env ms outs) d out) := by
  intro Q K a w hr hK
  have hrun : (execOp a.eval o).run C.P w = .ok (.enter f (xs.map a.eval).toArray) w := by
    have h1 := run_callFunc hf hb hn (xs.map a.eval).toArray w
    obtain ⟨s, F, hr'⟩ := hr
    obtain ⟨⟨cs, e, h2⟩, _⟩ := hv s F a w hr'
    have h3 : cs = #[] := by
      have h4 : cs.toList = [] := h2
      simpa using h4
    subst h3
    simp only [execOp, hH.1, resolve, Deferred.ofValue, e, invoke]
    simp [h1]
  unfold Oper.wp
  rw [hrun, Oper.upon_enter, hH.2.1]
  refine Calls.mono (R_call hc ha.at hm hi hof hH.2.2 hr) ?_
  rintro e w' ⟨v, rfl, hR⟩
  exact hK _ _ hR
theorem OpT.v1 {f : FuncId} {t : Nat} {ins outs : List As} {xs : List Operand} {ms : List Mode} {ts : Array TypeId} (hv : Opd C env (.tmp t) (.clo f Kd.unit ())) (hc : AC C.P f ins [A] []) (hH : Hd C o (.call { callee := .value (.tmp t), args := xs.toArray, argTypes := ts }) d)
    (ha : Args C env xs ins outs ms) (hm : allFlat ms = true) (hf : A.free = true) : OpT C o env (upd env d A) := by
  obtain ⟨hc, fn, h1, h2, h3⟩ := hc
  obtain ⟨h4, h5⟩ := allFlat_roots hm
  have := OpT.callV hH hv h1 h2 h3 (hc.anys (ha.anys hm)) ha (by unfold msOK; rw [h4, h5]; rfl) (.inl h5) (by simp [hf])
  rwa [updRoots_none (outs := outs) h4, updRes_one] at this
end
theorem AX.freezeB {C : Cx} {env : Env} {Q : Exit → Act → World → Prop} {e : Exit} {t : Nat} {E : TypeId} {α : Type} {k : Kd α} {x : α} (ht : env t = .box E k x) (h : AX C e (updK env t (.cel (Kd.ptr k) x)) Q) : AX C e env Q := fun a w hr => h a w (R_freezeB ht hr)
end Go.Proofs.YtfnkphllkbkfaaaDoor.VL
