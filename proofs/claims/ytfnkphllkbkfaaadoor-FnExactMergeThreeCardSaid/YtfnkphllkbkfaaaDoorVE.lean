/- Proved here: rules for memory that a call owns: variables, rows that are made, appended to and stored into; literals. With the words of VA. General: over every program. -/
import Derived.Test.YtfnkphllkbkfaaaDoorVD
import Derived.Laws.Tables
import Derived.Laws.OwnMore
import Derived.Great.FillDense
set_option linter.unusedVariables false
set_option linter.unusedSimpArgs false
namespace Go.Proofs.YtfnkphllkbkfaaaDoor.VL
open Go

/-! ### Literals -/
def splice (cs : List Value) (o : Nat) (c : List Value) : List Value := cs.take o ++ (c ++ cs.drop (o + c.length))
theorem fold_splice (o : Nat) (c : List Value) (cs : Array Value) (h : o + c.length ≤ cs.size) :
    ((c.zipIdx 0).foldl (fun cs (x : Value × Nat) => cs.setIfInBounds (o + x.2) x.1) cs).toList = splice cs.toList o c := by
  obtain ⟨h1, h2⟩ := Great.foldl_set o c 0 cs
  have hcs : cs.toList.length = cs.size := Array.length_toList
  have ht : (cs.toList.take o).length = o := by rw [List.length_take]; omega
  apply List.ext_getElem?
  intro k
  have h3 := h2 k
  rw [Array.getElem?_toList, h3]
  unfold splice
  by_cases hk : o + 0 ≤ k ∧ k < o + 0 + c.length ∧ k < cs.size
  · rw [if_pos hk, List.getElem?_append_right (by omega), List.getElem?_append_left (by omega), ht]
    rfl
  · rw [if_neg hk]
    by_cases h4 : k < o
    · rw [List.getElem?_append_left (by omega), List.getElem?_take, if_pos h4]
      simp
    · rw [List.getElem?_append_right (by omega), ht]
      by_cases h5 : k < cs.size
      · rw [List.getElem?_append_right (by omega), List.getElem?_drop, Array.getElem?_toList]
        congr 1; omega
      · have e1 : cs[k]? = none := Array.getElem?_eq_none (by omega)
        have e2 : (c ++ cs.toList.drop (o + c.length))[k - o]? = none := by
          refine List.getElem?_eq_none ?_
          rw [List.length_append, List.length_drop]
          omega
        rw [e1, e2]

/-- The cells of a value. -/
def Value.cl (v : Value) : List Value := v.cells.toList
theorem fill_cons {pl : Nat → Option (Nat × Nat)} {cells : Array Value} {i off size : Nat} {v : Value} {rest : List (Nat × Value)} (h : pl i = some (off, size)) (hv : (Value.cl v).length = size) (hle : off + size ≤ cells.size) :
    ∃ cells', cells'.toList = splice cells.toList off (Value.cl v) ∧ cells'.size = cells.size ∧ Instr.fill pl cells ((i, v) :: rest) = Instr.fill pl cells' rest := by
  have hv' : v.cells.size = size := by simpa [Value.cl] using hv
  refine ⟨_, fold_splice off (Value.cl v) cells (by rw [hv]; exact hle), ?_, ?_⟩
  · exact (Great.foldl_set off (Value.cl v) 0 cells).1
  · rw [Instr.fill.eq_2]
    simp only [h]
    rw [if_neg (by simp [hv']; omega)]
    congr 1
    rw [← Array.foldl_toList, Array.toList_zipIdx]
    rfl

def plT (P : Program) (S : TypeId) : Option (List (Nat × Nat)) := match P.info? S, P.underlying S with
  | some _, some (.struct fs) => fs.toList.mapM (fun f => (P.info? f.type).map fun i => (f.offset, i.size))
  | _, _ => none

section
variable {C : Cx} {env env' : Env} {Q : Exit → Act → World → Prop} {o : Oper} {p q : Operand} {d : Nat} {T T' S E : TypeId} {α β γ : Type} {k : Kd α} {k' : Kd β}

theorem cl_cel {s : Hp} {v : Value} {x : β} (h : k'.rd s [v] x) : Value.cl v = [v] := by
  have h1 := k'.one h v (by simp)
  unfold Value.cl
  cases v <;> first | rfl | (simp [Value.oneCell'] at h1)

/-- What a literal's parts make of data. -/
inductive Built (C : Cx) (env : Env) (k : Kd α) (pl : Nat → Option (Nat × Nat)) : List (Nat × Operand) → α → α → Prop
  | nil (x : α) : Built C env k pl [] x x
  | cel {β : Type} {k' : Kd β} {f : α → β} {g : α → β → α} {i off : Nat} {p : Operand} {y : β} {x r : α} {rest : List (Nat × Operand)} (hp : Opd C env p (.cel k' y)) (hl : pl i = some (off, 1)) (hz : k'.sz = 1) (hs : Sub k off k' f g)
      (h : Built C env k pl rest (g x y) r) : Built C env k pl ((i, p) :: rest) x r
  | agg {β : Type} {k' : Kd β} {f : α → β} {g : α → β → α} {i off : Nat} {p : Operand} {y : β} {x r : α} {rest : List (Nat × Operand)} (hp : Opd C env p (.agg k' y)) (hl : pl i = some (off, k'.sz)) (hz : 0 < k'.sz) (hs : Sub k off k' f g)
      (h : Built C env k pl rest (g x y) r) : Built C env k pl ((i, p) :: rest) x r
theorem Built.fill {pl : Nat → Option (Nat × Nat)} {parts : List (Nat × Operand)} {x r : α} (h : Built C env k pl parts x r) {s F a w} (hr : Rel C.N C.w0 C.hd C.pn C.s0 env s F a w) :
    ∀ cells : Array Value, k.rd s cells.toList x → ∃ cells', Instr.fill pl cells (parts.map fun z => (z.1, a.eval z.2)) = some cells' ∧ k.rd s cells'.toList r := by
  induction h with
  | nil x => intro cells hc; exact ⟨cells, rfl, hc⟩
  | cel hp hl hz hs _ ih =>
    intro cells hc
    have h1 := hp.gets1 hr
    have h2 := cl_cel h1
    have h3 := hs.le hc
    rw [Array.length_toList] at h3
    obtain ⟨cells', e1, e2, e3⟩ := fill_cons (pl := pl) (cells := cells) (rest := _) hl (by rw [h2]; rfl) (by omega)
    rw [List.map_cons, e3]
    refine ih cells' ?_
    rw [e1, h2]
    have h4 := hs.wr hc h1
    rw [hz] at h4
    exact h4
  | agg hp hl hz hs _ ih =>
    intro cells hc
    obtain ⟨cs, e, h1⟩ := hp.geta hr
    have h2 : Value.cl (.agg cs) = cs.toList := rfl
    have h3 := hs.le hc
    rw [Array.length_toList] at h3
    have h5 := Kd.len _ h1
    obtain ⟨cells', e1, e2, e3⟩ := fill_cons (pl := pl) (cells := cells) (v := .agg cs) (rest := _) hl (by rw [h2, h5]) (by omega)
    rw [List.map_cons, e, e3]
    refine ih cells' ?_
    rw [e1, h2]
    have h4 := hs.wr hc h1
    unfold splice
    rw [h5]
    exact h4
theorem OpT.build_of {pl : Nat → Option (Nat × Nat)} {parts : List (Nat × Operand)} {z : Value} {x r : α} (hH : Hd C o (.build S parts.toArray) d)
    (hpl : ∀ l cells', Instr.fill pl z.cells l = some cells' → C.P.built S l = some cells')
    (hx : ∀ s, k.rd s (Value.cl z) x) (hb : Built C env k pl parts x r) : OpT C o env (upd env d (.agg k r)) :=
  OpT.pure hH.2.1 hH.2.2 fun s F a w hr => by
    obtain ⟨cells', h1, h2⟩ := hb.fill hr z.cells (hx s)
    refine ⟨.agg cells', ?_, ⟨⟨_, rfl, h2⟩, fun b hb => hb⟩⟩
    have h3 : C.P.built S (parts.toArray.map fun (i, x) => (i, a.eval x)).toList = some cells' := by
      have e : (parts.toArray.map fun (i, x) => (i, a.eval x)).toList = parts.map fun z => (z.1, a.eval z.2) := by simp
      rw [e]
      exact hpl _ _ h1
    have h4 := run_build (P := C.P) w S _ cells' h3
    simp only [execOp, hH.1, Sem.run_bind]
    rw [h4]
    rfl
/-- A struct's literal. -/
theorem OpT.build {pl : List (Nat × Nat)} {parts : List (Nat × Operand)} {z : Value} {x r : α} (hH : Hd C o (.build S parts.toArray) d) (hpl : plT C.P S = some pl) (hz : zeroT C.P S = some z)
    (hx : ∀ s, k.rd s (Value.cl z) x) (hb : Built C env k (fun i => pl[i]?) parts x r) : OpT C o env (upd env d (.agg k r)) := by
  refine OpT.build_of (pl := fun i => pl[i]?) (z := z) hH (fun l cells' h => ?_) hx hb
  unfold plT at hpl
  unfold zeroT at hz
  unfold Program.built
  cases hi : C.P.info? S with
  | none => rw [hi] at hz; cases hz
  | some it =>
    rw [hi] at hz hpl
    simp only [Option.bind_some] at hz
    cases hu : C.P.underlying S with
    | none => rw [hu] at hpl; cases hpl
    | some u =>
      rw [hu] at hpl
      cases u <;> simp only [] at hpl <;> try (cases hpl; done)
      case struct fs =>
        simp only [hz, hpl]
        rw [← h]
        simp
end
end Go.Proofs.YtfnkphllkbkfaaaDoor.VL
