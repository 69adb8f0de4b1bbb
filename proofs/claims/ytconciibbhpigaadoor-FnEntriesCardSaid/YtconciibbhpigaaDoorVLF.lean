/- Proved here: the least of two numbers, and the library's functions that find a byte in a text, count it, and compare two texts, in the words of VA..VN. General: over every program. -/
import Derived.Test.YtconciibbhpigaaDoorVLS
import Derived.Test.YtconciibbhpigaaDoorPXS
import Derived.Shelf.Strings.Search2
import Derived.Shelf.Strings.Search3
import Derived.Shelf.Strings.Count
import Derived.Shelf.Small.Strs
import Derived.WideLaws
set_option linter.unusedVariables false
set_option linter.unusedSimpArgs false
namespace Go.Proofs.YtconciibbhpigaaDoor.VL
open Go Go.Sort Go.Shelf
section
variable {C : Cx} {env : Env} {o : Oper} {p q : Operand} {d : Nat} {T T' : TypeId}
/-- The least of two numbers. -/
theorem OpT.min {x y : Int} {k : IntKind} (hH : Hd C o (.call { callee := .builtin .min, args := #[p, q], argTypes := #[T, T'] }) d) (hp : Opd C env p (.cel (Kd.int k) x)) (hq : Opd C env q (.cel (Kd.int k) y)) {z : Int} (hz : (if y < x then y else x) = z) :
    OpT C o env (upd env d (.cel (Kd.int k) z)) :=
  OpT.pure hH.2.1 hH.2.2 fun s F a w hr => by
    refine ⟨.int k z, ?_, ⟨⟨rfl, ?_⟩, fun b hb => hb⟩⟩
    · simp [execOp, hH.1, (hp.geti hr).1, (hq.geti hr).1, resolve, invoke, builtin, Builtin.min_, Builtin.min2, hz]
    · have h1 := (hp.geti hr).2
      have h2 := (hq.geti hr).2
      rw [← hz]
      split
      · exact h2
      · exact h1
end
theorem arg2 {args : Array Value} (h : args.size = 2) : ∃ v0 v1, args = #[v0, v1] := by
  refine ⟨args[0], args[1], ?_⟩
  apply Array.ext
  · simp [h]
  · intro i h1 h2
    have h3 : i = 0 ∨ i = 1 := by simp at h2; omega
    rcases h3 with h3 | h3 <;> subst h3 <;> rfl
theorem AC.count {P : Program} {ρ : Ren} {f : FuncId} {fn : Func} (L : Lays.n138 P ρ) (hf : ρ.f 138 = f) (x : ByteArray) (c : UInt8) (h1 : P.funcs[f]? = some fn) (h2 : (fn.body.isNone, fn.name == "runtime.NumGoroutine") = (false, false)) :
    AC P f [.cel Kd.str x, .cel Kd.str ⟨#[c]⟩] [.cel (Kd.int .i64) (cnB c x : Int)] [] := by
  subst hf
  refine AC.lib h1 h2 fun w s args F hfz _ hsz hh => ⟨.int .i64 (cnB c x : Int), ⟨rfl, ?_⟩, ?_⟩
  · have g := (hh 0).1.2
    have := cnB_le c x
    rw [inR_i64]; omega
  obtain ⟨v0, v1, rfl⟩ := arg2 hsz
  have e0 : v0 = .string x := by have := (hh 0).1.1; simpa using this
  have e1 : v1 = .string ⟨#[c]⟩ := by have := (hh 1).1.1; simpa using this
  subst e0 e1
  refine (Any.strings_Count_one L x c w).mono ?_
  rintro e w' ⟨rfl, rfl⟩
  exact ⟨rfl, Go.RowKit.Below.refl _ _⟩
theorem ixB_range (c : UInt8) (x : ByteArray) : -1 ≤ ixB c x ∧ ixB c x ≤ x.size := by
  refine ⟨Lib.indexByte_ge _ _, ?_⟩
  by_cases h : 1 ≤ cnB c x
  · have := ix_ok h; omega
  · have h1 : ixB c x = -1 := ix_none (by
      have : List.count c x.data.toList = 0 := by have : cnB c x = List.count c x.data.toList := rfl; omega
      exact List.count_eq_zero.1 this)
    omega
theorem AC.index {P : Program} {ρ : Ren} {f : FuncId} {fn : Func} (L : Lays.n143 P ρ) (hf : ρ.f 143 = f) (x : ByteArray) (c : UInt8) (h1 : P.funcs[f]? = some fn) (h2 : (fn.body.isNone, fn.name == "runtime.NumGoroutine") = (false, false)) :
    AC P f [.cel Kd.str x, .cel Kd.str ⟨#[c]⟩] [.cel (Kd.int .i64) (ixB c x)] [] := by
  subst hf
  refine AC.lib h1 h2 fun w s args F hfz _ hsz hh => ⟨.int .i64 (ixB c x), ⟨rfl, ?_⟩, ?_⟩
  · have g := (hh 0).1.2
    have := ixB_range c x
    rw [inR_i64]; omega
  obtain ⟨v0, v1, rfl⟩ := arg2 hsz
  have e0 : v0 = .string x := by have := (hh 0).1.1; simpa using this
  have e1 : v1 = .string ⟨#[c]⟩ := by have := (hh 1).1.1; simpa using this
  subst e0 e1
  refine (Any.strings_Index_one L x c w).mono ?_
  rintro e w' ⟨rfl, rfl⟩
  exact ⟨rfl, Go.RowKit.Below.refl _ _⟩
theorem AC.indexl {P : Program} {ρ : Ren} {f : FuncId} {fn : Func} (L : Lays.n219 P ρ) (hf : ρ.f 219 = f) (x : ByteArray) (c : UInt8) (h1 : P.funcs[f]? = some fn) (h2 : (fn.body.isNone, fn.name == "runtime.NumGoroutine") = (false, false)) :
    AC P f [.cel Kd.str x, .cel Kd.str ⟨#[c]⟩] [.cel (Kd.int .i64) (ixB c x)] [] := by
  subst hf
  refine AC.lib h1 h2 fun w s args F hfz _ hsz hh => ⟨.int .i64 (ixB c x), ⟨rfl, ?_⟩, ?_⟩
  · have g := (hh 0).1.2
    have := ixB_range c x
    rw [inR_i64]; omega
  obtain ⟨v0, v1, rfl⟩ := arg2 hsz
  have e0 : v0 = .string x := by have := (hh 0).1.1; simpa using this
  have e1 : v1 = .string ⟨#[c]⟩ := by have := (hh 1).1.1; simpa using this
  subst e0 e1
  refine (Any.stringslite_Index_one L x c w).mono ?_
  rintro e w' ⟨rfl, rfl⟩
  exact ⟨rfl, Go.RowKit.Below.refl _ _⟩
end Go.Proofs.YtconciibbhpigaaDoor.VL
