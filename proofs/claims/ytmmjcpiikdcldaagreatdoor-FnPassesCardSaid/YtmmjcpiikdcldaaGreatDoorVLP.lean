/- Proved here: errors that are nil or not, the least of two numbers, and the library's functions that find a byte in a text, count it, and read a number, in the words of VA..VN. General: over every program. -/
import Derived.Test.YtmmjcpiikdcldaaGreatDoorVLF
import Derived.Shelf.Strconv.ParseIntPublic10
import Derived.WideLaws
import Derived.Shelf.Strconv.ErrVarParseInt
import Derived.Stop.LaidErr
import Derived.Lib.ParseIntBTie
set_option linter.unusedVariables false
set_option linter.unusedSimpArgs false
namespace Go.Proofs.YtmmjcpiikdcldaaGreatDoor.VL
open Go Go.Sort Go.Shelf
/-- An error: whether it is nil. -/
def Kd.err : Kd Bool where
  sz := 1
  rd _ cs b := ∃ v, cs = [v] ∧ (b = true → v = .nilIface) ∧ (b = false → ∃ t u, v = .iface t u)
  len h := by obtain ⟨v, h, _⟩ := h; rw [h]; rfl
  mono _ h := h
  one h := by
    obtain ⟨v, h, h1, h2⟩ := h
    rw [h]; intro c hc
    simp at hc; subst hc
    rename_i b
    cases b with
    | true => rw [h1 rfl]; rfl
    | false => obtain ⟨t, u, e⟩ := h2 rfl; rw [e]; rfl
section
variable {C : Cx} {env : Env} {o : Oper} {p q : Operand} {d : Nat} {T T' : TypeId}
/-- '== nil' of an error. -/
theorem OpT.enil {b : Bool} (hH : Hd C o (.binOp .eql T p (.const .nilIface) T') d) (hT : C.P.underlying T = some (.interface (C.P.methodsAt T))) (hp : Opd C env p (.cel Kd.err b)) : OpT C o env (upd env d (.cel Kd.bool b)) :=
  OpT.pure hH.2.1 hH.2.2 fun s F a w hr => by
    obtain ⟨⟨v, e, h1, h2⟩, _⟩ := hp s F a w hr
    refine ⟨.bool b, ?_, ⟨rfl, fun b hb => hb⟩⟩
    simp only [List.cons.injEq, and_true] at e
    cases b with
    | true =>
      have e1 := h1 rfl
      rw [e1] at e
      have e2 : a.eval (.const .nilIface) = .nilIface := rfl
      simp [execOp, hH.1, e, e2, eqGuard, run_eql_nil_nil w T hT]
    | false =>
      obtain ⟨t, u, e1⟩ := h2 rfl
      rw [e1] at e
      have e2 : a.eval (.const .nilIface) = .nilIface := rfl
      simp [execOp, hH.1, e, e2, eqGuard, run_eql_held_nil w T t u hT]
end
/-- A function of the library's that changes nothing, and whose results are no memory of its own. -/
theorem AC.lib2 {β γ : Type} {P : Program} {f : FuncId} {fn : Func} {ins : List As} {k : Kd β} {y : β} {k2 : Kd γ} {y2 : γ} (h1 : P.funcs[f]? = some fn) (h2 : (fn.body.isNone, fn.name == "runtime.NumGoroutine") = (false, false))
    (h : ∀ (w : World) (s : Hp) (args : Array Value) (F : Nat → FS), Fz s w → Glb P s → args.size = ins.length → (∀ i, (ins.getD i .any).holds s w g0 (args.getD i undef) (F i)) →
      Calls P f args w fun e w' => ∃ v v2, e = .returned (.tuple #[v, v2]) ∧ k.rd s [v] y ∧ k2.rd s [v2] y2 ∧ Go.RowKit.Below w.heap.size w w') : AC P f ins [.cel k y, .cel k2 y2] [] := by
  simp only [Prod.mk.injEq] at h2
  refine ⟨?_, fn, h1, h2.1, h2.2⟩
  intro w s args F hfz hgl hsz hh hdj hsn
  have hc := h w s args F hfz hgl hsz hh
  refine hc.mono ?_
  rintro e w' ⟨v, v2, rfl, hv, hv2, hb⟩
  have hany : ∀ i, ([] : List As).getD i .any = .any := fun i => by simp
  refine ⟨_, s, fun _ => FS.no, fun _ => FS.no, rfl, Hp.le_refl s, fun b o h3 h4 => (by rw [h3] at h4; cases h4), fun b o hb' => ?_, ⟨hb.os, hb.tape, hb.output, hb.size, fun b hlt _ => hb.block b hlt⟩, .inr ⟨_, rfl, rfl⟩, fun j => ?_, fun i => by rw [hany]; exact fun b hb => hb,
    fun i j b hb => hb.elim, fun i j b hb => hb.elim, fun i j b hb => hb.elim, fun i b hb => hb.elim, fun i b hb => hb.elim⟩
  · rw [hb.block b (hfz.lt hb')]; exact hfz b o hb'
  · cases j with
    | zero => exact ⟨hv, fun b hb => hb⟩
    | succ j => cases j with
      | zero => exact ⟨hv2, fun b hb => hb⟩
      | succ j => simp only [List.getD_cons_succ, List.getD_nil]; exact fun b hb => hb
/-- Where the text is a number. -/
theorem AC.parse {P : Program} {ρ : Ren} {f : FuncId} {fn : Func} (L : LaysC.n174 P ρ) (hf : ρ.f 174 = f) (x : ByteArray) (v : Int) (hx : x.size ≤ 1000000000) (hv : inR .i64 v) (h : Lib.parseIntB 64 x.data.toList = .ok v) (h1 : P.funcs[f]? = some fn) (h2 : (fn.body.isNone, fn.name == "runtime.NumGoroutine") = (false, false)) :
    AC P f [.cel Kd.str x, .cel (Kd.int .i64) 10, .cel (Kd.int .i64) 64] [.cel (Kd.int .i64) v, .cel Kd.err true] [] := by
  subst hf
  refine AC.lib2 h1 h2 fun w s args F hfz _ hsz hh => ?_
  obtain ⟨v0, v1, v2, rfl⟩ := arg3 hsz
  have e0 : v0 = .string x := by have := (hh 0).1.1; simpa using this
  have e1 : v1 = .int .i64 10 := by have := (hh 1).1.1; simpa using this
  have e2 : v2 = .int .i64 64 := by have := (hh 2).1.1; simpa using this
  subst e0 e1 e2
  refine (Any.strconv_ParseInt_10_at64_ok L x (by omega) v h w).mono ?_
  rintro e w' ⟨rfl, hw⟩
  refine ⟨_, _, rfl, ⟨rfl, hv⟩, ⟨_, rfl, fun _ => rfl, fun e => by cases e⟩, ?_⟩
  rcases hw with rfl | ⟨t, rfl⟩
  · exact Go.RowKit.Below.refl _ _
  · exact ⟨rfl, rfl, rfl, by rw [Lib.bytesWorld_size]; omega, fun k hk => Lib.bytesWorld_at_old w _ _ k (by omega)⟩
theorem star_err : "*" ++ "errors.errorString" = "*errors.errorString" := by decide
theorem var_heap {P : Program} {W : World} {n : String} {g : Nat} {v : Value} (hg : P.globalNamed n = some g) (h : W.var? P n = some #[v]) : ∃ E f, hpOf W g = some (.cells #[v] E f) := by
  unfold World.var? at h
  rw [hg] at h
  simp only [Option.bind_some] at h
  split at h
  · rename_i cs E f hw
    injection h with h
    exact ⟨E, f, by rw [← h]; exact hw⟩
  · cases h
/-- What a row tells of the two errors. -/
theorem glbe_of_laid {P : Program} {W : World} {L : List (String × DataW Unit)} {g1 g2 : Nat} {ti tp te ts : TypeId} {ms : Array (String × TypeId)} {f : Field} {t1 t2 : List UInt8} (hL : laidMetH P L W)
    (hf1 : L.filter (fun x => x.1 == "strconv.ErrSyntax") = [("strconv.ErrSyntax", .iface "*errors.errorString" (.ptr (.agg [.lit (.string t1)])))])
    (hf2 : L.filter (fun x => x.1 == "strconv.ErrRange") = [("strconv.ErrRange", .iface "*errors.errorString" (.ptr (.agg [.lit (.string t2)])))])
    (hg1 : P.globalNamed "strconv.ErrSyntax" = some g1) (hg2 : P.globalNamed "strconv.ErrRange" = some g2) (ht1 : (P.globals[g1]?).map (·.type) = some ti) (ht2 : (P.globals[g2]?).map (·.type) = some ti)
    (hi : P.underlying ti = some (.interface ms)) (hrow : ∀ u, P.typeName? 3 u = some "*errors.errorString" → u = tp)
    (hp : P.underlying tp = some (.pointer te)) (he : P.underlying te = some (.struct #[f])) (hft : f.type = ts) (hfo : f.offset = 0) (hs : P.underlying ts = some .string) (hc : P.cellsOf te = 1) (hcs : P.cellsOf ts = 1) : GlbE P (hpOf W) := by
  intro _ nm hn g hg
  rcases hn with rfl | rfl
  · have h1 := hL.filter (fun x => x.1 == "strconv.ErrSyntax")
    rw [hf1, MakeChecks.laidMetH_plain _ _ _ rfl] at h1
    obtain ⟨a, s, hv, _⟩ := laid_sentinel h1 hg1 ht1 hi hrow hp he hft hfo hs hc hcs
    obtain ⟨E, fr, h2⟩ := var_heap hg hv
    exact ⟨_, _, E, fr, h2⟩
  · have h1 := hL.filter (fun x => x.1 == "strconv.ErrRange")
    rw [hf2, MakeChecks.laidMetH_plain _ _ _ rfl] at h1
    obtain ⟨a, s, hv, _⟩ := laid_sentinel h1 hg2 ht2 hi hrow hp he hft hfo hs hc hcs
    obtain ⟨E, fr, h2⟩ := var_heap hg hv
    exact ⟨_, _, E, fr, h2⟩
def numV (w : ByteArray) : Int := match Lib.parseIntB 64 w.data.toList with
  | .ok v => v
  | .range => Lib.intSat 64 w.data.toList
  | _ => 0
def numE (w : ByteArray) : Bool := match Lib.parseIntB 64 w.data.toList with
  | .ok _ => true
  | _ => false
end Go.Proofs.YtmmjcpiikdcldaaGreatDoor.VL
