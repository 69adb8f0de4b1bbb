/- Proved here: strings.Join and strconv.FormatInt, out of the kit's shelf, in the words of VA..VN. General: over every program. -/
import Derived.Test.YtconciibbhpigaaDoorBvb
import Derived.Test.YtconciibbhpigaaDoorBpa
import Derived.LaidSub
import Derived.MakeChecks
import Derived.Lib.LaidTab
import Derived.Shelf.Strings.OnBuilder
import Derived.Shelf.Strconv.Itoa4
set_option linter.unusedVariables false
set_option linter.unusedSimpArgs false
namespace Go.Proofs.YtconciibbhpigaaDoor.VL
open Go Go.Sort Go.Shelf
/-- A function of the library's that changes nothing, and whose result is no memory of its own. -/
theorem AC.lib {β : Type} {P : Program} {f : FuncId} {fn : Func} {ins : List As} {k : Kd β} {y : β} (h1 : P.funcs[f]? = some fn) (h2 : (fn.body.isNone, fn.name == "runtime.NumGoroutine") = (false, false))
    (h : ∀ (w : World) (s : Hp) (args : Array Value) (F : Nat → FS), Fz s w → Glb P s → args.size = ins.length → (∀ i, (ins.getD i .any).holds s w g0 (args.getD i undef) (F i)) →
      ∃ v, k.rd s [v] y ∧ Calls P f args w fun e w' => e = .returned v ∧ Go.RowKit.Below w.heap.size w w') : AC P f ins [.cel k y] [] := by
  simp only [Prod.mk.injEq] at h2
  refine ⟨?_, fn, h1, h2.1, h2.2⟩
  intro w s args F hfz hgl hsz hh hdj hsn
  obtain ⟨v, hv, hc⟩ := h w s args F hfz hgl hsz hh
  refine hc.mono ?_
  rintro e w' ⟨rfl, hb⟩
  have hany : ∀ i, ([] : List As).getD i .any = .any := fun i => by simp
  refine ⟨v, s, fun _ => FS.no, fun _ => FS.no, rfl, Hp.le_refl s, fun b o h3 h4 => (by rw [h3] at h4; cases h4), fun b o hb' => ?_, ⟨hb.os, hb.tape, hb.output, hb.size, fun b hlt _ => hb.block b hlt⟩, .inl rfl, fun j => ?_, fun i => by rw [hany]; exact fun b hb => hb,
    fun i j b hb => hb.elim, fun i j b hb => hb.elim, fun i j b hb => hb.elim, fun i b hb => hb.elim, fun i b hb => hb.elim⟩
  · rw [hb.block b (hfz.lt hb')]; exact hfz b o hb'
  · cases j with
    | zero => exact ⟨hv, fun b hb => hb⟩
    | succ j => simp only [List.getD_cons_succ, List.getD_nil]; exact fun b hb => hb
end Go.Proofs.YtconciibbhpigaaDoor.VL
