/- Proved here: strings.Join and strconv.FormatInt, out of the kit's shelf, in the words of VA..VN. General: over every program. -/
import Derived.Test.YtmmjcpiikdcldaaGreatDoorBvb
import Derived.Test.YtmmjcpiikdcldaaGreatDoorBpa
import Derived.LaidSub
import Derived.MakeChecks
import Derived.Lib.LaidTab
import Derived.Shelf.Strings.OnBuilder
import Derived.Shelf.Strconv.Itoa4
set_option linter.unusedVariables false
set_option linter.unusedSimpArgs false
namespace Go.Proofs.YtmmjcpiikdcldaaGreatDoor.VL
open Go Go.Sort Go.Shelf
/-- A function of the library's that changes nothing, and whose result is no memory of its own. -/
theorem AC.lib {β : Type} {P : Program} {f : FuncId} {fn : Func} {ins : List As} {k : Kd β} {y : β} (h1 : P.funcs[f]? = some fn) (h2 : (fn.body.isNone, fn.name == "runtime.NumGoroutine") = (false, false))
    (h : ∀ (w : World) (s : Hp) (args : Array Value) (F : Nat → FS), Fz s w → Glb P s → args.size = ins.length → (∀ i, (ins.getD i .any).holds s w g0 (args.getD i undef) (F i)) →
      ∃ v, k.rd s [v] y ∧ Calls P f args w fun e w' => e = .returned v ∧ Go.RowKit.Below w.heap.size w w') : AC P f ins [.cel k y] [] := by
  simp only [Prod.mk.injEq] at h2
  refine ⟨?_, fn, h1, h2.1, h2.2⟩
  intro w s args F hfz hgl hsz hh hdj hsn
  obtain ⟨v, hv, hc⟩ := h w s args F hfz hgl hsz hh
  refine hc.mono ?_
  rintro e w' ⟨rfl, hb⟩
  have hany : ∀ i, ([] : List As).getD i .any = .any := fun i => by simp
  refine ⟨v, s, fun _ => FS.no, fun _ => FS.no, rfl, Hp.le_refl s, fun b o h3 h4 => (by rw [h3] at h4; cases h4), fun b o hb' => ?_, ⟨hb.os, hb.tape, hb.output, hb.size, fun b hlt _ => hb.block b hlt⟩, .inl rfl, fun j => ?_, fun i => by rw [hany]; exact fun b hb => hb,
    fun i j b hb => hb.elim, fun i j b hb => hb.elim, fun i j b hb => hb.elim, fun i b hb => hb.elim, fun i b hb => hb.elim⟩
  · rw [hb.block b (hfz.lt hb')]; exact hfz b o hb'
  · cases j with
    | zero => exact ⟨hv, fun b hb => hb⟩
    | succ j => simp only [List.getD_cons_succ, List.getD_nil]; exact fun b hb => hb
theorem dec_digits : ∀ n : Nat, (⟨(Lib.decDigits n).toArray⟩ : ByteArray) = decB n := fun n => by
  induction n using Nat.strongRecOn with
  | _ n ih =>
    have hb : ∀ m : Nat, bOf [48 + (m : Int).tmod 10] = ⟨#[UInt8.ofNat (48 + m % 10)]⟩ := fun m => by
      have e : (m : Int).tmod 10 = ((m % 10 : Nat) : Int) := by rw [Int.tmod_eq_emod_of_nonneg (Int.natCast_nonneg m)]; rfl
      rw [e]
      simp only [bOf, List.map_cons, List.map_nil]
      congr 2
    rw [Lib.decDigits]
    by_cases h : n < 10
    · rw [dif_pos h, ← decB_lt h, hb, Nat.mod_eq_of_lt h]
    · rw [dif_neg h, ← decB_ge h, ← ih (n / 10) (by omega), hb]
      apply ByteArray.ext
      simp
def fmtB (n : Int) : ByteArray := ⟨(Lib.itoa n).toArray⟩
theorem fmtB_pos {n : Int} (h : 0 ≤ n) : fmtB n = decB n.toNat := by
  rw [fmtB, Lib.itoa, if_neg (by omega), dec_digits]
/-- What a row tells of the table. -/
theorem glb_of_laid {P : Program} {W : World} {L : List (String × DataW Unit)} {g : Nat} {t e : TypeId} (hL : laidMetH P L W)
    (hf : L.filter (fun x => x.1 == "internal/strconv.uint64pow10") = [("internal/strconv.uint64pow10", Lib.tabData .u64 Lib.pow10Tab)])
    (hg : P.globalNamed "internal/strconv.uint64pow10" = some g) (hty : (P.globals[g]?).map (·.type) = some t) (ht : P.underlying t = some (.array 20 e)) (he : P.underlying e = some (.int .u64)) (hce : P.cellsOf e = 1) (hct : P.cellsOf t = 20) : GlbT P (hpOf W) := by
  have h1 := hL.filter (fun x => x.1 == "internal/strconv.uint64pow10")
  rw [hf, MakeChecks.laidMetH_plain _ _ _ rfl] at h1
  have h2 := Lib.tabIs_of_head hg hty ht he hce hct h1
  intro _ g' hg'
  obtain rfl := Option.some.inj (hg.symm.trans hg')
  unfold Lib.TabIs World.var? at h2
  rw [hg] at h2
  simp only [Option.bind_some] at h2
  split at h2
  · rename_i cs E f hw
    injection h2 with h2
    exact ⟨cs, E, f, hw, by rw [h2]; rfl⟩
  · cases h2
end Go.Proofs.YtmmjcpiikdcldaaGreatDoor.VL
