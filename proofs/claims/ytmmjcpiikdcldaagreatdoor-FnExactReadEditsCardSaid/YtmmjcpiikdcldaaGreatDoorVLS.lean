/- Proved here: strings.Join and strconv.FormatInt, out of the kit's shelf, in the words of VA..VN. General: over every program. -/
import Derived.Test.YtmmjcpiikdcldaaGreatDoorBvb
import Derived.Test.YtmmjcpiikdcldaaGreatDoorBpa
import Derived.LaidSub
import Derived.MakeChecks
import Derived.Lib.LaidTab
import Derived.Shelf.Strings.OnBuilder
import Derived.Shelf.Strconv.Itoa4
set_option linter.unusedVariables false
set_option linter.unusedSimpArgs false
namespace Go.Proofs.YtmmjcpiikdcldaaGreatDoor.VL
open Go Go.Sort Go.Shelf
/-- A function of the library's that changes nothing, and whose result is no memory of its own. -/
theorem AC.lib {β : Type} {P : Program} {f : FuncId} {fn : Func} {ins : List As} {k : Kd β} {y : β} (h1 : P.funcs[f]? = some fn) (h2 : (fn.body.isNone, fn.name == "runtime.NumGoroutine") = (false, false))
    (h : ∀ (w : World) (s : Hp) (args : Array Value) (F : Nat → FS), Fz s w → Glb P s → args.size = ins.length → (∀ i, (ins.getD i .any).holds s w g0 (args.getD i undef) (F i)) →
      ∃ v, k.rd s [v] y ∧ Calls P f args w fun e w' => e = .returned v ∧ Go.RowKit.Below w.heap.size w w') : AC P f ins [.cel k y] [] := by
  simp only [Prod.mk.injEq] at h2
  refine ⟨?_, fn, h1, h2.1, h2.2⟩
  intro w s args F hfz hgl hsz hh hdj hsn
  obtain ⟨v, hv, hc⟩ := h w s args F hfz hgl hsz hh
  refine hc.mono ?_
  rintro e w' ⟨rfl, hb⟩
  have hany : ∀ i, ([] : List As).getD i .any = .any := fun i => by simp
  refine ⟨v, s, fun _ => FS.no, fun _ => FS.no, rfl, Hp.le_refl s, fun b o h3 h4 => (by rw [h3] at h4; cases h4), fun b o hb' => ?_, ⟨hb.os, hb.tape, hb.output, hb.size, fun b hlt _ => hb.block b hlt⟩, .inl rfl, fun j => ?_, fun i => by rw [hany]; exact fun b hb => hb,
    fun i j b hb => hb.elim, fun i j b hb => hb.elim, fun i j b hb => hb.elim, fun i b hb => hb.elim, fun i b hb => hb.elim⟩
  · rw [hb.block b (hfz.lt hb')]; exact hfz b o hb'
  · cases j with
    | zero => exact ⟨hv, fun b hb => hb⟩
    | succ j => simp only [List.getD_cons_succ, List.getD_nil]; exact fun b hb => hb
theorem dec_digits : ∀ n : Nat, (⟨(Lib.decDigits n).toArray⟩ : ByteArray) = decB n := fun n => by
  induction n using Nat.strongRecOn with
  | _ n ih =>
    have hb : ∀ m : Nat, bOf [48 + (m : Int).tmod 10] = ⟨#[UInt8.ofNat (48 + m % 10)]⟩ := fun m => by
      have e : (m : Int).tmod 10 = ((m % 10 : Nat) : Int) := by rw [Int.tmod_eq_emod_of_nonneg (Int.natCast_nonneg m)]; rfl
      rw [e]
      simp only [bOf, List.map_cons, List.map_nil]
      congr 2
    rw [Lib.decDigits]
    by_cases h : n < 10
    · rw [dif_pos h, ← decB_lt h, hb, Nat.mod_eq_of_lt h]
    · rw [dif_neg h, ← decB_ge h, ← ih (n / 10) (by omega), hb]
      apply ByteArray.ext
      simp
def fmtB (n : Int) : ByteArray := ⟨(Lib.itoa n).toArray⟩
theorem fmtB_pos {n : Int} (h : 0 ≤ n) : fmtB n = decB n.toNat := by
  rw [fmtB, Lib.itoa, if_neg (by omega), dec_digits]
theorem decB_max : ∀ (d n : Nat), n < 10 ^ (d + 1) → (decB n).size ≤ d + 1
  | 0, n, h => by
    have h : n < 10 := by simpa using h
    rw [← decB_lt h, bOf_one']; exact Nat.le_refl _
  | d + 1, n, h => by
    by_cases h1 : n < 10
    · rw [← decB_lt h1, bOf_one']; omega
    · have := decB_max d (n / 10) (by rw [Nat.div_lt_iff_lt_mul (by decide)]; rw [Nat.pow_succ] at h; exact h)
      rw [← decB_ge h1, ByteArray.size_append, bOf_one']; omega
theorem decB_19 {n : Nat} (h : n ≤ 9223372036854775807) : (decB n).size ≤ 19 := decB_max 18 n (by omega)
theorem fmtB_size {n : Int} (h : -9223372036854775808 ≤ n ∧ n ≤ 9223372036854775807) : (fmtB n).size ≤ 20 := by
  by_cases h0 : 0 ≤ n
  · rw [fmtB_pos h0]; have := decB_19 (n := n.toNat) (by omega); omega
  · have e : fmtB n = ⟨(45 :: Lib.decDigits n.natAbs).toArray⟩ := by rw [fmtB, Lib.itoa, if_pos (by omega)]
    have h1 := decB_max 18 n.natAbs (by omega)
    rw [← dec_digits] at h1
    have h2 : (Lib.decDigits n.natAbs).length ≤ 19 := by
      have h3 : (⟨(Lib.decDigits n.natAbs).toArray⟩ : ByteArray).size = (Lib.decDigits n.natAbs).length := by show Array.size _ = _; simp
      omega
    rw [e]
    show Array.size _ ≤ 20
    simp only [List.size_toArray, List.length_cons]
    omega
theorem AC.fmt (hon : True) {P : Program} {ρ : Ren} {f : FuncId} {fn : Func} {g : Nat} (L : LaysM.n173 P ρ) (hf : ρ.f 173 = f) (hg : P.globalNamed "internal/strconv.uint64pow10" = some g) (n : Int)
    (h1 : P.funcs[f]? = some fn) (h2 : (fn.body.isNone, fn.name == "runtime.NumGoroutine") = (false, false)) : AC P f [.cel (Kd.int .i64) n, .cel (Kd.int .i64) 10] [.cel Kd.str (fmtB n)] [] := by
  subst hf
  by_cases hin : inR .i64 n
  · refine AC.lib h1 h2 fun w s args F hfz hgl hsz hh => ⟨.string (fmtB n), ⟨rfl, by have := fmtB_size hin; omega⟩, ?_⟩
    obtain ⟨v0, v1, rfl⟩ : ∃ v0 v1, args = #[v0, v1] := by
      have : args.size = 2 := hsz
      refine ⟨args[0], args[1], ?_⟩
      apply Array.ext
      · simp [this]
      · intro i h1 h2
        have h3 : i = 0 ∨ i = 1 := by simp at h2; omega
        rcases h3 with h3 | h3 <;> subst h3 <;> rfl
    have e0 : v0 = .int .i64 n := by have := (hh 0).1.1; simpa using this
    have e1 : v1 = .int .i64 10 := by have := (hh 1).1.1; simpa using this
    subst e0 e1
    obtain ⟨cs, E, fr, hs, hcs⟩ := hgl.1 hon g hg
    have htab : Lib.TabIs P w "internal/strconv.uint64pow10" .u64 Lib.pow10Tab := by
      unfold Lib.TabIs World.var?
      rw [hg]
      simp only [Option.bind_some, hfz _ _ hs]
      congr 1
      apply Array.toList_inj.1
      rw [hcs]
      rfl
    refine (Any.strconv_FormatInt_10 L n hin.1 hin.2 w htab).mono ?_
    rintro e w' ⟨rfl, q, os, rfl⟩
    exact ⟨rfl, rfl, rfl, rfl, by simp [World.drewN], fun b hb => heap_grow_old _ _ hb⟩
  · refine AC.lib h1 h2 fun w s args F hfz hgl hsz hh => absurd ?_ hin
    exact (hh 0).1.2
/-- What a row tells of the table. -/
theorem glb_of_laid {P : Program} {W : World} {L : List (String × DataW Unit)} {g : Nat} {t e : TypeId} (hL : laidMetH P L W)
    (hf : L.filter (fun x => x.1 == "internal/strconv.uint64pow10") = [("internal/strconv.uint64pow10", Lib.tabData .u64 Lib.pow10Tab)])
    (hg : P.globalNamed "internal/strconv.uint64pow10" = some g) (hty : (P.globals[g]?).map (·.type) = some t) (ht : P.underlying t = some (.array 20 e)) (he : P.underlying e = some (.int .u64)) (hce : P.cellsOf e = 1) (hct : P.cellsOf t = 20) : GlbT P (hpOf W) := by
  have h1 := hL.filter (fun x => x.1 == "internal/strconv.uint64pow10")
  rw [hf, MakeChecks.laidMetH_plain _ _ _ rfl] at h1
  have h2 := Lib.tabIs_of_head hg hty ht he hce hct h1
  intro _ g' hg'
  obtain rfl := Option.some.inj (hg.symm.trans hg')
  unfold Lib.TabIs World.var? at h2
  rw [hg] at h2
  simp only [Option.bind_some] at h2
  split at h2
  · rename_i cs E f hw
    injection h2 with h2
    exact ⟨cs, E, f, hw, by rw [h2]; rfl⟩
  · cases h2
end Go.Proofs.YtmmjcpiikdcldaaGreatDoor.VL
