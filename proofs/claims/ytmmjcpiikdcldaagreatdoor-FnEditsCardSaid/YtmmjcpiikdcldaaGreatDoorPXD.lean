/- Proved here: decks of cards in text, and passes of needles. Plain Lean. -/
import Derived.Test.YtmmjcpiikdcldaaGreatDoorPXN
import Derived.Test.YtmmjcpiikdcldaaGreatDoorPZK
set_option linter.unusedVariables false
set_option linter.unusedSimpArgs false
namespace Go.Proofs.YtmmjcpiikdcldaaGreatDoor.VL
open Go
/-! ### Decks in text -/
theorem lin_len (x : ByteArray) : (linS x).1.length ≤ x.size + 1 := by
  rw [linS]
  split
  · simp
  · have h1 := splB_len 10 (cutB 10 x)
    have h2 := cnB_le 10 (cutB 10 x)
    have h3 := cut_le 10 x
    show (splB 10 (cutB 10 x)).length ≤ _
    omega
theorem lin_size {x l : ByteArray} (h : l ∈ (linS x).1) : l.size ≤ x.size := by
  rw [linS] at h
  split at h
  · cases h
  · have h1 := splB_size (c := 10) (x := cutB 10 x) h
    have h3 := cut_le 10 x
    omega
/-! ### Lines that are joined -/
def jnL : List ByteArray → ByteArray
  | [] => .empty
  | [a] => a
  | a :: b :: l => a ++ (bnl ++ jnL (b :: l))
theorem spl_jn : ∀ {l : List ByteArray}, l ≠ [] → (∀ a ∈ l, (10 : UInt8) ∉ bL a) → splB 10 (jnL l) = l
  | [], h, _ => absurd rfl h
  | [a], _, h => splF_one (h a (by simp))
  | a :: b :: l, _, h => by
    have h1 := spl_cons (c := 10) (x := a) (y := jnL (b :: l)) (h a (by simp))
    rw [show (⟨#[10]⟩ : ByteArray) = bnl from rfl] at h1
    rw [jnL, h1, spl_jn (by simp) (fun c hc => h c (by simp [hc]))]
theorem fold_jn (f : ByteArray → ByteArray → ByteArray) (hf : ∀ t a, f t a = t ++ (a ++ bnl)) : ∀ (l : List ByteArray) (a s : ByteArray), (a :: l).foldl f s = s ++ (jnL (a :: l) ++ bnl)
  | [], a, s => by rw [List.foldl_cons, List.foldl_nil, hf]; rfl
  | b :: l, a, s => by
    rw [List.foldl_cons, fold_jn f hf l b, hf, jnL]
    simp only [ByteArray.append_assoc]
theorem emp_app (x : ByteArray) : ByteArray.empty ++ x = x := by simp
/-- The lines of a text of lines. -/
theorem lin_fold {f : ByteArray → ByteArray → ByteArray} (hf : ∀ t a, f t a = t ++ (a ++ bnl)) {l : List ByteArray} (h : ∀ a ∈ l, (10 : UInt8) ∉ bL a) : linS (l.foldl f .empty) = (l, true) := by
  cases l with
  | nil => exact lin_nil rfl
  | cons a l =>
    rw [fold_jn f hf l a, emp_app]
    have h1 := end_app 10 (jnL (a :: l))
    rw [show (⟨#[10]⟩ : ByteArray) = bnl from rfl] at h1
    have h0 : ¬ jnL (a :: l) ++ bnl = .empty := fun e => by
      have := congrArg ByteArray.size e
      rw [ByteArray.size_append] at this
      have h5 : bnl.size = 1 := rfl
      have h6 : ByteArray.empty.size = 0 := rfl
      omega
    rw [lin_yes h0, h1.1, h1.2, spl_jn (by simp) h]
theorem rt_no (l : List Int) (hl : ∀ a ∈ l, 0 ≤ a ∧ a < 96) : (10 : UInt8) ∉ bL (rtT l) := by
  induction l with
  | nil => simp [rtT, bL]
  | cons a l ih =>
    have ha := hl a (by simp)
    show (10 : UInt8) ∉ bL (bsp ++ (decB a.toNat ++ rtT l))
    rw [bL_app, bL_app]
    intro h
    rw [List.mem_append, List.mem_append] at h
    rcases h with h | h | h
    · revert h; decide
    · exact dec_no (n := a.toNat) (by omega) (c := 10) (by decide) h
    · exact ih (fun b hb => hl b (by simp [hb])) h
theorem cdT_no {c : DCard} (h : nameOK c.1) : (10 : UInt8) ∉ bL (cdT c) := by
  rw [cdT, fold_rt, bL_app]
  intro h1
  rw [List.mem_append] at h1
  rcases h1 with h1 | h1
  · exact low_no h.1 (c := 10) (by decide) h1
  · exact rt_no _ (fun a ha => by have := hol_mem ha; omega) h1
/-! ### Passes -/
end Go.Proofs.YtmmjcpiikdcldaaGreatDoor.VL
