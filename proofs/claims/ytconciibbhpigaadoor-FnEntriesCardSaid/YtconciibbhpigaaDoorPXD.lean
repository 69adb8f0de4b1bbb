/- Proved here: decks of cards in text, and passes of needles. Plain Lean. -/
import Derived.Test.YtconciibbhpigaaDoorPXN
import Derived.Test.YtconciibbhpigaaDoorPZK
set_option linter.unusedVariables false
set_option linter.unusedSimpArgs false
namespace Go.Proofs.YtconciibbhpigaaDoor.VL
open Go
/-! ### Decks in text -/
/-! ### Lines that are joined -/
def jnL : List ByteArray → ByteArray
  | [] => .empty
  | [a] => a
  | a :: b :: l => a ++ (bnl ++ jnL (b :: l))
theorem spl_jn : ∀ {l : List ByteArray}, l ≠ [] → (∀ a ∈ l, (10 : UInt8) ∉ bL a) → splB 10 (jnL l) = l
  | [], h, _ => absurd rfl h
  | [a], _, h => splF_one (h a (by simp))
  | a :: b :: l, _, h => by
    have h1 := spl_cons (c := 10) (x := a) (y := jnL (b :: l)) (h a (by simp))
    rw [show (⟨#[10]⟩ : ByteArray) = bnl from rfl] at h1
    rw [jnL, h1, spl_jn (by simp) (fun c hc => h c (by simp [hc]))]
theorem fold_jn (f : ByteArray → ByteArray → ByteArray) (hf : ∀ t a, f t a = t ++ (a ++ bnl)) : ∀ (l : List ByteArray) (a s : ByteArray), (a :: l).foldl f s = s ++ (jnL (a :: l) ++ bnl)
  | [], a, s => by rw [List.foldl_cons, List.foldl_nil, hf]; rfl
  | b :: l, a, s => by
    rw [List.foldl_cons, fold_jn f hf l b, hf, jnL]
    simp only [ByteArray.append_assoc]
theorem emp_app (x : ByteArray) : ByteArray.empty ++ x = x := by simp
/-- The lines of a text of lines. -/
theorem lin_fold {f : ByteArray → ByteArray → ByteArray} (hf : ∀ t a, f t a = t ++ (a ++ bnl)) {l : List ByteArray} (h : ∀ a ∈ l, (10 : UInt8) ∉ bL a) : linS (l.foldl f .empty) = (l, true) := by
  cases l with
  | nil => exact lin_nil rfl
  | cons a l =>
    rw [fold_jn f hf l a, emp_app]
    have h1 := end_app 10 (jnL (a :: l))
    rw [show (⟨#[10]⟩ : ByteArray) = bnl from rfl] at h1
    have h0 : ¬ jnL (a :: l) ++ bnl = .empty := fun e => by
      have := congrArg ByteArray.size e
      rw [ByteArray.size_append] at this
      have h5 : bnl.size = 1 := rfl
      have h6 : ByteArray.empty.size = 0 := rfl
      omega
    rw [lin_yes h0, h1.1, h1.2, spl_jn (by simp) h]
/-! ### Passes -/
theorem atS_rng {l : List Int} {i n : Int} (h : ∀ b ∈ l, 0 ≤ b ∧ b ≤ 255) (hi : 0 ≤ i) (hn : 1 ≤ n) : 0 ≤ atS l i n ∧ atS l i n < n := by
  unfold atS
  split
  · omega
  · rename_i h1
    have hl : i.toNat < l.length := by omega
    rw [List.getD_eq_getElem?_getD, List.getElem?_eq_getElem hl]
    have h2 := h _ (List.getElem_mem hl)
    exact tmod_lt' h2.1 (by omega)
end Go.Proofs.YtconciibbhpigaaDoor.VL
