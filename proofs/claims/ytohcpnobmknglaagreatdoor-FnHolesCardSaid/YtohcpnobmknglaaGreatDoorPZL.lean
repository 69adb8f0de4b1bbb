/- Proved here: lists of words that are drawn. Plain Lean. -/
import Derived.Test.YtohcpnobmknglaaGreatDoorPZS
import Derived.Test.YtohcpnobmknglaaGreatDoorBpa
set_option linter.unusedVariables false
set_option linter.unusedSimpArgs false
namespace Go.Proofs.YtohcpnobmknglaaGreatDoor.VL
open Go
def vocL : List ByteArray := [⟨#[97, 110, 116]⟩, ⟨#[98, 101, 101]⟩, ⟨#[102, 108, 121]⟩, ⟨#[109, 111, 116, 104]⟩, ⟨#[119, 97, 115, 112]⟩, ⟨#[116, 105, 99, 107]⟩, ⟨#[109, 105, 116, 101]⟩, ⟨#[108, 111, 117, 115, 101]⟩, ⟨#[102, 108, 101, 97]⟩, ⟨#[103, 110, 97, 116]⟩, ⟨#[98, 101, 101, 116, 108, 101]⟩, ⟨#[99, 114, 105, 99, 107, 101, 116]⟩, ⟨#[108, 111, 99, 117, 115, 116]⟩, ⟨#[104, 111, 114, 110, 101, 116]⟩]
theorem voc_ok {m : Int} {s : DSrc} (h : srcI m s) : nameOK (txtD s vocL) := by
  have hg := List.mem_of_getElem? (txtD_get h (l := vocL) (by decide))
  have all : ∀ b ∈ vocL, (b.data.toList.all fun b => decide (97 ≤ b.toNat) && decide (b.toNat ≤ 122)) = true ∧ 1 ≤ b.size ∧ b.size ≤ 16 := by decide +kernel
  have := all _ hg
  exact ⟨low_all this.1, this.2⟩
theorem allL_nil {α : Type} {q : α → Prop} : allL q [] := fun i hi => by simp at hi
theorem allL_add {α : Type} {q : α → Prop} {l : List α} {a : α} (h : allL q l) (ha : q a) : allL q (l ++ [a]) := fun i hi => by
  rcases Nat.lt_or_ge i l.length with h1 | h1
  · obtain ⟨b, h2, h3⟩ := h i h1
    exact ⟨b, by rw [List.getElem?_append_left h1]; exact h2, h3⟩
  · rw [List.length_append, List.length_singleton] at hi
    have e : i = l.length := by omega
    subst e
    exact ⟨a, by simp, ha⟩
theorem words_mono {m n : Int} {l : List ByteArray} (h : wordsOK m l) (hmn : m ≤ n) : wordsOK n l := ⟨Int.le_trans h.1 hmn, h.2⟩
end Go.Proofs.YtohcpnobmknglaaGreatDoor.VL
