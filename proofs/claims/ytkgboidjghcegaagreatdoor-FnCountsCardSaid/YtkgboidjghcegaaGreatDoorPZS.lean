/- Proved here: small tables that are drawn; chances that grow and fall. Plain Lean. -/
import Derived.Test.YtkgboidjghcegaaGreatDoorPZT
import Derived.Test.YtkgboidjghcegaaGreatDoorBpa
set_option linter.unusedVariables false
set_option linter.unusedSimpArgs false
namespace Go.Proofs.YtkgboidjghcegaaGreatDoor.VL
open Go
/-! ### Small schemes and decks -/
def tblF : List DField := [(⟨#[107, 105, 110, 100]⟩, 0, 0, 6), (⟨#[115, 105, 122, 101]⟩, 2, 10, 1), (⟨#[97, 103, 101]⟩, 1, 20, 2), (⟨#[109, 97, 114, 107]⟩, 3, 40, 3)]
def tblN : List ByteArray := [⟨#[97, 110, 116]⟩, ⟨#[98, 101, 101]⟩, ⟨#[102, 108, 121]⟩, ⟨#[109, 111, 116, 104]⟩, ⟨#[119, 97, 115, 112]⟩, ⟨#[116, 105, 99, 107]⟩, ⟨#[109, 105, 116, 101]⟩, ⟨#[102, 108, 101, 97]⟩, ⟨#[103, 110, 97, 116]⟩, ⟨#[108, 111, 117, 115, 101]⟩]
theorem tblF_ok : ∀ f ∈ tblF, fieldOK f ∧ 2 ≤ topF f := by
  have all : ∀ f ∈ tblF, (f.1.data.toList.all fun b => decide (97 ≤ b.toNat) && decide (b.toNat ≤ 122)) = true ∧ (1 ≤ f.1.size ∧ f.1.size ≤ 16) ∧ 0 ≤ f.2.1 ∧ f.2.1 ≤ 3 ∧ 1 ≤ f.2.2.2 ∧ f.2.2.2 ≤ mostF f.2.1 ∧ 0 ≤ f.2.2.1 ∧ f.2.2.1 + widthF f ≤ 96 ∧ 2 ≤ topF f := by decide +kernel
  intro f hf
  obtain ⟨h1, h2, h3, h4, h5, h6, h7, h8, h9⟩ := all f hf
  exact ⟨⟨⟨low_all h1, h2⟩, h3, h4, h5, h6, h7, h8⟩, h9⟩
theorem tblF_all : schemeOK tblF := by
  refine ⟨by decide, fun i hi => ?_⟩
  have hg : tblF[i]? = some tblF[i] := List.getElem?_eq_getElem hi
  have m1 : ∀ i : Fin 4, meetM (jp (tblF.take i)) (partF tblF[i]) = zM := by decide +kernel
  have m2 : ∀ i k : Fin 4, k.1 < i.1 → tblF[k].1 ≠ tblF[i].1 := by decide +kernel
  have hi4 : i < 4 := hi
  refine ⟨tblF[i], hg, (tblF_ok _ (List.getElem_mem hi)).1, m1 ⟨i, hi4⟩, fun k hk => ⟨tblF[k], List.getElem?_eq_getElem (by omega), ?_⟩⟩
  rw [eqv_false_iff]
  exact m2 ⟨i, hi4⟩ ⟨k, by omega⟩ hk
theorem scheme_take {x : List DField} (h : schemeOK x) (n : Nat) : schemeOK (x.take n) := by
  have hl : (x.take n).length = min n x.length := List.length_take
  refine ⟨by have := h.1; omega, fun i hi => ?_⟩
  obtain ⟨f, h1, h2, h3, h4⟩ := h.2 i (by omega)
  refine ⟨f, by rw [List.getElem?_take_of_lt (by omega)]; exact h1, h2, ?_, fun k hk => ?_⟩
  · rw [List.take_take, Nat.min_eq_left (by omega)]; exact h3
  · obtain ⟨b, h5, h6⟩ := h4 k hk
    exact ⟨b, by rw [List.getElem?_take_of_lt (by omega)]; exact h5, h6⟩
theorem tbl_get {n i : Nat} (h : i < (tblF.take n).length) : ∃ f, (tblF.take n)[Int.toNat ((i : Nat) : Int)]? = some f ∧ fieldOK f ∧ 2 ≤ topF f := by
  obtain ⟨f, hf⟩ := getI (x := tblF.take n) (z := i) h
  exact ⟨f, hf, tblF_ok f (List.mem_of_mem_take (List.mem_of_getElem? hf))⟩
theorem tblN_get {i : Nat} (h : i < 10) : tblN[Int.toNat ((i : Nat) : Int)]? = some (tblN.getD i .empty) := by
  rw [toN, List.getD_eq_getElem?_getD, List.getElem?_eq_getElem (show i < tblN.length from h)]; rfl
theorem tblF_len (n : Nat) : (tblF.take n).length = min n 4 := List.length_take
def nmS (i : Nat) : ByteArray := tblN.getD i .empty
theorem tblN_nm {i : Nat} (h : i < 10) : tblN[Int.toNat ((i : Nat) : Int)]? = some (nmS i) := tblN_get h
def sdI (l : List DCard) : Prop := l.map (·.1) = tblN.take l.length ∧ ∀ c ∈ l, okM c.2 = true
theorem sdI_nil : sdI [] := ⟨rfl, fun c h => by cases h⟩
theorem sdI_add {l : List DCard} {c : DCard} (h : sdI l) (hl : l.length < 10) (hn : c.1 = nmS l.length) (hm : okM c.2 = true) : sdI (l ++ [c]) := by
  constructor
  · have hg := tblN_get hl
    rw [toN] at hg
    rw [List.map_append, h.1, List.length_append, List.length_singleton, List.take_add_one, hg, List.map_cons, hn]; rfl
  · intro d hd
    rcases List.mem_append.1 hd with hd | hd
    · exact h.2 d hd
    · rw [List.mem_singleton] at hd; subst hd; exact hm
theorem sdI_deck {l : List DCard} (h : sdI l) (hl : l.length ≤ 10) : deckOK l := by
  have nd : tblN.Nodup := by decide +kernel
  have all : ∀ b ∈ tblN, (b.data.toList.all fun b => decide (97 ≤ b.toNat) && decide (b.toNat ≤ 122)) = true ∧ 1 ≤ b.size ∧ b.size ≤ 16 := by decide +kernel
  refine deck_of (by omega) (fun c hc => ⟨?_, h.2 c hc⟩) ?_
  · have : c.1 ∈ tblN.take l.length := by rw [← h.1]; exact List.mem_map_of_mem hc
    have := all _ (List.mem_of_mem_take this)
    exact ⟨low_all this.1, this.2⟩
  · rw [h.1]; exact (List.take_sublist _ _).nodup nd
/-! ### Mixes -/
/-! ### Chances -/
/-! ### The least size -/
def bsOK (p w a m c : Int) : Prop := (1 ≤ p ∧ p ≤ 8) ∧ (0 ≤ w ∧ w ≤ 100) ∧ (0 ≤ a ∧ a ≤ 12) ∧ (4 ≤ m ∧ m ≤ 96) ∧ 0 ≤ c ∧ c ≤ 1000000000
instance (p w a m c : Int) : Decidable (bsOK p w a m c) := by unfold bsOK; exact inferInstance
section
variable {p w a m c s : Int} {f : Nat}
end
end Go.Proofs.YtkgboidjghcegaaGreatDoor.VL
