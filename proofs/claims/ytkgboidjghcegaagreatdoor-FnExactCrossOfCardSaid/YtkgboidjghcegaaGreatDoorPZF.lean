/- Proved here: values that go with one alone. Plain Lean. -/
import Derived.Test.YtkgboidjghcegaaGreatDoorBpa
import Derived.Test.YtkgboidjghcegaaGreatDoorVLM
set_option linter.unusedVariables false
set_option linter.unusedSimpArgs false
namespace Go.Proofs.YtkgboidjghcegaaGreatDoor.VL
open Go
/-! ### Maps -/
section
variable {f g : DField} {x : List DCard} {z : Nat} {e : DCard}
theorem mp_take (he : x[Int.toNat ((z : Nat) : Int)]? = some e) : (x.take z).map (·.2) ++ [e.2] = (x.take (z + 1)).map (·.2) := map_more (f := fun d : DCard => d.2) he
end
/-! ### Cross tables -/
def celT (c d : DCell) : Prop := c.1 < d.1 ∨ c.1 = d.1 ∧ c.2.1 < d.2.1
theorem cnt2_mem {a b : Int} : ∀ {l : List DCell} {p q : Int}, (∃ c ∈ cnt2 a b l, c.1 = p ∧ c.2.1 = q) ↔ (p = a ∧ q = b) ∨ ∃ c ∈ l, c.1 = p ∧ c.2.1 = q
  | [], p, q => by
    simp only [cnt2, List.mem_singleton, exists_eq_left, List.not_mem_nil, false_and, exists_false, or_false]
    exact ⟨fun h => ⟨h.1.symm, h.2.symm⟩, fun h => ⟨h.1.symm, h.2.symm⟩⟩
  | d :: r, p, q => by
    have ih := cnt2_mem (a := a) (b := b) (l := r) (p := p) (q := q)
    rw [cnt2]
    split
    · constructor
      · rintro ⟨c, hc, h⟩
        rcases List.mem_cons.1 hc with rfl | hc
        · exact .inr ⟨c, List.mem_cons_self .., h⟩
        · rcases ih.1 ⟨c, hc, h⟩ with h1 | ⟨c', h1, h2⟩
          · exact .inl h1
          · exact .inr ⟨c', List.mem_cons_of_mem _ h1, h2⟩
      · rintro (h | ⟨c, hc, h⟩)
        · obtain ⟨c, h1, h2⟩ := ih.2 (.inl h)
          exact ⟨c, List.mem_cons_of_mem _ h1, h2⟩
        · rcases List.mem_cons.1 hc with rfl | hc
          · exact ⟨c, List.mem_cons_self .., h⟩
          · obtain ⟨c', h1, h2⟩ := ih.2 (.inr ⟨c, hc, h⟩)
            exact ⟨c', List.mem_cons_of_mem _ h1, h2⟩
    · split
      · rename_i h0
        constructor
        · rintro ⟨c, hc, h⟩
          rcases List.mem_cons.1 hc with rfl | hc
          · exact .inl ⟨h.1.symm, h.2.symm⟩
          · exact .inr ⟨c, List.mem_cons_of_mem _ hc, h⟩
        · rintro (h | ⟨c, hc, h⟩)
          · exact ⟨_, List.mem_cons_self .., h.1.symm, h.2.symm⟩
          · rcases List.mem_cons.1 hc with rfl | hc
            · exact ⟨_, List.mem_cons_self .., by rw [← h.1]; exact h0.1.symm, by rw [← h.2]; exact h0.2.symm⟩
            · exact ⟨c, List.mem_cons_of_mem _ hc, h⟩
      · constructor
        · rintro ⟨c, hc, h⟩
          rcases List.mem_cons.1 hc with rfl | hc
          · exact .inl ⟨h.1.symm, h.2.symm⟩
          · exact .inr ⟨c, hc, h⟩
        · rintro (h | ⟨c, hc, h⟩)
          · exact ⟨_, List.mem_cons_self .., h.1.symm, h.2.symm⟩
          · exact ⟨c, List.mem_cons_of_mem _ hc, h⟩
theorem cnt2_sort {a b : Int} : ∀ {l : List DCell}, l.Pairwise celT → (cnt2 a b l).Pairwise celT
  | [], _ => by simp [cnt2]
  | d :: r, h => by
    rw [List.pairwise_cons] at h
    have ih := cnt2_sort (a := a) (b := b) h.2
    rw [cnt2]
    split
    · rename_i h0
      rw [List.pairwise_cons]
      refine ⟨fun c hc => ?_, ih⟩
      rcases cnt2_mem.1 ⟨c, hc, rfl, rfl⟩ with ⟨h1, h2⟩ | ⟨c', h1, h2, h3⟩
      · unfold celT; unfold cellL at h0; rw [h1, h2]; exact h0
      · have := h.1 c' h1
        unfold celT at this ⊢
        omega
    · split
      · rename_i h0
        rw [List.pairwise_cons]
        refine ⟨fun c hc => ?_, h.2⟩
        have := h.1 c hc
        unfold celT at this ⊢
        simp only []
        omega
      · rename_i h1 h2
        rw [List.pairwise_cons, List.pairwise_cons]
        have hd : celT (a, b, 1) d := by unfold celT; unfold cellL at h1; simp only []; omega
        refine ⟨fun c hc => ?_, h⟩
        rcases List.mem_cons.1 hc with rfl | hc
        · exact hd
        · have := h.1 c hc
          unfold celT at this hd ⊢
          simp only [] at hd ⊢
          omega
theorem crs_sort (f g : DField) (ms : List DMask) : (crs f g ms).Pairwise celT := by
  refine rev_ind (p := fun ms => (crs f g ms).Pairwise celT) (by simp [crs]) (fun l m ih => ?_) ms
  rw [crs_snoc]; exact cnt2_sort ih
/-! ### What both return -/
def fldA (s : List DField) (i : Int) : DField := s.getD i.toNat (ByteArray.empty, 0, 0, 0)
theorem fldA_get {s : List DField} {i : Int} (h : 0 ≤ i ∧ i < s.length) : s[Int.toNat i]? = some (fldA s i) := by
  rw [fldA, List.getD_eq_getElem?_getD, List.getElem?_eq_getElem (by omega)]; rfl
noncomputable def crsS (s : List DField) (x : List DCard) (i j : Int) : List DCell × Int := if tabF s x [i, j] = 0 then (crs (fldA s i) (fldA s j) (x.map (·.2)), 0) else ([], tabF s x [i, j])
section
variable {s : List DField} {x : List DCard} {i j : Int}
theorem crs_no (h : tabF s x [i, j] ≠ 0) : crsS s x i j = ([], tabF s x [i, j]) := if_neg h
theorem crs_yes (h : tabF s x [i, j] = 0) : crsS s x i j = (crs (fldA s i) (fldA s j) (x.map (·.2)), 0) := if_pos h
end
end Go.Proofs.YtkgboidjghcegaaGreatDoor.VL
