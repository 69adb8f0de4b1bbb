/- Proved here: decks that are changed a little; what the law of all says. Plain Lean. -/
import Derived.Test.YtmmjcpiikdcldaaGreatDoorPZK
import Derived.Test.YtmmjcpiikdcldaaGreatDoorPZN
set_option linter.unusedVariables false
set_option linter.unusedSimpArgs false
namespace Go.Proofs.YtmmjcpiikdcldaaGreatDoor.VL
open Go
/-! ### Small changes -/
def oneM (a b : DMask) : Prop := (hol (lessM a b) 96).length + (hol (lessM b a) 96).length ≤ 1
theorem hol_nil {m : DMask} (h : ∀ i, i < 128 → bitB m i = false) : hol m 96 = [] := by
  cases e : hol m 96 with
  | nil => rfl
  | cons a l =>
    have := hol_in.1 (show a ∈ hol m 96 by rw [e]; simp)
    rw [h _ (by omega)] at this
    exact absurd this.2.2 (by decide)
theorem hol_le {m : DMask} {h : Int} (hm : ∀ i : Nat, i < 128 → bitB m i = true → (i : Int) = h) : (hol m 96).length ≤ 1 := by
  have h1 : ∀ a ∈ hol m 96, a = h := fun a ha => by
    have h2 := hol_in.1 ha
    have := hm a.toNat (by omega) h2.2.2
    omega
  have h3 := hol_nodup m
  match e : hol m 96 with
  | [] => simp
  | [a] => simp
  | a :: b :: l =>
    rw [e] at h3 h1
    have h4 := h1 a (by simp)
    have h5 := h1 b (by simp)
    rw [h4, h5, List.nodup_cons] at h3
    exact absurd (List.mem_cons_self ..) h3.1
theorem one_self (a : DMask) : oneM a a := by
  unfold oneM
  rw [hol_nil fun i hi => by rw [bit_less _ _ hi]; simp]; simp
theorem one_join (a : DMask) {h : Int} (hh : 0 ≤ h ∧ h < 96) : oneM a (joinM a (bitM h)) := by
  unfold oneM
  rw [hol_nil (m := lessM a (joinM a (bitM h))) fun i hi => by rw [bit_less _ _ hi, bit_join]; cases bitB a i <;> simp]
  have := hol_le (m := lessM (joinM a (bitM h)) a) (h := h) fun i hi hb => by
    rw [bit_less _ _ hi, bit_join, bit_i hh hi] at hb
    cases ha : bitB a i <;> simp [ha] at hb
    exact hb
  simp only [List.length_nil]; omega
theorem one_less (a : DMask) {h : Int} (hh : 0 ≤ h ∧ h < 96) : oneM a (lessM a (bitM h)) := by
  unfold oneM
  rw [hol_nil (m := lessM (lessM a (bitM h)) a) fun i hi => by rw [bit_less _ _ hi, bit_less _ _ hi]; cases bitB a i <;> simp]
  have := hol_le (m := lessM a (lessM a (bitM h))) (h := h) fun i hi hb => by
    rw [bit_less _ _ hi, bit_less _ _ hi, bit_i hh hi] at hb
    cases ha : bitB a i <;> simp [ha] at hb
    exact hb
  simp only [List.length_nil]; omega
def nearA (y r : List DCard) : Prop := ∀ c ∈ r, ∃ e ∈ y, e.1 = c.1 ∧ oneM e.2 c.2
theorem nearA_nil (y : List DCard) : nearA y [] := fun c h => by cases h
theorem nearA_add {y r : List DCard} {e : DCard} {z : Nat} {m : DMask} (h : nearA y r) (he : y[Int.toNat ((z : Nat) : Int)]? = some e) (hm : oneM e.2 m) : nearA y (r ++ [(e.1, m)]) := fun c hc => by
  rcases List.mem_append.1 hc with hc | hc
  · exact h c hc
  · rw [List.mem_singleton] at hc; subst hc
    exact ⟨e, List.mem_of_getElem? he, rfl, hm⟩
theorem flat_le {α β : Type} {f : α → List β} {n : Nat} : ∀ x : List α, (∀ a ∈ x, (f a).length ≤ n) → (x.flatMap f).length ≤ n * x.length
  | [], _ => by simp
  | a :: x, h => by
    rw [List.flatMap_cons, List.length_append, List.length_cons, Nat.mul_succ]
    have h1 := flat_le x fun b hb => h b (by simp [hb])
    have h2 := h a (by simp)
    omega
theorem near_betw {y r n : List DCard} (hy : deckOK y) (hr : deckOK (r ++ n)) (h : nearA y r) (hx : ∀ c ∈ n, ∀ e ∈ y, e.1 ≠ c.1) : (betw y (r ++ n)).length ≤ y.length + n.length := by
  have hf : ((r ++ n).filter (btN y)).length ≤ n.length := by
    rw [List.filter_append, List.length_append]
    have h1 : r.filter (btN y) = [] := by
      rw [List.filter_eq_nil_iff]
      intro c hc
      obtain ⟨e, he, hn, _⟩ := h c hc
      unfold btN
      rw [decide_eq_true_eq]
      exact fun h2 => findC_neg.1 h2 e he hn
    have h2 := List.length_filter_le (btN y) n
    rw [h1]; simp; exact h2
  rw [betw, List.length_append, List.length_map]
  have h1 := flat_le (f := btA (r ++ n)) (n := 1) y fun e he => by
    by_cases h2 : findC e.1 (r ++ n) < 0
    · rw [btA_no h2]; simp
    · obtain ⟨d, h3, h4, _⟩ := findC_of (s := e.1) (y := r ++ n) (by omega)
      rw [btA_yes h2 h3, List.length_append, List.length_map, List.length_map]
      have hd := List.mem_of_getElem? h3
      rcases List.mem_append.1 hd with hd | hd
      · obtain ⟨e', he', hn', ho⟩ := h d hd
        have : e' = e := by
          obtain ⟨i, hi⟩ := List.mem_iff_getElem?.1 he'
          obtain ⟨j, hj⟩ := List.mem_iff_getElem?.1 he
          have := deck_one hy hi hj (by rw [hn', h4])
          subst this
          rw [hi] at hj
          exact Option.some.inj hj
        subst this
        exact ho
      · exact absurd h4.symm (hx d hd e he)
  omega
/-! ### Decks with zebra -/
/-- No name of new cards. -/
def oldN (y : List DCard) : Prop := ∀ e ∈ y, ∀ n ∈ newL, e.1 ≠ n
theorem nm_newL {i : Nat} (h : i < 12) : ∀ n ∈ newL, nm i ≠ n := by
  have all : ∀ i : Fin 12, ∀ n ∈ newL, nm i ≠ n := by decide +kernel
  exact all ⟨i, h⟩
theorem dkI_old {d : List DCard} (h : dkI d) (hl : d.length ≤ 8) : oldN d := fun e he n hn => by
  obtain ⟨i, hi⟩ := List.mem_iff_getElem?.1 he
  have := (List.getElem?_eq_some_iff.1 hi).1
  rw [(h i e hi).1]
  exact nm_newL (by omega) n hn
theorem oldN_new {y : List DCard} {m : Int} {s : DSrc} (h : oldN y) (hs : srcI m s) (w : DMask) : ∀ c ∈ [(txtD s newL, w)], ∀ e ∈ y, e.1 ≠ c.1 := fun c hc e he => by
  rw [List.mem_singleton] at hc
  subst hc
  exact h e he _ (List.mem_of_getElem? (txtD_get hs (l := newL) (by decide)))
section
variable {s : List DField} {vs : List Int} {d : List DCard} {f : DField} {v : Int}
end
end Go.Proofs.YtmmjcpiikdcldaaGreatDoor.VL
