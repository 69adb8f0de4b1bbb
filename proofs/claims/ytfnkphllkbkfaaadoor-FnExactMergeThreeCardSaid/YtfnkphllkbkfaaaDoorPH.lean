/- Proved here: places in lists, and decks. Plain Lean, no program. -/
import Derived.Test.YtfnkphllkbkfaaaDoorPG
set_option linter.unusedVariables false
set_option linter.unusedSimpArgs false
namespace Go.Proofs.YtfnkphllkbkfaaaDoor.VL
open Go
/-! ### Places -/
section
variable {α : Type} {q : α → Bool} {x : List α} {z : Nat} {a : α}
/-- The first one that fits, or -1. -/
def idxQ (q : α → Bool) (x : List α) : Int := if x.findIdx q < x.length then (x.findIdx q : Int) else -1
def nI (q : α → Bool) (x : List α) (i : Nat) : Prop := ∃ b, x[i]? = some b ∧ q b = false
theorem nI_iff (ha : x[Int.toNat ((z : Nat) : Int)]? = some a) : nI q x z ↔ q a = false := by
  rw [toN] at ha
  constructor
  · rintro ⟨b, h1, h2⟩
    rw [ha] at h1; obtain rfl := Option.some.inj h1; exact h2
  · exact fun h => ⟨a, ha, h⟩
theorem idxQ_at (h : ∀ i, i < z → nI q x i) (ha : x[Int.toNat ((z : Nat) : Int)]? = some a) (hq : q a = true) : ((z : Nat) : Int) = idxQ q x := by
  rw [toN] at ha
  have hz := (List.getElem?_eq_some_iff.1 ha).1
  have e : x.findIdx q = z := by
    rw [List.findIdx_eq hz]
    refine ⟨by rw [List.getElem?_eq_getElem hz] at ha; rw [Option.some.inj ha]; exact hq, fun j hj => ?_⟩
    obtain ⟨b, h1, h2⟩ := h j hj
    rw [List.getElem?_eq_getElem (by omega)] at h1
    rw [Option.some.inj h1]; exact h2
  rw [idxQ, e, if_pos hz]
theorem idxQ_end (h : ∀ i, i < z → nI q x i) (hz : x.length ≤ z) : -1 = idxQ q x := by
  have e : x.findIdx q = x.length := by
    rw [List.findIdx_eq_length]
    intro b hb
    obtain ⟨i, hi, rfl⟩ := List.mem_iff_getElem.1 hb
    obtain ⟨c, h1, h2⟩ := h i (by omega)
    rw [List.getElem?_eq_getElem hi] at h1
    rw [Option.some.inj h1]; exact h2
  rw [idxQ, e, if_neg (Nat.lt_irrefl _)]
theorem idxQ_any : decide (idxQ q x ≥ 0) = x.any q := by
  rw [Bool.eq_iff_iff, decide_eq_true_eq, List.any_eq_true, ← List.findIdx_lt_length]
  unfold idxQ
  split <;> omega
theorem idxQ_neg : idxQ q x < 0 ↔ x.any q = false := by
  rw [← idxQ_any (q := q) (x := x), decide_eq_false_iff_not]; omega
theorem idxQ_get (h : ¬ idxQ q x < 0) : ∃ b, x[Int.toNat (idxQ q x)]? = some b ∧ q b = true ∧ idxQ q x < (x.length : Int) := by
  unfold idxQ at h ⊢
  split
  · rename_i h1
    refine ⟨x[x.findIdx q], ?_, List.findIdx_getElem, by omega⟩
    rw [toN, List.getElem?_eq_getElem h1]
  · rename_i h1; rw [if_neg h1] at h; exact absurd (by decide) h
theorem any_iff : x.any q = false ↔ ∀ i, i < x.length → nI q x i := by
  rw [List.any_eq_false]
  constructor
  · intro h i hi
    exact ⟨x[i], List.getElem?_eq_getElem hi, by simpa using h _ (List.getElem_mem hi)⟩
  · intro h b hb
    obtain ⟨i, hi, rfl⟩ := List.mem_iff_getElem.1 hb
    obtain ⟨c, h1, h2⟩ := h i hi
    rw [List.getElem?_eq_getElem hi] at h1
    rw [Option.some.inj h1, h2]; decide
end
/-! ### Decks -/
def szC (c : DCard) (l : Int) : Int := szB c.1 l
theorem okSzC : okSz szC (fun c => c.1.size ≤ 1048576) := fun c l hl => szB_in c.1 l hl
def deckI (x : List DCard) (i : Nat) : Prop := ∃ c, x[i]? = some c ∧ cardOK c ∧ ∀ k, k < i → nI (fun b => eqv b.1 c.1) x k
def deckOK (x : List DCard) : Prop := x.length ≤ 80 ∧ ∀ i, i < x.length → deckI x i
theorem deckI_iff {x : List DCard} {z : Nat} {a : DCard} (ha : x[Int.toNat ((z : Nat) : Int)]? = some a) : deckI x z ↔ cardOK a ∧ ∀ k, k < z → nI (fun b => eqv b.1 a.1) x k := by
  rw [toN] at ha
  constructor
  · rintro ⟨c, h1, h2⟩
    rw [ha] at h1; obtain rfl := Option.some.inj h1; exact h2
  · exact fun h => ⟨a, ha, h⟩
theorem take_any {α : Type} {q : α → Bool} {x : List α} {z : Nat} (hz : z ≤ x.length) : (x.take z).any q = false ↔ ∀ k, k < z → nI q x k := by
  rw [any_iff, List.length_take, Nat.min_eq_left hz]
  exact ⟨fun h k hk => by obtain ⟨b, h1, h2⟩ := h k hk; rw [List.getElem?_take, if_pos hk] at h1; exact ⟨b, h1, h2⟩,
    fun h k hk => by obtain ⟨b, h1, h2⟩ := h k hk; exact ⟨b, by rw [List.getElem?_take, if_pos hk]; exact h1, h2⟩⟩
theorem deckI_any {x : List DCard} {z : Nat} {a : DCard} (hz : z ≤ x.length) (ha : x[Int.toNat ((z : Nat) : Int)]? = some a) : deckI x z ↔ (!(tt (cardOK a)) || (x.take z).any (fun b => eqv b.1 a.1)) = false := by
  rw [deckI_iff ha, Bool.or_eq_false_iff, Bool.not_eq_false', tt_iff, take_any hz]
theorem deck_no {x : List DCard} {z : Nat} (hz : z < x.length) (h : ¬ deckI x z) : false = tt (deckOK x) := tt_no fun h' => h (h'.2 z hz)
theorem deck_len {x : List DCard} (h : 80 < x.length) : false = tt (deckOK x) := tt_no fun h' => absurd h'.1 (by omega)
theorem deck_yes {x : List DCard} (h : x.length ≤ 80) {z : Nat} (hI : ∀ i, i < z → deckI x i) (hz : x.length ≤ z) : true = tt (deckOK x) := tt_yes ⟨h, all_end hI hz⟩
/-! ### A deck within another -/
/-- The card of the same name. -/
noncomputable def findC (s : ByteArray) (y : List DCard) : Int := idxQ (fun b => eqv b.1 s) y
theorem findC_get {s : ByteArray} {y : List DCard} (h : decide (findC s y < 0) = false) : ∃ b, y[Int.toNat (findC s y)]? = some b ∧ b.1 = s ∧ findC s y < (y.length : Int) := by
  unfold findC at h ⊢
  obtain ⟨b, h1, h2, h3⟩ := idxQ_get (of_decide_eq_false h)
  exact ⟨b, h1, eqv_iff.1 h2, h3⟩
theorem nI_ne {q : DCard → Bool} {x : List DCard} {k : Nat} {b : DCard} (h : nI q x k) (hb : x[k]? = some b) : q b = false := by
  obtain ⟨c, h1, h2⟩ := h
  rw [hb] at h1; obtain rfl := Option.some.inj h1; exact h2
theorem deck_one {y : List DCard} (hy : deckOK y) {i j : Nat} {a b : DCard} (hi : y[i]? = some a) (hj : y[j]? = some b) (h : a.1 = b.1) : i = j := by
  rcases Nat.lt_trichotomy i j with h1 | h1 | h1
  · have := ((deckI_iff (by rw [toN]; exact hj)).1 (hy.2 j (List.getElem?_eq_some_iff.1 hj).1)).2 i h1
    exact absurd h (eqv_false_iff.1 (nI_ne this hi))
  · exact h1
  · have := ((deckI_iff (by rw [toN]; exact hi)).1 (hy.2 i (List.getElem?_eq_some_iff.1 hi).1)).2 j h1
    exact absurd h.symm (eqv_false_iff.1 (nI_ne this hj))
/-! ### Checks -/
end Go.Proofs.YtfnkphllkbkfaaaDoor.VL
