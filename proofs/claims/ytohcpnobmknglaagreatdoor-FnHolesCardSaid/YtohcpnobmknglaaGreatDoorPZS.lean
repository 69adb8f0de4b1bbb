/- Proved here: small tables that are drawn; chances that grow and fall. Plain Lean. -/
import Derived.Test.YtohcpnobmknglaaGreatDoorPZT
import Derived.Test.YtohcpnobmknglaaGreatDoorBpa
set_option linter.unusedVariables false
set_option linter.unusedSimpArgs false
namespace Go.Proofs.YtohcpnobmknglaaGreatDoor.VL
open Go
/-! ### Small schemes and decks -/
def tblF : List DField := [(⟨#[107, 105, 110, 100]⟩, 0, 0, 6), (⟨#[115, 105, 122, 101]⟩, 2, 10, 1), (⟨#[97, 103, 101]⟩, 1, 20, 2), (⟨#[109, 97, 114, 107]⟩, 3, 40, 3)]
def tblN : List ByteArray := [⟨#[97, 110, 116]⟩, ⟨#[98, 101, 101]⟩, ⟨#[102, 108, 121]⟩, ⟨#[109, 111, 116, 104]⟩, ⟨#[119, 97, 115, 112]⟩, ⟨#[116, 105, 99, 107]⟩, ⟨#[109, 105, 116, 101]⟩, ⟨#[102, 108, 101, 97]⟩, ⟨#[103, 110, 97, 116]⟩, ⟨#[108, 111, 117, 115, 101]⟩]
theorem tblF_ok : ∀ f ∈ tblF, fieldOK f ∧ 2 ≤ topF f := by
  have all : ∀ f ∈ tblF, (f.1.data.toList.all fun b => decide (97 ≤ b.toNat) && decide (b.toNat ≤ 122)) = true ∧ (1 ≤ f.1.size ∧ f.1.size ≤ 16) ∧ 0 ≤ f.2.1 ∧ f.2.1 ≤ 3 ∧ 1 ≤ f.2.2.2 ∧ f.2.2.2 ≤ mostF f.2.1 ∧ 0 ≤ f.2.2.1 ∧ f.2.2.1 + widthF f ≤ 96 ∧ 2 ≤ topF f := by decide +kernel
  intro f hf
  obtain ⟨h1, h2, h3, h4, h5, h6, h7, h8, h9⟩ := all f hf
  exact ⟨⟨⟨low_all h1, h2⟩, h3, h4, h5, h6, h7, h8⟩, h9⟩
theorem tblF_all : schemeOK tblF := by
  refine ⟨by decide, fun i hi => ?_⟩
  have hg : tblF[i]? = some tblF[i] := List.getElem?_eq_getElem hi
  have m1 : ∀ i : Fin 4, meetM (jp (tblF.take i)) (partF tblF[i]) = zM := by decide +kernel
  have m2 : ∀ i k : Fin 4, k.1 < i.1 → tblF[k].1 ≠ tblF[i].1 := by decide +kernel
  have hi4 : i < 4 := hi
  refine ⟨tblF[i], hg, (tblF_ok _ (List.getElem_mem hi)).1, m1 ⟨i, hi4⟩, fun k hk => ⟨tblF[k], List.getElem?_eq_getElem (by omega), ?_⟩⟩
  rw [eqv_false_iff]
  exact m2 ⟨i, hi4⟩ ⟨k, by omega⟩ hk
theorem scheme_take {x : List DField} (h : schemeOK x) (n : Nat) : schemeOK (x.take n) := by
  have hl : (x.take n).length = min n x.length := List.length_take
  refine ⟨by have := h.1; omega, fun i hi => ?_⟩
  obtain ⟨f, h1, h2, h3, h4⟩ := h.2 i (by omega)
  refine ⟨f, by rw [List.getElem?_take_of_lt (by omega)]; exact h1, h2, ?_, fun k hk => ?_⟩
  · rw [List.take_take, Nat.min_eq_left (by omega)]; exact h3
  · obtain ⟨b, h5, h6⟩ := h4 k hk
    exact ⟨b, by rw [List.getElem?_take_of_lt (by omega)]; exact h5, h6⟩
theorem tbl_get {n i : Nat} (h : i < (tblF.take n).length) : ∃ f, (tblF.take n)[Int.toNat ((i : Nat) : Int)]? = some f ∧ fieldOK f ∧ 2 ≤ topF f := by
  obtain ⟨f, hf⟩ := getI (x := tblF.take n) (z := i) h
  exact ⟨f, hf, tblF_ok f (List.mem_of_mem_take (List.mem_of_getElem? hf))⟩
theorem tblN_get {i : Nat} (h : i < 10) : tblN[Int.toNat ((i : Nat) : Int)]? = some (tblN.getD i .empty) := by
  rw [toN, List.getD_eq_getElem?_getD, List.getElem?_eq_getElem (show i < tblN.length from h)]; rfl
theorem tblF_len (n : Nat) : (tblF.take n).length = min n 4 := List.length_take
def nmS (i : Nat) : ByteArray := tblN.getD i .empty
theorem tblN_nm {i : Nat} (h : i < 10) : tblN[Int.toNat ((i : Nat) : Int)]? = some (nmS i) := tblN_get h
def sdI (l : List DCard) : Prop := l.map (·.1) = tblN.take l.length ∧ ∀ c ∈ l, okM c.2 = true
theorem sdI_nil : sdI [] := ⟨rfl, fun c h => by cases h⟩
theorem sdI_add {l : List DCard} {c : DCard} (h : sdI l) (hl : l.length < 10) (hn : c.1 = nmS l.length) (hm : okM c.2 = true) : sdI (l ++ [c]) := by
  constructor
  · have hg := tblN_get hl
    rw [toN] at hg
    rw [List.map_append, h.1, List.length_append, List.length_singleton, List.take_add_one, hg, List.map_cons, hn]; rfl
  · intro d hd
    rcases List.mem_append.1 hd with hd | hd
    · exact h.2 d hd
    · rw [List.mem_singleton] at hd; subst hd; exact hm
theorem sdI_deck {l : List DCard} (h : sdI l) (hl : l.length ≤ 10) : deckOK l := by
  have nd : tblN.Nodup := by decide +kernel
  have all : ∀ b ∈ tblN, (b.data.toList.all fun b => decide (97 ≤ b.toNat) && decide (b.toNat ≤ 122)) = true ∧ 1 ≤ b.size ∧ b.size ≤ 16 := by decide +kernel
  refine deck_of (by omega) (fun c hc => ⟨?_, h.2 c hc⟩) ?_
  · have : c.1 ∈ tblN.take l.length := by rw [← h.1]; exact List.mem_map_of_mem hc
    have := all _ (List.mem_of_mem_take this)
    exact ⟨low_all this.1, this.2⟩
  · rw [h.1]; exact (List.take_sublist _ _).nodup nd
/-! ### Mixes -/
abbrev mixL : List Int := [8, 12, 20, 30, 40, 60, 96]
def amg (s : DSrc) (l : List Int) : Int := l.getD (Int.toNat (pick s (l.length : Int)).1) 0
theorem amg_get {m : Int} {s : DSrc} {l : List Int} (h : srcI m s) (hl : 1 ≤ l.length) : l[Int.toNat (pick s (l.length : Int)).1]? = some (amg s l) := by
  have := pick_in h (l.length : Int)
  rw [amg, List.getD_eq_getElem?_getD, List.getElem?_eq_getElem (by omega)]; rfl
theorem amg_in {m : Int} {s : DSrc} (h : srcI m s) : 8 ≤ amg s mixL ∧ amg s mixL ≤ 96 := by
  have hm := List.mem_of_getElem? (amg_get h (l := mixL) (by decide))
  have all : ∀ v ∈ mixL, 8 ≤ v ∧ v ≤ 96 := by decide
  exact all _ hm
def mixD (s : DSrc) : Int × Int × Int :=
  let a := amg s mixL
  let s1 := (pick s (mixL.length : Int)).2
  let p := pick s1 (97 - a)
  (p.1, a, 1 + (pick p.2 (min 5 (a.tdiv 2))).1)
/-! ### Chances -/
theorem tdiv_mono {a b n : Int} (hn : 0 < n) (ha : 0 ≤ a) (h : a ≤ b) : a.tdiv n ≤ b.tdiv n := by
  rw [Int.tdiv_eq_ediv_of_nonneg ha, Int.tdiv_eq_ediv_of_nonneg (by omega)]
  exact Int.ediv_le_ediv hn h
theorem miss_down {a b : Int} (h : 0 < a ∧ a ≤ 96 ∧ 0 ≤ b ∧ b ≤ a) (z : Nat) : miss a b (z + 1) ≤ miss a b z := by
  have hm := miss_in (a := a) (b := b) (by omega) z
  show (miss a b z * (a - b)).tdiv a ≤ miss a b z
  have h1 : miss a b z * (a - b) ≤ miss a b z * a := Int.mul_le_mul_of_nonneg_left (by omega) hm.1
  have h0 : 0 ≤ miss a b z * (a - b) := Int.mul_nonneg hm.1 (by omega)
  have h2 := tdiv_mono h.1 h0 h1
  rwa [Int.mul_tdiv_cancel _ (by omega)] at h2
theorem hit_mono {p q : Int} (h : 0 ≤ q ∧ q ≤ p ∧ p ≤ 1000000000) : ∀ z : Nat, hitC p z ≤ hitC q z
  | 0 => Int.le_refl _
  | z + 1 => by
    have ih := hit_mono h z
    have h1 := hit_in (p := p) (by omega) z
    have h2 := hit_in (p := q) (by omega) z
    show (hitC p z * (1000000000 - p)).tdiv 1000000000 ≤ (hitC q z * (1000000000 - q)).tdiv 1000000000
    refine tdiv_mono (by omega) (Int.mul_nonneg h1.1 (by omega)) ?_
    exact Int.le_trans (Int.mul_le_mul_of_nonneg_right ih (by omega)) (Int.mul_le_mul_of_nonneg_left (by omega) h2.1)
theorem hit_down {p : Int} (h : 0 ≤ p ∧ p ≤ 1000000000) (z : Nat) : ∀ k : Nat, hitC p (z + k) ≤ hitC p z
  | 0 => Int.le_refl _
  | k + 1 => by
    have ih := hit_down h z k
    have h1 := hit_in h (z + k)
    refine Int.le_trans ?_ ih
    show (hitC p (z + k) * (1000000000 - p)).tdiv 1000000000 ≤ hitC p (z + k)
    have h2 : hitC p (z + k) * (1000000000 - p) ≤ hitC p (z + k) * 1000000000 := Int.mul_le_mul_of_nonneg_left (by omega) h1.1
    have h3 := tdiv_mono (n := 1000000000) (by omega) (Int.mul_nonneg h1.1 (by omega)) h2
    rwa [Int.mul_tdiv_cancel _ (by omega)] at h3
/-- More words, more chance. -/
theorem chance_more {a b n m : Int} (h : 0 < a ∧ a ≤ 96 ∧ 0 ≤ b ∧ b ≤ a ∧ 0 ≤ n) : chance a b n m ≤ chance a b (n + 1) m := by
  have e : (n + 1).toNat = n.toNat + 1 := by omega
  have h1 := miss_in (a := a) (b := b) (by omega) n.toNat
  have h2 := miss_in (a := a) (b := b) (by omega) (n.toNat + 1)
  have h3 := miss_down (a := a) (b := b) (by omega) n.toNat
  unfold chance
  rw [e]
  exact hit_mono ⟨h2.1, h3, h1.2⟩ _
/-- More asked, less chance. -/
theorem chance_asked {a b n m : Int} (h : 0 < a ∧ a ≤ 96 ∧ 0 ≤ b ∧ b ≤ a ∧ 0 ≤ m) : chance a b n (m + 1) ≤ chance a b n m := by
  have h1 := miss_in (a := a) (b := b) (by omega) n.toNat
  have hb : 0 ≤ b * m := Int.mul_nonneg (by omega) (by omega)
  have hc : b * (m + 1) = b * m + b := by rw [Int.mul_add, Int.mul_one]
  have e : (b * (m + 1)).toNat = (b * m).toNat + b.toNat := by omega
  unfold chance
  rw [e]
  exact hit_down h1 _ _
/-! ### The least size -/
def bs (p w a m c : Int) : Nat → Int → Int × Int
  | 0, _ => (0, 6)
  | f + 1, s => if s ≤ m then if chance s p w a ≤ c then (s, 0) else bs p w a m c f (s + 1) else (0, 6)
def bsOK (p w a m c : Int) : Prop := (1 ≤ p ∧ p ≤ 8) ∧ (0 ≤ w ∧ w ≤ 100) ∧ (0 ≤ a ∧ a ≤ 12) ∧ (4 ≤ m ∧ m ≤ 96) ∧ 0 ≤ c ∧ c ≤ 1000000000
instance (p w a m c : Int) : Decidable (bsOK p w a m c) := by unfold bsOK; exact inferInstance
def bsS (p w a m c : Int) : Int × Int := if bsOK p w a m c then bs p w a m c 97 (max 4 (2 * p)) else (0, 2)
section
variable {p w a m c s : Int} {f : Nat}
theorem bs_yes (hf : 0 < f) (h : s ≤ m) (hc : chance s p w a ≤ c) : bs p w a m c f s = (s, 0) := by
  cases f with
  | zero => omega
  | succ f => rw [bs, if_pos h, if_pos hc]
theorem bs_no (hf : 0 < f) (h : s ≤ m) (hc : ¬ chance s p w a ≤ c) : bs p w a m c f s = bs p w a m c (f - 1) (s + 1) := by
  cases f with
  | zero => omega
  | succ f => rw [bs, if_pos h, if_neg hc]; rfl
theorem bs_end (h : ¬ s ≤ m) : bs p w a m c f s = (0, 6) := by
  cases f with
  | zero => rfl
  | succ f => rw [bs, if_neg h]
theorem bsS_bad (h : ¬ bsOK p w a m c) : bsS p w a m c = (0, 2) := if_neg h
theorem bsS_yes (h : bsOK p w a m c) {z : Nat} (hz : bs p w a m c (97 - z) (max 4 (2 * p) + (z : Int)) = bs p w a m c 97 (max 4 (2 * p))) (hl : z < 97) (h1 : max 4 (2 * p) + (z : Int) ≤ m) (h2 : chance (max 4 (2 * p) + (z : Int)) p w a ≤ c) : bsS p w a m c = (max 4 (2 * p) + (z : Int), 0) := by
  rw [bsS, if_pos h, ← hz]; exact bs_yes (by omega) h1 h2
theorem bsS_end (h : bsOK p w a m c) {z : Nat} (hz : bs p w a m c (97 - z) (max 4 (2 * p) + (z : Int)) = bs p w a m c 97 (max 4 (2 * p))) (h1 : ¬ max 4 (2 * p) + (z : Int) ≤ m) : bsS p w a m c = (0, 6) := by
  rw [bsS, if_pos h, ← hz]; exact bs_end h1
theorem bs_next {z : Nat} (hz : bs p w a m c (97 - z) (max 4 (2 * p) + (z : Int)) = bs p w a m c 97 (max 4 (2 * p))) (hl : z < 97) (h1 : max 4 (2 * p) + (z : Int) ≤ m) (h2 : ¬ chance (max 4 (2 * p) + (z : Int)) p w a ≤ c) : bs p w a m c (97 - (z + 1)) (max 4 (2 * p) + ((z + 1 : Nat) : Int)) = bs p w a m c 97 (max 4 (2 * p)) := by
  rw [← hz, bs_no (by omega) h1 h2]
  congr 1; omega
end
end Go.Proofs.YtohcpnobmknglaaGreatDoor.VL
