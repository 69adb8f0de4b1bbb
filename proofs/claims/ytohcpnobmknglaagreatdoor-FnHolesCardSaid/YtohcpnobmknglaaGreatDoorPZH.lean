/- Proved here: what a law says of chances and sizes. Plain Lean. -/
import Derived.Test.YtohcpnobmknglaaGreatDoorPZL
import Derived.Test.YtohcpnobmknglaaGreatDoorPZQ
set_option linter.unusedVariables false
set_option linter.unusedSimpArgs false
namespace Go.Proofs.YtohcpnobmknglaaGreatDoor.VL
open Go
theorem mixD_in {m : Int} {s : DSrc} (h : srcI m s) : 8 ≤ (mixD s).2.1 ∧ (mixD s).2.1 ≤ 96 ∧ 1 ≤ (mixD s).2.2 ∧ (mixD s).2.2 ≤ 5 ∧ 2 * (mixD s).2.2 ≤ (mixD s).2.1 ∧ 0 ≤ (mixD s).1 ∧ (mixD s).1 ≤ 96 - (mixD s).2.1 := by
  have ha := amg_in h
  have h1 := pick_src h (mixL.length : Int)
  have hp := pick_in h1 (97 - amg s mixL)
  have h2 := pick_src h1 (97 - amg s mixL)
  have hq := pick_in h2 (min 5 ((amg s mixL).tdiv 2))
  have htd : 4 ≤ (amg s mixL).tdiv 2 ∧ 2 * (amg s mixL).tdiv 2 ≤ amg s mixL := by rw [Int.tdiv_eq_ediv_of_nonneg (by omega)]; omega
  have e1 : (mixD s).2.1 = amg s mixL := rfl
  have e2 : (mixD s).2.2 = 1 + (pick (pick (pick s (mixL.length : Int)).2 (97 - amg s mixL)).2 (min 5 ((amg s mixL).tdiv 2))).1 := rfl
  have e3 : (mixD s).1 = (pick (pick s (mixL.length : Int)).2 (97 - amg s mixL)).1 := rfl
  rw [e1, e2, e3]
  omega
theorem mixD_ok {m : Int} {s : DSrc} (h : srcI m s) : mixS (mixD s) = true := by
  have hm := mixD_in h
  have hw : IntKind.i16.wrap (2 * (mixD s).2.2) = 2 * (mixD s).2.2 := wrap_id (show inR .i16 (2 * (mixD s).2.2) from ⟨show (-32768 : Int) ≤ _ by omega, show _ ≤ (32767 : Int) by omega⟩)
  unfold mixS inb
  rw [hw]
  simp only [Bool.and_eq_true, decide_eq_true_eq]
  omega
theorem bs_le {p w a m c A : Int} (hA : A ≤ m) (hc : chance A p w a ≤ c) : ∀ (f : Nat) (s : Int), s ≤ A → A < s + (f : Int) → (bs p w a m c f s).2 = 0 ∧ (bs p w a m c f s).1 ≤ A
  | 0, s, h, h1 => by omega
  | f + 1, s, h, h1 => by
    by_cases h2 : chance s p w a ≤ c
    · rw [bs_yes (by omega) (by omega) h2]; exact ⟨rfl, h⟩
    · have hne : s ≠ A := fun e => by subst e; exact h2 hc
      rw [bs_no (by omega) (by omega) h2]
      exact bs_le hA hc f (s + 1) (by omega) (by omega)
/-- The least size is no greater than one that does. -/
theorem bsS_le {p w a m c A : Int} (h : bsOK p w a m c) (h0 : 4 ≤ A ∧ 2 * p ≤ A) (hA : A ≤ m) (hc : chance A p w a ≤ c) : (bsS p w a m c).2 = 0 ∧ (bsS p w a m c).1 ≤ A := by
  rw [bsS, if_pos h]
  have hm := h.2.2.2.1.2
  exact bs_le hA hc 97 _ (by omega) (by omega)
/-! ### Tallies -/
theorem cntQ_cons {α : Type} (q : α → Bool) (c : α) (x : List α) : cntQ q (c :: x) = (if q c = true then 1 else 0) + cntQ q x := by
  have key : ∀ (x : List α) (n : Int), x.foldl (fun n c => if q c = true then n + 1 else n) n = n + cntQ q x := by
    intro x
    induction x with
    | nil => intro n; simp [cntQ]
    | cons a x ih =>
      intro n
      unfold cntQ
      rw [List.foldl_cons, List.foldl_cons, ih, ih]
      split <;> omega
  have h0 : cntQ q (c :: x) = x.foldl (fun n c => if q c = true then n + 1 else n) (if q c = true then 0 + 1 else 0) := rfl
  rw [h0, key]
  split <;> omega
theorem cntQ_le {α : Type} {p q : α → Bool} (h : ∀ c, p c = true → q c = true) : ∀ x : List α, cntQ p x ≤ cntQ q x
  | [] => by simp [cntQ]
  | c :: x => by
    have ih := cntQ_le h x
    rw [cntQ_cons, cntQ_cons]
    by_cases hp : p c = true
    · rw [if_pos hp, if_pos (h c hp)]; omega
    · rw [if_neg hp]; split <;> omega
theorem cntQ_eq {α : Type} {p q : α → Bool} (h : ∀ c, p c = q c) (x : List α) : cntQ p x = cntQ q x := by
  have : p = q := funext h
  rw [this]
theorem deck_tab {x : List DCard} (h : deckOK x) (hl : x.length ≤ 60) : tabE [] x = 0 := by
  refine (tabE_zero ?_ hl).symm
  have h1 : schemeOK [] := ⟨by decide, fun i hi => by simp at hi⟩
  have h2 : allL cardOK x := fun i hi => ⟨x[i], List.getElem?_eq_getElem hi, deck_card h (List.getElem_mem hi)⟩
  rw [tt_iff.2 h1, tt_iff.2 h2]; rfl
theorem two_sym (a b : Int) (x : List DCard) : cntQ (hasB a b) x = cntQ (hasB b a) x := cntQ_eq (fun c => by unfold hasB; rw [Bool.and_comm]) x
theorem two_le (a b : Int) (x : List DCard) : cntQ (hasB a b) x ≤ cntH x a := cntQ_le (fun c h => by unfold hasB at h; rw [Bool.and_eq_true] at h; exact h.1) x
theorem two_one (a : Int) (x : List DCard) : cntQ (hasB a a) x = cntH x a := cntQ_eq (fun c => by unfold hasB; rw [Bool.and_self]; rfl) x
theorem dsum_snoc : ∀ (n x : Nat), dsum 2 (n + 1) x = dsum 2 n x + x / 2 ^ n % 2
  | 0, x => by simp [dsum]
  | n + 1, x => by
    have ih := dsum_snoc n (x / 2)
    rw [dsum, ih, dsum, Nat.div_div_eq_div_mul, show 2 * 2 ^ n = 2 ^ (n + 1) by rw [Nat.pow_succ, Nat.mul_comm]]
    omega
def sumM (x : List DCard) : Int := x.foldl (fun n c => n + cntM c.2) 0
theorem sumM_next {x : List DCard} {z : Nat} {e : DCard} (he : x[Int.toNat ((z : Nat) : Int)]? = some e) : sumM (x.take z) + cntM e.2 = sumM (x.take (z + 1)) := foldl_next (f := fun n (c : DCard) => n + cntM c.2) he
def sB (m : DMask) : Nat → Int
  | 0 => 0
  | z + 1 => sB m z + (if hasM m (z : Int) = true then 1 else 0)
def sH (x : List DCard) : Nat → Int
  | 0 => 0
  | z + 1 => sH x z + cntH x (z : Int)
theorem bit_one (v : BitVec 64) (i : Nat) : (if v.getLsbD i = true then (1 : Int) else 0) = ((v.toNat / 2 ^ i % 2 : Nat) : Int) := by
  have e : v.getLsbD i = v.toNat.testBit i := rfl
  rw [e, Nat.testBit_eq_decide_div_mod_eq]
  simp only [decide_eq_true_eq]
  split <;> omega
theorem sB_low (m : DMask) : ∀ z : Nat, z ≤ 64 → sB m z = ((dsum 2 z m.1.toNat : Nat) : Int)
  | 0, _ => rfl
  | z + 1, h => by
    have ih := sB_low m z (by omega)
    have hb : hasM m (z : Int) = m.1.getLsbD z := by rw [hasM_bit _ (by omega)]; exact if_pos (by omega)
    rw [sB, ih, dsum_snoc, hb, bit_one]
    omega
theorem sB_high (m : DMask) : ∀ z : Nat, z ≤ 64 → sB m (64 + z) = pop m.1 + ((dsum 2 z m.2.toNat : Nat) : Int)
  | 0, _ => by
    have := sB_low m 64 (Nat.le_refl _)
    rw [Nat.add_zero, this]; simp [pop, dsum]
  | z + 1, h => by
    have ih := sB_high m z (by omega)
    have hb : hasM m ((64 + z : Nat) : Int) = m.2.getLsbD z := by
      rw [hasM_bit _ (by omega), bitB, if_neg (by omega), show 64 + z - 64 = z by omega]
    rw [show 64 + (z + 1) = (64 + z) + 1 by omega, sB, ih, dsum_snoc, hb, bit_one]
    omega
theorem sB_top {m : DMask} (h : okM m = true) : ∀ k : Nat, k ≤ 32 → sB m (96 + k) = sB m 96
  | 0, _ => rfl
  | k + 1, hk => by
    have ih := sB_top h k (by omega)
    have hb := (okM_iff m).1 h (96 + k) (by omega) (by omega)
    rw [show 96 + (k + 1) = (96 + k) + 1 by omega, sB, ih, hasM_bit _ (by omega), hb]
    simp
theorem sB_all {m : DMask} (h : okM m = true) : sB m 96 = cntM m := by
  rw [← sB_top h 32 (Nat.le_refl _)]
  exact sB_high m 64 (Nat.le_refl _)
theorem sH_cons (c : DCard) (x : List DCard) : ∀ z : Nat, sH (c :: x) z = sB c.2 z + sH x z
  | 0 => rfl
  | z + 1 => by
    rw [sH, sH_cons c x z, sH, sB, cntH, cntQ_cons, cntH]
    show _ + ((if hasM c.2 (z : Int) = true then 1 else 0) + _) = _
    omega
/-- The counts' sum is the sum of the cards' holes. -/
theorem sH_all : ∀ {x : List DCard}, (∀ c ∈ x, okM c.2 = true) → sH x 96 = x.foldl (fun n c => n + cntM c.2) 0
  | [], _ => by
    have : ∀ z, sH [] z = 0 := fun z => by
      induction z with
      | zero => rfl
      | succ z ih => rw [sH, ih]; rfl
    exact this 96
  | c :: x, h => by
    have ih := sH_all (x := x) fun d hd => h d (List.mem_cons_of_mem _ hd)
    have key : ∀ (x : List DCard) (n : Int), x.foldl (fun n c => n + cntM c.2) n = n + x.foldl (fun n c => n + cntM c.2) 0 := by
      intro x
      induction x with
      | nil => intro n; simp
      | cons a x ih => intro n; rw [List.foldl_cons, List.foldl_cons, ih, ih (0 + cntM a.2)]; omega
    rw [sH_cons, ih, sB_all (h c (List.mem_cons_self ..)), List.foldl_cons, key x (0 + cntM c.2)]
    omega
theorem holes_all {x : List DCard} (hx : deckOK x) (hl : x.length ≤ 60) : talS x = (tally x 96, 0) ∧ idlS x = (idl x 96, 0) := ⟨talS_yes (deck_tab hx hl), idlS_yes (deck_tab hx hl)⟩
theorem idl_ok (x : List DCard) : okM (idl x 96) = true := by
  rw [okM_iff]
  intro i h1 h2
  rw [bit_idl x 96 (by omega) h2, decide_eq_false (by omega)]; rfl
theorem cnt_zero {h : Nat} (hh : h < 128) : ∀ x : List DCard, (cntH x (h : Int) = 0) ↔ (x.any fun c => bitB c.2 h) = false
  | [] => by simp [cntH, cntQ]
  | c :: x => by
    have ih := cnt_zero hh x
    have hn := (cntQ_in (q := hasH (h : Int)) (x := x)).1
    rw [cntH, cntQ_cons, List.any_cons, Bool.or_eq_false_iff, ← ih]
    unfold hasH at *
    rw [hasM_bit _ hh]
    cases bitB c.2 h with
    | true => simp; unfold cntH at *; omega
    | false =>
      simp [cntH]
      exact Iff.rfl
theorem holes_one {x : List DCard} (hx : deckOK x) (hl : x.length ≤ 60) {h : Nat} (hh : h < 96) : hasS (idl x 96) (h : Int) = ((cntH x (h : Int) == 0), 0) ∧ togS x (h : Int) (h : Int) = (cntH x (h : Int), 0) := by
  have hib : inb (h : Int) 0 95 = true := by simp only [inb, Bool.and_eq_true, decide_eq_true_eq]; omega
  constructor
  · have hb : hasM (idl x 96) (h : Int) = (cntH x (h : Int) == 0) := by
      rw [hasM_bit _ (by omega), bit_idl x 96 (by omega) (by omega), decide_eq_true hh, Bool.true_and, Bool.eq_iff_iff, beq_iff_eq, cnt_zero (by omega)]
      simp
    rw [hasS, idl_ok, hib, hb]; rfl
  · rw [togS, if_pos (deck_tab hx hl), hib]
    show (cntQ (hasB (h : Int) (h : Int)) x, (0 : Int)) = _
    rw [two_one]
theorem sumM_in : ∀ l : List DCard, 0 ≤ sumM l ∧ sumM l ≤ 128 * (l.length : Int) := fun l => by
  unfold sumM
  have key : ∀ (l : List DCard) (n : Int), n ≤ l.foldl (fun n c => n + cntM c.2) n ∧ l.foldl (fun n c => n + cntM c.2) n ≤ n + 128 * (l.length : Int) := by
    intro l
    induction l with
    | nil => intro n; simp
    | cons a l ih =>
      intro n
      have h1 := ih (n + cntM a.2)
      have h2 := cntM_in a.2
      rw [List.foldl_cons, List.length_cons]
      omega
  have := key l 0
  omega
theorem sH_in (x : List DCard) : ∀ z : Nat, 0 ≤ sH x z ∧ sH x z ≤ (x.length : Int) * (z : Int)
  | 0 => by simp [sH]
  | z + 1 => by
    have h1 := sH_in x z
    have h2 := cntQ_in (q := hasH (z : Int)) (x := x)
    have e : (x.length : Int) * ((z + 1 : Nat) : Int) = (x.length : Int) * (z : Int) + x.length := by rw [Int.natCast_succ, Int.mul_add, Int.mul_one]
    rw [sH, e]
    unfold cntH
    omega
theorem sH_sum {x : List DCard} (h : ∀ c ∈ x, okM c.2 = true) : sH x 96 = sumM x := sH_all h
theorem tog_is {x : List DCard} (hx : deckOK x) (hl : x.length ≤ 60) {a b : Int} (ha : 0 ≤ a ∧ a < 96) (hb : 0 ≤ b ∧ b < 96) : togS x a b = (cntQ (hasB a b) x, 0) := by
  have h1 : inb a 0 95 = true := by simp only [inb, Bool.and_eq_true, decide_eq_true_eq]; omega
  have h2 : inb b 0 95 = true := by simp only [inb, Bool.and_eq_true, decide_eq_true_eq]; omega
  rw [togS, if_pos (deck_tab hx hl), h1, h2]; rfl
theorem false_is {m : Int × Int × Int} {n k : Int} (hm : mixS m = true) (hn : 0 ≤ n ∧ n ≤ 100) (hk : 0 ≤ k ∧ k ≤ 12) : falseS m n k = (chance m.2.1 m.2.2 n k, 0) := by
  have h1 : inb n 0 100 = true := by simp only [inb, Bool.and_eq_true, decide_eq_true_eq]; omega
  have h2 : inb k 0 12 = true := by simp only [inb, Bool.and_eq_true, decide_eq_true_eq]; omega
  rw [falseS, hm, h1, h2]; rfl
end Go.Proofs.YtohcpnobmknglaaGreatDoor.VL
