/- Proved here: distances of masks, and what a law says of the nearest cards and of equal ones. Plain Lean. -/
import Derived.Test.YtohcpnobmknglaaDoorBpa
set_option linter.unusedVariables false
set_option linter.unusedSimpArgs false
namespace Go.Proofs.YtohcpnobmknglaaDoor.VL
open Go
theorem dsum_sub : ∀ (n a b c : Nat), (∀ i, a.testBit i = true → b.testBit i = true ∨ c.testBit i = true) → dsum 2 n a ≤ dsum 2 n b + dsum 2 n c
  | 0, _, _, _, _ => Nat.zero_le _
  | n + 1, a, b, c, h => by
    have h1 := dsum_sub n (a / 2) (b / 2) (c / 2) fun i hi => by
      have := h (i + 1)
      simp only [Nat.testBit_succ] at this
      exact this hi
    have h2 := h 0
    simp only [Nat.testBit_zero, decide_eq_true_eq] at h2
    rw [dsum, dsum, dsum]
    omega
theorem dsum_nil : ∀ (n a : Nat), a < 2 ^ n → dsum 2 n a = 0 → a = 0
  | 0, a, h, _ => by simpa using h
  | n + 1, a, h, h0 => by
    rw [dsum] at h0
    have h1 := dsum_nil n (a / 2) (by rw [Nat.pow_succ] at h; omega) (by omega)
    omega
theorem pop_sub {a b c : BitVec 64} (h : ∀ i, a.getLsbD i = true → b.getLsbD i = true ∨ c.getLsbD i = true) : pop a ≤ pop b + pop c := by
  have := dsum_sub 64 a.toNat b.toNat c.toNat h
  unfold pop; omega
theorem pop_nil {a : BitVec 64} (h : pop a = 0) : a = 0#64 := by
  unfold pop at h
  exact BitVec.eq_of_toNat_eq (dsum_nil 64 a.toNat a.isLt (by omega))
theorem and_tri {m n c : BitVec 64} : pop (m &&& ~~~n) ≤ pop (m &&& ~~~c) + pop (c &&& ~~~n) := pop_sub fun i => by
  have hi : i < 64 ∨ 64 ≤ i := by omega
  rcases hi with hi | hi
  · simp only [BitVec.getLsbD_and, BitVec.getLsbD_not, hi, decide_true, Bool.true_and]
    cases m.getLsbD i <;> cases n.getLsbD i <;> cases c.getLsbD i <;> simp
  · rw [BitVec.getLsbD_of_ge _ _ hi]; simp
theorem cnt_tri (m n c : DMask) : cntM (lessM m n) ≤ cntM (lessM m c) + cntM (lessM c n) := by
  have h1 := and_tri (m := m.1) (n := n.1) (c := c.1)
  have h2 := and_tri (m := m.2) (n := n.2) (c := c.2)
  unfold cntM lessM; simp only []; omega
theorem dist_comm (m n : DMask) : distM m n = distM n m := by unfold distM; omega
theorem dist_tri (m n c : DMask) : distM m n ≤ distM c m + distM c n := by
  have h1 := cnt_tri m n c
  have h2 := cnt_tri n m c
  unfold distM; omega
theorem and_nil {a b : BitVec 64} (h1 : pop (a &&& ~~~b) = 0) (h2 : pop (b &&& ~~~a) = 0) : a = b := by
  have e1 := pop_nil h1
  have e2 := pop_nil h2
  apply BitVec.eq_of_getLsbD_eq
  intro i hi
  have f1 := congrArg (fun v => BitVec.getLsbD v i) e1
  have f2 := congrArg (fun v => BitVec.getLsbD v i) e2
  simp only [BitVec.getLsbD_and, BitVec.getLsbD_not, hi, decide_true, Bool.true_and, BitVec.getLsbD_zero] at f1 f2
  revert f1 f2
  cases a.getLsbD i <;> cases b.getLsbD i <;> simp
theorem dist_self (m : DMask) : distM m m = 0 := by
  have : ∀ a : BitVec 64, pop (a &&& ~~~a) = 0 := fun a => by
    have h : a &&& ~~~a = 0#64 := by
      apply BitVec.eq_of_getLsbD_eq
      intro i hi
      simp [hi]
    rw [h]; rfl
  unfold distM cntM lessM
  simp only [this]; rfl
theorem dist_nil {m n : DMask} (h : distM m n = 0) : m = n := by
  have h1 := pop_in (m.1 &&& ~~~n.1)
  have h2 := pop_in (m.2 &&& ~~~n.2)
  have h3 := pop_in (n.1 &&& ~~~m.1)
  have h4 := pop_in (n.2 &&& ~~~m.2)
  unfold distM cntM lessM at h
  simp only [] at h
  exact Prod.ext (and_nil (by omega) (by omega)) (and_nil (by omega) (by omega))
theorem distS_ok {x y : DMask} (hx : okM x = true) (hy : okM y = true) : distS x y = (distM x y, 0) := by rw [distS, hx, hy]; rfl
/-- Whether a number is in a row. -/
def hasV (v : Int) (l : List Int) : Bool := l.any fun b => b == v
theorem hasV_iff {v : Int} {l : List Int} : hasV v l = true ↔ v ∈ l := by
  rw [hasV, List.any_eq_true]
  constructor
  · rintro ⟨b, h1, h2⟩; rw [beq_iff_eq] at h2; exact h2 ▸ h1
  · exact fun h => ⟨v, h, by simp⟩
/-! ### Equal cards -/
def twn (x : List DCard) (i : Nat) : Nat → Bool
  | 0 => false
  | k + 1 => twn x i k || (decide ((k : Int) ≠ (i : Int)) && (x[k]?.map (·.2) == x[i]?.map (·.2)))
def tld (l : List (List Int)) (v : Int) (z : Nat) : Bool := (l.take z).any fun a => hasV v a
theorem tld_next {l : List (List Int)} {v : Int} {z : Nat} {a : List Int} (ha : l[Int.toNat ((z : Nat) : Int)]? = some a) : tld l v (z + 1) = (tld l v z || hasV v a) := by
  rw [toN] at ha
  rw [tld, tld, List.take_add_one, ha, List.any_append]
  simp
theorem tld_end {l : List (List Int)} {v : Int} {z : Nat} (h : l.length ≤ z) : tld l v z = l.any fun a => hasV v a := by rw [tld, List.take_of_length_le h]
theorem mem_grp {x : List DCard} {m : DMask} {a : Int} : ∀ {y : Nat}, a ∈ grp x m y ↔ ∃ k : Nat, a = (k : Int) ∧ k < y ∧ x[k]?.map (·.2) = some m
  | 0 => by simp [grp]
  | y + 1 => by
    have ih := mem_grp (x := x) (m := m) (a := a) (y := y)
    rw [grp]
    constructor
    · intro h
      split at h
      · rcases List.mem_append.1 h with h | h
        · obtain ⟨k, h1, h2, h3⟩ := ih.1 h; exact ⟨k, h1, by omega, h3⟩
        · rw [List.mem_singleton] at h; exact ⟨y, h, by omega, by assumption⟩
      · obtain ⟨k, h1, h2, h3⟩ := ih.1 h; exact ⟨k, h1, by omega, h3⟩
    · rintro ⟨k, h1, h2, h3⟩
      by_cases hk : k = y
      · subst hk
        rw [if_pos h3]; exact List.mem_append_right _ (by rw [List.mem_singleton]; exact h1)
      · have := ih.2 ⟨k, h1, by omega, h3⟩
        split
        · exact List.mem_append_left _ this
        · exact this
theorem grp_nodup {x : List DCard} {m : DMask} : ∀ y : Nat, (grp x m y).Nodup
  | 0 => by simp [grp]
  | y + 1 => by
    have ih := grp_nodup (x := x) (m := m) y
    rw [grp]
    split
    · rw [List.nodup_append]
      refine ⟨ih, by simp, fun a ha b hb => ?_⟩
      rw [List.mem_singleton] at hb
      have := grp_mem ha
      omega
    · exact ih
theorem two_of {l : List Int} {a b : Int} (ha : a ∈ l) (hb : b ∈ l) (hn : a ≠ b) : (l.length : Int) > 1 := by
  rcases l with _ | ⟨c, _ | ⟨d, l⟩⟩
  · cases ha
  · rw [List.mem_singleton] at ha hb; exact absurd (ha.trans hb.symm) hn
  · simp only [List.length_cons]; omega
theorem other_of {l : List Int} (hd : l.Nodup) (h : (l.length : Int) > 1) (a : Int) : ∃ b ∈ l, b ≠ a := by
  rcases l with _ | ⟨c, _ | ⟨d, l⟩⟩
  · simp at h
  · simp at h
  · have : c ≠ d := by
      intro e
      rw [List.nodup_cons] at hd
      exact hd.1 (by rw [e]; exact List.mem_cons_self ..)
    by_cases hc : c = a
    · exact ⟨d, by simp, fun h => this (hc.trans h.symm)⟩
    · exact ⟨c, by simp, hc⟩
theorem mem_dup {x : List DCard} {g : List Int} : ∀ {z : Nat}, g ∈ dupR x z ↔ ∃ (k : Nat) (c : DCard), k < z ∧ x[k]? = some c ∧ g = grp x c.2 x.length ∧ (g.length : Int) > 1 ∧ g.getD 0 0 = (k : Int)
  | 0 => by simp [dupR]
  | z + 1 => by
    have ih := mem_dup (x := x) (g := g) (z := z)
    rw [dupR, List.mem_append]
    constructor
    · rintro (h | h)
      · obtain ⟨k, c, h1, h2⟩ := ih.1 h; exact ⟨k, c, by omega, h2⟩
      · unfold dG at h
        split at h
        · rename_i c hc
          split at h
          · rename_i hb
            rw [List.mem_singleton] at h
            rw [Bool.and_eq_true, decide_eq_true_eq, beq_iff_eq] at hb
            subst h
            exact ⟨z, c, by omega, hc, rfl, hb⟩
          · cases h
        · cases h
    · rintro ⟨k, c, h1, h2, h3, h4, h5⟩
      by_cases hk : k = z
      · right
        subst hk
        unfold dG
        rw [h2]
        show g ∈ (if _ then _ else _)
        subst h3
        rw [if_pos (by rw [Bool.and_eq_true, decide_eq_true_eq, beq_iff_eq]; exact ⟨h4, h5⟩)]
        simp
      · exact .inl (ih.2 ⟨k, c, by omega, h2, h3, h4, h5⟩)
theorem twn_iff {x : List DCard} {i : Nat} : ∀ {z : Nat}, twn x i z = true ↔ ∃ k, k < z ∧ k ≠ i ∧ x[k]?.map (·.2) = x[i]?.map (·.2)
  | 0 => by simp [twn]
  | z + 1 => by
    have ih := twn_iff (x := x) (i := i) (z := z)
    rw [twn, Bool.or_eq_true, ih, Bool.and_eq_true, decide_eq_true_eq, beq_iff_eq]
    constructor
    · rintro (⟨k, h1, h2⟩ | ⟨h1, h2⟩)
      · exact ⟨k, by omega, h2⟩
      · exact ⟨z, by omega, by omega, h2⟩
    · rintro ⟨k, h1, h2, h3⟩
      by_cases hk : k = z
      · subst hk; exact .inr ⟨by omega, h3⟩
      · exact .inl ⟨k, by omega, h2, h3⟩
theorem twin_told {x : List DCard} {i : Nat} {c : DCard} (hc : x[i]? = some c) : twn x i x.length = (dupR x x.length).any fun a => hasV (i : Int) a := by
  have hi : i < x.length := (List.getElem?_eq_some_iff.1 hc).1
  rw [Bool.eq_iff_iff, twn_iff, List.any_eq_true]
  constructor
  · rintro ⟨k, h1, h2, h3⟩
    rw [hc] at h3
    have mi : (i : Int) ∈ grp x c.2 x.length := mem_grp.2 ⟨i, rfl, hi, by rw [hc]; rfl⟩
    have mk : (k : Int) ∈ grp x c.2 x.length := mem_grp.2 ⟨k, rfl, h1, h3⟩
    have h2' : ((grp x c.2 x.length).length : Int) > 1 := two_of mi mk (by omega)
    have g0 := get0 h2'
    have m0 : (grp x c.2 x.length).getD 0 0 ∈ grp x c.2 x.length := List.mem_of_getElem? g0
    obtain ⟨z, e1, e2, e3⟩ := mem_grp.1 m0
    obtain ⟨b, hb⟩ : ∃ b, x[z]? = some b := ⟨_, List.getElem?_eq_getElem e2⟩
    rw [hb] at e3
    have e4 : b.2 = c.2 := Option.some.inj e3
    exact ⟨grp x c.2 x.length, mem_dup.2 ⟨z, b, e2, hb, by rw [e4], h2', e1⟩, hasV_iff.2 mi⟩
  · rintro ⟨g, h1, h2⟩
    obtain ⟨k, b, h3, h4, h5, h6, h7⟩ := mem_dup.1 h1
    rw [hasV_iff] at h2
    have hd : g.Nodup := by rw [h5]; exact grp_nodup _
    obtain ⟨a, ha, hn⟩ := other_of hd h6 (i : Int)
    rw [h5] at ha h2
    obtain ⟨p, p1, p2, p3⟩ := mem_grp.1 ha
    obtain ⟨q, q1, q2, q3⟩ := mem_grp.1 h2
    have hqi : q = i := by omega
    subst hqi
    exact ⟨p, p2, by omega, p3.trans q3.symm⟩
theorem mem_nea {x : List DCard} {m : DMask} {v : Int} {z i : Nat} {c : DCard} (hc : x[i]? = some c) (hi : i < z) : hasV (i : Int) (nea m x v z) = (dst m c == v) := by
  rw [Bool.eq_iff_iff, hasV_iff, nea, List.mem_map]
  constructor
  · rintro ⟨k, h1, h2⟩
    rw [List.mem_filter] at h1
    have : k = i := by omega
    subst this
    have h3 := h1.2
    rw [hc] at h3
    exact h3
  · intro h
    refine ⟨i, ?_, rfl⟩
    rw [List.mem_filter, List.mem_range, hc]
    exact ⟨hi, h⟩
theorem deckM {x : List DCard} (h : deckOK x) {i : Nat} {c : DCard} (hc : x[Int.toNat ((i : Nat) : Int)]? = some c) : okM c.2 = true := by
  rw [toN] at hc
  obtain ⟨b, h1, h2, _⟩ := h.2 i (List.getElem?_eq_some_iff.1 hc).1
  rw [hc] at h1
  obtain rfl := Option.some.inj h1
  exact h2.2
theorem twn_t {x : List DCard} {i k : Nat} (h : twn x i k = true) : true = twn x i (k + 1) := by rw [twn, h]; rfl
theorem twn_f {x : List DCard} {i k : Nat} (h : twn x i k = false) (h2 : ¬ (k : Int) ≠ (i : Int)) : false = twn x i (k + 1) := by rw [twn, h, decide_eq_false h2]; rfl
theorem twn_e {x : List DCard} {i k : Nat} {a b : DCard} (h : twn x i k = false) (h2 : (k : Int) ≠ (i : Int)) (ha : x[Int.toNat ((k : Nat) : Int)]? = some a) (hb : x[Int.toNat ((i : Nat) : Int)]? = some b) : eqv a.2 b.2 = twn x i (k + 1) := by
  rw [toN] at ha hb
  rw [twn, h, decide_eq_true h2, ha, hb, Bool.eq_iff_iff, eqv_iff]
  simp
/-- What the law asks of the decks as a whole. -/
theorem near_all {x : List DCard} {m n : DMask} (hx : deckOK x) (hm : okM m = true) (hn : okM n = true) : (distS m n).1 = distM m n ∧ (distS m n).2 = 0 ∧ (distS n m).1 = distM m n ∧ (distS n m).2 = 0 ∧ ((distM m n == 0) = eqv m n) ∧ (dupS x).2 = 0 := by
  rw [distS_ok hm hn, distS_ok hn hm, dup_ok (tt_iff.2 hx)]
  refine ⟨rfl, rfl, dist_comm n m, rfl, ?_, rfl⟩
  rw [Bool.eq_iff_iff, beq_iff_eq, eqv_iff]
  exact ⟨fun h => dist_nil h, fun h => by rw [h]; exact dist_self n⟩
theorem near_some {x : List DCard} {m : DMask} (hx : deckOK x) (hm : okM m = true) (h0 : ¬ x.length = 0) : (neaS x m).2.2 = 0 := by rw [neaS_yes (by rw [tt_iff.2 hx, hm]; rfl) h0]
theorem near_nil {x : List DCard} {m : DMask} (hx : deckOK x) (hm : okM m = true) (h0 : x.length = 0) : (neaS x m).2.2 = 6 ∧ (dupS x).1.length = 0 := by
  rw [neaS_none (by rw [tt_iff.2 hx, hm]; rfl) h0, dup_ok (tt_iff.2 hx), h0]
  exact ⟨rfl, rfl⟩
theorem near_one {x : List DCard} {m n : DMask} {i : Nat} {c : DCard} (hx : deckOK x) (hm : okM m = true) (hn : okM n = true) (hc : x[Int.toNat ((i : Nat) : Int)]? = some c) : (neaS x m).2.2 = 0 ∧ (distS c.2 m).2 = 0 ∧ (distS c.2 n).2 = 0 ∧ (neaS x m).2.1 ≤ (distS c.2 m).1 ∧ ((distS c.2 m).1 == (neaS x m).2.1) = hasV (i : Int) (neaS x m).1 ∧ (distS m n).1 ≤ (distS c.2 m).1 + (distS c.2 n).1 ∧ twn x i x.length = (dupS x).1.any (fun a => hasV (i : Int) a) := by
  have hcm := deckM hx hc
  have hi : i < x.length := by rw [toN] at hc; exact (List.getElem?_eq_some_iff.1 hc).1
  rw [distS_ok hcm hm, distS_ok hcm hn, distS_ok hm hn, neaS_yes (by rw [tt_iff.2 hx, hm]; rfl) (by omega), dup_ok (tt_iff.2 hx)]
  rw [toN] at hc
  refine ⟨rfl, rfl, rfl, mnD_le (Nat.le_refl _) i c hi hc, (mem_nea hc hi).symm, dist_tri m n c.2, twin_told hc⟩
theorem dist_in (m n : DMask) : 0 ≤ (distS m n).1 ∧ (distS m n).1 ≤ 256 := by
  have h1 := cntM_in (lessM m n)
  have h2 := cntM_in (lessM n m)
  unfold distS distM
  split <;> simp only [] <;> omega
end Go.Proofs.YtohcpnobmknglaaDoor.VL
