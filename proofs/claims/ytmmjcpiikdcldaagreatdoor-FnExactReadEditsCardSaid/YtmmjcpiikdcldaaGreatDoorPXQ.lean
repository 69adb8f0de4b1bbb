/- Proved here: the other way of reading numbers, cards and edits reads the same. Plain Lean. -/
import Derived.Test.YtmmjcpiikdcldaaGreatDoorPXE
set_option linter.unusedVariables false
set_option linter.unusedSimpArgs false
namespace Go.Proofs.YtmmjcpiikdcldaaGreatDoor.VL
open Go
/-! ### Numbers -/
def isDg (b : UInt8) : Bool := !(decide ((b.toNat : Int) < 48) || decide ((b.toNat : Int) > 57))
def vlF (n : Int) (b : UInt8) : Int := 10 * n + ((b.toNat : Int) - 48)
def vlQ (l : List UInt8) : Int := l.foldl vlF 0
def rjL (l : List UInt8) : Bool := l.isEmpty || decide (l.length > 10) || (l.headD 0 == 48 && decide (l.length > 1))
def nqL (l : List UInt8) : Int × Bool := if rjL l = true then (0, false) else if l.all isDg = true then (vlQ l, true) else (0, false)
def nmQ (s : ByteArray) : Int × Bool := nqL (bL s)
theorem bL_get {s : ByteArray} {i : Nat} {b : UInt8} (h : (bL s)[i]? = some b) : s[i]? = some b := by
  have hi : i < (bL s).length := (List.getElem?_eq_some_iff.1 h).1
  rw [bL_len] at hi
  rw [getElem?_pos s i hi]
  rw [List.getElem?_eq_getElem (by rw [bL_len]; exact hi)] at h
  injection h with h
  rw [← h]
  show some s.data[i] = some (bL s)[i]
  simp [bL]
theorem nq_rej {s : ByteArray} (h : rjL (bL s) = true) : nmQ s = (0, false) := by rw [nmQ, nqL, if_pos h]
theorem nq_bad {s : ByteArray} {z : Nat} {b : UInt8} (h : rjL (bL s) = false) (hb : (bL s)[Int.toNat ((z : Nat) : Int)]? = some b) (hd : isDg b = false) : nmQ s = (0, false) := by
  rw [nmQ, nqL, if_neg (by rw [h]; decide), if_neg]
  intro h1
  rw [all_get h1 hb] at hd; cases hd
theorem nq_yes {s : ByteArray} (h : rjL (bL s) = false) (ha : (bL s).all isDg = true) : nmQ s = (vlQ (bL s), true) := by rw [nmQ, nqL, if_neg (by rw [h]; decide), if_pos ha]
theorem vl_in : ∀ (l : List UInt8) (n : Int), l.all isDg = true → 0 ≤ n → 0 ≤ l.foldl vlF n ∧ n ≤ l.foldl vlF n ∧ l.foldl vlF n < (n + 1) * 10 ^ l.length
  | [], n, _, h => by simp; omega
  | b :: l, n, h, h0 => by
    rw [List.all_cons, Bool.and_eq_true] at h
    have hb : 48 ≤ b.toNat ∧ b.toNat ≤ 57 := by
      have h1 := h.1
      rw [isDg, Bool.not_eq_true', Bool.or_eq_false_iff, decide_eq_false_iff_not, decide_eq_false_iff_not] at h1
      omega
    have hv : vlF n b = 10 * n + ((b.toNat : Int) - 48) := rfl
    obtain ⟨h1, h2, h3⟩ := vl_in l (vlF n b) h.2 (by omega)
    rw [List.foldl_cons]
    refine ⟨h1, by omega, Int.lt_of_lt_of_le h3 ?_⟩
    rw [List.length_cons, Int.pow_succ, ← Int.mul_assoc, Int.mul_right_comm]
    exact Int.mul_le_mul_of_nonneg_right (by omega) (Int.le_of_lt (Int.pow_pos (by omega)))
theorem vl_take {l : List UInt8} {z : Nat} (h : (l.take z).all isDg = true) (hz : z ≤ 10) : 0 ≤ vlQ (l.take z) ∧ vlQ (l.take z) ≤ 10000000000 := by
  obtain ⟨h1, _, h3⟩ := vl_in (l.take z) 0 h (by omega)
  refine ⟨h1, ?_⟩
  have h4 : (10 : Int) ^ (l.take z).length ≤ 10 ^ 10 := by
    have : (10 : Nat) ^ (l.take z).length ≤ 10 ^ 10 := Nat.pow_le_pow_right (by omega) (by rw [List.length_take]; omega)
    exact_mod_cast this
  rw [vlQ]
  have h5 : (10 : Int) ^ 10 = 10000000000 := by decide
  omega
theorem dg_nm : ∀ n, n < 100 → nqL (dgL n) = (((n : Nat) : Int), true) := by decide +kernel
theorem u8_ext {a b : UInt8} (h : a.toNat = b.toNat) : a = b := UInt8.toNat_inj.1 h
theorem of8 {m : Nat} (h : m < 256) : (UInt8.ofNat m).toNat = m := by simp; omega
theorem nq_dg {l : List UInt8} (h : (nqL l).2 = true) (hv : (nqL l).1 < 96) : ∃ n, n < 96 ∧ l = dgL n ∧ (nqL l).1 = (n : Int) := by
  rw [nqL] at h hv ⊢
  by_cases h1 : rjL l = true
  · rw [if_pos h1] at h; cases h
  · rw [if_neg h1] at h hv ⊢
    by_cases h2 : l.all isDg = true
    · rw [if_pos h2] at hv ⊢
      have hdg : ∀ b ∈ l, 48 ≤ b.toNat ∧ b.toNat ≤ 57 := fun b hb => by
        have h3 := List.all_eq_true.1 h2 b hb
        rw [isDg, Bool.not_eq_true', Bool.or_eq_false_iff, decide_eq_false_iff_not, decide_eq_false_iff_not] at h3
        omega
      match l, h1, h2, hv, hdg with
      | [], h1, _, _, _ => exact absurd rfl h1
      | [b], _, _, _, hdg =>
        have hb := hdg b (by simp)
        refine ⟨b.toNat - 48, by omega, ?_, ?_⟩
        · rw [dgL, if_pos (by omega)]
          congr 1
          exact u8_ext (by rw [of8 (by omega)]; omega)
        · show vlF 0 b = _
          unfold vlF; omega
      | [a, b], h1, _, hv, hdg =>
        have ha := hdg a (by simp)
        have hb := hdg b (by simp)
        have hv1 : vlQ [a, b] = 10 * (10 * 0 + ((a.toNat : Int) - 48)) + ((b.toNat : Int) - 48) := rfl
        have hn : a.toNat ≠ 48 := fun e => h1 (by
          have : a = 48 := u8_ext (by rw [e]; rfl)
          rw [this]; rfl)
        refine ⟨10 * (a.toNat - 48) + (b.toNat - 48), ?_, ?_, ?_⟩
        · have hv2 : vlQ [a, b] < 96 := hv
          omega
        · rw [dgL, if_neg (by omega)]
          congr 1
          · exact u8_ext (by rw [of8 (by omega)]; omega)
          · congr 1
            exact u8_ext (by rw [of8 (by omega)]; omega)
        · show vlQ [a, b] = _
          omega
      | a :: b :: c :: r, h1, h2, hv, hdg =>
        have ha := hdg a (by simp)
        have hb := hdg b (by simp)
        have hc := hdg c (by simp)
        have hn : a.toNat ≠ 48 := fun e => h1 (by
          have : a = 48 := u8_ext (by rw [e]; rfl)
          rw [this]
          simp [rjL])
        have h3 : vlQ (a :: b :: c :: r) = r.foldl vlF (vlF (vlF (vlF 0 a) b) c) := rfl
        have h4 : vlF (vlF (vlF 0 a) b) c = 10 * (10 * (10 * 0 + ((a.toNat : Int) - 48)) + ((b.toNat : Int) - 48)) + ((c.toNat : Int) - 48) := rfl
        rw [List.all_cons, List.all_cons, List.all_cons, Bool.and_eq_true, Bool.and_eq_true, Bool.and_eq_true] at h2
        have h5 := (vl_in r (vlF (vlF (vlF 0 a) b) c) h2.2.2.2 (by omega)).2.1
        have hv : vlQ (a :: b :: c :: r) < 96 := hv
        omega
    · rw [if_neg h2] at h; cases h
noncomputable def gdQ (w : ByteArray) : Bool := (nmQ w).2 && inb (nmQ w).1 0 95
theorem inb_iff {v : Int} : inb v 0 95 = true ↔ 0 ≤ v ∧ v < 96 := by
  rw [inb, Bool.and_eq_true, decide_eq_true_eq, decide_eq_true_eq]; omega
theorem gd_dec {w : ByteArray} : gdW w = true ↔ ∃ n, n < 96 ∧ w = decB n := by
  constructor
  · intro h
    rw [gdW, Bool.and_eq_true, inb_iff, numB, Bool.and_eq_true, eqv_iff] at h
    exact ⟨(numV w).toNat, by omega, by rw [← fmtB_pos h.2.1, h.1.2]⟩
  · rintro ⟨n, hn, rfl⟩
    obtain ⟨e1, _, e3⟩ := num_dec (n := n) (by omega)
    rw [gdW, e3, Bool.true_and, inb_iff, e1]; omega
theorem nmQ_dec {n : Nat} (h : n < 100) : nmQ (decB n) = ((n : Int), true) := by
  have e : bL (decB n) = dgL n := dec_list h
  rw [nmQ, e]
  exact dg_nm n h
theorem gdQ_dec {w : ByteArray} : gdQ w = true ↔ ∃ n, n < 96 ∧ w = decB n := by
  constructor
  · intro h
    rw [gdQ, Bool.and_eq_true, inb_iff] at h
    obtain ⟨n, hn, e, _⟩ := nq_dg h.1 h.2.2
    exact ⟨n, hn, bL_ext (by rw [e]; exact (dec_list (by omega)).symm)⟩
  · rintro ⟨n, hn, rfl⟩
    rw [gdQ, nmQ_dec (by omega), Bool.true_and, inb_iff]
    show 0 ≤ (n : Int) ∧ (n : Int) < 96
    omega
theorem gd_same (w : ByteArray) : gdQ w = gdW w := Bool.eq_iff_iff.2 (gdQ_dec.trans gd_dec.symm)
theorem gd_val {w : ByteArray} (h : gdW w = true) : (nmQ w).1 = numV w := by
  obtain ⟨n, hn, rfl⟩ := gd_dec.1 h
  rw [nmQ_dec (by omega), (num_dec (n := n) (by omega)).1]
/-! ### Cards -/
def rqF (m : DMask) (w : ByteArray) : DMask := joinM m (bitM (nmQ w).1)
noncomputable def rcQ (x : ByteArray) : DCard × Bool := if (wrdT x).all gdQ = true then ((nmT x, (wrdT x).foldl rqF zM), tt (cardOK (nmT x, (wrdT x).foldl rqF zM)) && eqv (cdT (nmT x, (wrdT x).foldl rqF zM)) x) else ((nmT x, ((wrdT x).takeWhile gdQ).foldl rqF zM), false)
theorem tw_at {α : Type} {p : α → Bool} : ∀ {l : List α} {z : Nat} {w : α}, (l.take z).all p = true → l[z]? = some w → p w = false → l.takeWhile p = l.take z
  | [], z, w, _, h, _ => by simp at h
  | a :: l, 0, w, _, h, hp => by
    simp only [List.getElem?_cons_zero, Option.some.injEq] at h
    rw [List.takeWhile_cons, h, hp]; rfl
  | a :: l, z + 1, w, ha, h, hp => by
    rw [List.take_succ_cons, List.all_cons, Bool.and_eq_true] at ha
    rw [List.takeWhile_cons, ha.1, List.take_succ_cons]
    simp only [List.getElem?_cons_succ] at h
    simp [tw_at ha.2 h hp]
theorem rq_bad {x w : ByteArray} {z : Nat} (ha : ((wrdT x).take z).all gdQ = true) (hw : (wrdT x)[Int.toNat ((z : Nat) : Int)]? = some w) (h : gdQ w = false) : rcQ x = ((nmT x, ((wrdT x).take z).foldl rqF zM), false) := by
  rw [rcQ, if_neg, tw_at ha hw h]
  intro h1
  rw [all_get h1 hw] at h; cases h
theorem rq_yes {x : ByteArray} (h : (wrdT x).all gdQ = true) : rcQ x = ((nmT x, (wrdT x).foldl rqF zM), tt (cardOK (nmT x, (wrdT x).foldl rqF zM)) && eqv (cdT (nmT x, (wrdT x).foldl rqF zM)) x) := if_pos h
theorem rq_fold : ∀ (l : List ByteArray) (m : DMask), l.all gdW = true → l.foldl rqF m = l.foldl rdF m
  | [], m, _ => rfl
  | w :: l, m, h => by
    rw [List.all_cons, Bool.and_eq_true] at h
    rw [List.foldl_cons, List.foldl_cons, rq_fold l _ h.2]
    have e : rqF m w = rdF m w := by rw [rqF, gd_val h.1]; rfl
    rw [e]
theorem rc_same (x : ByteArray) : (rcQ x).2 = (rcS x).2 ∧ ((rcS x).2 = true → (rcQ x).1 = (rcS x).1) := by
  have e : (wrdT x).all gdQ = (wrdT x).all gdW := by congr 1; exact funext gd_same
  by_cases h : (wrdT x).all gdW = true
  · rw [rq_yes (by rw [e]; exact h), rc_yes h, rq_fold _ _ h]
    exact ⟨rfl, fun _ => rfl⟩
  · rw [rcQ, if_neg (by rw [e]; exact h), rcS, if_neg h]
    exact ⟨rfl, fun h => by cases h⟩
theorem rc_ok {x : ByteArray} (h : (rcS x).2 = true) : cardOK (rcS x).1 ∧ cdT (rcS x).1 = x := by
  rw [rcS] at h ⊢
  split at h
  · rename_i h1
    rw [if_pos h1]
    rw [Bool.and_eq_true, tt_iff, eqv_iff] at h
    exact h
  · cases h
/-! ### Edits -/
noncomputable def kL (w : ByteArray) : Nat → Int
  | 0 => 0
  | k + 1 => if eqv (edW ((k : Int) + 1)) w = true then (k : Int) + 1 else kL w k
theorem kL_yes {w : ByteArray} {k : Nat} (h : eqv (edW ((k : Int) + 1)) w = true) : (k : Int) + 1 = kL w (k + 1) := by rw [kL, if_pos h]
theorem kL_no {w : ByteArray} {k : Nat} (h : eqv (edW ((k : Int) + 1)) w = false) : kL w k = kL w (k + 1) := by rw [kL, if_neg (by rw [h]; decide)]
theorem kL_in (w : ByteArray) : ∀ k, 0 ≤ kL w k ∧ kL w k ≤ (k : Int) ∧ (kL w k ≠ 0 → edW (kL w k) = w)
  | 0 => ⟨Int.le_refl _, Int.le_refl _, fun h => absurd rfl h⟩
  | k + 1 => by
    have := kL_in w k
    cases h : eqv (edW ((k : Int) + 1)) w with
    | true => rw [← kL_yes h]; exact ⟨by omega, by omega, fun _ => eqv_iff.1 h⟩
    | false => rw [← kL_no h]; exact ⟨this.1, by omega, this.2.2⟩
theorem edW_ne : ∀ i : Nat, i < 5 → ∀ j : Nat, j < 5 → i ≠ j → edWL.getD i .empty ≠ edWL.getD j .empty := by decide
theorem kL_edW {k : Int} (h : 1 ≤ k ∧ k ≤ 4) : kL (edW k) 4 = k := by
  have hq : ∀ j : Nat, j < 4 → eqv (edW ((j : Int) + 1)) (edW k) = decide ((j : Int) + 1 = k) := fun j hj => by
    by_cases hk : (j : Int) + 1 = k
    · rw [hk, eqv_self, decide_eq_true rfl]
    · rw [decide_eq_false hk, eqv_false_iff]
      exact edW_ne _ (by omega) _ (by omega) (by omega)
  unfold kL kL kL kL kL
  rw [hq 3 (by omega), hq 2 (by omega), hq 1 (by omega), hq 0 (by omega)]
  simp only [decide_eq_true_eq]
  split
  · omega
  · split
    · omega
    · split
      · omega
      · split <;> omega
noncomputable def w1T (x : ByteArray) : ByteArray := (splB 32 x).getD 1 .empty
noncomputable def w2T (x : ByteArray) : ByteArray := (splB 32 x).getD 2 .empty
noncomputable def rsT (x : ByteArray) : ByteArray := x.extract (Int.toNat (((nmT x).size : Int) + 1)) x.size
noncomputable def kQ (x : ByteArray) : Int := kL (nmT x) 4
noncomputable def eQ0 (x : ByteArray) : DEdit := (kQ x, .empty, 0, zM)
noncomputable def eQ1 (x : ByteArray) : DEdit := (kQ x, (rcQ (rsT x)).1.1, 0, (rcQ (rsT x)).1.2)
noncomputable def eQ2 (x : ByteArray) : DEdit := (kQ x, w1T x, (nmQ (w2T x)).1, zM)
noncomputable def reQ (x : ByteArray) : DEdit × Bool :=
  if kQ x = 0 ∨ ((splB 32 x).length : Int) < 2 then (eQ0 x, false) else if kQ x = 1 ∨ kQ x = 2 then (eQ1 x, (rcQ (rsT x)).2)
  else if ((splB 32 x).length : Int) ≠ 3 then (eQ0 x, false) else if gdQ (w2T x) = false then (eQ0 x, false) else (eQ2 x, editB (eQ2 x))
theorem rq_none {x : ByteArray} (h : kQ x = 0 ∨ ((splB 32 x).length : Int) < 2) : reQ x = (eQ0 x, false) := if_pos h
theorem rq_low {x : ByteArray} (h : ¬ (kQ x = 0 ∨ ((splB 32 x).length : Int) < 2)) (h1 : kQ x = 1 ∨ kQ x = 2) : reQ x = (eQ1 x, (rcQ (rsT x)).2) := by rw [reQ, if_neg h, if_pos h1]
theorem rq_len {x : ByteArray} (h : ¬ (kQ x = 0 ∨ ((splB 32 x).length : Int) < 2)) (h1 : ¬ (kQ x = 1 ∨ kQ x = 2)) (h2 : ((splB 32 x).length : Int) ≠ 3) : reQ x = (eQ0 x, false) := by rw [reQ, if_neg h, if_neg h1, if_pos h2]
theorem rq_num {x : ByteArray} (h : ¬ (kQ x = 0 ∨ ((splB 32 x).length : Int) < 2)) (h1 : ¬ (kQ x = 1 ∨ kQ x = 2)) (h2 : ((splB 32 x).length : Int) = 3) (h3 : gdQ (w2T x) = false) : reQ x = (eQ0 x, false) := by rw [reQ, if_neg h, if_neg h1, if_neg (by omega), if_pos h3]
theorem rq_high {x : ByteArray} (h : ¬ (kQ x = 0 ∨ ((splB 32 x).length : Int) < 2)) (h1 : ¬ (kQ x = 1 ∨ kQ x = 2)) (h2 : ((splB 32 x).length : Int) = 3) (h3 : gdQ (w2T x) = true) : reQ x = (eQ2 x, editB (eQ2 x)) := by rw [reQ, if_neg h, if_neg h1, if_neg (by omega), if_neg (by rw [h3]; decide)]
/-- A text of two pieces or more. -/
theorem spl_two {c : UInt8} {x : ByteArray} (h : 2 ≤ (splB c x).length) : ∃ a r, c ∉ bL a ∧ x = a ++ (⟨#[c]⟩ ++ r) ∧ splB c x = a :: splB c r := by
  rw [splB_len] at h
  obtain ⟨h1, h2, h3, h4, h5⟩ := ix_ok (c := c) (x := x) (by omega)
  have e : x = x.extract 0 (ixB c x).toNat ++ (⟨#[c]⟩ ++ x.extract (ixB c x + 1).toNat x.size) := bL_ext (by rw [bL_app, bL_app]; exact h4)
  exact ⟨_, _, h5, e, by conv => lhs; rw [e]
                         exact spl_cons h5⟩
theorem rest_of {c : UInt8} {a r : ByteArray} : (a ++ (⟨#[c]⟩ ++ r)).extract (Int.toNat ((a.size : Int) + 1)) (a ++ (⟨#[c]⟩ ++ r)).size = r := bL_ext (by
  have e : bL (a ++ (⟨#[c]⟩ ++ r)) = bL a ++ c :: bL r := by rw [bL_app, bL_app]; rfl
  rw [bL_cut, ← bL_len (a ++ _), e, show ((a.size : Int) + 1).toNat = (bL a ++ [c]).length by rw [List.length_append, bL_len]; simp, show bL a ++ c :: bL r = (bL a ++ [c]) ++ bL r by simp, List.drop_left]
  apply List.take_of_length_le
  simp; omega)
theorem ed_of_card {k : Int} {c : DCard} (hk : k = 1 ∨ k = 2) (hc : cardOK c) : editB (k, c.1, 0, c.2) = true ∧ edTx (k, c.1, 0, c.2) = edW k ++ bsp ++ cdT c := by
  obtain ⟨n, m⟩ := c
  refine ⟨?_, ?_⟩
  · simp only [editB]
    rw [if_pos hk, tt_iff.2 hc.1, hc.2]; rfl
  · rw [edTx, edR_12 hk]
theorem rq_true {x : ByteArray} (h : (reQ x).2 = true) : editB (reQ x).1 = true ∧ edTx (reQ x).1 = x := by
  by_cases h0 : kQ x = 0 ∨ ((splB 32 x).length : Int) < 2
  · rw [rq_none h0] at h; cases h
  · obtain ⟨a, r, ha, hx, hs⟩ := spl_two (c := 32) (x := x) (by omega)
    have hn : nmT x = a := by rw [nmT, hs]; rfl
    have hr : rsT x = r := by rw [rsT, hn, hx]; exact rest_of
    have hk := kL_in (nmT x) 4
    have hw : edW (kQ x) = a := by rw [← hn]; exact hk.2.2 (by unfold kQ at h0; omega)
    have hkr : 1 ≤ kQ x ∧ kQ x ≤ 4 := by unfold kQ at h0 ⊢; omega
    by_cases h1 : kQ x = 1 ∨ kQ x = 2
    · rw [rq_low h0 h1] at h ⊢
      dsimp only at h ⊢
      have hc := rc_same (rsT x)
      have h2 : (rcS (rsT x)).2 = true := hc.1.symm.trans h
      obtain ⟨c1, c2⟩ := rc_ok h2
      have he : eQ1 x = (kQ x, (rcS (rsT x)).1.1, 0, (rcS (rsT x)).1.2) := by rw [eQ1, hc.2 h2]
      rw [he]
      obtain ⟨k1, k2⟩ := ed_of_card h1 c1
      refine ⟨k1, ?_⟩
      rw [k2, c2, hw, hr, ByteArray.append_assoc]
      exact hx.symm
    · by_cases h2 : ((splB 32 x).length : Int) = 3
      · by_cases h3 : gdQ (w2T x) = true
        · rw [rq_high h0 h1 h2 h3] at h ⊢
          have h : editB (eQ2 x) = true := h
          refine ⟨h, ?_⟩
          obtain ⟨b, t, hb, hx2, hs2⟩ := spl_two (c := 32) (x := r) (by rw [hs, List.length_cons] at h2; omega)
          have ht : splB 32 t = [t] := by
            have h4 : (splB 32 t).length = 1 := by rw [hs, hs2] at h2; simp only [List.length_cons] at h2; omega
            have h5 : cnB 32 t = 0 := by rw [splB_len] at h4; omega
            rw [splB, h5]; rfl
          have e1 : w1T x = b := by rw [w1T, hs, hs2]; rfl
          have e2 : w2T x = t := by rw [w2T, hs, hs2, ht]; rfl
          rw [e2] at h3
          obtain ⟨n, hn9, hnt⟩ := gdQ_dec.1 h3
          show edTx (eQ2 x) = x
          rw [edTx, edR_34 (by show ¬ (kQ x = 1 ∨ kQ x = 2); exact h1)]
          show edW (kQ x) ++ bsp ++ (w1T x ++ bsp ++ decB (nmQ (w2T x)).1.toNat) = x
          rw [e1, e2, hnt, nmQ_dec (by omega), hw]
          show a ++ bsp ++ (b ++ bsp ++ decB ((n : Int)).toNat) = x
          rw [Int.toNat_natCast, ← hnt]
          simp only [ByteArray.append_assoc]
          rw [hx, hx2]; rfl
        · rw [rq_num h0 h1 h2 (by simpa using h3)] at h; cases h
      · rw [rq_len h0 h1 h2] at h; cases h
theorem rq_edit {e : DEdit} (h : editB e = true) : reQ (edTx e) = (e, true) := by
  obtain ⟨h1, h2⟩ := edit_parts h
  obtain ⟨c1, c2⟩ := edC_ok h
  have hk := edit_kind h
  have ex : edTx e = edW e.1 ++ (⟨#[32]⟩ ++ edR e) := by rw [edTx, ByteArray.append_assoc]; rfl
  have hs : splB 32 (edTx e) = edW e.1 :: (edC e).1 :: (hol (edC e).2 96).map fun h => decB h.toNat := by rw [ex, spl_cons (edW_no hk), c2, spl_card c1]
  have hn : nmT (edTx e) = edW e.1 := by rw [nmT, hs]; rfl
  have hr : rsT (edTx e) = edR e := by rw [rsT, hn, ex]; exact rest_of
  have hkq : kQ (edTx e) = e.1 := by rw [kQ, hn]; exact kL_edW hk
  have h0 : ¬ (kQ (edTx e) = 0 ∨ ((splB 32 (edTx e)).length : Int) < 2) := by
    rw [hkq, hs]; simp only [List.length_cons]; omega
  obtain ⟨k, n, ho, m⟩ := e
  rcases h2 with ⟨h3, h4, h5⟩ | ⟨h3, h4⟩
  · have h3 : k = 1 ∨ k = 2 := h3
    have h4 : ho = 0 := h4
    have hc := rc_same (edR (k, n, ho, m))
    have hq : rcS (edR (k, n, ho, m)) = ((n, m), true) := by rw [c2, rc_card c1, edC, if_pos h3]
    have hq2 : rcQ (edR (k, n, ho, m)) = ((n, m), true) := by
      rw [hq] at hc
      exact Prod.ext (hc.2 rfl) hc.1
    rw [rq_low h0 (by rw [hkq]; exact h3), eQ1, hr, hq2, hkq, h4]
  · have h3 : k = 3 ∨ k = 4 := h3
    have hz : m = zM := by
      have h6 := h
      unfold editB at h6
      rw [Bool.and_eq_true] at h6
      have h7 := h6.2
      rw [if_neg (by show ¬ (k = 1 ∨ k = 2); omega), if_pos h3, Bool.and_eq_true, eqv_iff] at h7
      exact h7.2
    have he : edC (k, n, ho, m) = (n, bitM ho) := by rw [edC, if_neg (by show ¬ (k = 1 ∨ k = 2); omega)]
    rw [he] at hs
    have h4 : 0 ≤ ho ∧ ho < 96 := h4
    have hs2 : splB 32 (edTx (k, n, ho, m)) = [edW k, n, decB ho.toNat] := by rw [hs]; show _ :: _ :: (hol (bitM ho) 96).map _ = _; rw [hol_one h4]; rfl
    have e1 : w1T (edTx (k, n, ho, m)) = n := by rw [w1T, hs2]; rfl
    have e2 : w2T (edTx (k, n, ho, m)) = decB ho.toNat := by rw [w2T, hs2]; rfl
    have e3 : eQ2 (edTx (k, n, ho, m)) = (k, n, ho, m) := by
      rw [eQ2, e1, e2, nmQ_dec (by omega), hkq, hz]
      show (k, n, ((ho.toNat : Nat) : Int), zM) = _
      rw [Int.toNat_of_nonneg h4.1]
    rw [rq_high h0 (by rw [hkq]; show ¬ (k = 1 ∨ k = 2); omega) (by rw [hs2]; rfl) (by rw [e2]; exact gdQ_dec.2 ⟨ho.toNat, by omega, rfl⟩), e3, h]
theorem re_true {x : ByteArray} (h : (reS x).2 = true) : editB (reS x).1 = true ∧ edTx (reS x).1 = x := by
  have go : ∀ e, okE x e = true → editB e = true ∧ edTx e = x := fun e he => by
    rw [okE, Bool.and_eq_true, Bool.and_eq_true, eqv_iff] at he
    exact ⟨he.1.2, he.2⟩
  by_cases h1 : kdS x ≥ 3
  · by_cases h2 : ((hol (rdC x).1.2 96).length : Int) = 1
    · rw [re_high h1 h2] at h ⊢; exact go _ h
    · rw [re_bad h1 h2] at h; cases h
  · rw [re_low h1] at h ⊢; exact go _ h
theorem re_same (x : ByteArray) : (reQ x).2 = (reS x).2 ∧ ((reS x).2 = true → (reQ x).1 = (reS x).1) := by
  refine ⟨Bool.eq_iff_iff.2 ⟨fun h => ?_, fun h => ?_⟩, fun h => ?_⟩
  · obtain ⟨h1, h2⟩ := rq_true h
    rw [← h2, re_edit h1]
  · obtain ⟨h1, h2⟩ := re_true h
    rw [← h2, rq_edit h1]
  · obtain ⟨h1, h2⟩ := re_true h
    have h3 := rq_edit h1
    rw [h2] at h3
    rw [h3]
/-! ### Lines -/
theorem spl_emp (c : UInt8) : splB c .empty = [.empty] := splF_one (by simp [bL])
theorem spl_snoc (c : UInt8) : ∀ (k : Nat) (a : ByteArray), (splB c a).length = k + 1 → splB c (a ++ ⟨#[c]⟩) = splB c a ++ [.empty]
  | 0, a, h => by
    have h5 : cnB c a = 0 := by rw [splB_len] at h; omega
    have h1 : c ∉ bL a := List.count_eq_zero.1 (show List.count c (bL a) = 0 from h5)
    have h2 := spl_cons (y := .empty) h1
    have e : (⟨#[c]⟩ : ByteArray) ++ ByteArray.empty = ⟨#[c]⟩ := by simp
    rw [e] at h2
    rw [h2, spl_emp, splF_one h1]; rfl
  | k + 1, a, h => by
    obtain ⟨b, r, hb, hx, hs⟩ := spl_two (c := c) (x := a) (by omega)
    have ih := spl_snoc c k r (by rw [hs, List.length_cons] at h; omega)
    rw [hs]
    have e : a ++ ⟨#[c]⟩ = b ++ (⟨#[c]⟩ ++ (r ++ ⟨#[c]⟩)) := by
      conv => lhs; rw [hx]
      simp only [ByteArray.append_assoc]
    rw [e, spl_cons hb, ih]; rfl
/-- The last piece. -/
theorem spl_last (c : UInt8) : ∀ (k : Nat) (a : ByteArray), (splB c a).length = k + 1 → ∀ (h : (splB c a) ≠ []), ∃ p, a = p ++ (splB c a).getLast h ∧ (k = 0 → p = .empty) ∧ (1 ≤ k → ∃ q, p = q ++ ⟨#[c]⟩)
  | 0, a, h, hne => by
    have h5 : cnB c a = 0 := by rw [splB_len] at h; omega
    have h1 : c ∉ bL a := List.count_eq_zero.1 (show List.count c (bL a) = 0 from h5)
    refine ⟨.empty, ?_, fun _ => rfl, fun h => by omega⟩
    have h2 : splB c a = [a] := splF_one h1
    simp [h2]
  | k + 1, a, h, hne => by
    obtain ⟨b, r, hb, hx, hs⟩ := spl_two (c := c) (x := a) (by omega)
    have hr : (splB c r).length = k + 1 := by rw [hs, List.length_cons] at h; omega
    have hrn : splB c r ≠ [] := fun e => by rw [e] at hr; cases hr
    obtain ⟨p, h1, h2, h3⟩ := spl_last c k r hr hrn
    have hl : (splB c a).getLast hne = (splB c r).getLast hrn := by
      simp only [hs]
      exact List.getLast_cons hrn
    refine ⟨b ++ (⟨#[c]⟩ ++ p), ?_, fun h => by omega, fun _ => ?_⟩
    · rw [hl]
      conv => lhs; rw [hx, h1]
      simp only [ByteArray.append_assoc]
    · by_cases hk : k = 0
      · exact ⟨b, by rw [h2 hk]; simp⟩
      · obtain ⟨q, hq⟩ := h3 (by omega)
        exact ⟨b ++ (⟨#[c]⟩ ++ q), by rw [hq]; simp only [ByteArray.append_assoc]⟩
def lnQ (x : ByteArray) : List ByteArray := (splB 10 x).dropLast
def ltQ (x : ByteArray) : ByteArray := (splB 10 x).getLastD .empty
theorem spl_ne (c : UInt8) (x : ByteArray) : splB c x ≠ [] := fun e => by have := splB_len c x; rw [e] at this; simp at this
theorem lt_get (x : ByteArray) : (splB 10 x)[Int.toNat (((splB 10 x).length : Int) - 1)]? = some (ltQ x) := by
  have h := spl_ne 10 x
  rw [ltQ, List.getLastD_eq_getLast?, List.getLast?_eq_some_getLast h]
  have hl : 0 < (splB 10 x).length := List.length_pos_iff.2 h
  rw [show Int.toNat (((splB 10 x).length : Int) - 1) = (splB 10 x).length - 1 by omega, List.getElem?_eq_getElem (by omega), ← List.getLast_eq_getElem h]
  rfl
theorem lin_Q (x : ByteArray) : (linS x).2 = eqv (ltQ x) .empty ∧ ((linS x).2 = true → (linS x).1 = lnQ x) := by
  by_cases hx : x = .empty
  · subst hx
    rw [lin_nil rfl, ltQ, lnQ, spl_emp]
    exact ⟨(eqv_self _).symm, fun _ => rfl⟩
  · rw [lin_yes hx]
    have hne := spl_ne 10 x
    have hlt : ltQ x = (splB 10 x).getLast hne := by rw [ltQ, List.getLastD_eq_getLast?, List.getLast?_eq_some_getLast hne]; rfl
    by_cases he : endB 10 x = true
    · have h1 : x = cutB 10 x ++ ⟨#[10]⟩ := by
        have h2 := he
        rw [endB, Bool.and_eq_true, decide_eq_true_eq, eqv_iff] at h2
        rw [cutB, if_pos he, ← h2.2]
        refine bL_ext ?_
        have hl := bL_len x
        rw [bL_app, bL_cut, bL_cut]
        simp only [Nat.sub_zero, List.drop_zero]
        rw [List.take_of_length_le (l := (bL x).drop (x.size - 1)) (by rw [List.length_drop]; omega), List.take_append_drop]
      have h2 : splB 10 x = splB 10 (cutB 10 x) ++ [.empty] := by
        conv => lhs; rw [h1]
        exact spl_snoc 10 _ _ (splB_len 10 _)
      have h3 : ltQ x = .empty := by rw [ltQ, h2]; simp
      refine ⟨by rw [h3, eqv_self]; exact he, fun _ => ?_⟩
      show splB 10 (cutB 10 x) = lnQ x
      rw [lnQ, h2, List.dropLast_concat]
    · have he : endB 10 x = false := by simpa using he
      have hl : ltQ x ≠ .empty := fun e => by
        obtain ⟨p, h1, h2, h3⟩ := spl_last 10 _ x (splB_len 10 x) hne
        rw [← hlt, e] at h1
        have e1 : x = p := by rw [h1]; simp
        by_cases hk : cnB 10 x = 0
        · exact hx (by rw [e1]; exact h2 hk)
        · obtain ⟨q, hq⟩ := h3 (by omega)
          rw [e1, hq, (end_app 10 q).1] at he
          cases he
      exact ⟨by rw [eqv_false_iff.2 hl]; exact he, fun h => by rw [show (splB 10 (cutB 10 x), endB 10 x).2 = endB 10 x from rfl, he] at h; cases h⟩
noncomputable def gEQ (l : ByteArray) : Bool := (reQ l).2
noncomputable def cEQ (l : ByteArray) : DEdit := (reQ l).1
noncomputable def ok0 (x : ByteArray) : Bool := eqv (ltQ x) .empty && decide (((splB 10 x).length : Int) - 1 ≤ 200)
theorem ln_len (x : ByteArray) : (lnQ x).length + 1 = (splB 10 x).length := by
  have := splB_len 10 x
  rw [lnQ, List.length_dropLast]; omega
theorem g_same (l : ByteArray) : gEQ l = gdE l := (re_same l).1
theorem rs_okz {x : ByteArray} {z : Nat} (h : (ok0 x && ((lnQ x).take z).all gEQ) = false) : rsS x = ([], 5) := by
  obtain ⟨l1, l2⟩ := lin_Q x
  have hl := ln_len x
  cases h0 : ok0 x with
  | false =>
    refine rs_no ?_
    cases h2 : (linS x).2 with
    | false => rfl
    | true =>
      rw [ok0, ← l1, h2, Bool.true_and, decide_eq_false_iff_not] at h0
      rw [l2 h2, decide_eq_true (by omega)]; rfl
  | true =>
    rw [h0, Bool.true_and, List.all_eq_false] at h
    rw [ok0, Bool.and_eq_true, decide_eq_true_eq, ← l1] at h0
    obtain ⟨l, hm, hg⟩ := h
    have h3 := l2 h0.1
    rw [rsS, if_neg (by rw [h0.1, h3, decide_eq_false (by omega)]; decide), if_pos]
    rw [List.all_eq_false]
    exact ⟨l, by rw [h3]; exact List.mem_of_mem_take hm, by rw [← g_same]; exact hg⟩
theorem rs_allz {x : ByteArray} {z : Nat} (h : (ok0 x && ((lnQ x).take z).all gEQ) = true) (hz : (lnQ x).length ≤ z) : rsS x = (((lnQ x).take z).map cEQ, 0) := by
  obtain ⟨l1, l2⟩ := lin_Q x
  have hl := ln_len x
  rw [List.take_of_length_le hz] at h ⊢
  rw [Bool.and_eq_true, ok0, Bool.and_eq_true, decide_eq_true_eq, ← l1] at h
  have h3 := l2 h.1.1
  have ha : (linS x).1.all gdE = true := by
    rw [h3, List.all_eq_true]
    intro l hm
    rw [← g_same]; exact List.all_eq_true.1 h.2 l hm
  rw [rs_yes (by rw [h.1.1, h3, decide_eq_false (by omega)]; rfl) ha, h3]
  congr 1
  refine List.map_congr_left fun l hm => ?_
  rw [h3, List.all_eq_true] at ha
  exact ((re_same l).2 (ha l hm)).symm
theorem rs_len (x : ByteArray) : (rsS x).1.length ≤ 200 := by
  rw [rsS]
  split
  · simp
  · rename_i h
    split
    · simp
    · simp only [List.length_map]
      rw [Bool.or_eq_true, decide_eq_true_eq] at h
      omega
/-! ### Splitting, one byte behind another -/
def sprI (c : UInt8) (x : ByteArray) (p : Nat × Nat × List ByteArray) : Prop := p.1 ≤ x.size ∧ p.2.1 ≤ p.1 ∧ splB c x = p.2.2 ++ splB c (x.extract p.2.1 x.size) ∧ c ∉ bL (x.extract p.2.1 p.1)
theorem spr_zero (c : UInt8) (x : ByteArray) : sprI c x (0, 0, []) := by
  refine ⟨Nat.zero_le _, Nat.le_refl _, ?_, ?_⟩
  · have e : x.extract 0 x.size = x := bL_ext (by rw [bL_cut, ← bL_len]; simp)
    show splB c x = [] ++ splB c (x.extract 0 x.size)
    rw [e]; rfl
  · show c ∉ bL (x.extract 0 0)
    rw [bL_cut]; simp
theorem ext_more {x : ByteArray} {b i : Nat} {v : UInt8} (hb : b ≤ i) (hv : (bL x)[i]? = some v) : bL (x.extract b (i + 1)) = bL (x.extract b i) ++ [v] := by
  rw [bL_cut, bL_cut, show i + 1 - b = (i - b) + 1 by omega, List.take_add_one, List.getElem?_drop, show b + (i - b) = i by omega, hv]
  rfl
theorem ext_split {x : ByteArray} {b i : Nat} {v : UInt8} (hb : b ≤ i) (hv : (bL x)[i]? = some v) : x.extract b x.size = x.extract b i ++ (⟨#[v]⟩ ++ x.extract (i + 1) x.size) := by
  have hi : i < (bL x).length := (List.getElem?_eq_some_iff.1 hv).1
  have hl := bL_len x
  refine bL_ext ?_
  rw [bL_app, bL_app, bL_cut, bL_cut, bL_cut]
  rw [List.take_of_length_le (l := (bL x).drop b) (by rw [List.length_drop]; omega), List.take_of_length_le (l := (bL x).drop (i + 1)) (by rw [List.length_drop]; omega)]
  have h1 : (bL x).drop b = ((bL x).drop b).take (i - b) ++ ((bL x).drop b).drop (i - b) := (List.take_append_drop _ _).symm
  rw [List.drop_drop, show b + (i - b) = i by omega] at h1
  conv => lhs; rw [h1]
  congr 1
  rw [List.drop_eq_getElem_cons hi]
  rw [List.getElem?_eq_getElem hi] at hv
  injection hv with hv
  rw [hv]; rfl
theorem spr_hit {c : UInt8} {x : ByteArray} {p : Nat × Nat × List ByteArray} (h : sprI c x p) (hv : (bL x)[Int.toNat ((p.1 : Nat) : Int)]? = some c) : sprI c x (p.1 + 1, p.1 + 1, p.2.2 ++ [x.extract p.2.1 p.1]) := by
  obtain ⟨h1, h2, h3, h4⟩ := h
  rw [Int.toNat_natCast] at hv
  have hi : p.1 < (bL x).length := (List.getElem?_eq_some_iff.1 hv).1
  rw [bL_len] at hi
  refine ⟨hi, Nat.le_refl _, ?_, ?_⟩
  · show splB c x = (p.2.2 ++ [x.extract p.2.1 p.1]) ++ splB c (x.extract (p.1 + 1) x.size)
    rw [h3, ext_split h2 hv, spl_cons h4]; simp
  · show c ∉ bL (x.extract (p.1 + 1) (p.1 + 1))
    rw [bL_cut]; simp
theorem spr_miss {c v : UInt8} {x : ByteArray} {p : Nat × Nat × List ByteArray} (h : sprI c x p) (hv : (bL x)[Int.toNat ((p.1 : Nat) : Int)]? = some v) (hn : v ≠ c) : sprI c x (p.1 + 1, p.2.1, p.2.2) := by
  obtain ⟨h1, h2, h3, h4⟩ := h
  rw [Int.toNat_natCast] at hv
  have hi : p.1 < (bL x).length := (List.getElem?_eq_some_iff.1 hv).1
  rw [bL_len] at hi
  refine ⟨hi, by show p.2.1 ≤ p.1 + 1; omega, h3, ?_⟩
  show c ∉ bL (x.extract p.2.1 (p.1 + 1))
  rw [ext_more h2 hv, List.mem_append, List.mem_singleton]
  rintro (h5 | h5)
  · exact h4 h5
  · exact hn h5.symm
theorem spr_end {c : UInt8} {x : ByteArray} {p : Nat × Nat × List ByteArray} (h : sprI c x p) (hz : x.size ≤ p.1) : p.2.2 ++ [x.extract p.2.1 x.size] = splB c x := by
  obtain ⟨h1, h2, h3, h4⟩ := h
  have e : p.1 = x.size := by omega
  rw [e] at h4
  rw [h3, splF_one h4]
theorem spr_len {c : UInt8} {x : ByteArray} {p : Nat × Nat × List ByteArray} (h : sprI c x p) : p.2.2.length ≤ x.size := by
  have h1 := congrArg List.length h.2.2.1
  rw [List.length_append, splB_len, splB_len] at h1
  have := cnB_le c x
  omega
/-! ### What the walks ask -/
theorem hd_get {s : ByteArray} {b : Bool} (h : (eqv s ⟨#[]⟩ || b) = false) : s[Int.toNat 0]? = some ((bL s).headD 0) := by
  rw [Bool.or_eq_false_iff, eqv_false_iff] at h
  refine bL_get ?_
  show (bL s)[0]? = some ((bL s).headD 0)
  cases hl : bL s with
  | nil => exact absurd (bL_ext (by rw [hl]; rfl)) h.1
  | cons a l => rfl
theorem rj_eq (s : ByteArray) : ((eqv s ⟨#[]⟩ || decide ((s.size : Int) > 10)) || ((((bL s).headD 0).toNat : Int) == 48 && decide ((s.size : Int) > 1))) = rjL (bL s) := by
  have h1 : eqv s ⟨#[]⟩ = (bL s).isEmpty := by
    apply Bool.eq_iff_iff.2
    rw [eqv_iff, List.isEmpty_iff]
    exact ⟨fun e => by rw [e]; rfl, fun e => bL_ext (by rw [e]; rfl)⟩
  have h2 : decide ((s.size : Int) > 10) = decide ((bL s).length > 10) := by rw [bL_len]; apply Bool.eq_iff_iff.2; simp only [decide_eq_true_eq]; omega
  have h3 : decide ((s.size : Int) > 1) = decide ((bL s).length > 1) := by rw [bL_len]; apply Bool.eq_iff_iff.2; simp only [decide_eq_true_eq]; omega
  have h4 : ((((bL s).headD 0).toNat : Int) == 48) = ((bL s).headD 0 == 48) := by
    apply Bool.eq_iff_iff.2
    rw [beq_iff_eq, beq_iff_eq]
    exact ⟨fun e => u8_ext (by have : (48 : UInt8).toNat = 48 := rfl; omega), fun e => by rw [e]; rfl⟩
  rw [h1, h2, h3, h4]; rfl
theorem rj_len {s : ByteArray} (h : rjL (bL s) = false) : s.size ≤ 10 := by
  rw [rjL, Bool.or_eq_false_iff, Bool.or_eq_false_iff, decide_eq_false_iff_not, bL_len] at h
  omega
theorem dg_yes {b : UInt8} (h : (decide ((b.toNat : Int) < 48) || decide ((b.toNat : Int) > 57)) = false) : isDg b = true ∧ 48 ≤ b.toNat ∧ b.toNat ≤ 57 := by
  refine ⟨by rw [isDg, h]; rfl, ?_⟩
  rw [Bool.or_eq_false_iff, decide_eq_false_iff_not, decide_eq_false_iff_not] at h
  omega
theorem dg_no {b : UInt8} (h : (decide ((b.toNat : Int) < 48) || decide ((b.toNat : Int) > 57)) = true) : isDg b = false := by rw [isDg, h]; rfl
theorem wrd_get {x w : ByteArray} {z : Nat} (h : (wrdT x)[Int.toNat ((z : Nat) : Int)]? = some w) : (splB 32 x)[Int.toNat (((z : Nat) : Int) + 1)]? = some w := by
  rw [wrdT, Int.toNat_natCast, List.getElem?_drop] at h
  rw [show Int.toNat ((z : Int) + 1) = 1 + z by omega]; exact h
theorem gq_no {w : ByteArray} (h : (!((nmQ w).2) || !(inb (nmQ w).1 0 95)) = true) : gdQ w = false := by
  unfold gdQ
  cases h1 : (nmQ w).2 <;> cases h2 : inb (nmQ w).1 0 95 <;> simp_all
theorem gq_yes {w : ByteArray} (h : (!((nmQ w).2) || !(inb (nmQ w).1 0 95)) = false) : gdQ w = true ∧ 0 ≤ (nmQ w).1 ∧ (nmQ w).1 < 96 := by
  rw [Bool.or_eq_false_iff, Bool.not_eq_false', Bool.not_eq_false'] at h
  exact ⟨by rw [gdQ, h.1, h.2]; rfl, inb_iff.1 h.2⟩
theorem rs_le {x : ByteArray} (h : 2 ≤ (splB 32 x).length) : (nmT x).size + 1 ≤ x.size := by
  obtain ⟨a, r, ha, hx, hs⟩ := spl_two h
  have hn : nmT x = a := by rw [nmT, hs]; rfl
  have := congrArg ByteArray.size hx
  rw [ByteArray.size_append, ByteArray.size_append] at this
  have h1 : (⟨#[32]⟩ : ByteArray).size = 1 := rfl
  rw [hn]; omega
theorem rsT_le (x : ByteArray) : (rsT x).size ≤ x.size := by rw [rsT, ByteArray.size_extract]; omega
theorem w1_get {x : ByteArray} (h : ((splB 32 x).length : Int) = 3) : (splB 32 x)[Int.toNat 1]? = some (w1T x) := by
  show (splB 32 x)[1]? = _
  rw [w1T, List.getD_eq_getElem?_getD, List.getElem?_eq_getElem (by omega)]; rfl
theorem w2_get {x : ByteArray} (h : ((splB 32 x).length : Int) = 3) : (splB 32 x)[Int.toNat 2]? = some (w2T x) ∧ (w2T x).size ≤ x.size := by
  have h1 : (splB 32 x)[2]? = some (w2T x) := by rw [w2T, List.getD_eq_getElem?_getD, List.getElem?_eq_getElem (by omega)]; rfl
  exact ⟨h1, splB_size (List.mem_of_getElem? h1)⟩
theorem ln_get {x l : ByteArray} {z : Nat} (h : (lnQ x)[Int.toNat ((z : Nat) : Int)]? = some l) : (splB 10 x)[Int.toNat ((z : Nat) : Int)]? = some l := by
  rw [Int.toNat_natCast] at h ⊢
  rw [lnQ, List.getElem?_dropLast] at h
  split at h
  · exact h
  · cases h
end Go.Proofs.YtmmjcpiikdcldaaGreatDoor.VL
