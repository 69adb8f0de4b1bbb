/- Proved here: edits read from their texts, and checks kept edit by edit. Plain Lean. -/
import Derived.Test.YtmmjcpiikdcldaaGreatDoorPXD
set_option linter.unusedVariables false
set_option linter.unusedSimpArgs false
namespace Go.Proofs.YtmmjcpiikdcldaaGreatDoor.VL
open Go
attribute [local instance low] Classical.propDecidable
/-! ### A text cut in two -/
def cutP (c : UInt8) (x : ByteArray) : ByteArray × ByteArray × Bool := if 0 ≤ ixB c x then (x.extract 0 (ixB c x).toNat, x.extract (ixB c x + 1).toNat x.size, true) else (x, .empty, false)
theorem cutP_yes {c : UInt8} {x : ByteArray} (h : 0 ≤ ixB c x) : cutP c x = (x.extract 0 (ixB c x).toNat, x.extract (ixB c x + 1).toNat x.size, true) := if_pos h
theorem cutP_no {c : UInt8} {x : ByteArray} (h : ¬ 0 ≤ ixB c x) : cutP c x = (x, .empty, false) := if_neg h
theorem cutP_le (c : UInt8) (x : ByteArray) : (cutP c x).2.1.size ≤ x.size := by
  unfold cutP
  split
  · show (x.extract _ _).size ≤ _
    rw [ByteArray.size_extract]; omega
  · show ByteArray.empty.size ≤ _
    exact Nat.zero_le _
theorem cutP_app {c : UInt8} {a r : ByteArray} (h : c ∉ bL a) : cutP c (a ++ (⟨#[c]⟩ ++ r)) = (a, r, true) := by
  have e : bL (a ++ (⟨#[c]⟩ ++ r)) = bL a ++ c :: bL r := by rw [bL_app, bL_app]; rfl
  have h2 : ixB c (a ++ (⟨#[c]⟩ ++ r)) = a.size := by
    show Lib.indexByte (bL _) c = _
    rw [e, ix_at h, bL_len]
  rw [cutP_yes (by omega), h2]
  have h3 : (a ++ (⟨#[c]⟩ ++ r)).extract 0 (a.size : Int).toNat = a := bL_ext (by rw [bL_cut, e, ← bL_len]; simp)
  have h4 : (a ++ (⟨#[c]⟩ ++ r)).extract ((a.size : Int) + 1).toNat (a ++ (⟨#[c]⟩ ++ r)).size = r := bL_ext (by
    rw [bL_cut, ← bL_len (a ++ _), e, show ((a.size : Int) + 1).toNat = (bL a ++ [c]).length by rw [List.length_append, bL_len]; simp, show bL a ++ c :: bL r = (bL a ++ [c]) ++ bL r by simp, List.drop_left]
    apply List.take_of_length_le
    simp; omega)
  rw [h3, h4]
/-! ### Edits -/
def wrd4 : List ByteArray := [⟨#[97, 100, 100]⟩, ⟨#[100, 114, 111, 112]⟩, ⟨#[110, 111, 116, 99, 104]⟩, ⟨#[102, 105, 108, 108]⟩]
noncomputable def kdS (x : ByteArray) : Int := idxQ (fun b => eqv (cutP 32 x).1 b) wrd4 + 1
theorem kd_in (x : ByteArray) : 0 ≤ kdS x ∧ kdS x ≤ 4 ∧ idxQ (fun b => eqv (cutP 32 x).1 b) wrd4 + 1 = kdS x := by
  refine ⟨?_, ?_, rfl⟩
  · unfold kdS idxQ; split <;> omega
  · unfold kdS idxQ
    have : wrd4.length = 4 := rfl
    split <;> omega
noncomputable def rdC (x : ByteArray) : DCard × Bool := rcS (cutP 32 x).2.1
noncomputable def edTx (e : DEdit) : ByteArray := edW e.1 ++ bsp ++ edR e
noncomputable def okE (x : ByteArray) (e : DEdit) : Bool := (rdC x).2 && editB e && eqv (edTx e) x
noncomputable def ed0 (x : ByteArray) : DEdit := (kdS x, (rdC x).1.1, 0, (rdC x).1.2)
def hl0 (m : DMask) : Int := (hol m 96).headD 0
noncomputable def ed1 (x : ByteArray) : DEdit := (kdS x, (rdC x).1.1, hl0 (rdC x).1.2, zM)
def zE : DEdit := (0, .empty, 0, zM)
noncomputable def reS (x : ByteArray) : DEdit × Bool := if kdS x ≥ 3 then (if ((hol (rdC x).1.2 96).length : Int) ≠ 1 then (zE, false) else (ed1 x, okE x (ed1 x))) else (ed0 x, okE x (ed0 x))
theorem re_low {x : ByteArray} (h : ¬ kdS x ≥ 3) : reS x = (ed0 x, okE x (ed0 x)) := if_neg h
theorem re_bad {x : ByteArray} (h : kdS x ≥ 3) (h1 : ((hol (rdC x).1.2 96).length : Int) ≠ 1) : reS x = (zE, false) := by rw [reS, if_pos h, if_pos h1]
theorem re_high {x : ByteArray} (h : kdS x ≥ 3) (h1 : ((hol (rdC x).1.2 96).length : Int) = 1) : reS x = (ed1 x, okE x (ed1 x)) := by rw [reS, if_pos h, if_neg (by rw [h1]; exact fun h2 => h2 rfl)]
theorem hl0_get {m : DMask} (h : ((hol m 96).length : Int) = 1) : (hol m 96)[Int.toNat 0]? = some (hl0 m) ∧ 0 ≤ hl0 m ∧ hl0 m < 96 := by
  unfold hl0
  cases hl : hol m 96 with
  | nil => rw [hl] at h; cases h
  | cons a l =>
    have := hol_mem (m := m) (z := 96) (a := a) (by rw [hl]; simp)
    exact ⟨rfl, by show 0 ≤ a; omega, by show a < 96; omega⟩
theorem rng_one : ∀ n, n < 96 → (List.range 96).filter (fun i => i == n) = [n] := by decide +kernel
theorem hol_one {h : Int} (hh : 0 ≤ h ∧ h < 96) : hol (bitM h) 96 = [h] := by
  have h1 : (List.range 96).filter (bitB (bitM h)) = (List.range 96).filter (fun i => i == h.toNat) := by
    refine List.filter_congr fun i hi => ?_
    rw [List.mem_range] at hi
    rw [bit_i hh (by omega)]
    apply Bool.eq_iff_iff.2
    simp only [decide_eq_true_eq, beq_iff_eq]; omega
  rw [hol, h1, rng_one _ (by omega)]
  simp [Int.toNat_of_nonneg hh.1]
theorem edW_no {k : Int} (h : 1 ≤ k ∧ k ≤ 4) : (32 : UInt8) ∉ bL (edW k) := by
  rcases (by omega : k = 1 ∨ k = 2 ∨ k = 3 ∨ k = 4) with rfl | rfl | rfl | rfl <;> decide
theorem edW_kd {k : Int} (h : 1 ≤ k ∧ k ≤ 4) : idxQ (fun b => eqv (edW k) b) wrd4 + 1 = k := by
  have hw : wrd4 = edWL.drop 1 := rfl
  have e1 : edW 1 = ⟨#[97, 100, 100]⟩ := rfl
  have e2 : edW 2 = ⟨#[100, 114, 111, 112]⟩ := rfl
  have e3 : edW 3 = ⟨#[110, 111, 116, 99, 104]⟩ := rfl
  have e4 : edW 4 = ⟨#[102, 105, 108, 108]⟩ := rfl
  have n1 : ∀ a b : ByteArray, a.size ≠ b.size → eqv a b = false := fun a b hn => eqv_false_iff.2 fun e => hn (by rw [e])
  have n2 : eqv (⟨#[102, 105, 108, 108]⟩ : ByteArray) ⟨#[100, 114, 111, 112]⟩ = false := eqv_false_iff.2 (by decide)
  have n3 : eqv (⟨#[100, 114, 111, 112]⟩ : ByteArray) ⟨#[102, 105, 108, 108]⟩ = false := eqv_false_iff.2 (by decide)
  rcases (by omega : k = 1 ∨ k = 2 ∨ k = 3 ∨ k = 4) with rfl | rfl | rfl | rfl
  · rw [e1, idxQ, wrd4]; simp [List.findIdx_cons, eqv_self]
  · rw [e2, idxQ, wrd4]; simp [List.findIdx_cons, eqv_self, n1 ⟨#[100, 114, 111, 112]⟩ ⟨#[97, 100, 100]⟩ (by decide)]
  · rw [e3, idxQ, wrd4]; simp [List.findIdx_cons, eqv_self, n1 ⟨#[110, 111, 116, 99, 104]⟩ ⟨#[97, 100, 100]⟩ (by decide), n1 ⟨#[110, 111, 116, 99, 104]⟩ ⟨#[100, 114, 111, 112]⟩ (by decide)]
  · rw [e4, idxQ, wrd4]; simp [List.findIdx_cons, eqv_self, n1 ⟨#[102, 105, 108, 108]⟩ ⟨#[97, 100, 100]⟩ (by decide), n2, n1 ⟨#[102, 105, 108, 108]⟩ ⟨#[110, 111, 116, 99, 104]⟩ (by decide)]
theorem ed_cut {e : DEdit} (h : editB e = true) : cutP 32 (edTx e) = (edW e.1, edR e, true) := by
  rw [edTx, ByteArray.append_assoc]
  exact cutP_app (edW_no (edit_kind h))
/-- The card whose text is behind the word. -/
def edC (e : DEdit) : DCard := if e.1 = 1 ∨ e.1 = 2 then (e.2.1, e.2.2.2) else (e.2.1, bitM e.2.2.1)
theorem edC_ok {e : DEdit} (h : editB e = true) : cardOK (edC e) ∧ edR e = cdT (edC e) := by
  obtain ⟨h1, h2⟩ := edit_parts h
  rcases h2 with ⟨h3, h4, h5⟩ | ⟨h3, h4⟩
  · rw [edC, if_pos h3, edR_12 h3]
    exact ⟨⟨h1, h5⟩, rfl⟩
  · rw [edC, if_neg (by omega), edR_34 (by omega)]
    refine ⟨⟨h1, okM_one h4⟩, ?_⟩
    rw [cdT]
    show _ = (hol (bitM e.2.2.1) 96).foldl cdF e.2.1
    rw [hol_one h4, List.foldl_cons, List.foldl_nil, cdF, ByteArray.append_assoc]
theorem re_edit {e : DEdit} (h : editB e = true) : reS (edTx e) = (e, true) := by
  obtain ⟨h1, h2⟩ := edit_parts h
  have hc := ed_cut h
  obtain ⟨c1, c2⟩ := edC_ok h
  have hr : rdC (edTx e) = (edC e, true) := by rw [rdC, hc]; show rcS (edR e) = _; rw [c2]; exact rc_card c1
  have hk : kdS (edTx e) = e.1 := by rw [kdS, hc]; exact edW_kd (edit_kind h)
  obtain ⟨k, n, ho, m⟩ := e
  rcases h2 with ⟨h3, h4, h5⟩ | ⟨h3, h4⟩
  · have h3 : k = 1 ∨ k = 2 := h3
    have e0 : ed0 (edTx (k, n, ho, m)) = (k, n, ho, m) := by
      rw [ed0, hr, hk, edC, if_pos h3]
      have h4 : ho = 0 := h4
      rw [h4]
    rw [re_low (by rw [hk]; show ¬ k ≥ 3; omega), okE, hr, e0, h, eqv_self]; rfl
  · have h3 : k = 3 ∨ k = 4 := h3
    have hz : m = zM := by
      have h6 := h
      unfold editB at h6
      rw [Bool.and_eq_true] at h6
      have h7 := h6.2
      rw [if_neg (by show ¬ (k = 1 ∨ k = 2); omega), if_pos h3, Bool.and_eq_true, eqv_iff] at h7
      exact h7.2
    have hb : (rdC (edTx (k, n, ho, m))).1.2 = bitM ho := by rw [hr, edC, if_neg (by show ¬ (k = 1 ∨ k = 2); omega)]
    have e1 : ed1 (edTx (k, n, ho, m)) = (k, n, ho, m) := by
      rw [ed1, hb, hk, hl0, hol_one h4, hr, edC, if_neg (by show ¬ (k = 1 ∨ k = 2); omega), hz]; rfl
    rw [re_high (by rw [hk]; show k ≥ 3; omega) (by rw [hb, hol_one h4]; rfl), okE, hr, e1, h, eqv_self]; rfl
/-! ### Edits in lines -/
noncomputable def gdE (l : ByteArray) : Bool := (reS l).2
noncomputable def reC (l : ByteArray) : DEdit := (reS l).1
noncomputable def rsS (x : ByteArray) : List DEdit × Int := if (!(linS x).2 || decide (((linS x).1.length : Int) > 200)) = true then ([], 5) else if (linS x).1.all gdE = false then ([], 5) else ((linS x).1.map reC, 0)
theorem rs_no {x : ByteArray} (h : (!(linS x).2 || decide (((linS x).1.length : Int) > 200)) = true) : rsS x = ([], 5) := if_pos h
theorem rs_bad {x l : ByteArray} {z : Nat} (h : (!(linS x).2 || decide (((linS x).1.length : Int) > 200)) = false) (hl : (linS x).1[Int.toNat ((z : Nat) : Int)]? = some l) (hg : (reS l).2 = false) : rsS x = ([], 5) := by
  rw [rsS, if_neg (by rw [h]; decide), if_pos]
  rw [List.all_eq_false]
  exact ⟨l, mem_getI hl, by rw [gdE, hg]; decide⟩
theorem rs_yes {x : ByteArray} (h : (!(linS x).2 || decide (((linS x).1.length : Int) > 200)) = false) (ha : (linS x).1.all gdE = true) : rsS x = ((linS x).1.map reC, 0) := by
  rw [rsS, if_neg (by rw [h]; decide), if_neg (by rw [ha]; decide)]
/-! ### Checks -/
end Go.Proofs.YtmmjcpiikdcldaaGreatDoor.VL
