/- Proved here: edits read from their texts, and checks kept edit by edit. Plain Lean. -/
import Derived.Test.YtmmjcpiikdcldaaGreatDoorPXD
set_option linter.unusedVariables false
set_option linter.unusedSimpArgs false
namespace Go.Proofs.YtmmjcpiikdcldaaGreatDoor.VL
open Go
attribute [local instance low] Classical.propDecidable
/-! ### A text cut in two -/
def cutP (c : UInt8) (x : ByteArray) : ByteArray × ByteArray × Bool := if 0 ≤ ixB c x then (x.extract 0 (ixB c x).toNat, x.extract (ixB c x + 1).toNat x.size, true) else (x, .empty, false)
theorem cutP_yes {c : UInt8} {x : ByteArray} (h : 0 ≤ ixB c x) : cutP c x = (x.extract 0 (ixB c x).toNat, x.extract (ixB c x + 1).toNat x.size, true) := if_pos h
theorem cutP_no {c : UInt8} {x : ByteArray} (h : ¬ 0 ≤ ixB c x) : cutP c x = (x, .empty, false) := if_neg h
theorem cutP_le (c : UInt8) (x : ByteArray) : (cutP c x).2.1.size ≤ x.size := by
  unfold cutP
  split
  · show (x.extract _ _).size ≤ _
    rw [ByteArray.size_extract]; omega
  · show ByteArray.empty.size ≤ _
    exact Nat.zero_le _
theorem cutP_app {c : UInt8} {a r : ByteArray} (h : c ∉ bL a) : cutP c (a ++ (⟨#[c]⟩ ++ r)) = (a, r, true) := by
  have e : bL (a ++ (⟨#[c]⟩ ++ r)) = bL a ++ c :: bL r := by rw [bL_app, bL_app]; rfl
  have h2 : ixB c (a ++ (⟨#[c]⟩ ++ r)) = a.size := by
    show Lib.indexByte (bL _) c = _
    rw [e, ix_at h, bL_len]
  rw [cutP_yes (by omega), h2]
  have h3 : (a ++ (⟨#[c]⟩ ++ r)).extract 0 (a.size : Int).toNat = a := bL_ext (by rw [bL_cut, e, ← bL_len]; simp)
  have h4 : (a ++ (⟨#[c]⟩ ++ r)).extract ((a.size : Int) + 1).toNat (a ++ (⟨#[c]⟩ ++ r)).size = r := bL_ext (by
    rw [bL_cut, ← bL_len (a ++ _), e, show ((a.size : Int) + 1).toNat = (bL a ++ [c]).length by rw [List.length_append, bL_len]; simp, show bL a ++ c :: bL r = (bL a ++ [c]) ++ bL r by simp, List.drop_left]
    apply List.take_of_length_le
    simp; omega)
  rw [h3, h4]
/-! ### Edits -/
def wrd4 : List ByteArray := [⟨#[97, 100, 100]⟩, ⟨#[100, 114, 111, 112]⟩, ⟨#[110, 111, 116, 99, 104]⟩, ⟨#[102, 105, 108, 108]⟩]
noncomputable def kdS (x : ByteArray) : Int := idxQ (fun b => eqv (cutP 32 x).1 b) wrd4 + 1
theorem kd_in (x : ByteArray) : 0 ≤ kdS x ∧ kdS x ≤ 4 ∧ idxQ (fun b => eqv (cutP 32 x).1 b) wrd4 + 1 = kdS x := by
  refine ⟨?_, ?_, rfl⟩
  · unfold kdS idxQ; split <;> omega
  · unfold kdS idxQ
    have : wrd4.length = 4 := rfl
    split <;> omega
noncomputable def rdC (x : ByteArray) : DCard × Bool := rcS (cutP 32 x).2.1
noncomputable def edTx (e : DEdit) : ByteArray := edW e.1 ++ bsp ++ edR e
noncomputable def okE (x : ByteArray) (e : DEdit) : Bool := (rdC x).2 && editB e && eqv (edTx e) x
noncomputable def ed0 (x : ByteArray) : DEdit := (kdS x, (rdC x).1.1, 0, (rdC x).1.2)
def hl0 (m : DMask) : Int := (hol m 96).headD 0
noncomputable def ed1 (x : ByteArray) : DEdit := (kdS x, (rdC x).1.1, hl0 (rdC x).1.2, zM)
def zE : DEdit := (0, .empty, 0, zM)
noncomputable def reS (x : ByteArray) : DEdit × Bool := if kdS x ≥ 3 then (if ((hol (rdC x).1.2 96).length : Int) ≠ 1 then (zE, false) else (ed1 x, okE x (ed1 x))) else (ed0 x, okE x (ed0 x))
theorem re_low {x : ByteArray} (h : ¬ kdS x ≥ 3) : reS x = (ed0 x, okE x (ed0 x)) := if_neg h
theorem re_bad {x : ByteArray} (h : kdS x ≥ 3) (h1 : ((hol (rdC x).1.2 96).length : Int) ≠ 1) : reS x = (zE, false) := by rw [reS, if_pos h, if_pos h1]
theorem re_high {x : ByteArray} (h : kdS x ≥ 3) (h1 : ((hol (rdC x).1.2 96).length : Int) = 1) : reS x = (ed1 x, okE x (ed1 x)) := by rw [reS, if_pos h, if_neg (by rw [h1]; exact fun h2 => h2 rfl)]
theorem hl0_get {m : DMask} (h : ((hol m 96).length : Int) = 1) : (hol m 96)[Int.toNat 0]? = some (hl0 m) ∧ 0 ≤ hl0 m ∧ hl0 m < 96 := by
  unfold hl0
  cases hl : hol m 96 with
  | nil => rw [hl] at h; cases h
  | cons a l =>
    have := hol_mem (m := m) (z := 96) (a := a) (by rw [hl]; simp)
    exact ⟨rfl, by show 0 ≤ a; omega, by show a < 96; omega⟩
theorem rng_one : ∀ n, n < 96 → (List.range 96).filter (fun i => i == n) = [n] := by decide +kernel
theorem hol_one {h : Int} (hh : 0 ≤ h ∧ h < 96) : hol (bitM h) 96 = [h] := by
  have h1 : (List.range 96).filter (bitB (bitM h)) = (List.range 96).filter (fun i => i == h.toNat) := by
    refine List.filter_congr fun i hi => ?_
    rw [List.mem_range] at hi
    rw [bit_i hh (by omega)]
    apply Bool.eq_iff_iff.2
    simp only [decide_eq_true_eq, beq_iff_eq]; omega
  rw [hol, h1, rng_one _ (by omega)]
  simp [Int.toNat_of_nonneg hh.1]
theorem edW_no {k : Int} (h : 1 ≤ k ∧ k ≤ 4) : (32 : UInt8) ∉ bL (edW k) := by
  rcases (by omega : k = 1 ∨ k = 2 ∨ k = 3 ∨ k = 4) with rfl | rfl | rfl | rfl <;> decide
theorem edW_kd {k : Int} (h : 1 ≤ k ∧ k ≤ 4) : idxQ (fun b => eqv (edW k) b) wrd4 + 1 = k := by
  have hw : wrd4 = edWL.drop 1 := rfl
  have e1 : edW 1 = ⟨#[97, 100, 100]⟩ := rfl
  have e2 : edW 2 = ⟨#[100, 114, 111, 112]⟩ := rfl
  have e3 : edW 3 = ⟨#[110, 111, 116, 99, 104]⟩ := rfl
  have e4 : edW 4 = ⟨#[102, 105, 108, 108]⟩ := rfl
  have n1 : ∀ a b : ByteArray, a.size ≠ b.size → eqv a b = false := fun a b hn => eqv_false_iff.2 fun e => hn (by rw [e])
  have n2 : eqv (⟨#[102, 105, 108, 108]⟩ : ByteArray) ⟨#[100, 114, 111, 112]⟩ = false := eqv_false_iff.2 (by decide)
  have n3 : eqv (⟨#[100, 114, 111, 112]⟩ : ByteArray) ⟨#[102, 105, 108, 108]⟩ = false := eqv_false_iff.2 (by decide)
  rcases (by omega : k = 1 ∨ k = 2 ∨ k = 3 ∨ k = 4) with rfl | rfl | rfl | rfl
  · rw [e1, idxQ, wrd4]; simp [List.findIdx_cons, eqv_self]
  · rw [e2, idxQ, wrd4]; simp [List.findIdx_cons, eqv_self, n1 ⟨#[100, 114, 111, 112]⟩ ⟨#[97, 100, 100]⟩ (by decide)]
  · rw [e3, idxQ, wrd4]; simp [List.findIdx_cons, eqv_self, n1 ⟨#[110, 111, 116, 99, 104]⟩ ⟨#[97, 100, 100]⟩ (by decide), n1 ⟨#[110, 111, 116, 99, 104]⟩ ⟨#[100, 114, 111, 112]⟩ (by decide)]
  · rw [e4, idxQ, wrd4]; simp [List.findIdx_cons, eqv_self, n1 ⟨#[102, 105, 108, 108]⟩ ⟨#[97, 100, 100]⟩ (by decide), n2, n1 ⟨#[102, 105, 108, 108]⟩ ⟨#[110, 111, 116, 99, 104]⟩ (by decide)]
theorem ed_cut {e : DEdit} (h : editB e = true) : cutP 32 (edTx e) = (edW e.1, edR e, true) := by
  rw [edTx, ByteArray.append_assoc]
  exact cutP_app (edW_no (edit_kind h))
/-- The card whose text is behind the word. -/
def edC (e : DEdit) : DCard := if e.1 = 1 ∨ e.1 = 2 then (e.2.1, e.2.2.2) else (e.2.1, bitM e.2.2.1)
theorem edC_ok {e : DEdit} (h : editB e = true) : cardOK (edC e) ∧ edR e = cdT (edC e) := by
  obtain ⟨h1, h2⟩ := edit_parts h
  rcases h2 with ⟨h3, h4, h5⟩ | ⟨h3, h4⟩
  · rw [edC, if_pos h3, edR_12 h3]
    exact ⟨⟨h1, h5⟩, rfl⟩
  · rw [edC, if_neg (by omega), edR_34 (by omega)]
    refine ⟨⟨h1, okM_one h4⟩, ?_⟩
    rw [cdT]
    show _ = (hol (bitM e.2.2.1) 96).foldl cdF e.2.1
    rw [hol_one h4, List.foldl_cons, List.foldl_nil, cdF, ByteArray.append_assoc]
theorem re_edit {e : DEdit} (h : editB e = true) : reS (edTx e) = (e, true) := by
  obtain ⟨h1, h2⟩ := edit_parts h
  have hc := ed_cut h
  obtain ⟨c1, c2⟩ := edC_ok h
  have hr : rdC (edTx e) = (edC e, true) := by rw [rdC, hc]; show rcS (edR e) = _; rw [c2]; exact rc_card c1
  have hk : kdS (edTx e) = e.1 := by rw [kdS, hc]; exact edW_kd (edit_kind h)
  obtain ⟨k, n, ho, m⟩ := e
  rcases h2 with ⟨h3, h4, h5⟩ | ⟨h3, h4⟩
  · have h3 : k = 1 ∨ k = 2 := h3
    have e0 : ed0 (edTx (k, n, ho, m)) = (k, n, ho, m) := by
      rw [ed0, hr, hk, edC, if_pos h3]
      have h4 : ho = 0 := h4
      rw [h4]
    rw [re_low (by rw [hk]; show ¬ k ≥ 3; omega), okE, hr, e0, h, eqv_self]; rfl
  · have h3 : k = 3 ∨ k = 4 := h3
    have hz : m = zM := by
      have h6 := h
      unfold editB at h6
      rw [Bool.and_eq_true] at h6
      have h7 := h6.2
      rw [if_neg (by show ¬ (k = 1 ∨ k = 2); omega), if_pos h3, Bool.and_eq_true, eqv_iff] at h7
      exact h7.2
    have hb : (rdC (edTx (k, n, ho, m))).1.2 = bitM ho := by rw [hr, edC, if_neg (by show ¬ (k = 1 ∨ k = 2); omega)]
    have e1 : ed1 (edTx (k, n, ho, m)) = (k, n, ho, m) := by
      rw [ed1, hb, hk, hl0, hol_one h4, hr, edC, if_neg (by show ¬ (k = 1 ∨ k = 2); omega), hz]; rfl
    rw [re_high (by rw [hk]; show k ≥ 3; omega) (by rw [hb, hol_one h4]; rfl), okE, hr, e1, h, eqv_self]; rfl
theorem ed_words {e : DEdit} (h : editB e = true) : ∀ w ∈ wrdT (cutP 32 (edTx e)).2.1, ∃ n, n < 96 ∧ w = decB n := by
  rw [ed_cut h]
  show ∀ w ∈ wrdT (edR e), _
  obtain ⟨c1, c2⟩ := edC_ok h
  rw [c2]
  exact wrd_card c1
/-! ### Edits in lines -/
noncomputable def gdE (l : ByteArray) : Bool := (reS l).2
noncomputable def reC (l : ByteArray) : DEdit := (reS l).1
noncomputable def rsS (x : ByteArray) : List DEdit × Int := if (!(linS x).2 || decide (((linS x).1.length : Int) > 200)) = true then ([], 5) else if (linS x).1.all gdE = false then ([], 5) else ((linS x).1.map reC, 0)
theorem rs_no {x : ByteArray} (h : (!(linS x).2 || decide (((linS x).1.length : Int) > 200)) = true) : rsS x = ([], 5) := if_pos h
theorem rs_bad {x l : ByteArray} {z : Nat} (h : (!(linS x).2 || decide (((linS x).1.length : Int) > 200)) = false) (hl : (linS x).1[Int.toNat ((z : Nat) : Int)]? = some l) (hg : (reS l).2 = false) : rsS x = ([], 5) := by
  rw [rsS, if_neg (by rw [h]; decide), if_pos]
  rw [List.all_eq_false]
  exact ⟨l, mem_getI hl, by rw [gdE, hg]; decide⟩
theorem rs_yes {x : ByteArray} (h : (!(linS x).2 || decide (((linS x).1.length : Int) > 200)) = false) (ha : (linS x).1.all gdE = true) : rsS x = ((linS x).1.map reC, 0) := by
  rw [rsS, if_neg (by rw [h]; decide), if_neg (by rw [ha]; decide)]
theorem edT_lines {l : List DEdit} (h : l.all editB = true) : linS (edT l) = (l.map edTx, true) := by
  have h1 : edT l = (l.map edTx).foldl (fun t a => t ++ (a ++ bnl)) .empty := by
    rw [List.foldl_map, edT]
    congr 1
    funext t e
    rw [edF, edTx]
    simp only [ByteArray.append_assoc]
  rw [h1]
  refine lin_fold (fun t a => rfl) fun a ha => ?_
  rw [List.mem_map] at ha
  obtain ⟨e, he, rfl⟩ := ha
  have hb := List.all_eq_true.1 h e he
  obtain ⟨c1, c2⟩ := edC_ok hb
  rw [edTx, bL_app, bL_app, c2]
  intro h2
  rw [List.mem_append, List.mem_append] at h2
  rcases h2 with (h2 | h2) | h2
  · have hk := edit_kind hb
    revert h2
    rcases (by omega : e.1 = 1 ∨ e.1 = 2 ∨ e.1 = 3 ∨ e.1 = 4) with e1 | e1 | e1 | e1 <;> rw [e1] <;> decide
  · revert h2; decide
  · exact cdT_no c1.1 h2
theorem ed_read {l : List DEdit} (h : l.all editB = true) (hl : l.length ≤ 200) : txtS l = edT l ∧ rsS (edT l) = (l, 0) := by
  refine ⟨txt_yes (by rw [h, decide_eq_false (by omega)]; rfl), ?_⟩
  have h1 := edT_lines h
  rw [rs_yes (by rw [h1]; show (!true || decide (((l.map edTx).length : Int) > 200)) = false; rw [List.length_map, decide_eq_false (by omega)]; rfl), h1]
  · show ((l.map edTx).map reC, _) = _
    rw [List.map_map]
    congr 1
    conv => rhs; rw [← List.map_id l]
    refine List.map_congr_left fun e he => ?_
    show reC (edTx e) = e
    rw [reC, re_edit (List.all_eq_true.1 h e he)]
  · rw [h1, List.all_eq_true]
    intro x hx
    rw [List.mem_map] at hx
    obtain ⟨e, he, rfl⟩ := hx
    rw [gdE, re_edit (List.all_eq_true.1 h e he)]
theorem ed_lines {l : List DEdit} (h : l.all editB = true) : ∀ x ∈ (linS (edT l)).1, ∀ w ∈ wrdT (cutP 32 x).2.1, ∃ n, n < 96 ∧ w = decB n := by
  rw [edT_lines h]
  intro x hx
  have hx : x ∈ l.map edTx := hx
  rw [List.mem_map] at hx
  obtain ⟨e, he, rfl⟩ := hx
  exact ed_words (List.all_eq_true.1 h e he)
/-! ### Checks -/
def sumR : List DCard → BitVec 64
  | [] => 0#64
  | c :: l => hashC c + sumR l
theorem sumH_R : ∀ (l : List DCard) (a : BitVec 64), l.foldl (fun h c => h + hashC c) a = a + sumR l
  | [], a => by simp [sumR]
  | c :: l, a => by rw [List.foldl_cons, sumH_R l, sumR, BitVec.add_assoc]
theorem sumH_is (l : List DCard) : sumH l = sumR l := by rw [sumH, sumH_R]; simp
theorem sumR_app : ∀ l r : List DCard, sumR (l ++ r) = sumR l + sumR r
  | [], r => by simp [sumR]
  | c :: l, r => by rw [List.cons_append, sumR, sumR, sumR_app l r, BitVec.add_assoc]
theorem sumR_perm {l r : List DCard} (h : l.Perm r) : sumR l = sumR r := by
  induction h with
  | nil => rfl
  | cons c _ ih => rw [sumR, sumR, ih]
  | swap a b l => simp only [sumR]; rw [← BitVec.add_assoc, ← BitVec.add_assoc, BitVec.add_comm (hashC b)]
  | trans _ _ i1 i2 => rw [i1, i2]
noncomputable def othR (x : List DCard) (s : ByteArray) : List DCard := x.filter fun c => !(eqv c.1 s)
theorem own_sum {x : List DCard} (hx : deckOK x) (s : ByteArray) : sumH x = ownH x s + sumR (othR x s) := by
  rw [sumH_is]
  have h1 := sumR_perm (List.filter_append_perm (fun c : DCard => eqv c.1 s) x)
  rw [sumR_app] at h1
  rw [← h1]
  congr 1
  by_cases hf : findC s x < 0
  · rw [ownH_no hf, List.filter_eq_nil_iff.2 fun c hc => by rw [eqv_false_iff.2 (findC_neg.1 hf c hc)]; decide]; rfl
  · obtain ⟨a, ha, hn, _⟩ := findC_of (s := s) (y := x) (by omega)
    rw [ownH_yes hf ha]
    have hp : (x.filter fun c => eqv c.1 s).Perm [a] := by
      refine (List.perm_ext_iff_of_nodup ((deck_nodup hx).filter _) (by simp)).2 fun c => ?_
      rw [List.mem_filter, List.mem_singleton, eqv_iff]
      have ham : a ∈ x := List.mem_of_getElem? ha
      constructor
      · rintro ⟨h2, h3⟩
        have h4 := (mem_deck hx).1 h2
        have h5 := (mem_deck hx).1 ham
        rw [h3] at h4
        rw [hn, h4] at h5
        exact Prod.ext (by rw [h3, hn]) (Prod.mk.inj h5).2
      · rintro rfl
        exact ⟨ham, hn⟩
    rw [sumR_perm hp]; simp [sumR]
theorem oth_same {x y : List DCard} (hx : deckOK x) (hy : deckOK y) {s : ByteArray} (h : ∀ t, t ≠ s → stOf y t = stOf x t) : sumR (othR y s) = sumR (othR x s) := by
  refine sumR_perm ((List.perm_ext_iff_of_nodup ((deck_nodup hy).filter _) ((deck_nodup hx).filter _)).2 fun c => ?_)
  rw [List.mem_filter, List.mem_filter]
  by_cases hc : c.1 = s
  · rw [hc, eqv_self]; simp
  · rw [mem_deck hy, mem_deck hx, h c.1 hc]
theorem ap_isD {x y : List DCard} {e : DEdit} (hx : deckOK x) (he : editB e = true) (h : applyS x e = (y, 0)) : ∃ v, isD y (stU (stOf x) e.2.1 v) := by
  have hp := edit_parts he
  have hxl := hx.1
  by_cases h1 : e.1 = 1
  · by_cases hl : x.length = 80
    · rw [ap_full h1 hl] at h; exact absurd (Prod.mk.inj h).2 (by decide)
    · by_cases hf : 0 ≤ findC e.2.1 x
      · rw [ap_there h1 hl hf] at h; exact absurd (Prod.mk.inj h).2 (by decide)
      · obtain ⟨z, h2, h3, _⟩ := do_add ⟨hx, fun s => rfl⟩ (by omega) h1 ⟨hp.1, by rcases hp.2 with h4 | h4 <;> first | exact h4.2.2 | omega⟩ (st_false.2 (by omega))
        rw [h] at h2
        obtain rfl := (Prod.mk.inj h2).1
        exact ⟨_, h3⟩
  · by_cases hf : findC e.2.1 x < 0
    · rw [ap_none h1 hf] at h; exact absurd (Prod.mk.inj h).2 (by decide)
    · obtain ⟨a, ha, hn, _⟩ := findC_of (s := e.2.1) (y := x) (by omega)
      have h0 : stOf x e.2.1 = (true, a.2) := st_yes hf ha
      by_cases h2 : e.1 = 2
      · by_cases hm : a.2 = e.2.2.2
        · obtain ⟨z, h3, h4, h5⟩ := do_drop ⟨hx, fun s => rfl⟩ h2 (by rw [h0, hm])
          rw [h] at h3
          obtain rfl := (Prod.mk.inj h3).1
          exact ⟨_, h4⟩
        · rw [ap_ndrop h2 hf ha hm] at h; exact absurd (Prod.mk.inj h).2 (by decide)
      · have hk := edit_kind he
        have hh := edit_hole he h1 h2
        by_cases hb : hasM a.2 e.2.2.1 = decide (e.1 = 3)
        · rw [ap_bad h1 h2 hf ha hb] at h; exact absurd (Prod.mk.inj h).2 (by decide)
        · by_cases h3 : e.1 = 3
          · rw [h3, show decide ((3 : Int) = 3) = true from rfl, Bool.not_eq_true] at hb
            obtain ⟨z, h4, h5, _⟩ := do_notch ⟨hx, fun s => rfl⟩ h3 hh h0 hb
            rw [h] at h4
            obtain rfl := (Prod.mk.inj h4).1
            exact ⟨_, h5⟩
          · have h4k : e.1 = 4 := by omega
            rw [decide_eq_false h3, Bool.not_eq_false] at hb
            obtain ⟨z, h4, h5, _⟩ := do_fill ⟨hx, fun s => rfl⟩ h4k h0 hb
            rw [h] at h4
            obtain rfl := (Prod.mk.inj h4).1
            exact ⟨_, h5⟩
theorem ap_check {x y : List DCard} {e : DEdit} (hx : deckOK x) (he : editB e = true) (h : applyS x e = (y, 0)) : deckOK y ∧ afterS (sumH x) x e = (sumH y, 0) ∧ checkC y = (sumH y, 0) := by
  obtain ⟨v, hy⟩ := ap_isD hx he h
  refine ⟨hy.1, ?_, checkC_yes (tt_iff.2 hy.1)⟩
  rw [after_ok (by rw [tt_iff.2 hx, he]; rfl) (by rw [h]), h]
  have h1 := own_sum hx e.2.1
  have h2 := own_sum hy.1 e.2.1
  have h3 := oth_same hx hy.1 (s := e.2.1) (fun t ht => by rw [hy.2, stU, if_neg ht])
  show (sumH x - ownH x e.2.1 + ownH y e.2.1, (0 : Int)) = _
  rw [h1, h2, h3, BitVec.add_comm (ownH x e.2.1), BitVec.add_sub_cancel, BitVec.add_comm]
theorem ed_in {l : List DEdit} (h : l.all editB = true) (hl : l.length ≤ 200) : (txtS l).size ≤ 100000000 ∧ (∀ x ∈ (linS (txtS l)).1, ∀ w ∈ wrdT (cutP 32 x).2.1, ∃ n, n < 96 ∧ w = decB n) ∧ rsS (txtS l) = (l, 0) := by
  obtain ⟨h1, h2⟩ := ed_read h hl
  rw [h1]
  refine ⟨?_, ed_lines h, h2⟩
  have h3 := edT_at h hl l.length
  rw [List.take_length] at h3
  show (l.foldl edF .empty).size ≤ _
  omega
theorem ed_none {d b : List DCard} (hd : deckOK d) (h : (betw d b).length = 0) : eqv (manyS d (betw d b)).1 d = true := by
  rw [List.eq_nil_of_length_eq_zero h, many_ok (y := d) (by rw [tt_iff.2 hd]; rfl) (by simp) rfl]
  exact eqv_self d
theorem ed_step {d b p : List DCard} {z : Nat} {e : DEdit} (hd : deckOK d) (hb : deckOK b) (h : amS p ((betw d b).drop z) = amS d (betw d b)) (hp : deckOK p) (he : (betw d b)[Int.toNat ((z : Nat) : Int)]? = some e) :
    editB e = true ∧ (applyS p e).2 = 0 ∧ deckOK (applyS p e).1 ∧ afterS (sumH p) p e = (sumH (applyS p e).1, 0) ∧ checkC (applyS p e).1 = (sumH (applyS p e).1, 0) ∧ amS (applyS p e).1 ((betw d b).drop (z + 1)) = amS d (betw d b) := by
  have heb := all_get (betw_all hd hb) he
  have h1 : (applyS p e).2 = 0 := by
    refine Classical.byContradiction fun h2 => ?_
    obtain ⟨y, h3, _⟩ := betw_go hd hb
    have h4 := am_code he h h2
    rw [h3] at h4
    exact h2 (Prod.mk.inj h4).2.symm
  obtain ⟨h5, h6, h7⟩ := ap_check (y := (applyS p e).1) hp heb (by rw [← h1])
  exact ⟨heb, h1, h5, h6, h7, am_next he h h1⟩
theorem ed_last {d b p : List DCard} {z : Nat} (hd : deckOK d) (hb : deckOK b) (h : amS p ((betw d b).drop z) = amS d (betw d b)) (hz : (betw d b).length ≤ z) : sumH p = sumH b := by
  obtain ⟨y, h3, h4⟩ := betw_go hd hb
  have h5 := am_end h hz
  rw [h3] at h5
  obtain rfl := (Prod.mk.inj h5).1
  rw [sumH_is, sumH_is]
  exact sumR_perm (perm_of h4.1 hb h4.2)
end Go.Proofs.YtmmjcpiikdcldaaGreatDoor.VL
