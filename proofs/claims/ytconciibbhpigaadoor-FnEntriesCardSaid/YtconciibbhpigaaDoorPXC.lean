/- Proved here: catalogues that are drawn: paths, what is narrower, what an entry means, and texts that are read back. Plain Lean. -/
import Derived.Test.YtconciibbhpigaaDoorPXI
import Derived.Test.YtconciibbhpigaaDoorPXD
import Derived.Test.YtconciibbhpigaaDoorPXE
import Derived.Test.YtconciibbhpigaaDoorPZN
set_option linter.unusedVariables false
set_option linter.unusedSimpArgs false
namespace Go.Proofs.YtconciibbhpigaaDoor.VL
open Go
abbrev DEnt := ByteArray × Int × Int
def eAt (list : List DEnt) (i : Int) : DEnt := list.getD i.toNat (.empty, -1, -1)
theorem eAt_get {list : List DEnt} {i : Int} (h : 0 ≤ i ∧ i < list.length) : list[i.toNat]? = some (eAt list i) := by
  rw [eAt, List.getD_eq_getElem?_getD, List.getElem?_eq_getElem (by omega)]; rfl
theorem eAt_of {list : List DEnt} {z : Nat} {x : DEnt} (h : list[Int.toNat ((z : Nat) : Int)]? = some x) : eAt list (z : Int) = x := by
  rw [eAt, List.getD_eq_getElem?_getD, h]; rfl
/-- What a drawn catalogue keeps to: links lead to entries ahead. -/
structure catI (list : List DEnt) : Prop where
  len : list.length ≤ 9
  nam : ∀ i : Nat, i < list.length → (eAt list (i : Int)).1 = calledL.getD i .empty
  see : ∀ i : Nat, i < list.length → (eAt list (i : Int)).2.1 = -1 ∨ (0 ≤ (eAt list (i : Int)).2.1 ∧ (eAt list (i : Int)).2.1 < i ∧ (eAt list (eAt list (i : Int)).2.1).2.1 = -1 ∧ (eAt list (i : Int)).2.2 = -1)
  brd : ∀ i : Nat, i < list.length → (eAt list (i : Int)).2.2 = -1 ∨ (0 ≤ (eAt list (i : Int)).2.2 ∧ (eAt list (i : Int)).2.2 < i ∧ (eAt list (eAt list (i : Int)).2.2).2.1 = -1 ∧ (eAt list (i : Int)).2.1 = -1)
section
variable {list : List DEnt}
theorem catI.nm (h : catI list) {i : Int} (hi : 0 ≤ i ∧ i < list.length) : (eAt list i).1 = calledL.getD i.toNat .empty := by
  obtain ⟨j, rfl⟩ : ∃ j : Nat, i = j := ⟨i.toNat, by omega⟩
  exact h.nam j (by omega)
theorem catI.sI (h : catI list) {i : Int} (hi : 0 ≤ i ∧ i < list.length) : (eAt list i).2.1 = -1 ∨ (0 ≤ (eAt list i).2.1 ∧ (eAt list i).2.1 < i ∧ (eAt list (eAt list i).2.1).2.1 = -1 ∧ (eAt list i).2.2 = -1) := by
  obtain ⟨j, rfl⟩ : ∃ j : Nat, i = j := ⟨i.toNat, by omega⟩
  exact h.see j (by omega)
theorem catI.bI (h : catI list) {i : Int} (hi : 0 ≤ i ∧ i < list.length) : (eAt list i).2.2 = -1 ∨ (0 ≤ (eAt list i).2.2 ∧ (eAt list i).2.2 < i ∧ (eAt list (eAt list i).2.2).2.1 = -1 ∧ (eAt list i).2.1 = -1) := by
  obtain ⟨j, rfl⟩ : ∃ j : Nat, i = j := ⟨i.toNat, by omega⟩
  exact h.brd j (by omega)
theorem called_get {i : Nat} (h : i < 16) : calledL[i]? = some (calledL.getD i .empty) := by
  rw [List.getD_eq_getElem?_getD, List.getElem?_eq_getElem (show i < calledL.length from h)]; rfl
theorem catI.ok (h : catI list) {i : Int} (hi : 0 ≤ i ∧ i < list.length) : enOK (eAt list i).1 := by
  rw [h.nm hi]; have := h.len
  exact called_ok _ (List.mem_of_getElem? (called_get (by omega)))
theorem called_inj : ∀ i, i < 16 → ∀ j, j < 16 → calledL.getD i .empty = calledL.getD j .empty → i = j := by decide +kernel
theorem catI.inj (h : catI list) {i j : Int} (hi : 0 ≤ i ∧ i < list.length) (hj : 0 ≤ j ∧ j < list.length) (e : (eAt list i).1 = (eAt list j).1) : i = j := by
  rw [h.nm hi, h.nm hj] at e; have := h.len
  have := called_inj i.toNat (by omega) j.toNat (by omega) e
  omega
/-! ### The preferred one, and paths -/
def preI (list : List DEnt) (i : Int) : Int := if (eAt list i).2.1 ≠ -1 then (eAt list i).2.1 else i
theorem pre_in (h : catI list) {i : Int} (hi : 0 ≤ i ∧ i < list.length) : 0 ≤ preI list i ∧ preI list i < list.length ∧ (eAt list (preI list i)).2.1 = -1 := by
  have := h.sI hi
  unfold preI; split <;> omega
theorem pre_see {i : Int} (h : (eAt list i).2.1 ≠ -1) : preI list i = (eAt list i).2.1 := if_pos h
theorem pre_own {i : Int} (h : (eAt list i).2.1 = -1) : preI list i = i := if_neg (by omega)
def upF (list : List DEnt) : Nat → Int → List Int
  | 0, _ => []
  | f + 1, at_ => if at_ = -1 then [] else at_ :: upF list f (eAt list at_).2.2
theorem upF_more (h : catI list) : ∀ (f : Nat) (i : Int), -1 ≤ i ∧ i < list.length → i < f → upF list (f + 1) i = upF list f i
  | 0, i, hi, hf => by
    have : i = -1 := by omega
    subst this; simp [upF]
  | f + 1, i, hi, hf => by
    by_cases h1 : i = -1
    · subst h1; simp [upF]
    · have hb := h.bI (i := i) (by omega)
      rw [upF, if_neg h1, upF_more h f _ (by omega) (by omega), upF, if_neg h1]
/-- The path from an index up, none from -1. -/
def pthI (list : List DEnt) (i : Int) : List Int := upF list 9 i
theorem pth_none : pthI list (-1) = [] := by simp [pthI, upF]
theorem pth_step (h : catI list) {i : Int} (hi : 0 ≤ i ∧ i < list.length) : pthI list i = i :: pthI list (eAt list i).2.2 := by
  have hl := h.len
  have hb := h.bI hi
  rw [pthI, upF, if_neg (by omega), pthI, upF_more h 8 _ (by omega) (by omega)]
theorem pth_all (h : catI list) : ∀ (n : Nat) (i : Int), i < n → -1 ≤ i → i < list.length → ∀ x ∈ pthI list i, 0 ≤ x ∧ x ≤ i ∧ ((eAt list i).2.1 = -1 → (eAt list x).2.1 = -1)
  | 0, i, hn, h1, h2, x, hx => by
    have : i = -1 := by omega
    subst this; rw [pth_none] at hx; cases hx
  | n + 1, i, hn, h1, h2, x, hx => by
    by_cases h3 : i = -1
    · subst h3; rw [pth_none] at hx; cases hx
    · rw [pth_step h (by omega)] at hx
      rcases List.mem_cons.1 hx with rfl | hx
      · exact ⟨by omega, by omega, fun e => e⟩
      · have hb := h.bI (i := i) (by omega)
        have := pth_all h n _ (by omega) (by omega) (by omega) x hx
        refine ⟨this.1, by omega, fun e => ?_⟩
        rcases hb with hb | hb
        · rw [hb] at hx; rw [pth_none] at hx; cases hx
        · exact this.2.2 hb.2.2.1
theorem pth_mem (h : catI list) {i x : Int} (hi : 0 ≤ i ∧ i < list.length) (hx : x ∈ pthI list i) : 0 ≤ x ∧ x ≤ i ∧ ((eAt list i).2.1 = -1 → (eAt list x).2.1 = -1) := pth_all h (i.toNat + 1) i (by omega) (by omega) hi.2 x hx
theorem pth_last (h : catI list) : ∀ (n : Nat) (i : Int), i < n → 0 ≤ i → i < list.length → (eAt list i).2.1 = -1 → ∃ x, (pthI list i).getLast? = some x ∧ 0 ≤ x ∧ x < list.length ∧ (eAt list x).2.1 = -1 ∧ (eAt list x).2.2 = -1
  | 0, i, hn, h1, _, _ => by omega
  | n + 1, i, hn, h1, h2, hs => by
    have hb := h.bI (i := i) ⟨h1, h2⟩
    rw [pth_step h ⟨h1, h2⟩]
    rcases hb with hb | hb
    · rw [hb, pth_none]; exact ⟨i, rfl, h1, h2, hs, hb⟩
    · obtain ⟨x, hx, hr⟩ := pth_last h n _ (by omega) hb.1 (by omega) hb.2.2.1
      refine ⟨x, ?_, hr⟩
      rw [List.getLast?_cons, hx]; rfl
theorem pth_len (h : catI list) : ∀ (n : Nat) (i : Int), i < n → -1 ≤ i → i < list.length → ((pthI list i).length : Int) ≤ i + 1
  | 0, i, hn, h1, h2 => by
    have : i = -1 := by omega
    subst this; rw [pth_none]; simp
  | n + 1, i, hn, h1, h2 => by
    by_cases h3 : i = -1
    · subst h3; rw [pth_none]; simp
    · have hb := h.bI (i := i) (by omega)
      have := pth_len h n (eAt list i).2.2 (by omega) (by omega) (by omega)
      rw [pth_step h (by omega), List.length_cons]; omega
/-- The path of an entry. -/
def pthE (list : List DEnt) (i : Int) : List Int := pthI list (preI list i)
theorem pthE_cons (h : catI list) {i : Int} (hi : 0 ≤ i ∧ i < list.length) : pthE list i = preI list i :: pthI list (eAt list (preI list i)).2.2 := pth_step h ⟨(pre_in h hi).1, (pre_in h hi).2.1⟩
theorem pthE_len (h : catI list) {i : Int} (hi : 0 ≤ i ∧ i < list.length) : 1 ≤ (pthE list i).length ∧ (pthE list i).length ≤ 9 := by
  have h1 := pre_in h hi
  have h2 := pth_len h ((preI list i).toNat + 1) (preI list i) (by omega) (by omega) h1.2.1
  have hl := h.len
  refine ⟨by rw [pthE_cons h hi, List.length_cons]; omega, ?_⟩
  show (pthI list (preI list i)).length ≤ 9
  omega
theorem pthE_rest (h : catI list) {i x : Int} (hi : 0 ≤ i ∧ i < list.length) (hx : x ∈ (pthE list i).drop 1) : x < preI list i := by
  rw [pthE_cons h hi] at hx
  have h1 := pre_in h hi
  have hb := h.bI ⟨h1.1, h1.2.1⟩
  have hx' : x ∈ pthI list (eAt list (preI list i)).2.2 := hx
  rcases hb with hb | hb
  · rw [hb, pth_none] at hx'; cases hx'
  · have := pth_mem h ⟨hb.1, by omega⟩ hx'; omega
/-! ### Rows of indices -/
def selI (n : Nat) (p : Int → Bool) : List Int := (idN n).filter p
theorem sel_yes {n : Nat} {p : Int → Bool} (h : p (n : Int) = true) : selI (n + 1) p = selI n p ++ [(n : Int)] := by rw [selI, idN_more, List.filter_append, List.filter_cons, if_pos h]; rfl
theorem sel_no {n : Nat} {p : Int → Bool} (h : p (n : Int) = false) : selI (n + 1) p = selI n p := by rw [selI, idN_more, List.filter_append, List.filter_cons, if_neg (by rw [h]; decide)]; simp [selI]
theorem sel_len (n : Nat) (p : Int → Bool) : (selI n p).length ≤ n := Nat.le_trans (List.length_filter_le _ _) (by rw [idN_len]; exact Nat.le_refl _)
theorem sel_has {n : Nat} {p : Int → Bool} {m : Nat} (hm : m < n) : hasV (m : Int) (selI n p) = p (m : Int) := by
  apply Bool.eq_iff_iff.2
  rw [hasV_iff, selI, List.mem_filter]
  exact ⟨fun h => h.2, fun h => ⟨List.mem_of_getElem? (idN_get hm), h⟩⟩
theorem sel_congr {n : Nat} {p q : Int → Bool} (h : ∀ i : Int, 0 ≤ i ∧ i < n → p i = q i) : selI n p = selI n q := by
  refine List.filter_congr fun i hi => h i ?_
  have := idN_in hi; exact ⟨this.1, this.2⟩
def narQ (list : List DEnt) (i k : Int) : Bool := (eAt list k).2.1 == -1 && hasV (preI list i) ((pthE list k).drop 1)
def narP (list : List DEnt) (i : Int) : List Int := selI list.length (narQ list i)
def expR (list : List DEnt) (i k : Int) : Bool := hasV (preI list i) (pthE list k)
def expE (list : List DEnt) (i : Int) : List Int := selI list.length (expR list i)
def expQ (list : List DEnt) (i k : Int) : Bool := hasV (preI list k) (narP list i ++ [preI list i])
def expI (list : List DEnt) (i : Int) : List Int := selI list.length (expQ list i)
def synQ (list : List DEnt) (i k : Int) : Bool := (eAt list k).2.1 == preI list i
def synP (list : List DEnt) (i : Int) : List Int := selI list.length (synQ list i)
def topQ (list : List DEnt) (k : Int) : Bool := (eAt list k).2.1 == -1 && (eAt list k).2.2 == -1
def topP (list : List DEnt) : List Int := selI list.length (topQ list)
theorem hasV_app (v : Int) (l : List Int) (u : Int) : hasV v (l ++ [u]) = (hasV v l || u == v) := by simp [hasV]
theorem hasV_cons (v a : Int) (l : List Int) : hasV v (a :: l) = (a == v || hasV v l) := by simp [hasV]
theorem exp_same (h : catI list) {i : Int} (hi : 0 ≤ i ∧ i < list.length) : expI list i = expE list i := by
  refine sel_congr fun k hk => ?_
  have hq := pre_in h hk
  have hown : pthE list (preI list k) = pthE list k := by rw [pthE, pre_own hq.2.2]; rfl
  obtain ⟨m, hm⟩ : ∃ m : Nat, preI list k = m := ⟨(preI list k).toNat, by omega⟩
  rw [expQ, expR, hasV_app, hm, narP, sel_has (by omega), ← hm, narQ, hown, hq.2.2, pthE_cons h hk, hasV_cons]
  simp only [beq_self_eq_true, Bool.true_and, List.drop_one, List.tail_cons]
  rw [Bool.or_comm]
  congr 1
  exact Bool.eq_iff_iff.2 (by rw [beq_iff_eq, beq_iff_eq]; exact eq_comm)
theorem exp_own (h : catI list) {i : Int} (hi : 0 ≤ i ∧ i < list.length) : expI list (preI list i) = expE list i := by
  have hq := pre_in h hi
  rw [exp_same h ⟨hq.1, hq.2.1⟩]
  exact sel_congr fun k _ => by rw [expR, expR, pre_own hq.2.2]
theorem exp_has {m : Nat} (hm : m < list.length) (i : Int) : hasV (m : Int) (expE list i) = hasV (preI list i) (pthE list (m : Int)) := sel_has hm
theorem nar_has (h : catI list) {m : Nat} (hm : m < list.length) (i : Int) : hasV (m : Int) (narP list i) = ((eAt list (m : Int)).2.1 == -1 && !((m : Int) == preI list i) && hasV (preI list i) (pthE list (m : Int))) := by
  rw [narP, sel_has hm, narQ]
  by_cases hs : (eAt list (m : Int)).2.1 = -1
  · have hmm : 0 ≤ (m : Int) ∧ (m : Int) < list.length := by omega
    have h1 := pre_own hs
    rw [hs, pthE_cons h hmm, hasV_cons, h1]
    simp only [beq_self_eq_true, Bool.true_and, List.drop_one, List.tail_cons]
    by_cases h2 : (m : Int) = preI list i
    · have h3 : hasV (preI list i) (pthI list (eAt list (m : Int)).2.2) = false := by
        cases hh : hasV (preI list i) (pthI list (eAt list (m : Int)).2.2) with
        | false => rfl
        | true =>
          have h4 := pthE_rest h hmm (x := preI list i) (by rw [pthE_cons h hmm, h1]; exact hasV_iff.1 hh)
          rw [h1] at h4; omega
      rw [h3, ← h2]; simp
    · have h5 : ((m : Int) == preI list i) = false := beq_eq_false_iff_ne.2 h2
      rw [h5]; simp
  · have h5 : ((eAt list (m : Int)).2.1 == -1) = false := beq_eq_false_iff_ne.2 hs
    rw [h5]; simp
theorem syn_has {m : Nat} (hm : m < list.length) (i : Int) : hasV (m : Int) (synP list i) = ((eAt list (m : Int)).2.1 == preI list i) := sel_has hm
theorem lst_get {l : List Int} {x : Int} (h : l.getLast? = some x) : l[Int.toNat ((l.length : Int) - 1)]? = some x := by
  have hl : l ≠ [] := fun e => by rw [e] at h; cases h
  have := List.length_pos_iff.2 hl
  rw [List.getLast?_eq_getElem?] at h
  rw [show Int.toNat ((l.length : Int) - 1) = l.length - 1 by omega]; exact h
theorem top_has (h : catI list) {m : Int} (hm : 0 ≤ m ∧ m < list.length) : ∃ x, (pthE list m)[Int.toNat (((pthE list m).length : Int) - 1)]? = some x ∧ hasV x (topP list) = true := by
  have hq := pre_in h hm
  obtain ⟨x, hx, h1, h2, h3, h4⟩ := pth_last h ((preI list m).toNat + 1) (preI list m) (by omega) hq.1 hq.2.1 hq.2.2
  refine ⟨x, lst_get hx, ?_⟩
  obtain ⟨j, rfl⟩ : ∃ j : Nat, x = j := ⟨x.toNat, by omega⟩
  rw [topP, sel_has (by omega), topQ, h3, h4]; rfl
/-- The first of a row that another one has. -/
def comL (a b : List Int) : Int × Int := match a.find? fun x => hasV x b with
  | some x => (x, 0)
  | none => (0, 6)
theorem com_at {a b : List Int} {z : Nat} {x : Int} (hx : a[Int.toNat ((z : Nat) : Int)]? = some x) (h : ∀ i y, i < z → a[i]? = some y → hasV y b = false) (hh : hasV x b = true) : comL a b = (x, 0) := by
  have : a.find? (fun x => hasV x b) = some x := by
    rw [toN] at hx
    rw [List.find?_eq_some_iff_getElem]
    obtain ⟨hz, rfl⟩ := List.getElem?_eq_some_iff.1 hx
    refine ⟨hh, z, hz, rfl, fun j hj => ?_⟩
    rw [h j _ hj (List.getElem?_eq_getElem (by omega))]; rfl
  rw [comL, this]
theorem com_no {a b : List Int} {z : Nat} (h : ∀ i y, i < z → a[i]? = some y → hasV y b = false) (hz : a.length ≤ z) : comL a b = (0, 6) := by
  have : a.find? (fun x => hasV x b) = none := by
    rw [List.find?_eq_none]
    intro y hy
    obtain ⟨i, hi⟩ := List.getElem?_of_mem hy
    have := (List.getElem?_eq_some_iff.1 hi).1
    rw [h i y (by omega) hi]; decide
  rw [comL, this]
theorem com_step {a b : List Int} {z : Nat} {x : Int} (hx : a[Int.toNat ((z : Nat) : Int)]? = some x) (h : ∀ i y, i < z → a[i]? = some y → hasV y b = false) (hh : hasV x b = false) : ∀ i y, i < z + 1 → a[i]? = some y → hasV y b = false := by
  intro i y hi hy
  rcases Nat.lt_or_ge i z with h1 | h1
  · exact h i y h1 hy
  · obtain rfl : i = z := by omega
    rw [toN] at hx; rw [hx] at hy; obtain rfl := Option.some.inj hy; exact hh
theorem com_in {a b : List Int} (h : (comL a b).2 = 0) : hasV (comL a b).1 a = true ∧ hasV (comL a b).1 b = true := by
  unfold comL at *
  cases hf : a.find? fun x => hasV x b with
  | none => rw [hf] at h; cases h
  | some x =>
    have h2 : hasV x b = true := List.find?_some (p := fun x => hasV x b) hf
    exact ⟨hasV_iff.2 (List.mem_of_find?_eq_some hf), h2⟩
theorem com_code (a b : List Int) : (comL a b).2 = 0 ∨ (comL a b).2 = 6 := by unfold comL; split <;> simp
end
end Go.Proofs.YtconciibbhpigaaDoor.VL
