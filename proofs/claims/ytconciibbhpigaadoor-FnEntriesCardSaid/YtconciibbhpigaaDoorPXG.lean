/- Proved here: the text of a catalogue is read back, and drawn catalogues keep to what is asked of them. Plain Lean. -/
import Derived.Test.YtconciibbhpigaaDoorPXC
import Derived.Test.YtconciibbhpigaaDoorBpa
set_option linter.unusedVariables false
set_option linter.unusedSimpArgs false
namespace Go.Proofs.YtconciibbhpigaaDoor.VL
open Go
attribute [local instance low] Classical.propDecidable
def seeB : ByteArray := ⟨#[59, 115, 101, 101, 32]⟩
def belB : ByteArray := ⟨#[59, 98, 101, 108, 111, 119, 32]⟩
def seeW : ByteArray := ⟨#[115, 101, 101]⟩
def belW : ByteArray := ⟨#[98, 101, 108, 111, 119]⟩
def nmE (list : List DEnt) (i : Int) : ByteArray := (eAt list i).1
def tlE (list : List DEnt) (x : DEnt) : ByteArray := if x.2.1 ≠ -1 then seeB ++ nmE list x.2.1 else if x.2.2 ≠ -1 then belB ++ nmE list x.2.2 else .empty
def entL (list : List DEnt) (x : DEnt) : ByteArray := x.1 ++ tlE list x
def catF (list : List DEnt) (t : ByteArray) (x : DEnt) : ByteArray := t ++ (entL list x ++ bnl)
def catT (list : List DEnt) : ByteArray := list.foldl (catF list) .empty
theorem called_no : ∀ a ∈ calledL, (10 : UInt8) ∉ bL a ∧ (59 : UInt8) ∉ bL a := by decide +kernel
theorem mem_eAt {list : List DEnt} {x : DEnt} (hx : x ∈ list) : ∃ i : Nat, i < list.length ∧ x = eAt list (i : Int) := by
  obtain ⟨i, hi⟩ := List.getElem?_of_mem hx
  exact ⟨i, (List.getElem?_eq_some_iff.1 hi).1, (eAt_of hi).symm⟩
section
variable {list : List DEnt}
theorem nm_called (h : catI list) {i : Int} (hi : 0 ≤ i ∧ i < list.length) : nmE list i ∈ calledL := by
  rw [nmE, h.nm hi]; have := h.len
  exact List.mem_of_getElem? (called_get (by omega))
theorem nm_size (h : catI list) {i : Int} (hi : 0 ≤ i ∧ i < list.length) : (nmE list i).size ≤ 24 := (called_ok _ (nm_called h hi)).2.1
/-- An entry's links. -/
theorem lnk (h : catI list) {x : DEnt} (hx : x ∈ list) : x.1 ∈ calledL ∧ (x.2.1 = -1 ∨ (0 ≤ x.2.1 ∧ x.2.1 < list.length ∧ x.2.2 = -1 ∧ (eAt list x.2.1).2.1 = -1)) ∧ (x.2.2 = -1 ∨ (0 ≤ x.2.2 ∧ x.2.2 < list.length ∧ x.2.1 = -1 ∧ (eAt list x.2.2).2.1 = -1)) := by
  obtain ⟨i, hi, rfl⟩ := mem_eAt hx
  have hs := h.sI (i := (i : Int)) (by omega)
  have hb := h.bI (i := (i : Int)) (by omega)
  refine ⟨nm_called h (i := (i : Int)) (by omega), ?_, ?_⟩ <;> omega
theorem tl_see {x : DEnt} (h : x.2.1 ≠ -1) : tlE list x = seeB ++ nmE list x.2.1 := if_pos h
theorem tl_bel {x : DEnt} (h : x.2.1 = -1) (h2 : x.2.2 ≠ -1) : tlE list x = belB ++ nmE list x.2.2 := by rw [tlE, if_neg (by omega), if_pos h2]
theorem tl_none {x : DEnt} (h : x.2.1 = -1) (h2 : x.2.2 = -1) : tlE list x = .empty := by rw [tlE, if_neg (by omega), if_neg (by omega)]
theorem ent_size (h : catI list) {x : DEnt} (hx : x ∈ list) : (entL list x).size ≤ 55 := by
  obtain ⟨h1, h2, h3⟩ := lnk h hx
  have hn := (called_ok _ h1).2.1
  have e1 : seeB.size = 5 := rfl
  have e2 : belB.size = 7 := rfl
  have e3 : ByteArray.empty.size = 0 := rfl
  rw [entL, ByteArray.size_append]
  by_cases a : x.2.1 = -1
  · by_cases b : x.2.2 = -1
    · rw [tl_none a b]; omega
    · have := nm_size h (i := x.2.2) (by omega)
      rw [tl_bel a b, ByteArray.size_append]; omega
  · have := nm_size h (i := x.2.1) (by omega)
    rw [tl_see a, ByteArray.size_append]; omega
theorem ent_no (h : catI list) {x : DEnt} (hx : x ∈ list) : (10 : UInt8) ∉ bL (entL list x) := by
  obtain ⟨h1, h2, h3⟩ := lnk h hx
  have hn := (called_no _ h1).1
  rw [entL, bL_app, List.mem_append]
  rintro (h4 | h4)
  · exact hn h4
  · by_cases a : x.2.1 = -1
    · by_cases b : x.2.2 = -1
      · rw [tl_none a b] at h4; simp [bL] at h4
      · rw [tl_bel a b, bL_app, List.mem_append] at h4
        rcases h4 with h4 | h4
        · revert h4; decide
        · exact (called_no _ (nm_called h (i := x.2.2) (by omega))).1 h4
    · rw [tl_see a, bL_app, List.mem_append] at h4
      rcases h4 with h4 | h4
      · revert h4; decide
      · exact (called_no _ (nm_called h (i := x.2.1) (by omega))).1 h4
theorem cat_size (h : catI list) : ∀ z, ((list.take z).foldl (catF list) .empty).size ≤ 56 * z := by
  intro z
  have : ∀ (l : List DEnt), (∀ x ∈ l, x ∈ list) → ∀ s : ByteArray, (l.foldl (catF list) s).size ≤ s.size + 56 * l.length := by
    intro l
    induction l with
    | nil => intro _ s; exact Nat.le_refl _
    | cons a l ih =>
      intro hl s
      have h1 := ih (fun x hx => hl x (by simp [hx])) (catF list s a)
      have h2 := ent_size h (hl a (by simp))
      have h3 : (catF list s a).size = s.size + ((entL list a).size + 1) := by rw [catF, ByteArray.size_append, ByteArray.size_append]; rfl
      rw [List.foldl_cons, List.length_cons]; omega
  have h1 := this (list.take z) (fun x hx => List.mem_of_mem_take hx) .empty
  have h2 : (list.take z).length ≤ z := by rw [List.length_take]; omega
  have h3 : ByteArray.empty.size = 0 := rfl
  omega
theorem cat_lines (h : catI list) : linS (catT list) = (list.map (entL list), true) := by
  have := lin_fold (f := fun t a => t ++ (a ++ bnl)) (fun _ _ => rfl) (l := list.map (entL list)) (fun a ha => by
    obtain ⟨x, hx, rfl⟩ := List.mem_map.1 ha; exact ent_no h hx)
  rw [List.foldl_map] at this; exact this
theorem catT_step {z : Nat} {x : DEnt} (hx : list[Int.toNat ((z : Nat) : Int)]? = some x) : (list.take (z + 1)).foldl (catF list) .empty = catF list ((list.take z).foldl (catF list) .empty) x := by
  rw [take_more hx, List.foldl_append]; rfl
theorem cf_see {t : ByteArray} {x : DEnt} (h : x.2.1 ≠ -1) : t ++ x.1 ++ (⟨#[59, 115, 101, 101, 32]⟩ ++ (eAt list x.2.1).1) ++ ⟨#[10]⟩ = catF list t x := by
  rw [catF, entL, tl_see h]
  show _ = t ++ (x.1 ++ (⟨#[59, 115, 101, 101, 32]⟩ ++ (eAt list x.2.1).1) ++ ⟨#[10]⟩)
  simp only [ByteArray.append_assoc]
theorem cf_bel {t : ByteArray} {x : DEnt} (h : x.2.1 = -1) (h2 : x.2.2 ≠ -1) : t ++ x.1 ++ (⟨#[59, 98, 101, 108, 111, 119, 32]⟩ ++ (eAt list x.2.2).1) ++ ⟨#[10]⟩ = catF list t x := by
  rw [catF, entL, tl_bel h h2]
  show _ = t ++ (x.1 ++ (⟨#[59, 98, 101, 108, 111, 119, 32]⟩ ++ (eAt list x.2.2).1) ++ ⟨#[10]⟩)
  simp only [ByteArray.append_assoc]
theorem cf_none {t : ByteArray} {x : DEnt} (h : x.2.1 = -1) (h2 : x.2.2 = -1) : t ++ x.1 ++ ⟨#[10]⟩ = catF list t x := by
  rw [catF, entL, tl_none h h2]
  show _ = t ++ (x.1 ++ ByteArray.empty ++ ⟨#[10]⟩)
  simp only [ByteArray.append_assoc, ByteArray.append_empty]
/-! ### A line cut -/
theorem cutP_none {c : UInt8} {x : ByteArray} (h : c ∉ bL x) : cutP c x = (x, .empty, false) := cutP_no (by
  have : ixB c x = -1 := ix_none h
  omega)
def hasE (x : DEnt) : Bool := decide (x.2.1 ≠ -1) || decide (x.2.2 ≠ -1)
def rstE (list : List DEnt) (x : DEnt) : ByteArray := if x.2.1 ≠ -1 then seeW ++ (⟨#[32]⟩ ++ nmE list x.2.1) else if x.2.2 ≠ -1 then belW ++ (⟨#[32]⟩ ++ nmE list x.2.2) else .empty
def wrdE (x : DEnt) : ByteArray := if x.2.1 ≠ -1 then seeW else belW
def lnkE (x : DEnt) : Int := if x.2.1 ≠ -1 then x.2.1 else x.2.2
theorem cut_one (h : catI list) {x : DEnt} (hx : x ∈ list) : cutP 59 (entL list x) = (x.1, rstE list x, hasE x) := by
  obtain ⟨h1, h2, h3⟩ := lnk h hx
  have hn := (called_no _ h1).2
  by_cases a : x.2.1 = -1
  · by_cases b : x.2.2 = -1
    · rw [entL, tl_none a b, show x.1 ++ ByteArray.empty = x.1 by simp, cutP_none hn, rstE, hasE, if_neg (by omega), if_neg (by omega), a, b]; rfl
    · rw [entL, tl_bel a b, show belB ++ nmE list x.2.2 = ⟨#[59]⟩ ++ (belW ++ (⟨#[32]⟩ ++ nmE list x.2.2)) from by
        rw [← ByteArray.append_assoc, ← ByteArray.append_assoc]; rfl, cutP_app hn, rstE, hasE, if_neg (by omega), if_pos b, decide_eq_true b, Bool.or_true]
  · rw [entL, tl_see a, show seeB ++ nmE list x.2.1 = ⟨#[59]⟩ ++ (seeW ++ (⟨#[32]⟩ ++ nmE list x.2.1)) from by
      rw [← ByteArray.append_assoc, ← ByteArray.append_assoc]; rfl, cutP_app hn, rstE, hasE, if_pos a, decide_eq_true a, Bool.true_or]
theorem cut_two {x : DEnt} (hh : hasE x = true) : cutP 32 (rstE list x) = (wrdE x, nmE list (lnkE x), true) := by
  rw [hasE, Bool.or_eq_true, decide_eq_true_eq, decide_eq_true_eq] at hh
  by_cases a : x.2.1 = -1
  · have b : x.2.2 ≠ -1 := hh.resolve_left (by omega)
    rw [rstE, wrdE, lnkE, if_neg (by omega), if_pos b, if_neg (by omega), if_neg (by omega), cutP_app (by decide)]
  · rw [rstE, wrdE, lnkE, if_pos a, if_pos a, if_pos a, cutP_app (by decide)]
theorem rst_size (h : catI list) {x : DEnt} (hx : x ∈ list) : (rstE list x).size ≤ 40 := by
  obtain ⟨h1, h2, h3⟩ := lnk h hx
  have e1 : seeW.size = 3 := rfl
  have e2 : belW.size = 5 := rfl
  have e3 : (⟨#[32]⟩ : ByteArray).size = 1 := rfl
  have e4 : ByteArray.empty.size = 0 := rfl
  unfold rstE; split
  · have := nm_size h (i := x.2.1) (by omega)
    simp only [ByteArray.size_append]; omega
  · split
    · have := nm_size h (i := x.2.2) (by omega)
      simp only [ByteArray.size_append]; omega
    · omega
theorem wrd_see (x : DEnt) : eqv (wrdE x) seeW = decide (x.2.1 ≠ -1) := by
  apply Bool.eq_iff_iff.2
  rw [eqv_iff, decide_eq_true_eq, wrdE]
  split
  · rename_i h; exact ⟨fun _ => h, fun _ => rfl⟩
  · rename_i h; exact ⟨fun e => absurd (congrArg ByteArray.size e) (by decide), fun e => absurd e h⟩
theorem wrd_bel {x : DEnt} (h : x.2.1 = -1) : eqv (wrdE x) belW = true := by rw [eqv_iff, wrdE, if_neg (by omega)]
theorem idx_at (h : catI list) {i : Int} (hi : 0 ≤ i ∧ i < list.length) : idxQ (fun b => eqv (nmE list i) b) (list.map (·.1)) = i := by
  obtain ⟨j, rfl⟩ : ∃ j : Nat, i = j := ⟨i.toNat, by omega⟩
  have hg : (list.map (·.1))[Int.toNat ((j : Nat) : Int)]? = some (nmE list (j : Int)) := by
    rw [List.getElem?_map, eAt_get hi]; rfl
  refine (idxQ_at (q := fun b => eqv (nmE list (j : Int)) b) (z := j) (a := nmE list (j : Int)) (fun k hk => ?_) hg (eqv_self _)).symm
  have hk2 : list[k]? = some (eAt list (k : Int)) := eAt_get (i := (k : Int)) (by omega)
  refine ⟨nmE list (k : Int), by rw [List.getElem?_map, hk2]; rfl, eqv_false_iff.2 fun e => ?_⟩
  have := h.inj (i := (j : Int)) (j := (k : Int)) hi (by omega) e
  omega
theorem fnd_at (h : catI list) {i : Int} (hi : 0 ≤ i ∧ i < list.length) : idxQ (fun x => eqv x.1 (nmE list i)) list = i := by
  obtain ⟨j, rfl⟩ : ∃ j : Nat, i = j := ⟨i.toNat, by omega⟩
  refine (idxQ_at (q := fun x => eqv x.1 (nmE list (j : Int))) (z := j) (a := eAt list (j : Int)) (fun k hk => ?_) (eAt_get hi) (eqv_self _)).symm
  have hk2 : list[k]? = some (eAt list (k : Int)) := eAt_get (i := (k : Int)) (by omega)
  refine ⟨_, hk2, eqv_false_iff.2 fun e => ?_⟩
  have := h.inj (i := (k : Int)) (j := (j : Int)) (by omega) hi e
  omega
theorem nam_new (h : catI list) {i : Nat} (hi : i < list.length) : ((list.take i).any fun y => eqv y.1 (eAt list (i : Int)).1) = false := by
  rw [List.any_eq_false]
  intro y hy
  obtain ⟨k, hk⟩ := List.getElem?_of_mem hy
  rw [List.getElem?_take] at hk
  split at hk
  · rename_i hki
    have hk2 : list[k]? = some (eAt list (k : Int)) := eAt_get (i := (k : Int)) (by omega)
    rw [hk2] at hk; obtain rfl := Option.some.inj hk
    rw [Bool.not_eq_true]
    refine eqv_false_iff.2 fun e => ?_
    have := h.inj (i := (k : Int)) (j := (i : Int)) (by omega) (by omega) e
    omega
  · cases hk
theorem map_get {z : Nat} {x : DEnt} {β : Type} {f : DEnt → β} (hx : list[Int.toNat ((z : Nat) : Int)]? = some x) : (list.map f)[Int.toNat ((z : Nat) : Int)]? = some (f x) := by rw [List.getElem?_map, hx]; rfl
theorem has_no {x : DEnt} (h : hasE x = false) : x.2.1 = -1 ∧ x.2.2 = -1 := by
  rw [hasE, Bool.or_eq_false_iff, decide_eq_false_iff_not, decide_eq_false_iff_not] at h; omega
theorem has_bel {x : DEnt} (h : hasE x = true) (hs : x.2.1 = -1) : x.2.2 ≠ -1 := by
  rw [hasE, Bool.or_eq_true, decide_eq_true_eq, decide_eq_true_eq] at h; omega
theorem rc_see (h : catI list) {z : Nat} {x : DEnt} (hx : list[Int.toNat ((z : Nat) : Int)]? = some x) (hs : x.2.1 ≠ -1) : list.take z ++ [(x.1, lnkE x, -1)] = list.take (z + 1) := by
  have := (lnk h (mem_getI hx)).2.1
  rw [take_more hx, lnkE, if_pos hs]
  obtain ⟨a, b, c⟩ := x
  simp only [] at *
  rw [show c = -1 by omega]
theorem rc_bel {z : Nat} {x : DEnt} (hx : list[Int.toNat ((z : Nat) : Int)]? = some x) (hs : x.2.1 = -1) : list.take z ++ [(x.1, -1, lnkE x)] = list.take (z + 1) := by
  rw [take_more hx, lnkE, if_neg (by omega)]
  obtain ⟨a, b, c⟩ := x
  simp only [] at *
  rw [hs]
theorem rc_none {z : Nat} {x : DEnt} (hx : list[Int.toNat ((z : Nat) : Int)]? = some x) (hs : x.2.1 = -1 ∧ x.2.2 = -1) : list.take z ++ [(x.1, -1, -1)] = list.take (z + 1) := by
  rw [take_more hx]
  obtain ⟨a, b, c⟩ := x
  simp only [] at *
  rw [hs.1, hs.2]
theorem lnk_in (h : catI list) {x : DEnt} (hx : x ∈ list) (hh : hasE x = true) : 0 ≤ lnkE x ∧ lnkE x < list.length := by
  obtain ⟨_, h2, h3⟩ := lnk h hx
  unfold lnkE; split
  · omega
  · rename_i hs
    have := has_bel hh (by omega)
    omega
theorem idxV_has (v : Int) (x : List Int) : decide (idxV v x ≥ 0) = hasV v x := by
  unfold idxV hasV
  exact idxQ_any
def prB (list : List DEnt) (i : Int) : Bool := inb i 0 ((list.length : Int) - 1) && ((eAt list i).2.1 == -1)
theorem prB_yes {i : Int} (hi : 0 ≤ i ∧ i < list.length) (hs : (eAt list i).2.1 = -1) : prB list i = true := by
  rw [prB, hs, inb_all.2 (by omega)]; rfl
theorem okEd (h : catI list) {z : Nat} (hz : z < list.length) (hb : ((!(tt (enOK (eAt list (z : Int)).1)) || ((eAt list (z : Int)).2.1 != -1 && (!(prB list (eAt list (z : Int)).2.1) || (eAt list (z : Int)).2.2 != -1))) || ((eAt list (z : Int)).2.2 != -1 && !(prB list (eAt list (z : Int)).2.2))) = true) : False := by
  have hok := tt_iff.2 (h.ok (i := (z : Int)) (by omega))
  have hse := h.see z hz
  have hbr := h.brd z hz
  rw [hok] at hb
  by_cases a : (eAt list (z : Int)).2.1 = -1
  · by_cases b : (eAt list (z : Int)).2.2 = -1
    · rw [a, b] at hb; simp at hb
    · have hp := prB_yes (list := list) (i := (eAt list (z : Int)).2.2) (by omega) (by omega)
      rw [a, hp] at hb; simp at hb
  · have hp := prB_yes (list := list) (i := (eAt list (z : Int)).2.1) (by omega) (by omega)
    rw [hp, show (eAt list (z : Int)).2.2 = -1 by omega] at hb; simp at hb
/-! ### Catalogues that are drawn -/
theorem cat_nil : catI [] := ⟨by simp, fun i hi => by simp at hi, fun i hi => by simp at hi, fun i hi => by simp at hi⟩
theorem eAt_old {x : DEnt} {i : Int} (hi : 0 ≤ i ∧ i < list.length) : eAt (list ++ [x]) i = eAt list i := by
  rw [eAt, eAt, List.getD_eq_getElem?_getD, List.getD_eq_getElem?_getD, List.getElem?_append_left (by omega)]
theorem eAt_new (x : DEnt) : eAt (list ++ [x]) (list.length : Int) = x := by
  rw [eAt, List.getD_eq_getElem?_getD, toN, List.getElem?_append_right (Nat.le_refl _), Nat.sub_self]; rfl
theorem cat_add (h : catI list) (hl : list.length < 9) {s b : Int} (hs : s = -1 ∨ (0 ≤ s ∧ s < list.length ∧ (eAt list s).2.1 = -1 ∧ b = -1)) (hb : b = -1 ∨ (0 ≤ b ∧ b < list.length ∧ (eAt list b).2.1 = -1 ∧ s = -1)) :
    catI (list ++ [(calledL.getD list.length .empty, s, b)]) := by
  have hn : (list ++ [(calledL.getD list.length .empty, s, b)]).length = list.length + 1 := by simp
  have hc : ∀ i : Nat, i < (list ++ [(calledL.getD list.length .empty, s, b)]).length → i < list.length ∨ i = list.length := fun i hi => by omega
  refine ⟨by omega, fun i hi => ?_, fun i hi => ?_, fun i hi => ?_⟩
  · rcases hc i hi with h1 | rfl
    · rw [eAt_old (by omega)]; exact h.nam i h1
    · rw [eAt_new]
  · rcases hc i hi with h1 | rfl
    · have := h.see i h1
      rw [eAt_old (i := (i : Int)) (by omega)]
      rcases this with h2 | h2
      · exact .inl h2
      · rw [eAt_old (i := (eAt list (i : Int)).2.1) (by omega)]; exact .inr h2
    · rw [eAt_new]
      rcases hs with h2 | h2
      · exact .inl h2
      · refine .inr ⟨h2.1, h2.2.1, ?_, h2.2.2.2⟩
        show (eAt (list ++ _) s).2.1 = -1
        rw [eAt_old (by omega)]; exact h2.2.2.1
  · rcases hc i hi with h1 | rfl
    · have := h.brd i h1
      rw [eAt_old (i := (i : Int)) (by omega)]
      rcases this with h2 | h2
      · exact .inl h2
      · rw [eAt_old (i := (eAt list (i : Int)).2.2) (by omega)]; exact .inr h2
    · rw [eAt_new]
      rcases hb with h2 | h2
      · exact .inl h2
      · refine .inr ⟨h2.1, h2.2.1, ?_, h2.2.2.2⟩
        show (eAt (list ++ _) b).2.1 = -1
        rw [eAt_old (by omega)]; exact h2.2.2.1
end
end Go.Proofs.YtconciibbhpigaaDoor.VL
