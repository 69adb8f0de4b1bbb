/- Proved here: names in the order in which they are filed, guides and drawers. Plain Lean. -/
import Derived.Test.YtbckpmjiimiceaaDoorPXU
import Derived.Test.YtbckpmjiimiceaaDoorPXA
set_option linter.unusedVariables false
set_option linter.unusedSimpArgs false
namespace Go.Proofs.YtbckpmjiimiceaaDoor.VL
open Go
theorem inb_all {v lo hi : Int} : inb v lo hi = true ↔ lo ≤ v ∧ v ≤ hi := by simp [inb]
/-! ### The first that is not zero -/
def orL : List Int → Int
  | [] => 0
  | a :: l => if a ≠ 0 then a else orL l
theorem orL_two (a b : Int) : orL [a, b] = or2 a b := by simp only [orL, or2]; split <;> (try split) <;> omega
theorem orL_step {l : List Int} {z : Nat} {a : Int} (ha : l[Int.toNat ((z : Nat) : Int)]? = some a) (h : orL l = orL (l.drop z)) (h0 : ¬ a ≠ 0) : orL l = orL (l.drop (z + 1)) := by
  rw [toN] at ha
  obtain ⟨hz, rfl⟩ := List.getElem?_eq_some_iff.1 ha
  rw [h, List.drop_eq_getElem_cons hz, orL, if_neg h0]
theorem orL_at {l : List Int} {z : Nat} {a : Int} (ha : l[Int.toNat ((z : Nat) : Int)]? = some a) (h : orL l = orL (l.drop z)) (h0 : a ≠ 0) : a = orL l := by
  rw [toN] at ha
  obtain ⟨hz, rfl⟩ := List.getElem?_eq_some_iff.1 ha
  rw [h, List.drop_eq_getElem_cons hz, orL, if_pos h0]
theorem orL_end {l : List Int} {z : Nat} (h : orL l = orL (l.drop z)) (hz : l.length ≤ z) : 0 = orL l := by rw [h, List.drop_eq_nil_of_le hz]; rfl
theorem zer_le (s : ByteArray) : (zer s).size ≤ s.size := by rw [zer, trimLT, ext_size (Nat.le_refl _)]; omega
theorem zer_nil {s : ByteArray} (h : s = ByteArray.empty) : zer s = s := by
  subst h
  refine size_zero.2 ?_
  rw [zer, trimLT, ext_size (Nat.le_refl _)]; rfl
/-! ### Comparing, as the other side does -/
theorem cmpB_in (a b : ByteArray) : cmpB a b = -1 ∨ cmpB a b = 0 ∨ cmpB a b = 1 := by
  have h : ∀ x y : List UInt8, Lib.compareBytes x y = -1 ∨ Lib.compareBytes x y = 0 ∨ Lib.compareBytes x y = 1 := by
    intro x
    induction x with
    | nil => intro y; cases y <;> simp [Lib.compareBytes]
    | cons u x ih =>
      intro y
      cases y with
      | nil => simp [Lib.compareBytes]
      | cons v y =>
        have := ih y
        rw [Lib.compareBytes]; split
        · simp
        · split
          · simp
          · exact this
  exact h _ _
def sgn (n : Int) : Int := if n < 0 then -1 else if n > 0 then 1 else 0
theorem sgn_len (a b : Int) : sgn (a - b) = Lib.compareInt a b := by unfold sgn Lib.compareInt; split <;> (try split) <;> (try split) <;> (try split) <;> omega
theorem cf_step {f : ByteArray → ByteArray → Int} {l m : List ByteArray} {z : Nat} {a b : ByteArray} (h : ∀ i u v, i < z → l[i]? = some u → m[i]? = some v → f u v = 0) (ha : l[Int.toNat ((z : Nat) : Int)]? = some a) (hb : m[Int.toNat ((z : Nat) : Int)]? = some b) (he : f a b = 0) : ∀ i u v, i < z + 1 → l[i]? = some u → m[i]? = some v → f u v = 0 := by
  intro i u v hi hu hv
  rw [toN] at ha hb
  rcases Nat.lt_or_ge i z with h1 | h1
  · exact h i u v h1 hu hv
  · obtain rfl : i = z := by omega
    rw [ha] at hu; rw [hb] at hv
    rw [← Option.some.inj hu, ← Option.some.inj hv]; exact he
theorem en_size {x : ByteArray} (h : x.size < 1 ∨ x.size > 24) : false = tt (enOK x) := by
  symm; rw [tt_false]; intro h1; have := h1.1; have := h1.2.1; omega
theorem en_bad {x w : ByteArray} {z : Nat} (hw : (splB 32 x)[Int.toNat ((z : Nat) : Int)]? = some w) (h : ¬ enW w) : false = tt (enOK x) := by
  symm; rw [tt_false]; intro h1; exact h (h1.2.2 w (mem_getI hw))
theorem en_yes {x : ByteArray} {z : Nat} (h1 : 1 ≤ x.size) (h2 : x.size ≤ 24) (h : ∀ w ∈ (splB 32 x).take z, enW w) (hz : (splB 32 x).length ≤ z) : true = tt (enOK x) := by
  rw [List.take_of_length_le hz] at h
  exact (tt_iff.2 ⟨h1, h2, h⟩).symm
theorem en_more {l : List ByteArray} {z : Nat} {w : ByteArray} (hw : l[Int.toNat ((z : Nat) : Int)]? = some w) (h : ∀ w ∈ l.take z, enW w) (h1 : enW w) : ∀ w ∈ l.take (z + 1), enW w := by
  rw [take_more hw]
  intro u hu
  rcases List.mem_append.1 hu with h2 | h2
  · exact h u h2
  · rw [List.mem_singleton.1 h2]; exact h1
def plB (k : Int) : Bool := (decide (k ≥ 97) && decide (k ≤ 122)) || (decide (k ≥ 48) && decide (k ≤ 57))
theorem plB_iff {s : ByteArray} {z : Nat} {b : UInt8} (hb : s[Int.toNat ((z : Nat) : Int)]? = some b) : plB (b.toNat : Int) = true ↔ inT alnT s z := by
  rw [inT_iff hb, alnT_iff, plB]
  simp only [Bool.or_eq_true, Bool.and_eq_true, decide_eq_true_eq]
  omega
theorem en_byte {x w : ByteArray} {z k : Nat} (hw : (splB 32 x)[Int.toNat ((z : Nat) : Int)]? = some w) (hk : k < w.size) (h : ¬ inT alnT w k) : false = tt (enOK x) := en_bad hw fun h1 => h (h1.2 k hk)
theorem spD_no {s : ByteArray} {z : Nat} (hz : z < s.size) (h : ((bytA s z).toNat : Int) > 57) : false = spD s := by
  symm; rw [spD, tt_false]; intro h1
  obtain ⟨b, hb, h2⟩ := h1 z hz
  rw [bt_get hz] at hb; obtain rfl := Option.some.inj hb; omega
theorem spD_yes {s : ByteArray} {z : Nat} (hz : s.size ≤ z) (h : ∀ i, i < z → ((bytA s i).toNat : Int) ≤ 57) : true = spD s := by
  symm; rw [spD, tt_iff]; intro i hi
  exact ⟨_, bt_get hi, by have := h i (by omega); omega⟩
theorem cwS_two {a b : ByteArray} (h : (spD a && spD b) = true) : cwS a b = or2 (Lib.compareInt (zer a).size (zer b).size) (cmpB (zer a) (zer b)) := if_pos h
theorem cwS_one {a b : ByteArray} (h : (spD a && spD b) = false) (h1 : spD a = true) : cwS a b = -1 := by rw [cwS, if_neg (by rw [h]; decide), if_pos h1]
theorem cwS_oth {a b : ByteArray} (h : (spD a && spD b) = false) (h1 : spD a = false) (h2 : spD b = true) : cwS a b = 1 := by rw [cwS, if_neg (by rw [h]; decide), if_neg (by rw [h1]; decide), if_pos h2]
theorem cwS_no {a b : ByteArray} (h : (spD a && spD b) = false) (h1 : spD a = false) (h2 : spD b = false) : cwS a b = cmpB a b := by rw [cwS, if_neg (by rw [h]; decide), if_neg (by rw [h1]; decide), if_neg (by rw [h2]; decide)]
theorem or2_ne {a b : Int} (h : a ≠ 0) : or2 a b = a := if_pos h
theorem or2_eq {a b : Int} (h : a = 0) : or2 a b = b := if_neg (by omega)
theorem ci_ne {a b : Int} (h : a ≠ b) : Lib.compareInt a b ≠ 0 := by unfold Lib.compareInt; split <;> (try split) <;> omega
theorem ci_eq {a b : Int} (h : a = b) : Lib.compareInt a b = 0 := by unfold Lib.compareInt; split <;> (try split) <;> omega
theorem cl_len' {f : ByteArray → ByteArray → Int} {l m : List ByteArray} {z : Nat} (h : ∀ i u v, i < z → l[i]? = some u → m[i]? = some v → f u v = 0) (hz : l.length ≤ z ∨ m.length ≤ z) : cmpL f l m = Lib.compareInt l.length m.length := by
  rw [cl_len h hz]; unfold Lib.compareInt; split <;> (try split) <;> (try split) <;> (try split) <;> omega
theorem cnS_ne {x y : ByteArray} {z : Nat} {a b : ByteArray} (ha : (fwP x)[Int.toNat ((z : Nat) : Int)]? = some a) (hb : (fwP y)[Int.toNat ((z : Nat) : Int)]? = some b) (h : ∀ i u v, i < z → (fwP x)[i]? = some u → (fwP y)[i]? = some v → cwS u v = 0) (hn : cwS a b ≠ 0) : cwS a b = cnS x y := by
  rw [toN] at ha hb
  rw [cnS, cl_ne ha hb h hn, or2_ne hn]
theorem cnS_len {x y : ByteArray} {z : Nat} (h : ∀ i u v, i < z → (fwP x)[i]? = some u → (fwP y)[i]? = some v → cwS u v = 0) (hz : (fwP x).length ≤ z ∨ (fwP y).length ≤ z) (hn : ((fwP x).length : Int) ≠ (fwP y).length) : sgn ((fwP x).length - (fwP y).length) = cnS x y := by
  rw [cnS, cl_len' h hz, or2_ne (ci_ne hn), sgn_len]
theorem cnS_last {x y : ByteArray} {z : Nat} (h : ∀ i u v, i < z → (fwP x)[i]? = some u → (fwP y)[i]? = some v → cwS u v = 0) (hz : (fwP x).length ≤ z ∨ (fwP y).length ≤ z) (hn : ((fwP x).length : Int) = (fwP y).length) : cmpB x y = cnS x y := by
  rw [cnS, cl_len' h hz, or2_eq (ci_eq hn)]
theorem fwP_len (x : ByteArray) : (fwP x).length ≤ x.size + 1 := by
  have h1 := splB_len 32 x
  have h2 := cnB_le 32 x
  rw [fwP]; split
  · rw [List.length_drop]; omega
  · omega
/-! ### Names by their indices -/
def nth (names : List ByteArray) (i : Int) : ByteArray := names.getD i.toNat .empty
theorem nth_get {names : List ByteArray} {i : Int} (h : 0 ≤ i ∧ i < names.length) : names[i.toNat]? = some (nth names i) := by
  rw [nth, List.getD_eq_getElem?_getD, List.getElem?_eq_getElem (by omega)]; rfl
theorem nth_mem {names : List ByteArray} {i : Int} (h : 0 ≤ i ∧ i < names.length) : nth names i ∈ names := List.mem_of_getElem? (nth_get h)
noncomputable def qN (names : List ByteArray) (i k : Int) : Int := cnP (nth names i) (nth names k)
noncomputable def qS (names : List ByteArray) (i k : Int) : Int := cnS (nth names i) (nth names k)
def inN (n : Nat) (i : Int) : Prop := 0 ≤ i ∧ i < n
theorem qN_p (names : List ByteArray) : CmpP (qN names) := CmpP.pull (f := nth names) cnP_p
theorem qN_pre (names : List ByteArray) (p : Int → Prop) : TPre (qN names) p := (qN_p names).pre p
def idN (n : Nat) : List Int := (List.range n).map fun j => ((j : Nat) : Int)
theorem idN_len (n : Nat) : (idN n).length = n := by simp [idN]
theorem idN_more (n : Nat) : idN (n + 1) = idN n ++ [(n : Int)] := by simp [idN, List.range_succ]
theorem idN_in {n : Nat} {i : Int} (h : i ∈ idN n) : inN n i := by
  obtain ⟨j, hj, rfl⟩ := List.mem_map.1 h
  have := List.mem_range.1 hj
  exact ⟨by omega, by omega⟩
theorem isort_congr {α : Type} {q r : α → α → Int} {l : List α} (h : ∀ a ∈ l, ∀ b ∈ l, q a b = r a b) : isort q l = isort r l := by
  have h1 : ∀ {x : α} {T : List α}, x ∈ l → (∀ z ∈ T, z ∈ l) → insR q x T = insR r x T := by
    intro x T hx
    induction T with
    | nil => intro _; rfl
    | cons z T ih => intro hT; rw [insR, insR, h x hx z (hT z (by simp)), ih fun t ht => hT t (by simp [ht])]
  have h2 : ∀ (m : List α) (T : List α), (∀ z ∈ m, z ∈ l) → (∀ z ∈ T, z ∈ l) → m.foldl (fun T x => insR q x T) T = m.foldl (fun T x => insR r x T) T := by
    intro m
    induction m with
    | nil => intro T _ _; rfl
    | cons x m ih =>
      intro T hm hT
      rw [List.foldl_cons, List.foldl_cons, h1 (hm x (by simp)) hT]
      refine ih _ (fun z hz => hm z (by simp [hz])) fun z hz => ?_
      rcases insR_mem.1 hz with rfl | h3
      · exact hm _ (by simp)
      · exact hT z h3
  rw [isort, isort, isR, isR, h2 l [] (fun _ h => h) (fun _ h => by cases h)]
def okNs (names : List ByteArray) : Prop := ∀ x ∈ names, enOK x
noncomputable def filP (names : List ByteArray) : List Int := isort (qN names) (idN names.length)
noncomputable def filS (names : List ByteArray) : List Int := isort (qS names) (idN names.length)
theorem fil_same {names : List ByteArray} (h : okNs names) : filS names = filP names :=
  isort_congr fun a ha b hb => cn_same (h _ (nth_mem (idN_in ha))) (h _ (nth_mem (idN_in hb)))
theorem filP_len (names : List ByteArray) : (filP names).length = names.length := by rw [filP, isort_len, idN_len]
theorem filS_len (names : List ByteArray) : (filS names).length = names.length := by rw [filS, isort_len, idN_len]
theorem filP_in {names : List ByteArray} {i : Int} (h : i ∈ filP names) : inN names.length i := idN_in (isort_mem.1 h)
theorem filS_in {names : List ByteArray} {i : Int} (h : i ∈ filS names) : inN names.length i := idN_in (isort_mem.1 h)
/-- Sorted, and equal ones as they were. -/
theorem stab (names : List ByteArray) : (filP names).Pairwise fun x y => qN names x y ≤ 0 ∧ (qN names x y = 0 → x < y) := by
  have hq := qN_p names
  have h : ∀ n, (isR (qN names) (idN n)).Pairwise fun y x => qN names x y ≤ 0 ∧ (qN names x y = 0 → x < y) := by
    have ins : ∀ (n : Nat) (T : List Int), (∀ z ∈ T, z < n) → (T.Pairwise fun y x => qN names x y ≤ 0 ∧ (qN names x y = 0 → x < y)) → (insR (qN names) (n : Int) T).Pairwise fun y x => qN names x y ≤ 0 ∧ (qN names x y = 0 → x < y) := by
      intro n T
      induction T with
      | nil => intro _ _; exact List.pairwise_singleton _ _
      | cons z T ih =>
        intro hT hP
        have hP' := List.pairwise_cons.1 hP
        rw [insR]; split
        · rename_i hlt
          refine List.pairwise_cons.2 ⟨fun y hy => ?_, ih (fun t ht => hT t (by simp [ht])) hP'.2⟩
          rcases insR_mem.1 hy with rfl | h1
          · exact ⟨by omega, fun e => by omega⟩
          · exact hP'.1 y h1
        · rename_i hge
          have a1 := hq.anti (n : Int) z
          refine List.pairwise_cons.2 ⟨fun y hy => ?_, hP⟩
          rcases List.mem_cons.1 hy with rfl | h1
          · exact ⟨by omega, fun _ => hT _ (by simp)⟩
          · exact ⟨hq.tr _ _ _ (hP'.1 y h1).1 (by omega), fun _ => hT y (by simp [h1])⟩
    intro n
    induction n with
    | zero => exact List.Pairwise.nil
    | succ n ih =>
      rw [idN_more, isR_more]
      refine ins n _ (fun z hz => ?_) ih
      rw [isR, isR_mem] at hz
      exact (idN_in (hz.resolve_right (by simp))).2
  exact List.pairwise_reverse.2 (h names.length)
theorem stab_at {names : List ByteArray} {i k : Nat} {u v : Int} (hik : i < k) (hu : (filP names)[i]? = some u) (hv : (filP names)[k]? = some v) : cnP (nth names u) (nth names v) ≤ 0 ∧ (cnP (nth names u) (nth names v) = 0 → u < v) := by
  obtain ⟨hi, rfl⟩ := List.getElem?_eq_some_iff.1 hu
  obtain ⟨hk, rfl⟩ := List.getElem?_eq_some_iff.1 hv
  exact List.pairwise_iff_getElem.1 (stab names) i k hi hk hik
theorem stab_le {names : List ByteArray} {i k : Nat} {u v : Int} (hik : i ≤ k) (hu : (filP names)[i]? = some u) (hv : (filP names)[k]? = some v) : cnP (nth names u) (nth names v) ≤ 0 := by
  rcases Nat.eq_or_lt_of_le hik with rfl | h
  · rw [hu] at hv; obtain rfl := Option.some.inj hv
    rw [cnP_p.self]; exact Int.le_refl 0
  · exact (stab_at h hu hv).1
theorem okNs_size {names : List ByteArray} {i : Int} (h : okNs names) (hi : inN names.length i) : (nth names i).size ≤ 1000000000 := by
  have := (h _ (nth_mem hi)).2.1; omega
theorem isR_idN {q : Int → Int → Int} {i n : Nat} {w : Int} (h : i ≤ n) (hw : w ∈ isR q (idN i)) : inN n w := by
  rw [isR, isR_mem] at hw
  have := idN_in (hw.resolve_right (by simp))
  exact ⟨this.1, by have := this.2; omega⟩
theorem mid_step0 {α : Type} {T : List α} {x y : α} {k i : Nat} (hy : T[k]? = some y) (hi : i + k + 1 = T.length) :
    (midS T k x)[i]? = some y ∧ (midS T k x)[i + 1]? = some x ∧ ((midS T k x).set (i + 1) y).set i x = midS T (k + 1) x := by
  have h := mid_step (L := []) (R := []) (x := x) hy (i := i) (by simp; omega)
  simpa using h
theorem fil_next {q : Int → Int → Int} {i k : Nat} (h : ∀ z ∈ (isR q (idN i)).take k, q (i : Int) z < 0) (he : (isR q (idN i)).length ≤ k ∨ ∃ z, (isR q (idN i))[k]? = some z ∧ ¬ q (i : Int) z < 0) : midS (isR q (idN i)) k (i : Int) = isort q (idN (i + 1)) := by
  rw [mid_end h he, idN_more, isort_more]
/-! ### Codes -/
noncomputable def badN (names : List ByteArray) : Bool := names.any fun x => !(tt (enOK x))
theorem badN_no {names : List ByteArray} : badN names = false ↔ okNs names := by
  rw [badN, List.any_eq_false]
  constructor
  · intro h x hx
    have := h x hx
    rw [Bool.not_eq_true, Bool.not_eq_false'] at this
    exact tt_iff.1 this
  · intro h x hx
    rw [Bool.not_eq_true, Bool.not_eq_false']
    exact tt_iff.2 (h x hx)
theorem badN_at {names : List ByteArray} {z : Nat} {a : ByteArray} (ha : names[Int.toNat ((z : Nat) : Int)]? = some a) (h : tt (enOK a) = false) : badN names = true := by
  rw [badN, List.any_eq_true]; exact ⟨a, mem_getI ha, by rw [h]; rfl⟩
theorem badN_all {names : List ByteArray} {z : Nat} (h : ∀ a ∈ names.take z, enOK a) (hz : names.length ≤ z) : badN names = false := by
  rw [List.take_of_length_le hz] at h; exact badN_no.2 h
theorem ok_more {names : List ByteArray} {z : Nat} {a : ByteArray} (ha : names[Int.toNat ((z : Nat) : Int)]? = some a) (h : ∀ a ∈ names.take z, enOK a) (h1 : enOK a) : ∀ a ∈ names.take (z + 1), enOK a := by
  rw [take_more ha]
  intro u hu
  rcases List.mem_append.1 hu with h2 | h2
  · exact h u h2
  · rw [List.mem_singleton.1 h2]; exact h1
noncomputable def ckS (names : List ByteArray) (per : Int) : Int := if badN names = true then 1 else if names.length > 100 then 3 else if inb per 1 100 = true then 0 else 2
noncomputable def ckN (names : List ByteArray) : Int := ckS names 1
theorem ckS_bad {names : List ByteArray} {per : Int} (h : badN names = true) : ckS names per = 1 := if_pos h
theorem ckS_long {names : List ByteArray} {per : Int} (h : badN names = false) (hl : names.length > 100) : ckS names per = 3 := by rw [ckS, if_neg (by rw [h]; decide), if_pos hl]
theorem ckS_per {names : List ByteArray} {per : Int} (h : badN names = false) (hl : ¬ names.length > 100) (hp : inb per 1 100 = false) : ckS names per = 2 := by rw [ckS, if_neg (by rw [h]; decide), if_neg hl, if_neg (by rw [hp]; decide)]
theorem ckS_ok {names : List ByteArray} {per : Int} (h : badN names = false) (hl : ¬ names.length > 100) (hp : inb per 1 100 = true) : ckS names per = 0 := by rw [ckS, if_neg (by rw [h]; decide), if_neg hl, if_pos hp]
theorem ckS_zero {names : List ByteArray} {per : Int} (h : ckS names per = 0) : okNs names ∧ names.length ≤ 100 ∧ 1 ≤ per ∧ per ≤ 100 := by
  unfold ckS at h
  split at h
  · cases h
  · rename_i h1
    split at h
    · cases h
    · split at h
      · rename_i h2 h3
        have := inb_all.1 h3
        exact ⟨badN_no.1 (by simpa using h1), by omega, by omega, by omega⟩
      · cases h
theorem ckN_code {names : List ByteArray} {per : Int} (h : ckN names ≠ 0) : ckS names per = ckN names := by
  unfold ckN ckS at *
  split
  · rfl
  · rename_i h1
    rw [if_neg h1] at h
    split
    · rfl
    · rename_i h2; rw [if_neg h2] at h; exact absurd rfl h
theorem ckN_per {names : List ByteArray} {per : Int} (h : ckN names = 0) (hp : per < 1 ∨ 100 < per) : ckS names per = 2 := by
  obtain ⟨h1, h2, _⟩ := ckS_zero h
  exact ckS_per (badN_no.2 h1) (by omega) (by cases hb : inb per 1 100 with | false => rfl | true => have := inb_all.1 hb; omega)
theorem ckN_ok {names : List ByteArray} {per : Int} (h : ckN names = 0) (hp : 1 ≤ per ∧ per ≤ 100) : ckS names per = 0 := by
  obtain ⟨h1, h2, _⟩ := ckS_zero h
  exact ckS_ok (badN_no.2 h1) (by omega) (inb_all.2 (by omega))
noncomputable def filR (names : List ByteArray) : List Int × Int := if ckN names = 0 then (filP names, 0) else ([], ckN names)
theorem filR_no {names : List ByteArray} (h : ckN names ≠ 0) : filR names = ([], ckN names) := if_neg h
theorem filR_yes {names : List ByteArray} (h : ckN names = 0) : filR names = (filP names, 0) := if_pos h
/-! ### Guides -/
def gdF (names : List ByteArray) (o : List Int) (i : Nat) : ByteArray := nth names (o.getD i 0)
noncomputable def gdP (names : List ByteArray) (per : Int) (z : Nat) : List ByteArray := ((List.range z).filter fun i => Int.tmod ((i : Nat) : Int) per == 0).map (gdF names (filP names))
theorem gdP_more {names : List ByteArray} {per : Int} {z : Nat} (h : (Int.tmod ((z : Nat) : Int) per == 0) = true) : gdP names per (z + 1) = gdP names per z ++ [gdF names (filP names) z] := by
  rw [gdP, List.range_succ, List.filter_append, List.map_append, List.filter_cons, if_pos h]; rfl
theorem gdP_skip {names : List ByteArray} {per : Int} {z : Nat} (h : (Int.tmod ((z : Nat) : Int) per == 0) = false) : gdP names per (z + 1) = gdP names per z := by
  rw [gdP, List.range_succ, List.filter_append, List.map_append, List.filter_cons, if_neg (by rw [h]; decide)]; simp [gdP]
theorem gdP_len (names : List ByteArray) (per : Int) (z : Nat) : (gdP names per z).length ≤ z := by
  rw [gdP, List.length_map]
  exact Nat.le_trans (List.length_filter_le _ _) (by simp)
noncomputable def gdS (names : List ByteArray) (per : Nat) (j : Nat) : List ByteArray := (List.range j).map fun t => gdF names (filS names) (t * per)
theorem gdS_more (names : List ByteArray) (per j : Nat) : gdS names per (j + 1) = gdS names per j ++ [gdF names (filS names) (j * per)] := by rw [gdS, List.range_succ, List.map_append]; rfl
theorem gdS_len (names : List ByteArray) (per j : Nat) : (gdS names per j).length = j := by simp [gdS]
theorem mult_filter {per : Nat} (hp : 1 ≤ per) : ∀ n : Nat, (List.range n).filter (fun i => Int.tmod ((i : Nat) : Int) (per : Int) == 0) = (List.range ((n + per - 1) / per)).map (· * per) := by
  intro n
  induction n with
  | zero => rw [show (0 + per - 1) / per = 0 from Nat.div_eq_of_lt (by omega)]; rfl
  | succ n ih =>
    rw [List.range_succ, List.filter_append, ih]
    have hd := Nat.div_add_mod n per
    have hm := Nat.mod_lt n (show 0 < per by omega)
    have hmul : per * (n / per) = n / per * per := Nat.mul_comm _ _
    have e : (Int.tmod ((n : Nat) : Int) (per : Int) == 0) = decide (n % per = 0) := by
      rw [Int.tmod_eq_emod_of_nonneg (by omega)]
      apply Bool.eq_iff_iff.2
      rw [beq_iff_eq, decide_eq_true_eq]
      omega
    by_cases h0 : n % per = 0
    · have h1 : (n + per - 1) / per = n / per := by
        rw [Nat.div_eq_iff (by omega)]; omega
      have h2 : (n + 1 + per - 1) / per = n / per + 1 := by
        rw [Nat.div_eq_iff (by omega), Nat.add_mul]; omega
      rw [List.filter_cons, if_pos (by rw [e, decide_eq_true h0]), h1, h2, List.range_succ, List.map_append]
      simp; omega
    · have h1 : (n + per - 1) / per = n / per + 1 := by
        rw [Nat.div_eq_iff (by omega), Nat.add_mul]; omega
      have h2 : (n + 1 + per - 1) / per = n / per + 1 := by
        rw [Nat.div_eq_iff (by omega), Nat.add_mul]; omega
      rw [List.filter_cons, if_neg (by rw [e, decide_eq_false h0]; decide), h1, h2]; simp
theorem gds_same {names : List ByteArray} (h : okNs names) {per : Nat} (hp : 1 ≤ per) {j : Nat} (hj : names.length ≤ j * per) (hj2 : ∀ t, t < j → t * per < names.length) : gdS names per j = gdP names per names.length := by
  have hjj : j = (names.length + per - 1) / per := by
    symm
    rw [Nat.div_eq_iff (by omega)]
    refine ⟨?_, by omega⟩
    cases j with
    | zero => simp
    | succ j => have := hj2 j (by omega); rw [Nat.add_mul] at *; omega
  rw [gdP, mult_filter hp, List.map_map, ← hjj, gdS, fil_same h]; rfl
noncomputable def gdsR (names : List ByteArray) (per : Int) : List ByteArray × Int := if ckS names per = 0 then (gdP names per names.length, 0) else ([], ckS names per)
theorem gdsR_no {names : List ByteArray} {per : Int} (h : ckS names per ≠ 0) : gdsR names per = ([], ckS names per) := if_neg h
theorem gdsR_yes {names : List ByteArray} {per : Int} (h : ckS names per = 0) : gdsR names per = (gdP names per names.length, 0) := if_pos h
theorem gdF_in {names : List ByteArray} {z : Nat} (hz : z < names.length) : (filP names)[z]? = some ((filP names).getD z 0) ∧ inN names.length ((filP names).getD z 0) ∧ gdF names (filP names) z ∈ names := by
  have hl := filP_len names
  have h1 : (filP names)[z]? = some ((filP names).getD z 0) := by rw [List.getD_eq_getElem?_getD, List.getElem?_eq_getElem (by omega)]; rfl
  have h2 := filP_in (List.mem_of_getElem? h1)
  exact ⟨h1, h2, nth_mem h2⟩
theorem gdFS_in {names : List ByteArray} {z : Nat} (hz : z < names.length) : (filS names)[z]? = some ((filS names).getD z 0) ∧ inN names.length ((filS names).getD z 0) := by
  have hl := filS_len names
  have h1 : (filS names)[z]? = some ((filS names).getD z 0) := by rw [List.getD_eq_getElem?_getD, List.getElem?_eq_getElem (by omega)]; rfl
  exact ⟨h1, filS_in (List.mem_of_getElem? h1)⟩
theorem gdP_in {names : List ByteArray} {per : Int} {g : ByteArray} (h : g ∈ gdP names per names.length) : g ∈ names := by
  obtain ⟨i, hi, rfl⟩ := List.mem_map.1 h
  exact (gdF_in (List.mem_range.1 (List.mem_filter.1 hi).1)).2.2
theorem gdP_nil {names : List ByteArray} {per : Int} (h : names ≠ []) : gdP names per names.length ≠ [] := by
  intro h1
  have h2 := List.map_eq_nil_iff.1 h1
  have h3 : (0 : Nat) ∈ (List.range names.length).filter fun i => Int.tmod ((i : Nat) : Int) per == 0 := List.mem_filter.2 ⟨List.mem_range.2 (List.length_pos_iff.2 h), by simp⟩
  rw [h2] at h3; cases h3
/-! ### Drawers -/
noncomputable def lastI (p : ByteArray → Bool) (g : List ByteArray) : Nat → Int
  | 0 => 0
  | z + 1 => if p (g.getD z .empty) = true then (z : Int) else lastI p g z
theorem lastI_in (p : ByteArray → Bool) (g : List ByteArray) : ∀ z, 0 ≤ lastI p g z ∧ lastI p g z ≤ z ∧ (0 < z → lastI p g z < z)
  | 0 => by simp [lastI]
  | z + 1 => by
    have ih := lastI_in p g z
    rw [lastI]; split
    · omega
    · have := ih.2.1; omega
theorem getDn_of {g : List ByteArray} {z : Nat} {a : ByteArray} (ha : g[Int.toNat ((z : Nat) : Int)]? = some a) : g.getD z .empty = a := by rw [toN] at ha; rw [List.getD_eq_getElem?_getD, ha]; rfl
theorem lastI_hit {p : ByteArray → Bool} {g : List ByteArray} {z : Nat} {a : ByteArray} (ha : g[Int.toNat ((z : Nat) : Int)]? = some a) (h : p a = true) : (z : Int) = lastI p g (z + 1) := by rw [lastI, getDn_of ha, if_pos h]
theorem lastI_miss {p : ByteArray → Bool} {g : List ByteArray} {z : Nat} {a : ByteArray} (ha : g[Int.toNat ((z : Nat) : Int)]? = some a) (h : p a = false) : lastI p g z = lastI p g (z + 1) := by rw [lastI, getDn_of ha, if_neg (by rw [h]; decide)]
noncomputable def leN (name g : ByteArray) : Bool := decide (cnP g name ≤ 0)
noncomputable def drwR (names : List ByteArray) (per : Int) (name : ByteArray) : Int × Int :=
  if tt (enOK name) = true then (if ckS names per = 0 then (if names = [] then (0, 6) else (lastI (leN name) (gdP names per names.length) (gdP names per names.length).length, 0)) else (0, ckS names per)) else (0, 1)
theorem drw_bad {names : List ByteArray} {per : Int} {name : ByteArray} (h : tt (enOK name) = false) : drwR names per name = (0, 1) := if_neg (by rw [h]; decide)
theorem drw_code {names : List ByteArray} {per : Int} {name : ByteArray} (h : tt (enOK name) = true) (h1 : ckS names per ≠ 0) : drwR names per name = (0, ckS names per) := by rw [drwR, if_pos h, if_neg h1]
theorem drw_nil {names : List ByteArray} {per : Int} {name : ByteArray} (h : tt (enOK name) = true) (h1 : ckS names per = 0) (h2 : names = []) : drwR names per name = (0, 6) := by rw [drwR, if_pos h, if_pos h1, if_pos h2]
theorem drw_yes {names : List ByteArray} {per : Int} {name : ByteArray} (h : tt (enOK name) = true) (h1 : ckS names per = 0) (h2 : names ≠ []) : drwR names per name = (lastI (leN name) (gdP names per names.length) (gdP names per names.length).length, 0) := by rw [drwR, if_pos h, if_pos h1, if_neg h2]
end Go.Proofs.YtbckpmjiimiceaaDoor.VL
