/- Proved here: trees in text: words that are joined, and text that is added word by word. Plain Lean. -/
import Derived.Test.YtfnkphllkbkfaaaDoorBpa
import Derived.Test.YtfnkphllkbkfaaaDoorVLS
set_option linter.unusedVariables false
set_option linter.unusedSimpArgs false
namespace Go.Proofs.YtfnkphllkbkfaaaDoor.VL
open Go
def bEmp : ByteArray := ⟨#[101, 109, 112, 116, 121]⟩
def bTor : ByteArray := ⟨#[116, 111, 114, 110]⟩
def bLeaf : ByteArray := ⟨#[108, 101, 97, 102]⟩
def bAsk : ByteArray := ⟨#[97, 115, 107]⟩
/-- The word for a value. -/
def valW (v : Int) : ByteArray := if v = -1 then bEmp else if v = -2 then bTor else decB v.toNat
theorem valW_fmt {v : Int} (h : -2 ≤ v) (h1 : v ≠ -1) (h2 : v ≠ -2) : fmtB v = valW v := by
  rw [valW, if_neg h1, if_neg h2, fmtB_pos (by omega)]
theorem valW_size {v : Int} (h : v ≤ 9223372036854775807) : (valW v).size ≤ 19 := by
  unfold valW
  split
  · show bEmp.size ≤ 19; decide
  · split
    · show bTor.size ≤ 19; decide
    · exact decB_19 (by omega)
def addW (t w : ByteArray) : ByteArray := t ++ (bsp ++ w)
theorem ba_toList (a b : ByteArray) : (a ++ b).data.toList = a.data.toList ++ b.data.toList := by simp
theorem join_fold : ∀ (ws : List ByteArray) (w : ByteArray), (Lib.join ((w :: ws).map (·.data.toList)) bsp.data.toList) = (ws.foldl addW w).data.toList
  | [], w => by simp [Lib.join, List.intercalate]
  | v :: ws, w => by
    rw [List.foldl_cons, ← join_fold ws (addW w v)]
    have e : (addW w v).data.toList = w.data.toList ++ bsp.data.toList ++ v.data.toList := by rw [addW, ba_toList, ba_toList, List.append_assoc]
    simp only [List.map_cons, Lib.join]
    rw [e]
    cases ws with
    | nil => simp [List.intercalate, List.intersperse]
    | cons u ws => simp [List.intercalate, List.intersperse]
/-- Words that are joined: one behind the other. -/
theorem joinB_fold (w : ByteArray) (ws : List ByteArray) : joinB (w :: ws) bsp = ws.foldl addW w := by
  rw [joinB, join_fold]
theorem addW_size {B : Nat} : ∀ (ws : List ByteArray) (t : ByteArray), (∀ w ∈ ws, w.size ≤ B) → (ws.foldl addW t).size ≤ t.size + ws.length * (B + 1)
  | [], t, _ => by simp
  | w :: ws, t, h => by
    have h1 := addW_size (B := B) ws (addW t w) (fun v hv => h v (List.mem_cons_of_mem _ hv))
    have h2 := h w (List.mem_cons_self ..)
    have h3 : (addW t w).size = t.size + (1 + w.size) := by rw [addW, ByteArray.size_append, ByteArray.size_append]; rfl
    rw [List.foldl_cons, List.length_cons]
    have e : (ws.length + 1) * (B + 1) = ws.length * (B + 1) + (B + 1) := by rw [Nat.add_mul]; simp
    omega
/-- The words of a knot behind its first ones. -/
def cardW (c : List Int) : List ByteArray := c.map fun v => decB v.toNat
def nextW (vs ns : List Int) : List ByteArray := (vs.zip ns).flatMap fun p => [valW p.1, decB p.2.toNat]
theorem cardW_next {c : List Int} {z : Nat} {a : Int} (ha : c[Int.toNat ((z : Nat) : Int)]? = some a) : cardW (c.take z) ++ [decB a.toNat] = cardW (c.take (z + 1)) := by
  rw [cardW, cardW, take_more ha, List.map_append]; rfl
theorem zip_next {vs ns : List Int} {z : Nat} {v n : Int} (hv : vs[Int.toNat ((z : Nat) : Int)]? = some v) (hn : ns[Int.toNat ((z : Nat) : Int)]? = some n) : nextW (vs.take z) (ns.take z) ++ [valW v, decB n.toNat] = nextW (vs.take (z + 1)) (ns.take (z + 1)) := by
  rw [toN] at hv hn
  have h1 : z < vs.length := (List.getElem?_eq_some_iff.1 hv).1
  have h2 : z < ns.length := (List.getElem?_eq_some_iff.1 hn).1
  rw [nextW, nextW, List.take_add_one, List.take_add_one, hv, hn, List.zip_append (by rw [List.length_take, List.length_take]; omega), List.flatMap_append]
  rfl
theorem cardW_len (c : List Int) : (cardW c).length = c.length := by simp [cardW]
theorem nextW_len : ∀ (vs ns : List Int), (nextW vs ns).length ≤ 2 * vs.length
  | [], _ => by simp [nextW]
  | _ :: _, [] => by simp [nextW]
  | v :: vs, n :: ns => by
    have := nextW_len vs ns
    simp only [nextW, List.zip_cons_cons, List.flatMap_cons, List.length_append, List.length_cons, List.length_nil] at *
    omega
theorem cardW_size {c : List Int} (h : ∀ v ∈ c, v ≤ 9223372036854775807) : ∀ w ∈ cardW c, w.size ≤ 19 := fun w hw => by
  obtain ⟨v, hv, rfl⟩ := List.mem_map.1 hw
  have := h v hv
  exact decB_19 (by omega)
theorem nextW_size {vs ns : List Int} (h : ∀ v ∈ vs, v ≤ 9223372036854775807) (h' : ∀ v ∈ ns, v ≤ 32767) : ∀ w ∈ nextW vs ns, w.size ≤ 19 := fun w hw => by
  obtain ⟨p, hp, hw⟩ := List.mem_flatMap.1 hw
  have h1 := h p.1 (List.of_mem_zip hp).1
  have h2 := h' p.2 (List.of_mem_zip hp).2
  rcases List.mem_cons.1 hw with rfl | hw
  · exact valW_size h1
  · rw [List.mem_singleton] at hw; subst hw; exact decB_19 (by omega)
def knW (k : DKnot) : List ByteArray := if 0 ≤ k.1 then bAsk :: decB k.1.toNat :: nextW k.2.1 k.2.2.1 else bLeaf :: (cardW k.2.2.2 ++ nextW k.2.1 k.2.2.1)
/-- A knot's line. -/
def knT (k : DKnot) : ByteArray := if 0 ≤ k.1 then (nextW k.2.1 k.2.2.1).foldl addW (addW bAsk (decB k.1.toNat)) else (cardW k.2.2.2).foldl addW bLeaf
theorem knW_join {k : DKnot} {p m : Int} (h : knotOK k p m) : joinB (knW k) bsp = knT k := by
  rcases h with ⟨h0, h⟩ | ⟨h0, h⟩
  · rw [knW, if_neg (by omega), knT, if_neg (by omega), joinB_fold, List.eq_nil_of_length_eq_zero h.2.1]
    simp [nextW]
  · have h1 := h.1.1
    rw [knW, if_pos h1, knT, if_pos h1, joinB_fold, List.foldl_cons]
def trF (t : ByteArray) (k : DKnot) : ByteArray := t ++ knT k ++ bnl
def trT (x : List DKnot) : ByteArray := x.foldl trF .empty
noncomputable def treeTS (x : List DKnot) : ByteArray := if tt (treeOK x) = true then trT x else .empty
theorem trT_no {x : List DKnot} (h : tt (treeOK x) = false) : treeTS x = .empty := by rw [treeTS, if_neg (by rw [h]; decide)]
theorem trT_yes {x : List DKnot} (h : treeOK x) : treeTS x = trT x := by rw [treeTS, if_pos (tt_iff.2 h)]
/-- What a knot's numbers are within. -/
def numK (k : DKnot) : Prop := (-32768 ≤ k.1 ∧ k.1 ≤ 32767) ∧ (∀ v ∈ k.2.1, v ≤ 9223372036854775807) ∧ (∀ v ∈ k.2.2.1, v ≤ 32767) ∧ ∀ v ∈ k.2.2.2, v ≤ 9223372036854775807
theorem knT_size {k : DKnot} (h : okK k) (hn : numK k) : (knT k).size ≤ 70368744177664 := by
  obtain ⟨h1, h2, h3⟩ := h
  unfold knT
  split
  · have e1 := addW_size (B := 19) (nextW k.2.1 k.2.2.1) (addW bAsk (decB k.1.toNat)) (nextW_size hn.2.1 hn.2.2.1)
    have e2 := nextW_len k.2.1 k.2.2.1
    have e3 : (addW bAsk (decB k.1.toNat)).size = 3 + (1 + (decB k.1.toNat).size) := by rw [addW, ByteArray.size_append, ByteArray.size_append]; rfl
    have e4 := decB_19 (n := k.1.toNat) (by have := hn.1; omega)
    omega
  · have e1 := addW_size (B := 19) (cardW k.2.2.2) bLeaf (cardW_size hn.2.2.2)
    have e2 := cardW_len k.2.2.2
    have e3 : bLeaf.size = 4 := rfl
    omega
theorem trT_at {x : List DKnot} (h : okKS x) (hn : ∀ k ∈ x, numK k) (hl : x.length ≤ 120) : ∀ z, z ≤ x.length → ((x.take z).foldl trF .empty).size ≤ z * 70368744177665
  | 0, _ => by rw [List.take_zero]; exact Nat.zero_le _
  | z + 1, hz => by
    obtain ⟨k, hk⟩ := getI (x := x) (z := z) (by omega)
    have h1 := trT_at h hn hl z (by omega)
    have h2 := knT_size (h.2 k (mem_getI hk)) (hn k (mem_getI hk))
    have h3 : bnl.size = 1 := rfl
    rw [← foldl_more (f := trF) hk, trF, ByteArray.size_append, ByteArray.size_append]
    omega
theorem addW_pre : ∀ (ws : List ByteArray) (t a : ByteArray), ws.foldl addW (t ++ a) = t ++ ws.foldl addW a
  | [], t, a => rfl
  | w :: ws, t, a => by
    rw [List.foldl_cons, List.foldl_cons, ← addW_pre ws t (addW a w)]
    congr 1
    rw [addW, addW, ByteArray.append_assoc]
theorem askW (d : ByteArray) : (⟨#[97, 115, 107, 32]⟩ : ByteArray) ++ d = addW bAsk d := by
  rw [addW, ← ByteArray.append_assoc]; rfl
theorem knot_card {k : DKnot} {p m v : Int} (h : knotOK k p m) (hv : v ∈ k.2.2.2) : 0 ≤ v ∧ v ≤ 59 := by
  rcases h with ⟨_, h⟩ | ⟨_, h⟩
  · obtain ⟨i, hi⟩ := List.mem_iff_getElem?.1 hv
    obtain ⟨a, ha, h1, h2, _⟩ := h.1 i (List.getElem?_eq_some_iff.1 hi).1
    rw [hi] at ha; injection ha with ha; subst ha
    exact ⟨h1, h2⟩
  · have : k.2.2.2.length = 0 := h.1.2.2.1
    rw [List.eq_nil_of_length_eq_zero this] at hv; cases hv
theorem knot_val {k : DKnot} {p m v : Int} (h : knotOK k p m) (hv : v ∈ k.2.1) : -2 ≤ v := by
  rcases h with ⟨_, h⟩ | ⟨_, h⟩
  · rw [List.eq_nil_of_length_eq_zero h.2.1] at hv; cases hv
  · obtain ⟨i, hi⟩ := List.mem_iff_getElem?.1 hv
    obtain ⟨a, n, ha, _, h2, _⟩ := h.2 i (List.getElem?_eq_some_iff.1 hi).1
    rw [hi] at ha; injection ha with ha; subst ha
    exact h2
theorem knot_nlen {k : DKnot} {p m : Int} (h : knotOK k p m) : k.2.2.1.length = k.2.1.length := by
  rcases h with ⟨_, h⟩ | ⟨_, h⟩
  · rw [h.2.1, h.2.2]
  · exact h.1.2.2.2.2
def knW0 (k : DKnot) : List ByteArray := if 0 ≤ k.1 then [bAsk, decB k.1.toNat] else bLeaf :: cardW k.2.2.2
theorem knW0_all {k : DKnot} {y : Nat} (hy : k.2.1.length ≤ y) (hl : k.2.2.1.length = k.2.1.length) : knW0 k ++ nextW (k.2.1.take y) (k.2.2.1.take y) = knW k := by
  rw [List.take_of_length_le hy, List.take_of_length_le (by omega), knW0, knW]
  split <;> rfl
theorem knW0_len (k : DKnot) : (knW0 k).length ≤ 2 + k.2.2.2.length := by
  have := cardW_len k.2.2.2
  unfold knW0
  split <;> simp only [List.length_cons, List.length_nil] <;> omega
theorem knW_len {k : DKnot} (h : okK k) : (knW k).length ≤ 70368744177664 := by
  have h1 := cardW_len k.2.2.2
  have h2 := nextW_len k.2.1 k.2.2.1
  obtain ⟨h3, h4, h5⟩ := h
  unfold knW
  split
  · simp only [List.length_cons]; omega
  · simp only [List.length_cons, List.length_append]; omega
theorem trF_impl {k : DKnot} {p m : Int} (h : knotOK k p m) (t : ByteArray) : t ++ (joinB (knW k) bsp ++ bnl) = trF t k := by
  rw [knW_join h, trF, ByteArray.append_assoc]
theorem trF_leaf {k : DKnot} {y : Nat} (h : k.1 < 0) (hy : k.2.2.2.length ≤ y) (t : ByteArray) : (cardW (k.2.2.2.take y)).foldl addW (t ++ bLeaf) ++ bnl = trF t k := by
  rw [trF, knT, if_neg (by omega), List.take_of_length_le hy, addW_pre]
theorem trF_ask {k : DKnot} {y : Nat} (h : ¬ k.1 < 0) (hy : k.2.1.length ≤ y) (hl : k.2.2.1.length = k.2.1.length) (t : ByteArray) : (nextW (k.2.1.take y) (k.2.2.1.take y)).foldl addW (t ++ addW bAsk (decB k.1.toNat)) ++ bnl = trF t k := by
  rw [trF, knT, if_pos (by omega), List.take_of_length_le hy, List.take_of_length_le (by omega), addW_pre]
theorem cardT_next {c : List Int} {z : Nat} {a : Int} {t : ByteArray} (ha : c[Int.toNat ((z : Nat) : Int)]? = some a) : (cardW (c.take z)).foldl addW t ++ (bsp ++ decB a.toNat) = (cardW (c.take (z + 1))).foldl addW t := by
  rw [← cardW_next ha, List.foldl_append]; rfl
theorem nextT_next {vs ns : List Int} {z : Nat} {v n : Int} {t : ByteArray} (hv : vs[Int.toNat ((z : Nat) : Int)]? = some v) (hn : ns[Int.toNat ((z : Nat) : Int)]? = some n) :
    (nextW (vs.take z) (ns.take z)).foldl addW t ++ (bsp ++ valW v ++ bsp ++ decB n.toNat) = (nextW (vs.take (z + 1)) (ns.take (z + 1))).foldl addW t := by
  rw [← zip_next hv hn, List.foldl_append]
  simp only [List.foldl_cons, List.foldl_nil, addW, ByteArray.append_assoc]
theorem cardT_size {c : List Int} {t : ByteArray} (h : ∀ v ∈ c, v ≤ 9223372036854775807) (hc : c.length ≤ 1099511627776) (z : Nat) : ((cardW (c.take z)).foldl addW t).size ≤ t.size + 21990232555520 := by
  have h1 := addW_size (B := 19) (cardW (c.take z)) t (cardW_size fun v hv => h v (List.mem_of_mem_take hv))
  rw [cardW_len, List.length_take] at h1
  omega
theorem nextT_size {vs ns : List Int} {t : ByteArray} (h : ∀ v ∈ vs, v ≤ 9223372036854775807) (h' : ∀ v ∈ ns, v ≤ 32767) (hc : vs.length ≤ 1099511627776) (z : Nat) : ((nextW (vs.take z) (ns.take z)).foldl addW t).size ≤ t.size + 43980465111040 := by
  have h1 := addW_size (B := 19) (nextW (vs.take z) (ns.take z)) t (nextW_size (fun v hv => h v (List.mem_of_mem_take hv)) (fun v hv => h' v (List.mem_of_mem_take hv)))
  have h2 := nextW_len (vs.take z) (ns.take z)
  rw [List.length_take] at h2
  omega
theorem ok_num {k : DKnot} (h : kKnot.ok k) : numK k := by
  have h1 := ok_pair h
  have h2 := ok_pair h1.2
  have h3 := ok_pair h2.2
  exact ⟨ok_i16 h1.1, fun v hv => (ok_i64 ((ok_slice h2.1).1 v hv)).2, fun v hv => (ok_i16 ((ok_slice h3.1).1 v hv)).2, fun v hv => (ok_i64 ((ok_slice h3.2).1 v hv)).2⟩
end Go.Proofs.YtfnkphllkbkfaaaDoor.VL
