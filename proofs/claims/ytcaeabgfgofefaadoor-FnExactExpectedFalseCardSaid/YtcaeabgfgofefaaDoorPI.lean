/- Proved here: holes of masks, answers and their first fault. Plain Lean, no program. -/
import Derived.Test.YtcaeabgfgofefaaDoorPH
set_option linter.unusedVariables false
set_option linter.unusedSimpArgs false
namespace Go.Proofs.YtcaeabgfgofefaaDoor.VL
open Go
/-! ### Masks -/
def limb (m : DMask) (i : Int) : BitVec 64 := if Int.toNat (i.tdiv 64) = 0 then m.1 else m.2
def hasM (m : DMask) (i : Int) : Bool := (limb m i >>> Int.toNat (i.tmod 64)) % 2#64 == 1#64
theorem and_one (x : BitVec 64) : x &&& 1#64 = x % 2#64 := by
  apply BitVec.eq_of_toNat_eq
  rw [BitVec.toNat_and, BitVec.toNat_umod]
  exact Nat.and_one_is_mod _
theorem rem64 {i : Int} (h : 0 ≤ i) : (BitVec.ofInt 64 (i.tmod 64)).toNat = Int.toNat (i.tmod 64) := by
  rw [Int.tmod_eq_emod_of_nonneg h, BitVec.toNat_ofInt]
  have h1 : 0 ≤ i % 64 := Int.emod_nonneg _ (by decide)
  have h2 : i % 64 < 64 := Int.emod_lt_of_pos _ (by decide)
  generalize i % 64 = r at *
  have e : r % (2 ^ 64 : Nat) = r := Int.emod_eq_of_lt h1 (by show r < 18446744073709551616; omega)
  rw [e]
theorem div64 {i : Int} (h : 0 ≤ i ∧ i < 128) : 0 ≤ i.tdiv 64 ∧ i.tdiv 64 < 2 := by
  rw [Int.tdiv_eq_ediv_of_nonneg h.1]; omega
theorem mod64 {i : Int} (h : 0 ≤ i) : 0 ≤ i.tmod 64 := Int.tmod_nonneg _ h
def meetM (x y : DMask) : DMask := (x.1 &&& y.1, x.2 &&& y.2)
noncomputable def withinM (x y : DMask) : Bool := eqv (lessM x y) (0#64, 0#64)
abbrev DQuery := DMask × DMask
noncomputable def dropsQ (q : DQuery) (m : DMask) : Bool := withinM q.1 m && eqv (meetM q.2 m) (0#64, 0#64)
noncomputable def queryOK (q : DQuery) : Bool := okM q.1 && okM q.2 && eqv (meetM q.1 q.2) (0#64, 0#64)
def showsQ (q : DQuery) (m : DMask) (h : Int) : Bool := (hasM q.1 h && !(hasM m h)) || (hasM q.2 h && hasM m h)
theorem hole_same (h : Int) : (decide (h ≥ 0) && decide (h < 96)) = inb h 0 95 := by
  rw [Bool.eq_iff_iff]; simp only [inb, Bool.and_eq_true, decide_eq_true_eq]; omega
theorem hole_in {h : Int} (hh : inb h 0 95 = true) : 0 ≤ h ∧ h < 96 := by
  simp only [inb, Bool.and_eq_true, decide_eq_true_eq] at hh; omega
/-! ### The first fault of an answer -/
section
variable {α : Type} {f : α → Int} {n : Int} {l : List α} {z : Nat} {a b : α}
/-- A place of a list whose values rise and lie in a range. -/
def ordF (f : α → Int) (n : Int) (l : List α) (i : Nat) : Prop := ∃ c, l[i]? = some c ∧ 0 ≤ f c ∧ f c < n ∧ (0 < i → ∃ b, l[i - 1]? = some b ∧ f b < f c)
theorem ordF_iff (ha : l[Int.toNat ((z : Nat) : Int)]? = some a) (hp : 0 < z → l[Int.toNat ((z : Nat) - 1 : Int)]? = some b) : ordF f n l z ↔ 0 ≤ f a ∧ f a < n ∧ (0 < z → f b < f a) := by
  rw [toN] at ha
  constructor
  · rintro ⟨c, h1, h2, h3, h4⟩
    rw [ha] at h1; obtain rfl := Option.some.inj h1
    refine ⟨h2, h3, fun hz => ?_⟩
    obtain ⟨b', h5, h6⟩ := h4 hz
    have h7 := getP hz (hp hz)
    rw [h7] at h5; obtain rfl := Option.some.inj h5; exact h6
  · rintro ⟨h2, h3, h4⟩
    exact ⟨a, ha, h2, h3, fun hz => ⟨b, getP hz (hp hz), h4 hz⟩⟩
end
abbrev DAns' := DQuery × List Int × List (Int × Int)
def mAt (x : List DCard) (c : Int) : DMask := match x[Int.toNat c]? with | some e => e.2 | none => (0#64, 0#64)
theorem mAt_eq {x : List DCard} {c : Int} {e : DCard} (h : x[Int.toNat c]? = some e) : mAt x c = e.2 := by rw [mAt, h]
noncomputable def rA (q : DQuery) (x : List DCard) (r : List Bool) (c : Int) : List Bool := r.set (Int.toNat c) (dropsQ q (mAt x c))
noncomputable def rB (q : DQuery) (x : List DCard) (r : List Bool) (w : Int × Int) : List Bool := r.set (Int.toNat w.1) (inb w.2 0 95 && showsQ q (mAt x w.1) w.2)
noncomputable def rtA (q : DQuery) (x : List DCard) (ids : List Int) : List Bool := ids.foldl (rA q x) (List.replicate x.length false)
noncomputable def rtB (q : DQuery) (x : List DCard) (ids : List Int) (ws : List (Int × Int)) : List Bool := ws.foldl (rB q x) (rtA q x ids)
theorem foldl_len {α β : Type} {g : List β → α → List β} (hg : ∀ r a, (g r a).length = r.length) : ∀ (l : List α) (r : List β), (l.foldl g r).length = r.length
  | [], r => rfl
  | a :: l, r => by rw [List.foldl_cons, foldl_len hg l, hg]
theorem rtA_len (q : DQuery) (x : List DCard) (ids : List Int) : (rtA q x ids).length = x.length := by
  rw [rtA, foldl_len (fun r a => by rw [rA, List.length_set]), List.length_replicate]
theorem rtB_len (q : DQuery) (x : List DCard) (ids : List Int) (ws : List (Int × Int)) : (rtB q x ids ws).length = x.length := by
  rw [rtB, foldl_len (fun r a => by rw [rB, List.length_set]), rtA_len]
theorem get_of_len {α : Type} {r : List α} {n : Nat} (h : r.length = n) {c : Int} (hc : 0 ≤ c ∧ c < n) : ∃ v, r[Int.toNat c]? = some v :=
  ⟨_, List.getElem?_eq_getElem (by omega)⟩
theorem rtA_next {q : DQuery} {x : List DCard} {ids : List Int} {z : Nat} {c : Int} {e : DCard} (hc : ids[Int.toNat ((z : Nat) : Int)]? = some c) (he : x[Int.toNat c]? = some e) :
    (rtA q x (ids.take z)).set (Int.toNat c) (dropsQ q e.2) = rtA q x (ids.take (z + 1)) := by
  unfold rtA
  rw [← foldl_next hc, rA, mAt_eq he]
theorem rtB_next {q : DQuery} {x : List DCard} {ids : List Int} {ws : List (Int × Int)} {z : Nat} {w : Int × Int} {e : DCard} (hc : ws[Int.toNat ((z : Nat) : Int)]? = some w) (he : x[Int.toNat w.1]? = some e) :
    (rtB q x ids (ws.take z)).set (Int.toNat w.1) (inb w.2 0 95 && showsQ q e.2 w.2) = rtB q x ids (ws.take (z + 1)) := by
  unfold rtB
  rw [← foldl_next hc, rB, mAt_eq he]
theorem cnt_one {b n v : Int} {m : Nat} {c : List Int} {z : Nat} (hn : c[Int.toNat ((z : Nat) : Int)]? = some n) (h : 0 ≤ n ∧ n < m) (hv : (cntL b m (c.take z))[Int.toNat n]? = some v) : (cntL b m (c.take z)).set (Int.toNat n) (v + 1) = cntL b m (c.take (z + 1)) := by
  have := cnt_next (l := []) hn h hv
  simpa using this
theorem rtB_no {q : DQuery} {x : List DCard} {ids : List Int} {ws : List (Int × Int)} {z : Nat} {w : Int × Int} (hc : ws[Int.toNat ((z : Nat) : Int)]? = some w) (h : inb w.2 0 95 = false) :
    (rtB q x ids (ws.take z)).set (Int.toNat w.1) false = rtB q x ids (ws.take (z + 1)) := by
  unfold rtB
  rw [← foldl_next hc, rB, h]; rfl
theorem rtB_yes {q : DQuery} {x : List DCard} {ids : List Int} {ws : List (Int × Int)} {z : Nat} {w : Int × Int} {e : DCard} (hc : ws[Int.toNat ((z : Nat) : Int)]? = some w) (he : x[Int.toNat w.1]? = some e) (h : inb w.2 0 95 = true) :
    (rtB q x ids (ws.take z)).set (Int.toNat w.1) (showsQ q e.2 w.2) = rtB q x ids (ws.take (z + 1)) := by
  rw [← rtB_next hc he, h]; rfl
theorem map_next {ws : List (Int × Int)} {z : Nat} {w : Int × Int} (hc : ws[Int.toNat ((z : Nat) : Int)]? = some w) : (ws.map (·.1))[Int.toNat ((z : Nat) : Int)]? = some w.1 := by
  rw [List.getElem?_map, hc]; rfl
def tmS (x : List DCard) (ids : List Int) (ws : List (Int × Int)) : List Int := cntL 0 x.length (ids ++ ws.map (·.1))
/-- A card that is told of just once, and rightly. -/
def onceI (x : List DCard) (v : DAns') (i : Nat) : Prop := (tmS x v.2.1 v.2.2)[i]? = some 1 ∧ (rtB v.1 x v.2.1 v.2.2)[i]? = some true
noncomputable def faultS (x : List DCard) (v : DAns') : Int :=
  @ite _ ((∀ i, i < v.2.1.length → ordF (fun c => c) x.length v.2.1 i) ∧ ∀ i, i < v.2.2.length → ordF (·.1) x.length v.2.2 i) (Classical.propDecidable _)
    (if pre (onceI x v) x.length < x.length then (pre (onceI x v) x.length : Int) else -2) (-1)
section
variable {x : List DCard} {v : DAns'} {z : Nat}
theorem flt_no1 (hz : z < v.2.1.length) (h : ¬ ordF (fun c => c) x.length v.2.1 z) : -1 = faultS x v := by
  rw [faultS, if_neg (fun h' => h (h'.1 z hz))]
theorem flt_no2 (hz : z < v.2.2.length) (h : ¬ ordF (·.1) x.length v.2.2 z) : -1 = faultS x v := by
  rw [faultS, if_neg (fun h' => h (h'.2 z hz))]
theorem flt_at (h1 : ∀ i, i < v.2.1.length → ordF (fun c => c) x.length v.2.1 i) (h2 : ∀ i, i < v.2.2.length → ordF (·.1) x.length v.2.2 i) (hI : ∀ i, i < z → onceI x v i) (hz : z < x.length) (h : ¬ onceI x v z) : ((z : Nat) : Int) = faultS x v := by
  rw [faultS, if_pos ⟨h1, h2⟩, pre_at hI h hz, if_pos hz]
theorem flt_end (h1 : ∀ i, i < v.2.1.length → ordF (fun c => c) x.length v.2.1 i) (h2 : ∀ i, i < v.2.2.length → ordF (·.1) x.length v.2.2 i) (hI : ∀ i, i < z → onceI x v i) (hz : x.length ≤ z) : -2 = faultS x v := by
  rw [faultS, if_pos ⟨h1, h2⟩, pre_all (all_end hI hz), if_neg (Nat.lt_irrefl _)]
theorem once_iff {t : Int} {r : Bool} (ht : (tmS x v.2.1 v.2.2)[Int.toNat ((z : Nat) : Int)]? = some t) (hr : (rtB v.1 x v.2.1 v.2.2)[Int.toNat ((z : Nat) : Int)]? = some r) : onceI x v z ↔ t = 1 ∧ r = true := by
  rw [toN] at ht hr
  unfold onceI
  rw [ht, hr]
  exact ⟨fun h => ⟨Option.some.inj h.1, Option.some.inj h.2⟩, fun h => by rw [h.1, h.2]; exact ⟨rfl, rfl⟩⟩
theorem once_bool {t : Int} {r : Bool} (ht : (tmS x v.2.1 v.2.2)[Int.toNat ((z : Nat) : Int)]? = some t) (hr : (rtB v.1 x v.2.1 v.2.2)[Int.toNat ((z : Nat) : Int)]? = some r) : onceI x v z ↔ (t != 1 || !r) = false := by
  rw [once_iff ht hr, Bool.or_eq_false_iff, bne_eq_false_iff_eq, Bool.not_eq_false']
end
noncomputable def faultI (x : List DCard) (v : DAns') : Int × Bool := (if faultS x v = -2 then 0 else faultS x v, decide (faultS x v = -2))
section
variable {x : List DCard} {v : DAns'} {z : Nat}
theorem fltI_neg (h : -1 = faultS x v) : faultI x v = (-1, false) := by rw [faultI, ← h]; rfl
theorem fltI_at (h : ((z : Nat) : Int) = faultS x v) : faultI x v = ((z : Int), false) := by
  have hz : ¬ ((z : Nat) : Int) = -2 := by omega
  rw [faultI, ← h, if_neg hz, decide_eq_false hz]
theorem fltI_end (h : -2 = faultS x v) : faultI x v = (0, true) := by rw [faultI, ← h]; rfl
theorem fltI_ne (h : (faultI x v).2 = false) : (faultI x v).1 = faultS x v := by
  unfold faultI at h ⊢
  rw [if_neg (of_decide_eq_false h)]
end
noncomputable def badA (x : List DCard) (v : DAns') : Bool := !(tt (deckOK x)) || !(queryOK v.1)
noncomputable def checkA (x : List DCard) (v : DAns') : Bool × Int := if badA x v = true then (false, 1) else (faultS x v == -2, 0)
noncomputable def firstA (x : List DCard) (v : DAns') : Int × Int := if badA x v = true then (0, 1) else if (faultS x v == -2) = true then (0, 6) else (faultS x v, 0)
section
variable {x : List DCard} {v : DAns'}
theorem checkA_no (h : (!(tt (deckOK x)) || !(queryOK v.1)) = true) : checkA x v = (false, 1) := by rw [checkA, badA, if_pos h]
theorem checkA_yes (h : (!(tt (deckOK x)) || !(queryOK v.1)) = false) : checkA x v = (faultS x v == -2, 0) := by rw [checkA, badA, if_neg (by rw [h]; decide)]
theorem checkA_yes' (h : (!(tt (deckOK x)) || !(queryOK v.1)) = false) : checkA x v = ((faultI x v).2, 0) := by rw [checkA_yes h]; rfl
theorem firstA_no (h : (!(tt (deckOK x)) || !(queryOK v.1)) = true) : firstA x v = (0, 1) := by rw [firstA, badA, if_pos h]
theorem firstA_all (h : (!(tt (deckOK x)) || !(queryOK v.1)) = false) (h2 : faultS x v = -2) : firstA x v = (0, 6) := by rw [firstA, badA, if_neg (by rw [h]; decide), if_pos (by rw [h2]; rfl)]
theorem firstA_yes (h : (!(tt (deckOK x)) || !(queryOK v.1)) = false) (h2 : ¬ faultS x v = -2) : firstA x v = (faultS x v, 0) := by rw [firstA, badA, if_neg (by rw [h]; decide), if_neg (by simpa using h2)]
theorem flt_two (h : (faultI x v).2 = true) : faultS x v = -2 := of_decide_eq_true h
theorem flt_not (h : (faultI x v).2 = false) : ¬ faultS x v = -2 := of_decide_eq_false h
end
theorem deck_bad {x : List DCard} {b : Bool} (h : (!(tt (deckOK x)) || b) = false) : x.length ≤ 80 := by
  rw [Bool.or_eq_false_iff, Bool.not_eq_false', tt_iff] at h; exact h.1.1
theorem szA_small {x : DAns} {l : Int} (hl : 0 ≤ l ∧ l ≤ 1048576) (h : 0 ≤ szA x l) : x.2.1.length ≤ 1048576 ∧ x.2.2.length ≤ 1048576 := by
  unfold szA at h
  have h1 := szL_in x.2.1 hl
  split at h
  · omega
  · have h2 := szL_in x.2.2 (l := szL x.2.1 l) (by omega)
    omega
end Go.Proofs.YtcaeabgfgofefaaDoor.VL
