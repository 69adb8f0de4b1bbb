/- Proved here: decks of cards in text, and passes of needles. Plain Lean. -/
import Derived.Test.YtmmjcpiikdcldaaGreatDoorPXN
import Derived.Test.YtmmjcpiikdcldaaGreatDoorPZK
set_option linter.unusedVariables false
set_option linter.unusedSimpArgs false
namespace Go.Proofs.YtmmjcpiikdcldaaGreatDoor.VL
open Go
/-! ### Decks in text -/
noncomputable def dkF (t : ByteArray) (c : DCard) : ByteArray := t ++ (cdT c ++ bnl)
noncomputable def dkX (x : List DCard) : ByteArray := x.foldl dkF .empty
noncomputable def dkT (x : List DCard) : ByteArray := if tt (deckOK x) = false then .empty else dkX x
theorem dkT_no {x : List DCard} (h : tt (deckOK x) = false) : dkT x = .empty := if_pos h
theorem dkT_yes {x : List DCard} (h : tt (deckOK x) = true) : dkT x = dkX x := if_neg (by rw [h]; decide)
theorem dkX_size : ∀ {l : List DCard} (s : ByteArray), (∀ c ∈ l, c.1.size ≤ 16) → (l.foldl dkF s).size ≤ s.size + 305 * l.length
  | [], s, _ => by simp
  | c :: l, s, h => by
    rw [List.foldl_cons]
    have h1 := dkX_size (l := l) (dkF s c) (fun a ha => h a (by simp [ha]))
    have h2 := cdT_size c
    have h3 := h c (by simp)
    have h4 : (dkF s c).size = s.size + ((cdT c).size + 1) := by rw [dkF, ByteArray.size_append, ByteArray.size_append]; rfl
    simp only [List.length_cons]; omega
theorem dkX_at {x : List DCard} (hx : deckOK x) (z : Nat) : ((x.take z).foldl dkF .empty).size ≤ 25000 := by
  have h1 := dkX_size (l := x.take z) .empty (fun c hc => (deck_card hx (List.mem_of_mem_take hc)).1.2.2)
  have h2 := hx.1
  rw [List.length_take] at h1
  have h3 : ByteArray.empty.size = 0 := rfl
  omega
theorem dkT_size (x : List DCard) : (dkT x).size ≤ 25000 := by
  cases h : tt (deckOK x) with
  | false => rw [dkT_no h]; decide
  | true =>
    rw [dkT_yes h, dkX]
    have := dkX_at (tt_iff.1 h) x.length
    rwa [List.take_length] at this
/-- What is read from lines. -/
noncomputable def gdL (l : ByteArray) : Bool := (rcS l).2
noncomputable def rcC (l : ByteArray) : DCard := (rcS l).1
noncomputable def rdS (x : ByteArray) : List DCard × Int := if (linS x).2 = false then ([], 5) else if (linS x).1.all gdL = false then ([], 5) else if tt (deckOK ((linS x).1.map rcC)) = false then ([], 5) else ((linS x).1.map rcC, 0)
theorem rd_no {x : ByteArray} (h : (linS x).2 = false) : rdS x = ([], 5) := if_pos h
theorem rd_bad {x l : ByteArray} {z : Nat} (h : (linS x).2 = true) (hl : (linS x).1[Int.toNat ((z : Nat) : Int)]? = some l) (hg : (rcS l).2 = false) : rdS x = ([], 5) := by
  rw [rdS, if_neg (by rw [h]; decide), if_pos]
  rw [List.all_eq_false]
  exact ⟨l, mem_getI hl, by rw [gdL, hg]; decide⟩
theorem rd_end {x : ByteArray} (h : (linS x).2 = true) (ha : (linS x).1.all gdL = true) (hd : tt (deckOK ((linS x).1.map rcC)) = false) : rdS x = ([], 5) := by
  rw [rdS, if_neg (by rw [h]; decide), if_neg (by rw [ha]; decide), if_pos hd]
theorem rd_yes {x : ByteArray} (h : (linS x).2 = true) (ha : (linS x).1.all gdL = true) (hd : tt (deckOK ((linS x).1.map rcC)) = true) : rdS x = ((linS x).1.map rcC, 0) := by
  rw [rdS, if_neg (by rw [h]; decide), if_neg (by rw [ha]; decide), if_neg (by rw [hd]; decide)]
theorem lin_len (x : ByteArray) : (linS x).1.length ≤ x.size + 1 := by
  rw [linS]
  split
  · simp
  · have h1 := splB_len 10 (cutB 10 x)
    have h2 := cnB_le 10 (cutB 10 x)
    have h3 := cut_le 10 x
    show (splB 10 (cutB 10 x)).length ≤ _
    omega
theorem lin_size {x l : ByteArray} (h : l ∈ (linS x).1) : l.size ≤ x.size := by
  rw [linS] at h
  split at h
  · cases h
  · have h1 := splB_size (c := 10) (x := cutB 10 x) h
    have h3 := cut_le 10 x
    omega
/-! ### Lines that are joined -/
def jnL : List ByteArray → ByteArray
  | [] => .empty
  | [a] => a
  | a :: b :: l => a ++ (bnl ++ jnL (b :: l))
theorem spl_jn : ∀ {l : List ByteArray}, l ≠ [] → (∀ a ∈ l, (10 : UInt8) ∉ bL a) → splB 10 (jnL l) = l
  | [], h, _ => absurd rfl h
  | [a], _, h => splF_one (h a (by simp))
  | a :: b :: l, _, h => by
    have h1 := spl_cons (c := 10) (x := a) (y := jnL (b :: l)) (h a (by simp))
    rw [show (⟨#[10]⟩ : ByteArray) = bnl from rfl] at h1
    rw [jnL, h1, spl_jn (by simp) (fun c hc => h c (by simp [hc]))]
theorem fold_jn (f : ByteArray → ByteArray → ByteArray) (hf : ∀ t a, f t a = t ++ (a ++ bnl)) : ∀ (l : List ByteArray) (a s : ByteArray), (a :: l).foldl f s = s ++ (jnL (a :: l) ++ bnl)
  | [], a, s => by rw [List.foldl_cons, List.foldl_nil, hf]; rfl
  | b :: l, a, s => by
    rw [List.foldl_cons, fold_jn f hf l b, hf, jnL]
    simp only [ByteArray.append_assoc]
theorem emp_app (x : ByteArray) : ByteArray.empty ++ x = x := by simp
/-- The lines of a text of lines. -/
theorem lin_fold {f : ByteArray → ByteArray → ByteArray} (hf : ∀ t a, f t a = t ++ (a ++ bnl)) {l : List ByteArray} (h : ∀ a ∈ l, (10 : UInt8) ∉ bL a) : linS (l.foldl f .empty) = (l, true) := by
  cases l with
  | nil => exact lin_nil rfl
  | cons a l =>
    rw [fold_jn f hf l a, emp_app]
    have h1 := end_app 10 (jnL (a :: l))
    rw [show (⟨#[10]⟩ : ByteArray) = bnl from rfl] at h1
    have h0 : ¬ jnL (a :: l) ++ bnl = .empty := fun e => by
      have := congrArg ByteArray.size e
      rw [ByteArray.size_append] at this
      have h5 : bnl.size = 1 := rfl
      have h6 : ByteArray.empty.size = 0 := rfl
      omega
    rw [lin_yes h0, h1.1, h1.2, spl_jn (by simp) h]
theorem rt_no (l : List Int) (hl : ∀ a ∈ l, 0 ≤ a ∧ a < 96) : (10 : UInt8) ∉ bL (rtT l) := by
  induction l with
  | nil => simp [rtT, bL]
  | cons a l ih =>
    have ha := hl a (by simp)
    show (10 : UInt8) ∉ bL (bsp ++ (decB a.toNat ++ rtT l))
    rw [bL_app, bL_app]
    intro h
    rw [List.mem_append, List.mem_append] at h
    rcases h with h | h | h
    · revert h; decide
    · exact dec_no (n := a.toNat) (by omega) (c := 10) (by decide) h
    · exact ih (fun b hb => hl b (by simp [hb])) h
theorem cdT_no {c : DCard} (h : nameOK c.1) : (10 : UInt8) ∉ bL (cdT c) := by
  rw [cdT, fold_rt, bL_app]
  intro h1
  rw [List.mem_append] at h1
  rcases h1 with h1 | h1
  · exact low_no h.1 (c := 10) (by decide) h1
  · exact rt_no _ (fun a ha => by have := hol_mem ha; omega) h1
theorem dk_lines {x : List DCard} (hx : deckOK x) : linS (dkT x) = (x.map cdT, true) := by
  rw [dkT_yes (tt_iff.2 hx)]
  have h1 : dkX x = (x.map cdT).foldl (fun t a => t ++ (a ++ bnl)) .empty := by rw [List.foldl_map]; rfl
  rw [h1]
  refine lin_fold (fun t a => rfl) fun a ha => ?_
  rw [List.mem_map] at ha
  obtain ⟨c, hc, rfl⟩ := ha
  exact cdT_no (deck_card hx hc).1
theorem dk_map {x : List DCard} (hx : deckOK x) : (x.map cdT).map rcC = x := by
  rw [List.map_map]
  conv => rhs; rw [← List.map_id x]
  refine List.map_congr_left fun c hc => ?_
  show rcC (cdT c) = c
  rw [rcC, rc_card (deck_card hx hc)]
theorem dk_read {x : List DCard} (hx : deckOK x) : rdS (dkT x) = (x, 0) := by
  have h1 := dk_lines hx
  have h2 : (linS (dkT x)).1.map rcC = x := by rw [h1]; exact dk_map hx
  rw [rd_yes (by rw [h1]) _ (by rw [h2]; exact tt_iff.2 hx), h2]
  rw [h1, List.all_eq_true]
  intro l hl
  rw [List.mem_map] at hl
  obtain ⟨c, hc, rfl⟩ := hl
  rw [gdL, rc_card (deck_card hx hc)]
/-- All words of the deck's text are numbers, but the names. -/
theorem dk_words {x : List DCard} (hx : deckOK x) : ∀ l ∈ (linS (dkT x)).1, ∀ w ∈ wrdT l, ∃ n, n < 96 ∧ w = decB n := by
  intro l hl w hw
  rw [dk_lines hx] at hl
  have hl : l ∈ x.map cdT := hl
  rw [List.mem_map] at hl
  obtain ⟨c, hc, rfl⟩ := hl
  exact wrd_card (deck_card hx hc) w hw
/-! ### Passes -/
noncomputable def askD (x : List DCard) (h : Int) : Int := if tt (deckOK x) = false then 1 else if inb h 0 95 = false then 2 else 0
noncomputable def pasS (x : List DCard) (h : Int) : List DCard × Int × Int := if askD x h = 0 then (stayM x h ++ dropM x h, ((dropM x h).length : Int), 0) else ([], 0, askD x h)
noncomputable def spdS (x : List DCard) (h : Int) : List DCard × List DCard × Int := if askD x h = 0 then (stayM x h, dropM x h, 0) else ([], [], askD x h)
noncomputable def pmsS (x : List DCard) (l : List Int) : List DCard × Int := if tt (deckOK x) = false then ([], 1) else if (l.any fun h => !(inb h 0 95)) = true then ([], 2) else if (l.length : Int) > 200 then ([], 3) else (manyP x l, 0)
theorem askd_bad {x : List DCard} {h : Int} (h1 : tt (deckOK x) = false) : askD x h = 1 := if_pos h1
theorem askd_rng {x : List DCard} {h : Int} (h1 : tt (deckOK x) = true) (h2 : inb h 0 95 = false) : askD x h = 2 := by rw [askD, if_neg (by rw [h1]; decide), if_pos h2]
theorem askd_ok {x : List DCard} {h : Int} (h1 : tt (deckOK x) = true) (h2 : inb h 0 95 = true) : askD x h = 0 := by rw [askD, if_neg (by rw [h1]; decide), if_neg (by rw [h2]; decide)]
theorem askd_zero {x : List DCard} {h : Int} (h1 : askD x h = 0) : deckOK x ∧ 0 ≤ h ∧ h < 96 := by
  rw [askD] at h1
  split at h1
  · cases h1
  · rename_i h2
    split at h1
    · cases h1
    · rename_i h3
      refine ⟨tt_iff.1 (by simpa using h2), ?_⟩
      have h4 : inb h 0 95 = true := by simpa using h3
      rw [inb, Bool.and_eq_true, decide_eq_true_eq, decide_eq_true_eq] at h4
      omega
theorem pas_no {x : List DCard} {h : Int} {c : Int} (h1 : askD x h = c) (h2 : c ≠ 0) : pasS x h = ([], 0, c) := by rw [pasS, if_neg (by rw [h1]; exact h2), h1]
theorem pas_yes {x : List DCard} {h : Int} (h1 : askD x h = 0) : pasS x h = (stayM x h ++ dropM x h, ((dropM x h).length : Int), 0) := if_pos h1
theorem spd_no {x : List DCard} {h : Int} {c : Int} (h1 : askD x h = c) (h2 : c ≠ 0) : spdS x h = ([], [], c) := by rw [spdS, if_neg (by rw [h1]; exact h2), h1]
theorem spd_yes {x : List DCard} {h : Int} (h1 : askD x h = 0) : spdS x h = (stayM x h, dropM x h, 0) := if_pos h1
theorem pms_bad {x : List DCard} {l : List Int} (h1 : tt (deckOK x) = false) : pmsS x l = ([], 1) := if_pos h1
theorem pms_rng {x : List DCard} {l : List Int} (h1 : tt (deckOK x) = true) (h2 : (l.any fun h => !(inb h 0 95)) = true) : pmsS x l = ([], 2) := by rw [pmsS, if_neg (by rw [h1]; decide), if_pos h2]
theorem pms_long {x : List DCard} {l : List Int} (h1 : tt (deckOK x) = true) (h2 : (l.any fun h => !(inb h 0 95)) = false) (h3 : (l.length : Int) > 200) : pmsS x l = ([], 3) := by rw [pmsS, if_neg (by rw [h1]; decide), if_neg (by rw [h2]; decide), if_pos h3]
theorem pms_yes {x : List DCard} {l : List Int} (h1 : tt (deckOK x) = true) (h2 : (l.any fun h => !(inb h 0 95)) = false) (h3 : ¬ (l.length : Int) > 200) : pmsS x l = (manyP x l, 0) := by rw [pmsS, if_neg (by rw [h1]; decide), if_neg (by rw [h2]; decide), if_neg h3]
theorem any_in {l : List Int} (h2 : (l.any fun h => !(inb h 0 95)) = false) : ∀ h ∈ l, 0 ≤ h ∧ h < 96 := by
  intro h hh
  rw [List.any_eq_false] at h2
  have h4 := h2 h hh
  have h4 : inb h 0 95 = true := by simpa using h4
  rw [inb, Bool.and_eq_true, decide_eq_true_eq, decide_eq_true_eq] at h4
  omega
theorem inb_of {h : Int} (h1 : 0 ≤ h ∧ h < 96) : inb h 0 95 = true := by
  rw [inb, Bool.and_eq_true, decide_eq_true_eq, decide_eq_true_eq]; omega
/-- The law of passes. -/
theorem pass_law {x : List DCard} {h k : Int} (hx : deckOK x) (hh : 0 ≤ h ∧ h < 96) (hk : 0 ≤ k ∧ k < 96) :
    pasS x h = (passM x h, ((dropM x h).length : Int), 0) ∧ spdS x h = (stayM x h, dropM x h, 0) ∧ pasS (passM x h) k = (manyP x [h, k], ((dropM (passM x h) k).length : Int), 0) ∧ pmsS x [h, k] = (manyP x [h, k], 0) ∧ sameC (manyP x [h, k]) x = (true, 0) ∧ rdS (dkT x) = (x, 0) ∧ tt (deckOK x) = true := by
  have hx' := tt_iff.2 hx
  have h1 := askd_ok hx' (inb_of hh)
  have hp := perm_deck hx (pass_perm h x)
  have h2 := askd_ok (tt_iff.2 hp) (inb_of hk)
  refine ⟨pas_yes h1, spd_yes h1, pas_yes h2, pms_yes hx' ?_ (by simp), perm_same hx (many_perm [h, k] x), dk_read hx, hx'⟩
  simp [inb_of hh, inb_of hk]
theorem pass_at {x : List DCard} {h : Int} {c : DCard} {i : Nat} (hx : deckOK x) (hh : 0 ≤ h ∧ h < 96) (hc : (passM x h)[Int.toNat ((i : Nat) : Int)]? = some c) :
    hasS c.2 h = (decide ((i : Int) ≥ ((stayM x h).length : Int)), 0) ∧ ((i : Int) < ((stayM x h).length : Int) → (stayM x h)[Int.toNat ((i : Nat) : Int)]? = some c) ∧ ((i : Int) ≥ ((stayM x h).length : Int) → (dropM x h)[Int.toNat ((i : Int) - ((stayM x h).length : Int))]? = some c) := by
  have hm : c ∈ x := (pass_perm h x).mem_iff.1 (mem_getI hc)
  have ho := (deck_card hx hm).2
  rw [Int.toNat_natCast, passM, List.getElem?_append] at hc
  have hs : hasS c.2 h = (hasM c.2 h, 0) := by rw [hasS, if_neg (by rw [ho]; decide), if_neg (by rw [inb_of hh]; decide)]
  split at hc
  · rename_i h1
    have h2 : c ∈ stayM x h := List.mem_of_getElem? hc
    rw [stayM, List.mem_filter] at h2
    refine ⟨?_, fun _ => hc, fun h3 => absurd h3 (by omega)⟩
    rw [hs, show hasM c.2 h = false by simpa using h2.2, decide_eq_false (by omega)]
  · rename_i h1
    have h2 : c ∈ dropM x h := List.mem_of_getElem? hc
    rw [dropM, List.mem_filter] at h2
    refine ⟨?_, fun h3 => absurd h3 (by omega), fun h3 => ?_⟩
    · rw [hs, show hasM c.2 h = true from h2.2, decide_eq_true (by omega)]
    · rw [show Int.toNat ((i : Int) - ((stayM x h).length : Int)) = i - (stayM x h).length by omega]; exact hc
theorem atS_rng {l : List Int} {i n : Int} (h : ∀ b ∈ l, 0 ≤ b ∧ b ≤ 255) (hi : 0 ≤ i) (hn : 1 ≤ n) : 0 ≤ atS l i n ∧ atS l i n < n := by
  unfold atS
  split
  · omega
  · rename_i h1
    have hl : i.toNat < l.length := by omega
    rw [List.getD_eq_getElem?_getD, List.getElem?_eq_getElem hl]
    have h2 := h _ (List.getElem_mem hl)
    exact tmod_lt' h2.1 (by omega)
theorem atS_40 {l : List Int} {i : Int} (h : ∀ b ∈ l, 0 ≤ b ∧ b ≤ 255) (hi : 0 ≤ i) : 0 ≤ atS l i 40 ∧ atS l i 40 < 96 := by
  have := atS_rng h hi (n := 40) (by omega)
  omega
theorem spd_len (x : List DCard) (h : Int) : (spdS x h).1.length ≤ x.length ∧ (spdS x h).2.1.length ≤ x.length := by
  unfold spdS
  split
  · exact ⟨stay_len x h, drop_len x h⟩
  · simp
end Go.Proofs.YtmmjcpiikdcldaaGreatDoor.VL
