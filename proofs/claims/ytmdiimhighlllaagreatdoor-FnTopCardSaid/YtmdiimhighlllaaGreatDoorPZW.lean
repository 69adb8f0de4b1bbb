/- Proved here: decks that are changed a little; what the law of all says. Plain Lean. -/
import Derived.Test.YtmdiimhighlllaaGreatDoorPZK
import Derived.Test.YtmdiimhighlllaaGreatDoorPZN
set_option linter.unusedVariables false
set_option linter.unusedSimpArgs false
namespace Go.Proofs.YtmdiimhighlllaaGreatDoor.VL
open Go
/-! ### Small changes -/
def oneM (a b : DMask) : Prop := (hol (lessM a b) 96).length + (hol (lessM b a) 96).length ≤ 1
theorem hol_nil {m : DMask} (h : ∀ i, i < 128 → bitB m i = false) : hol m 96 = [] := by
  cases e : hol m 96 with
  | nil => rfl
  | cons a l =>
    have := hol_in.1 (show a ∈ hol m 96 by rw [e]; simp)
    rw [h _ (by omega)] at this
    exact absurd this.2.2 (by decide)
theorem hol_le {m : DMask} {h : Int} (hm : ∀ i : Nat, i < 128 → bitB m i = true → (i : Int) = h) : (hol m 96).length ≤ 1 := by
  have h1 : ∀ a ∈ hol m 96, a = h := fun a ha => by
    have h2 := hol_in.1 ha
    have := hm a.toNat (by omega) h2.2.2
    omega
  have h3 := hol_nodup m
  match e : hol m 96 with
  | [] => simp
  | [a] => simp
  | a :: b :: l =>
    rw [e] at h3 h1
    have h4 := h1 a (by simp)
    have h5 := h1 b (by simp)
    rw [h4, h5, List.nodup_cons] at h3
    exact absurd (List.mem_cons_self ..) h3.1
theorem one_self (a : DMask) : oneM a a := by
  unfold oneM
  rw [hol_nil fun i hi => by rw [bit_less _ _ hi]; simp]; simp
theorem one_join (a : DMask) {h : Int} (hh : 0 ≤ h ∧ h < 96) : oneM a (joinM a (bitM h)) := by
  unfold oneM
  rw [hol_nil (m := lessM a (joinM a (bitM h))) fun i hi => by rw [bit_less _ _ hi, bit_join]; cases bitB a i <;> simp]
  have := hol_le (m := lessM (joinM a (bitM h)) a) (h := h) fun i hi hb => by
    rw [bit_less _ _ hi, bit_join, bit_i hh hi] at hb
    cases ha : bitB a i <;> simp [ha] at hb
    exact hb
  simp only [List.length_nil]; omega
theorem one_less (a : DMask) {h : Int} (hh : 0 ≤ h ∧ h < 96) : oneM a (lessM a (bitM h)) := by
  unfold oneM
  rw [hol_nil (m := lessM (lessM a (bitM h)) a) fun i hi => by rw [bit_less _ _ hi, bit_less _ _ hi]; cases bitB a i <;> simp]
  have := hol_le (m := lessM a (lessM a (bitM h))) (h := h) fun i hi hb => by
    rw [bit_less _ _ hi, bit_less _ _ hi, bit_i hh hi] at hb
    cases ha : bitB a i <;> simp [ha] at hb
    exact hb
  simp only [List.length_nil]; omega
def nearA (y r : List DCard) : Prop := ∀ c ∈ r, ∃ e ∈ y, e.1 = c.1 ∧ oneM e.2 c.2
theorem nearA_nil (y : List DCard) : nearA y [] := fun c h => by cases h
theorem nearA_add {y r : List DCard} {e : DCard} {z : Nat} {m : DMask} (h : nearA y r) (he : y[Int.toNat ((z : Nat) : Int)]? = some e) (hm : oneM e.2 m) : nearA y (r ++ [(e.1, m)]) := fun c hc => by
  rcases List.mem_append.1 hc with hc | hc
  · exact h c hc
  · rw [List.mem_singleton] at hc; subst hc
    exact ⟨e, List.mem_of_getElem? he, rfl, hm⟩
theorem flat_le {α β : Type} {f : α → List β} {n : Nat} : ∀ x : List α, (∀ a ∈ x, (f a).length ≤ n) → (x.flatMap f).length ≤ n * x.length
  | [], _ => by simp
  | a :: x, h => by
    rw [List.flatMap_cons, List.length_append, List.length_cons, Nat.mul_succ]
    have h1 := flat_le x fun b hb => h b (by simp [hb])
    have h2 := h a (by simp)
    omega
theorem near_betw {y r n : List DCard} (hy : deckOK y) (hr : deckOK (r ++ n)) (h : nearA y r) (hx : ∀ c ∈ n, ∀ e ∈ y, e.1 ≠ c.1) : (betw y (r ++ n)).length ≤ y.length + n.length := by
  have hf : ((r ++ n).filter (btN y)).length ≤ n.length := by
    rw [List.filter_append, List.length_append]
    have h1 : r.filter (btN y) = [] := by
      rw [List.filter_eq_nil_iff]
      intro c hc
      obtain ⟨e, he, hn, _⟩ := h c hc
      unfold btN
      rw [decide_eq_true_eq]
      exact fun h2 => findC_neg.1 h2 e he hn
    have h2 := List.length_filter_le (btN y) n
    rw [h1]; simp; exact h2
  rw [betw, List.length_append, List.length_map]
  have h1 := flat_le (f := btA (r ++ n)) (n := 1) y fun e he => by
    by_cases h2 : findC e.1 (r ++ n) < 0
    · rw [btA_no h2]; simp
    · obtain ⟨d, h3, h4, _⟩ := findC_of (s := e.1) (y := r ++ n) (by omega)
      rw [btA_yes h2 h3, List.length_append, List.length_map, List.length_map]
      have hd := List.mem_of_getElem? h3
      rcases List.mem_append.1 hd with hd | hd
      · obtain ⟨e', he', hn', ho⟩ := h d hd
        have : e' = e := by
          obtain ⟨i, hi⟩ := List.mem_iff_getElem?.1 he'
          obtain ⟨j, hj⟩ := List.mem_iff_getElem?.1 he
          have := deck_one hy hi hj (by rw [hn', h4])
          subst this
          rw [hi] at hj
          exact Option.some.inj hj
        subst this
        exact ho
      · exact absurd h4.symm (hx d hd e he)
  omega
/-! ### Decks with zebra -/
abbrev zebra : ByteArray := ⟨#[122, 101, 98, 114, 97]⟩
theorem zebra_ok : nameOK zebra := ⟨low_all (by decide +kernel), by decide⟩
theorem zebra_nm {i : Nat} (h : i < 12) : nm i ≠ zebra := by
  have all : ∀ i : Fin 12, nm i ≠ zebra := by decide +kernel
  exact all ⟨i, h⟩
/-- No name of new cards. -/
def oldN (y : List DCard) : Prop := ∀ e ∈ y, ∀ n ∈ newL, e.1 ≠ n
theorem nm_newL {i : Nat} (h : i < 12) : ∀ n ∈ newL, nm i ≠ n := by
  have all : ∀ i : Fin 12, ∀ n ∈ newL, nm i ≠ n := by decide +kernel
  exact all ⟨i, h⟩
theorem dkI_old {d : List DCard} (h : dkI d) (hl : d.length ≤ 8) : oldN d := fun e he n hn => by
  obtain ⟨i, hi⟩ := List.mem_iff_getElem?.1 he
  have := (List.getElem?_eq_some_iff.1 hi).1
  rw [(h i e hi).1]
  exact nm_newL (by omega) n hn
theorem oldN_new {y : List DCard} {m : Int} {s : DSrc} (h : oldN y) (hs : srcI m s) (w : DMask) : ∀ c ∈ [(txtD s newL, w)], ∀ e ∈ y, e.1 ≠ c.1 := fun c hc e he => by
  rw [List.mem_singleton] at hc
  subst hc
  exact h e he _ (List.mem_of_getElem? (txtD_get hs (l := newL) (by decide)))
theorem zeb_deck {d : List DCard} {m : DMask} (hd : deckOK d) (h : dkI d) (hl : d.length ≤ 8) (hm : okM m = true) : deckOK ((zebra, m) :: d) ∧ oldN ((zebra, m) :: d) := by
  have hn : ∀ c ∈ d, c.1 ≠ zebra := fun c hc => by
    obtain ⟨i, hi⟩ := List.mem_iff_getElem?.1 hc
    have := (List.getElem?_eq_some_iff.1 hi).1
    rw [(h i c hi).1]
    exact zebra_nm (by omega)
  refine ⟨deck_of (by rw [List.length_cons]; omega) (fun c hc => ?_) ?_, fun e he => ?_⟩
  · rcases List.mem_cons.1 hc with rfl | hc
    · exact ⟨zebra_ok, hm⟩
    · exact deck_card hd hc
  · rw [List.map_cons, List.nodup_cons]
    refine ⟨fun hz => ?_, deck_names hd⟩
    obtain ⟨c, hc, e⟩ := List.mem_map.1 hz
    exact hn c hc e
  · rcases List.mem_cons.1 he with rfl | he
    · have all : ∀ n ∈ newL, zebra ≠ n := by decide +kernel
      exact all
    · exact dkI_old h hl e he
theorem oldN_perm {x y : List DCard} (h : oldN x) (hp : y.Perm x) : oldN y := fun e he => h e (hp.mem_iff.1 he)
/-- What is drawn for a scheme. -/
def valsOK (s : List DField) (vs : List Int) : Prop := vs.length = s.length ∧ ∀ i, i < s.length → inVI s vs i
theorem make_is {s : List DField} {vs : List Int} (hs : schemeOK s) (hv : valsOK s vs) : makeS s zebra vs = ((zebra, mkM s vs s.length), 0) := make_yes (tt_iff.2 hs) (by rw [tt_iff.2 zebra_ok, decide_eq_false (by have := hv.1; omega)]; rfl) hv.2 (Nat.le_refl _) (Nat.le_refl _)
/-- The card and its deck, and the deck that is sorted. -/
noncomputable def topX (s : List DField) (vs : List Int) (d : List DCard) : List DCard := (zebra, mkM s vs s.length) :: d
noncomputable def topY (s : List DField) (vs : List Int) (d : List DCard) (f : DField) : List DCard := manyP (topX s vs d) (sortH f)
section
variable {s : List DField} {vs : List Int} {d : List DCard} {f : DField} {v : Int}
theorem top_one (hs : schemeOK s) (hv : valsOK s vs) (hd : deckOK d) (hk : dkI d) (hl : d.length ≤ 8) (hf : fieldOK f) :
    vlsS s (zebra, mkM s vs s.length) = (vs, 0) ∧ sortS (topX s vs d) f = (topY s vs d f, 0) ∧ isoS (topY s vs d f) f = (true, 0) ∧ findS (topY s vs d f) zebra = (findC zebra (topY s vs d f), 0) ∧
    deckOK (topY s vs d f) ∧ oldN (topY s vs d f) ∧ (topY s vs d f).length ≤ 9 ∧ (0 ≤ findC zebra (topY s vs d f) ∧ findC zebra (topY s vs d f) < ((topY s vs d f).length : Int)) ∧ mAt (topY s vs d f) (findC zebra (topY s vs d f)) = mkM s vs s.length := by
  have hm := mkM_ok hs hv.2 s.length (Nat.le_refl _)
  obtain ⟨h1, h2⟩ := zeb_deck hd hk hl hm
  have hp : (topY s vs d f).Perm (topX s vs d) := many_perm _ _
  have hy := perm_deck h1 hp
  have hin : (zebra, mkM s vs s.length) ∈ topY s vs d f := hp.mem_iff.2 (List.mem_cons_self ..)
  have hst := (mem_deck hy).1 hin
  dsimp only at hst
  have hz : ¬ findC zebra (topY s vs d f) < 0 := fun h => findC_neg.1 h _ hin rfl
  obtain ⟨b, h3, h4, h5⟩ := findC_of (s := zebra) (y := topY s vs d f) (by omega)
  rw [st_yes hz h3] at hst
  have hb : b.2 = mkM s vs s.length := (Prod.mk.inj hst).2
  have h6 := make_vals (s := s) (n := zebra) (vs := vs) (by rw [make_is hs hv])
  rw [make_is hs hv] at h6
  refine ⟨h6.1, sortS_yes (df_of h1 hf), ?_, findS_yes (tt_iff.2 hy) hz, hy, oldN_perm h2 hp, ?_, ⟨by omega, h5⟩, ?_⟩
  · have h7 : tt (ordA f (topY s vs d f)) = true := tt_iff.2 (sort_isA h1)
    rw [isoS_yes (df_of hy hf), h7]
  · rw [hp.length_eq, topX, List.length_cons]; omega
  · unfold mAt
    rw [h3]; exact hb
theorem top_query (hs : schemeOK s) (hv : valsOK s vs) (hd : deckOK d) (hk : dkI d) (hl : d.length ≤ 8) (hf : s[0]? = some f) (hv0 : vs[0]? = some v) (h0 : 0 ≤ v) :
    (qfS f v).2 = 0 ∧ queryOK (qfS f v).1 = true ∧ findC zebra (topY s vs d f) ∈ hitsP (qfS f v).1 (topY s vs d f) (topY s vs d f).length := by
  have hfo := sch_at hs hf
  obtain ⟨_, _, _, _, hy, _, _, hr, hmat⟩ := top_one hs hv hd hk hl hfo
  have hsl := (List.getElem?_eq_some_iff.1 hf).1
  have hg : vs.getD 0 0 = v := by rw [List.getD_eq_getElem?_getD, hv0]; rfl
  obtain ⟨g, h1, h2⟩ := hv.2 0 hsl
  rw [hf] at h1
  obtain rfl := Option.some.inj h1
  rw [hg] at h2
  have he : encS f v = (codeF f v, 0) := encS_yes (tt_iff.2 hfo) (by simp only [inb, Bool.and_eq_true, decide_eq_true_eq]; exact ⟨h0, h2.2⟩)
  have he2 : (encS f v).2 = 0 := by rw [he]
  have hp := mkM_part hs hv.2 hf s.length (Nat.le_refl _)
  rw [hg, if_pos ⟨hsl, h0⟩] at hp
  refine ⟨by rw [qfS_yes he2], qf_query he2, (mem_hits (Nat.le_refl _)).2 ⟨(findC zebra (topY s vs d f)).toNat, by omega, by omega, ?_⟩⟩
  rw [Int.toNat_of_nonneg hr.1, hmat]
  exact qf_drops he2 hp
theorem top_edits {y b : List DCard} (hy : deckOK y) (hb : deckOK b) (hl : (betw y b).length ≤ 20) : (btwS y b).2 = 0 ∧ (manyS y (btwS y b).1).2.2 = 0 ∧ sameC (manyS y (btwS y b).1).1 b = (true, 0) := by
  have h := edits_law hy hb (by omega)
  rw [h.1]
  exact ⟨rfl, h.2.1, h.2.2.2.2.1⟩
end
theorem s0_get {α : Type} {l : List α} {a : α} (h : 1 ≤ l.length) : l[Int.toNat 0]? = some (l.getD 0 a) := by
  show l[0]? = _
  rw [List.getD_eq_getElem?_getD, List.getElem?_eq_getElem (by omega)]; rfl
theorem hasV_of {l : List Int} {v : Int} (h : v ∈ l) : hasV v l = true := by
  unfold hasV
  exact List.any_eq_true.2 ⟨v, h, by simp⟩
def valsP (s : List DField) (z : Nat) (vs : List Int) : Prop := vs.length = z ∧ ∀ i, i < z → inVI s vs i
theorem valsP_nil (s : List DField) : valsP s 0 [] := ⟨rfl, fun i hi => by omega⟩
theorem valsP_add {s : List DField} {z : Nat} {vs : List Int} {f : DField} {v : Int} (h : valsP s z vs) (hf : s[Int.toNat ((z : Nat) : Int)]? = some f) (hv : inV f v) : valsP s (z + 1) (vs ++ [v]) := by
  have hl := h.1
  refine ⟨by rw [List.length_append, hl]; rfl, fun i hi => ?_⟩
  by_cases e : i = z
  · subst e
    rw [toN] at hf
    refine ⟨f, hf, ?_⟩
    rw [List.getD_eq_getElem?_getD, List.getElem?_append_right (by omega), hl, Nat.sub_self]
    exact hv
  · obtain ⟨g, h1, h2⟩ := h.2 i (by omega)
    refine ⟨g, h1, ?_⟩
    rw [List.getD_eq_getElem?_getD] at h2 ⊢
    rw [List.getElem?_append_left (by omega)]
    exact h2
theorem valsP_ok {s : List DField} {vs : List Int} {z : Nat} (h : valsP s z vs) (hz : s.length ≤ z) (hz' : z ≤ s.length) : valsOK s vs := by
  obtain rfl : z = s.length := by omega
  exact h
/-- The first field, and its value. -/
def fst0 (s : List DField) : DField := s.getD 0 (ByteArray.empty, 0, 0, 0)
def val0 (vs : List Int) : Int := vs.getD 0 0
theorem fst0_get {s : List DField} (h : 1 ≤ s.length) : s[Int.toNat 0]? = some (fst0 s) := s0_get h
theorem val0_get {vs : List Int} (h : 1 ≤ vs.length) : vs[Int.toNat 0]? = some (val0 vs) := s0_get h
end Go.Proofs.YtmdiimhighlllaaGreatDoor.VL
