/- Proved here: what it is to read a number, and a card, from their texts; and that a card's own text is read as the card. Plain Lean. -/
import Derived.Test.YtmmjcpiikdcldaaGreatDoorVLP
import Derived.Test.YtmmjcpiikdcldaaGreatDoorPZE
set_option linter.unusedVariables false
set_option linter.unusedSimpArgs false
namespace Go.Proofs.YtmmjcpiikdcldaaGreatDoor.VL
open Go
/-! ### Numbers -/
noncomputable def numB (w : ByteArray) : Bool := numE w && decide (numV w ≥ 0) && eqv (fmtB (numV w)) w
def dgL (n : Nat) : List UInt8 := if n < 10 then [UInt8.ofNat (48 + n)] else [UInt8.ofNat (48 + n / 10), UInt8.ofNat (48 + n % 10)]
theorem dg_parse : ∀ n, n < 100 → (match Lib.parseIntB 64 (dgL n) with | .ok v => v == ((n : Nat) : Int) | _ => false) = true := by decide +kernel
theorem dec_list {n : Nat} (h : n < 100) : (decB n).data.toList = dgL n := by
  have hb : ∀ m : Nat, m < 10 → bOf [48 + (m : Int).tmod 10] = ⟨#[UInt8.ofNat (48 + m)]⟩ := fun m hm => by
    have e : (m : Int).tmod 10 = (m : Int) := by rw [Int.tmod_eq_emod_of_nonneg (Int.natCast_nonneg m)]; omega
    rw [e]
    simp only [bOf, List.map_cons, List.map_nil]
    congr 2
  have hb2 : ∀ m : Nat, bOf [48 + (m : Int).tmod 10] = ⟨#[UInt8.ofNat (48 + m % 10)]⟩ := fun m => by
    have e : (m : Int).tmod 10 = ((m % 10 : Nat) : Int) := by rw [Int.tmod_eq_emod_of_nonneg (Int.natCast_nonneg m)]; rfl
    rw [e]
    simp only [bOf, List.map_cons, List.map_nil]
    congr 2
  by_cases h1 : n < 10
  · rw [← decB_lt h1, hb n h1, dgL, if_pos h1]
  · rw [← decB_ge h1, ← decB_lt (n := n / 10) (by omega), hb (n / 10) (by omega), hb2 n, dgL, if_neg h1]
    rfl
theorem num_parse {n : Nat} (h : n < 100) : Lib.parseIntB 64 (decB n).data.toList = .ok (n : Int) := by
  have h1 := dg_parse n h
  rw [dec_list h]
  split at h1
  · rename_i v hv
    rw [hv]; congr 1; simpa using h1
  · cases h1
theorem num_dec {n : Nat} (h : n < 100) : numV (decB n) = (n : Int) ∧ numE (decB n) = true ∧ numB (decB n) = true := by
  have h1 := num_parse h
  have e1 : numV (decB n) = (n : Int) := by rw [numV, h1]
  have e2 : numE (decB n) = true := by rw [numE, h1]
  refine ⟨e1, e2, ?_⟩
  rw [numB, e1, e2, fmtB_pos (by omega), Int.toNat_natCast, eqv_self]
  simp
/-! ### Cards -/
def rdF (m : DMask) (w : ByteArray) : DMask := withM m [numV w]
noncomputable def gdW (w : ByteArray) : Bool := numB w && inb (numV w) 0 95
def wrdT (x : ByteArray) : List ByteArray := (splB 32 x).drop 1
def nmT (x : ByteArray) : ByteArray := (splB 32 x).headD .empty
def rcM (x : ByteArray) : DMask := (wrdT x).foldl rdF zM
noncomputable def rcS (x : ByteArray) : DCard × Bool := if (wrdT x).all gdW = true then ((nmT x, rcM x), tt (cardOK (nmT x, rcM x)) && eqv (cdT (nmT x, rcM x)) x) else ((.empty, zM), false)
theorem nm_get (x : ByteArray) : (splB 32 x)[Int.toNat 0]? = some (nmT x) := by
  have h : (splB 32 x).length = cnB 32 x + 1 := splB_len 32 x
  rw [nmT]
  cases hl : splB 32 x with
  | nil => rw [hl] at h; cases h
  | cons a l => rfl
theorem rc_bad {x w : ByteArray} {z : Nat} (hw : (wrdT x)[Int.toNat ((z : Nat) : Int)]? = some w) (h : gdW w = false) : rcS x = ((.empty, zM), false) := by
  rw [rcS, if_neg]
  intro h1
  rw [all_get h1 hw] at h; cases h
theorem rc_yes {x : ByteArray} (h : (wrdT x).all gdW = true) : rcS x = ((nmT x, rcM x), tt (cardOK (nmT x, rcM x)) && eqv (cdT (nmT x, rcM x)) x) := by rw [rcS, if_pos h]
theorem all_take {α : Type} {l : List α} {p : α → Bool} {z : Nat} {w : α} (hw : l[Int.toNat ((z : Nat) : Int)]? = some w) (h : p w = true) (h1 : (l.take z).all p = true) : (l.take (z + 1)).all p = true := by
  rw [take_more hw, List.all_append, h1]; simp [h]
theorem gd_no {w : ByteArray} (h : (!(numB w) || !(inb (numV w) 0 95)) = true) : gdW w = false := by
  unfold gdW
  cases h1 : numB w <;> cases h2 : inb (numV w) 0 95 <;> simp_all
theorem gd_yes {w : ByteArray} (h : (!(numB w) || !(inb (numV w) 0 95)) = false) : gdW w = true ∧ 0 ≤ numV w ∧ numV w < 96 := by
  rw [Bool.or_eq_false_iff, Bool.not_eq_false', Bool.not_eq_false'] at h
  refine ⟨by rw [gdW, h.1, h.2]; rfl, ?_⟩
  have h2 := h.2
  rw [inb, Bool.and_eq_true, decide_eq_true_eq, decide_eq_true_eq] at h2
  omega
theorem wrd_len (x : ByteArray) : (wrdT x).length = cnB 32 x ∧ cnB 32 x ≤ x.size := by
  refine ⟨?_, cnB_le 32 x⟩
  rw [wrdT, List.length_drop, splB_len]; omega
theorem wrd_size {x w : ByteArray} (h : w ∈ wrdT x) : w.size ≤ x.size := splB_size (List.mem_of_mem_drop h)
theorem low_no {s : ByteArray} (h : lowS s) {c : UInt8} (hc : c.toNat < 97) : c ∉ bL s := by
  intro h1
  obtain ⟨i, hi, e⟩ := List.getElem_of_mem h1
  rw [bL_len] at hi
  obtain ⟨b, hb, h2, h3⟩ := h i hi
  have e2 : b = c := by
    rw [← e]
    have h4 : s[i]? = some s[i] := getElem?_pos s i hi
    rw [h4] at hb
    injection hb with hb
    rw [← hb]
    show s.data[i] = (bL s)[i]
    simp [bL]
  rw [e2] at h2; omega
theorem dec_no {n : Nat} (h : n < 100) {c : UInt8} (hc : c.toNat < 48) : c ∉ bL (decB n) := by
  rw [bL, dec_list h, dgL]
  have hm : ∀ m, m < 10 → c ≠ UInt8.ofNat (48 + m) := fun m hm e => by
    have h2 := congrArg UInt8.toNat e
    have h3 : (UInt8.ofNat (48 + m)).toNat = 48 + m := by simp; omega
    omega
  split
  · intro h1
    simp only [List.mem_singleton] at h1
    exact hm n (by omega) h1
  · intro h1
    simp only [List.mem_cons, List.not_mem_nil, or_false] at h1
    rcases h1 with h1 | h1
    · exact hm (n / 10) (by omega) h1
    · exact hm (n % 10) (by omega) h1
def rtT (l : List Int) : ByteArray := l.foldr (fun h t => bsp ++ (decB h.toNat ++ t)) .empty
theorem fold_rt (l : List Int) : ∀ s, l.foldl cdF s = s ++ rtT l := by
  induction l with
  | nil => intro s; simp [rtT]
  | cons a l ih =>
    intro s
    rw [List.foldl_cons, ih, cdF]
    show _ = s ++ (bsp ++ (decB a.toNat ++ rtT l))
    simp only [ByteArray.append_assoc]
theorem spl_rt (l : List Int) : ∀ {s : ByteArray}, (∀ a ∈ l, 0 ≤ a ∧ a < 96) → (32 : UInt8) ∉ bL s → splB 32 (s ++ rtT l) = s :: l.map fun h => decB h.toNat := by
  induction l with
  | nil => intro s _ h; rw [show s ++ rtT [] = s by simp [rtT]]; exact splF_one h
  | cons a l ih =>
    intro s hl h
    have ha := hl a (by simp)
    show splB 32 (s ++ (bsp ++ (decB a.toNat ++ rtT l))) = _
    have h1 := spl_cons (c := 32) (x := s) (y := decB a.toNat ++ rtT l) h
    rw [show (⟨#[32]⟩ : ByteArray) = bsp from rfl] at h1
    rw [h1, ih (fun b hb => hl b (by simp [hb])) (dec_no (by omega) (by decide))]
    rfl
theorem spl_card {c : DCard} (h : cardOK c) : splB 32 (cdT c) = c.1 :: (hol c.2 96).map fun h => decB h.toNat := by
  rw [cdT, fold_rt]
  exact spl_rt _ (fun a ha => by have := hol_mem ha; omega) (low_no h.1.1 (by decide))
theorem hol_back {m : DMask} (h : okM m = true) : withM zM (hol m 96) = m := by
  refine mask_ext fun i hi => ?_
  rw [bit_with _ (fun a ha => by have := hol_mem ha; omega) _ hi]
  rw [hol_has h hi, bit_zM, Bool.false_or]
theorem rd_map (l : List Int) (hl : ∀ a ∈ l, 0 ≤ a ∧ a < 96) : ∀ m, (l.map fun h => decB h.toNat).foldl rdF m = withM m l := by
  induction l with
  | nil => intro m; rfl
  | cons a l ih =>
    intro m
    have ha := hl a (by simp)
    rw [List.map_cons, List.foldl_cons, ih (fun b hb => hl b (by simp [hb]))]
    rw [rdF, (num_dec (n := a.toNat) (by omega)).1, Int.toNat_of_nonneg ha.1]
    rfl
theorem wrd_card {c : DCard} (h : cardOK c) : ∀ w ∈ wrdT (cdT c), ∃ n, n < 96 ∧ w = decB n := by
  intro w hw
  rw [wrdT, spl_card h] at hw
  simp only [List.drop_succ_cons, List.drop_zero, List.mem_map] at hw
  obtain ⟨a, ha, rfl⟩ := hw
  have := hol_mem ha
  exact ⟨a.toNat, by omega, rfl⟩
theorem rc_card {c : DCard} (h : cardOK c) : rcS (cdT c) = (c, true) := by
  have h1 : (wrdT (cdT c)).all gdW = true := by
    rw [List.all_eq_true]
    intro w hw
    obtain ⟨n, hn, rfl⟩ := wrd_card h w hw
    obtain ⟨e1, _, e3⟩ := num_dec (n := n) (by omega)
    rw [gdW, e1, e3, inb]
    simp only [Bool.true_and, Bool.and_eq_true, decide_eq_true_eq]
    omega
  have h2 : nmT (cdT c) = c.1 := by rw [nmT, spl_card h]; rfl
  have h3 : rcM (cdT c) = c.2 := by
    rw [rcM, wrdT, spl_card h]
    simp only [List.drop_succ_cons, List.drop_zero]
    rw [rd_map _ (fun a ha => by have := hol_mem ha; omega), hol_back h.2]
  rw [rc_yes h1, h2, h3, eqv_self]
  show (c, _) = _
  rw [show tt (cardOK (c.1, c.2)) = true from tt_iff.2 h]; rfl
end Go.Proofs.YtmmjcpiikdcldaaGreatDoor.VL
