/- Proved here: the codes of values in fields, and what value a mask keeps. Plain Lean, no program. -/
import Derived.Test.YtcaeabgfgofefaaDoorPN
set_option linter.unusedVariables false
set_option linter.unusedSimpArgs false
namespace Go.Proofs.YtcaeabgfgofefaaDoor.VL
open Go
/-! ### Powers -/
theorem tdv_le {p g : Int} (hp : 0 ≤ p) (hg : 0 < g) : 0 ≤ p.tdiv g ∧ p.tdiv g ≤ p := by
  rw [Int.tdiv_eq_ediv_of_nonneg hp]
  exact ⟨Int.ediv_nonneg hp (by omega), Int.ediv_le_self _ hp⟩
theorem pow_le (b : Int) (hb : 1 ≤ b ∧ b ≤ 10) : ∀ z : Nat, z ≤ 12 → 1 ≤ b ^ z ∧ b ^ z ≤ 10 ^ z
  | 0, _ => by simp
  | z + 1, hz => by
    have ih := pow_le b hb z (by omega)
    have h1 : b ^ (z + 1) = b ^ z * b := Int.pow_succ _ _
    have h2 : (10 : Int) ^ (z + 1) = 10 ^ z * 10 := Int.pow_succ _ _
    rw [h1, h2]
    have h3 : b ^ z * 1 ≤ b ^ z * b := Int.mul_le_mul_of_nonneg_left hb.1 (by omega)
    have h4 : b ^ z * b ≤ 10 ^ z * b := Int.mul_le_mul_of_nonneg_right ih.2 (by omega)
    have h5 : (10 : Int) ^ z * b ≤ 10 ^ z * 10 := Int.mul_le_mul_of_nonneg_left hb.2 (by omega)
    omega
theorem ten_le : ∀ z : Nat, z ≤ 12 → (10 : Int) ^ z ≤ 1000000000000 := by
  intro z hz
  have : ∀ z, z ≤ 12 → (10 : Int) ^ z ≤ 1000000000000 := by decide
  exact this z hz
theorem pow_in {b : Int} (hb : 1 ≤ b ∧ b ≤ 10) {z : Nat} (hz : z ≤ 12) : 1 ≤ b ^ z ∧ b ^ z ≤ 1000000000000 := by
  have h1 := pow_le b hb z hz
  have h2 := ten_le z hz
  omega
theorem pow_mul {b : Int} (hb : 1 ≤ b ∧ b ≤ 10) {z : Nat} (hz : z ≤ 12) : 0 ≤ b ^ z * b ∧ b ^ z * b ≤ 10000000000000 := by
  have h1 := pow_in hb hz
  constructor
  · exact Int.mul_nonneg (by omega) (by omega)
  · have := Int.mul_le_mul_of_nonneg_left (a := b) (b := 10) (c := b ^ z) hb.2 (by omega)
    omega
theorem pow_next (b : Int) (z : Nat) : b ^ z * b = b ^ (z + 1) := (Int.pow_succ _ _).symm
def topF (f : DField) : Int := if f.2.1 = 0 then f.2.2.2 - 1 else if f.2.1 = 3 then 2 ^ f.2.2.2.toNat - 1 else 10 ^ f.2.2.2.toNat - 1
theorem two_pow_le : ∀ z : Nat, z ≤ 12 → (2 : Int) ^ z ≤ 4096 := by decide
theorem ten_pow_le : ∀ z : Nat, z ≤ 4 → (10 : Int) ^ z ≤ 10000 := by decide
theorem top_in {f : DField} (h : fieldOK f) : 0 ≤ topF f ∧ topF f ≤ 9999 := by
  obtain ⟨_, h1, h2, h3, h4, _⟩ := h
  have hn : mostF f.2.1 ≤ 24 ∧ (f.2.1 ≠ 0 → mostF f.2.1 ≤ 12) ∧ (f.2.1 ≠ 0 → f.2.1 ≠ 3 → mostF f.2.1 ≤ 4) := by
    unfold mostF; refine ⟨?_, ?_, ?_⟩ <;> (repeat' split) <;> omega
  unfold topF
  split
  · omega
  · split
    · have h5 := two_pow_le f.2.2.2.toNat (by omega)
      have h6 := (pow_in (b := 2) (by omega) (z := f.2.2.2.toNat) (by omega)).1
      omega
    · have h5 := ten_pow_le f.2.2.2.toNat (by omega)
      have h6 := (pow_in (b := 10) (by omega) (z := f.2.2.2.toNat) (by omega)).1
      omega
theorem size_in {f : DField} (h : fieldOK f) : 1 ≤ f.2.2.2 ∧ f.2.2.2 ≤ 24 ∧ (f.2.1 ≠ 0 → f.2.2.2 ≤ 12) ∧ (f.2.1 ≠ 0 → f.2.1 ≠ 3 → f.2.2.2 ≤ 4) ∧ 0 ≤ f.2.2.1 ∧ f.2.2.1 + widthF f ≤ 96 := by
  obtain ⟨_, h1, h2, h3, h4, h5, h6⟩ := h
  have hn : mostF f.2.1 ≤ 24 ∧ (f.2.1 ≠ 0 → mostF f.2.1 ≤ 12) ∧ (f.2.1 ≠ 0 → f.2.1 ≠ 3 → mostF f.2.1 ≤ 4) := by
    unfold mostF; refine ⟨?_, ?_, ?_⟩ <;> (repeat' split) <;> omega
  refine ⟨h3, by omega, fun h => by have := hn.2.1 h; omega, fun h h' => by have := hn.2.2 h h'; omega, h5, h6⟩
/-! ### Notches -/
def ntB (holes bits : Int) (k : Nat) : Bool := (bits.tdiv (2 ^ (holes - 1 - (k : Int)).toNat)).tmod 2 == 1
def ntc (m : DMask) (s holes bits : Int) : Nat → DMask
  | 0 => m
  | k + 1 => if ntB holes bits k = true then joinM (ntc m s holes bits k) (bitM (s + (k : Int))) else ntc m s holes bits k
theorem ntc_yes {m : DMask} {s holes bits : Int} {k : Nat} (h : ntB holes bits k = true) : joinM (ntc m s holes bits k) (bitM (s + (k : Int))) = ntc m s holes bits (k + 1) := by rw [ntc, if_pos h]
theorem ntc_no {m : DMask} {s holes bits : Int} {k : Nat} (h : ntB holes bits k = false) : ntc m s holes bits k = ntc m s holes bits (k + 1) := by rw [ntc, if_neg (by rw [h]; decide)]
/-- The same bit by shifts. -/
theorem ntB_shr {n : Nat} {size : Int} {k : Nat} (hk : (k : Int) < size) : ((((n >>> (size - 1 - (k : Int)).toNat) &&& 1 : Nat) : Int) == 1) = ntB size (n : Int) k := by
  unfold ntB
  have h1 : ((n : Int).tdiv (2 ^ (size - 1 - (k : Int)).toNat)).tmod 2 = (((n >>> (size - 1 - (k : Int)).toNat) &&& 1 : Nat) : Int) := by
    generalize (size - 1 - (k : Int)).toNat = j
    rw [Nat.and_one_is_mod, Nat.shiftRight_eq_div_pow, Int.tdiv_eq_ediv_of_nonneg (by omega), Int.tmod_eq_emod_of_nonneg (Int.ediv_nonneg (by omega) (Int.le_of_lt (Int.pow_pos (by omega))))]
    push_cast
    rfl
  rw [h1]
/-! ### Digits -/
def sumB : List Int := [12, 1, 2, 3, 4, 5, 6, 8, 9, 10]
def pairB : List Int := [24, 20, 18, 17, 12, 10, 9, 6, 5, 3]
def sumHs : List (List Int) := [[0, 1], [3], [2], [2, 3], [1], [1, 3], [1, 2], [0], [0, 3], [0, 2]]
def pairHs : List (List Int) := [[0, 1], [0, 2], [0, 3], [0, 4], [1, 2], [1, 3], [1, 4], [2, 3], [2, 4], [3, 4]]
def digH (k d : Int) : List Int := (if k = 1 then sumHs else pairHs).getD d.toNat []
def digB (k : Int) : List Int := if k = 2 then pairB else sumB
def wid (k : Int) : Int := if k = 2 then 5 else 4
def shf (s : Int) (l : List Int) : List Int := l.map (fun h => s + h)
theorem ntc_dig (m : DMask) (s : Int) {k d b : Int} (hk : k = 1 ∨ k = 2) (hd : 0 ≤ d ∧ d < 10) (hb : (digB k)[d.toNat]? = some b) : ntc m s (wid k) b (wid k).toNat = withM m (shf s (digH k d)) := by
  obtain ⟨n, rfl⟩ : ∃ n : Nat, d = n := ⟨d.toNat, by omega⟩
  have hn : n < 10 := by omega
  rw [toN] at hb
  have key : ∀ (w : Int) (L : List Int) (hs : List Nat), w = 4 ∨ w = 5 → (∀ j, j < w.toNat → ntB w b j = hs.contains j) → (List.range w.toNat).filter (fun j => hs.contains j) = hs → L = hs.map (fun (j : Nat) => (j : Int)) → ntc m s w b w.toNat = withM m (shf s L) := by
    intro w L hs hw h1 h2 h3
    have h4 : ∀ j, j ≤ w.toNat → ntc m s w b j = withM m (shf s (((List.range j).filter (fun j => hs.contains j)).map (fun (j : Nat) => (j : Int)))) := by
      intro j
      induction j with
      | zero => intro _; simp [ntc, withM, shf]
      | succ j ih =>
        intro hj
        rw [ntc, ih (by omega), h1 j (by omega), List.range_succ, List.filter_append, List.filter_cons]
        cases hc : hs.contains j with
        | true => simp [withM, shf, List.foldl_append]
        | false => simp [withM, shf]
    rw [h4 _ (Nat.le_refl _), h2, h3]
  rcases hk with rfl | rfl
  · have hc : ∀ n : Nat, n < 10 → ∀ b, (digB 1)[n]? = some b → ∃ hs : List Nat, (∀ j, j < 4 → ntB 4 b j = hs.contains j) ∧ (List.range 4).filter (fun j => hs.contains j) = hs ∧ digH 1 (n : Int) = hs.map (fun (j : Nat) => (j : Int)) := by
      intro n hn b hb
      refine ⟨(digH 1 (n : Int)).map Int.toNat, ?_⟩
      have : b = ((digB 1)[n]?).getD 0 := by rw [hb]; rfl
      subst this
      revert n
      decide
    obtain ⟨hs, h1, h2, h3⟩ := hc n hn b hb
    exact key 4 _ hs (.inl rfl) h1 h2 h3
  · have hc : ∀ n : Nat, n < 10 → ∀ b, (digB 2)[n]? = some b → ∃ hs : List Nat, (∀ j, j < 5 → ntB 5 b j = hs.contains j) ∧ (List.range 5).filter (fun j => hs.contains j) = hs ∧ digH 2 (n : Int) = hs.map (fun (j : Nat) => (j : Int)) := by
      intro n hn b hb
      refine ⟨(digH 2 (n : Int)).map Int.toNat, ?_⟩
      have : b = ((digB 2)[n]?).getD 0 := by rw [hb]; rfl
      subst this
      revert n
      decide
    obtain ⟨hs, h1, h2, h3⟩ := hc n hn b hb
    exact key 5 _ hs (.inr rfl) h1 h2 h3
theorem digH_in {k d h : Int} (hh : h ∈ digH k d) : 0 ≤ h ∧ h < 5 ∧ (k = 1 → h < 4) := by
  unfold digH at hh
  have h1 : ∀ l ∈ sumHs, ∀ h ∈ l, 0 ≤ h ∧ h < 4 := by decide
  have h2 : ∀ l ∈ pairHs, ∀ h ∈ l, 0 ≤ h ∧ h < 5 := by decide
  rw [List.getD_eq_getElem?_getD] at hh
  split at hh
  · cases hl : sumHs[d.toNat]? with
    | none => rw [hl] at hh; cases hh
    | some l =>
      rw [hl] at hh
      have := h1 l (List.mem_of_getElem? hl) h hh
      omega
  · rename_i hk
    cases hl : pairHs[d.toNat]? with
    | none => rw [hl] at hh; cases hh
    | some l =>
      rw [hl] at hh
      have := h2 l (List.mem_of_getElem? hl) h hh
      exact ⟨this.1, this.2, fun e => absurd e hk⟩
theorem digH_lt {k d h : Int} (hk : k = 1 ∨ k = 2) (hh : h ∈ digH k d) : 0 ≤ h ∧ h < wid k := by
  have h1 := digH_in hh
  rcases hk with hk | hk
  · have := h1.2.2 hk; subst hk; exact ⟨h1.1, this⟩
  · subst hk; exact ⟨h1.1, h1.2.1⟩
theorem digH_len (k d : Int) : (digH k d).length ≤ 2 := by
  unfold digH
  have h1 : ∀ l ∈ sumHs, l.length ≤ 2 := by decide
  have h2 : ∀ l ∈ pairHs, l.length ≤ 2 := by decide
  rw [List.getD_eq_getElem?_getD]
  split
  · cases hl : sumHs[d.toNat]? with
    | none => exact Nat.zero_le _
    | some l => exact h1 l (List.mem_of_getElem? hl)
  · cases hl : pairHs[d.toNat]? with
    | none => exact Nat.zero_le _
    | some l => exact h2 l (List.mem_of_getElem? hl)
theorem digB_get {k d : Int} (hd : 0 ≤ d ∧ d < 10) : ∃ b, (digB k)[d.toNat]? = some b ∧ 0 ≤ b ∧ b < 32 := by
  obtain ⟨n, rfl⟩ : ∃ n : Nat, d = n := ⟨d.toNat, by omega⟩
  have hn : n < 10 := by omega
  rw [toN]
  unfold digB
  split
  · have : ∀ n : Nat, n < 10 → ∃ b, pairB[n]? = some b ∧ 0 ≤ b ∧ b < 32 := by decide +kernel
    exact this n hn
  · have : ∀ n : Nat, n < 10 → ∃ b, sumB[n]? = some b ∧ 0 ≤ b ∧ b < 32 := by decide +kernel
    exact this n hn
/-- The digit at a place. -/
def digA (f : DField) (v : Int) (k : Nat) : Int := (v.tdiv (10 ^ (f.2.2.2 - 1 - (k : Int)).toNat)).tmod 10
/-- What a place's digit notches. -/
def plH (f : DField) (v : Int) (k : Nat) : List Int := shf (f.2.2.1 + wid f.2.1 * (k : Int)) (digH f.2.1 (digA f v k))
def upH (f : DField) (v : Int) (k : Nat) : List Int := (List.range k).flatMap (plH f v)
theorem with_app (m : DMask) (a b : List Int) : withM (withM m a) b = withM m (a ++ b) := by rw [withM, withM, withM, List.foldl_append]
theorem upH_next (m : DMask) (f : DField) (v : Int) (k : Nat) : withM (withM m (upH f v k)) (plH f v k) = withM m (upH f v (k + 1)) := by
  rw [with_app, upH, upH, List.range_succ, List.flatMap_append]; simp
/-- From the last place down. -/
def dnH (f : DField) (v : Int) (n : Nat) : Nat → List Int
  | 0 => []
  | k + 1 => dnH f v n k ++ plH f v (n - 1 - k)
theorem dnH_mem (f : DField) (v : Int) (n : Nat) : ∀ {k : Nat}, k ≤ n → ∀ a, a ∈ dnH f v n k ↔ ∃ j, n - k ≤ j ∧ j < n ∧ a ∈ plH f v j
  | 0, _, a => by
    simp only [dnH, List.not_mem_nil, false_iff]
    rintro ⟨j, h1, h2, _⟩
    omega
  | k + 1, hk, a => by
    rw [dnH, List.mem_append, dnH_mem f v n (by omega)]
    constructor
    · rintro (⟨j, h1, h2, h3⟩ | h)
      · exact ⟨j, by omega, h2, h3⟩
      · exact ⟨n - 1 - k, by omega, by omega, h⟩
    · rintro ⟨j, h1, h2, h3⟩
      by_cases h4 : j = n - 1 - k
      · subst h4; exact .inr h3
      · exact .inl ⟨j, by omega, h2, h3⟩
theorem bit_with (l : List Int) (hl : ∀ h ∈ l, 0 ≤ h ∧ h < 128) : ∀ (m : DMask) {i : Nat}, i < 128 → bitB (withM m l) i = (bitB m i || l.contains (i : Int)) := by
  induction l with
  | nil => intro m i hi; simp [withM]
  | cons h l ih =>
    intro m i hi
    have h1 := hl h (by simp)
    obtain ⟨n, rfl⟩ : ∃ n : Nat, h = n := ⟨h.toNat, by omega⟩
    show bitB (withM (joinM m (bitM (n : Int))) l) i = _
    rw [ih (fun a ha => hl a (by simp [ha])) _ hi, bit_join, bit_bit (by omega) i hi, List.contains_cons, Bool.or_assoc]
    congr 2
    rw [Bool.eq_iff_iff, decide_eq_true_eq, beq_iff_eq]
    omega
theorem with_same {m : DMask} {a b : List Int} (ha : ∀ h ∈ a, 0 ≤ h ∧ h < 128) (hab : ∀ h, h ∈ a ↔ h ∈ b) : withM m a = withM m b := by
  apply mask_ext
  intro i hi
  rw [bit_with a ha m hi, bit_with b (fun h hh => ha h ((hab h).2 hh)) m hi]
  congr 1
  rw [Bool.eq_iff_iff, List.contains_iff_mem, List.contains_iff_mem]
  exact hab _
theorem plH_in {f : DField} (hf : fieldOK f) (hk : f.2.1 = 1 ∨ f.2.1 = 2) {v : Int} {k : Nat} (h : (k : Int) < f.2.2.2) {a : Int} (ha : a ∈ plH f v k) : 0 ≤ a ∧ a < 96 := by
  rw [plH, shf, List.mem_map] at ha
  obtain ⟨d, hd, rfl⟩ := ha
  have h1 := digH_in hd
  have h2 := size_in hf
  unfold widthF at h2
  unfold wid
  rcases hk with hk | hk
  · rw [hk] at h2 ⊢; simp at h2 ⊢; have := h1.2.2 hk; omega
  · rw [hk] at h2 ⊢; simp at h2 ⊢; omega
theorem dig_same {f : DField} (hf : fieldOK f) (hk : f.2.1 = 1 ∨ f.2.1 = 2) {v : Int} {n : Nat} (hn : (n : Int) = f.2.2.2) : withM zM (dnH f v n n) = withM zM (upH f v n) := by
  refine with_same (fun h hh => ?_) (fun h => ?_)
  · rw [dnH_mem f v n (Nat.le_refl _)] at hh
    obtain ⟨j, h1, h2, h3⟩ := hh
    have := plH_in hf hk (by omega) h3
    omega
  · rw [dnH_mem f v n (Nat.le_refl _), upH, List.mem_flatMap]
    constructor
    · rintro ⟨j, h1, h2, h3⟩; exact ⟨j, List.mem_range.2 h2, h3⟩
    · rintro ⟨j, h1, h2⟩; exact ⟨j, by omega, List.mem_range.1 h1, h2⟩
theorem join_zM (x : DMask) : joinM zM x = x := by
  rw [joinM, zM]; simp
theorem kind_12 {f : DField} (h : fieldOK f) (h0 : ¬ f.2.1 = 0) (h3 : ¬ f.2.1 = 3) : f.2.1 = 1 ∨ f.2.1 = 2 := by
  have h1 := h.2.1
  have h2 := h.2.2.1
  omega
theorem wid_in {f : DField} (h : fieldOK f) (hk : f.2.1 = 1 ∨ f.2.1 = 2) : (wid f.2.1 = 4 ∨ wid f.2.1 = 5) ∧ widthF f = wid f.2.1 * f.2.2.2 := by
  unfold wid widthF
  rcases hk with hk | hk <;> rw [hk] <;> simp
theorem wid_mul (k i : Int) (hi : 0 ≤ i ∧ i ≤ 24) : 0 ≤ wid k * i ∧ wid k * i ≤ 120 ∧ i * wid k = wid k * i := by
  refine ⟨?_, ?_, Int.mul_comm _ _⟩ <;> (unfold wid; split <;> omega)
theorem wid_end {f : DField} (h : fieldOK f) (hk : f.2.1 = 1 ∨ f.2.1 = 2) {z : Nat} (hz : (z : Int) < f.2.2.2) : f.2.2.1 + wid f.2.1 * (z : Int) + wid f.2.1 ≤ 96 := by
  have h1 := (size_in h).2.2.2.2.2
  have h2 := (wid_in h hk).2
  have h3 := (wid_in h hk).1
  rcases h3 with h3 | h3 <;> rw [h3] at h2 ⊢ <;> omega
theorem digA_in (f : DField) (v : Nat) (k : Nat) : 0 ≤ digA f (v : Int) k ∧ digA f (v : Int) k < 10 := by
  unfold digA
  have h1 : 0 ≤ (v : Int).tdiv (10 ^ (f.2.2.2 - 1 - (k : Int)).toNat) := Int.tdiv_nonneg (by omega) (Int.le_of_lt (Int.pow_pos (by omega)))
  rw [Int.tmod_eq_emod_of_nonneg h1]
  omega

/-! ### Codes -/
def codeP (f : DField) (m : DMask) : DMask := if (cntM m).tmod 2 = 0 then joinM m (bitM (f.2.2.1 + f.2.2.2)) else m
def codeF (f : DField) (v : Int) : DMask := if f.2.1 = 0 then bitM (f.2.2.1 + v) else if f.2.1 = 3 then codeP f (ntc zM f.2.2.1 f.2.2.2 v f.2.2.2.toNat) else withM zM (upH f v f.2.2.2.toNat)
theorem cf_dir {f : DField} {v : Int} (h : f.2.1 = 0) : bitM (f.2.2.1 + v) = codeF f v := by rw [codeF, if_pos h]
theorem cf_top {f : DField} (hok : fieldOK f) : f.2.1 = 0 → f.2.2.1 + topF f < 96 := by
  intro h
  have := (size_in hok).2.2.2.2.2
  unfold widthF at this
  unfold topF
  rw [h] at this ⊢
  simp at this ⊢
  omega
theorem cf_bin0 {f : DField} {v : Int} (h3 : f.2.1 = 3) (h : (cntM (ntc zM f.2.2.1 f.2.2.2 v f.2.2.2.toNat)).tmod 2 = 0) : joinM (ntc zM f.2.2.1 f.2.2.2 v f.2.2.2.toNat) (bitM (f.2.2.1 + f.2.2.2)) = codeF f v := by
  rw [codeF, if_neg (by omega), if_pos h3, codeP, if_pos h]
theorem cf_bin1 {f : DField} {v : Int} (h3 : f.2.1 = 3) (h : ¬ (cntM (ntc zM f.2.2.1 f.2.2.2 v f.2.2.2.toNat)).tmod 2 = 0) : ntc zM f.2.2.1 f.2.2.2 v f.2.2.2.toNat = codeF f v := by
  rw [codeF, if_neg (by omega), if_pos h3, codeP, if_neg h]
theorem cf_dig {f : DField} {v : Int} {z : Nat} (hok : fieldOK f) (hk : f.2.1 = 1 ∨ f.2.1 = 2) (hz : (z : Int) = f.2.2.2) : withM zM (upH f v z) = codeF f v := by
  rw [codeF, if_neg (by omega), if_neg (by omega), show f.2.2.2.toNat = z by omega]
theorem cf_dig' {f : DField} {v : Int} {z : Nat} (hok : fieldOK f) (hk : f.2.1 = 1 ∨ f.2.1 = 2) (hz : (z : Int) = f.2.2.2) : withM zM (dnH f v z z) = codeF f v := by
  rw [dig_same hok hk hz, cf_dig hok hk hz]
theorem cf_dir0 {f : DField} {v : Int} (h : f.2.1 = 0) : withM zM [f.2.2.1 + v] = codeF f v := by
  rw [← cf_dir h]; exact join_zM _
theorem shl_in {n : Int} (h : 0 ≤ n ∧ n ≤ 12) : (1 : Int) * 2 ^ (min n.toNat IntKind.i64.bits) = 2 ^ n.toNat ∧ 1 ≤ (1 : Int) * 2 ^ (min n.toNat IntKind.i64.bits) ∧ (1 : Int) * 2 ^ (min n.toNat IntKind.i64.bits) ≤ 4096 := by
  have h1 : min n.toNat IntKind.i64.bits = n.toNat := by show min n.toNat 64 = n.toNat; omega
  have h2 := two_pow_le n.toNat (by omega)
  have h3 := (pow_in (b := 2) (by omega) (z := n.toNat) (by omega)).1
  rw [h1]
  omega
theorem digH_sum {k d : Int} (h : k = 1) : sumHs.getD d.toNat [] = digH k d := by rw [digH, if_pos h]
theorem digH_pair {k d : Int} (h : ¬ k = 1) : pairHs.getD d.toNat [] = digH k d := by rw [digH, if_neg h]
theorem wid_quo {f : DField} (h : fieldOK f) (hk : f.2.1 = 1 ∨ f.2.1 = 2) : (widthF f).tdiv f.2.2.2 = wid f.2.1 := by
  have h1 := (size_in h).1
  rw [(wid_in h hk).2]
  exact Int.mul_tdiv_cancel _ (by omega)
theorem digA_at {f : DField} {v z : Nat} (hz : (z : Int) < f.2.2.2) : ((v / 10 ^ z : Nat) : Int).tmod 10 = digA f (v : Int) (f.2.2.2.toNat - 1 - z) := by
  unfold digA
  have h1 : (f.2.2.2 - 1 - ((f.2.2.2.toNat - 1 - z : Nat) : Int)).toNat = z := by omega
  rw [h1, Int.tdiv_eq_ediv_of_nonneg (by omega)]
  push_cast
  rfl
theorem shf_next {m : DMask} {s h : Int} {l : List Int} {y : Nat} (hh : l[Int.toNat ((y : Nat) : Int)]? = some h) : withM (withM m (shf s (l.take y))) [s + h] = withM m (shf s (l.take (y + 1))) := by
  rw [with_app, take_more hh, shf, shf, List.map_append]; rfl
noncomputable def ownI (f : DField) (m : DMask) (v : Nat) : Prop := codeF f (v : Int) ≠ meetM m (partF f)
noncomputable def valS (f : DField) (m : DMask) : Int × Int := @ite _ (meetM m (partF f) = zM) (Classical.propDecidable _) (0, 6) (if pre (ownI f m) (topF f + 1).toNat < (topF f + 1).toNat then ((pre (ownI f m) (topF f + 1).toNat : Int), 0) else (0, 8))
noncomputable def valIn (f : DField) (m : DMask) : Int := if (valS f m).2 = 0 then (valS f m).1 else if (valS f m).2 = 6 then -1 else -2
section
variable {f : DField} {m : DMask} {z : Nat}
theorem valS_none (h : meetM m (partF f) = zM) : valS f m = (0, 6) := by rw [valS, if_pos h]
theorem valS_at (h : ¬ meetM m (partF f) = zM) (hI : ∀ i, i < z → ownI f m i) (hz : (z : Int) ≤ topF f) (h1 : codeF f (z : Int) = meetM m (partF f)) : valS f m = ((z : Int), 0) := by
  have e : pre (ownI f m) (topF f + 1).toNat = z := pre_at hI (fun h => h h1) (by omega)
  rw [valS, if_neg h, e, if_pos (by omega)]
theorem valS_end (h : ¬ meetM m (partF f) = zM) (hI : ∀ i, i < z → ownI f m i) (hz : topF f < (z : Int)) : valS f m = (0, 8) := by
  have e : pre (ownI f m) (topF f + 1).toNat = (topF f + 1).toNat := pre_all (fun i hi => hI i (by omega))
  rw [valS, if_neg h, e, if_neg (Nat.lt_irrefl _)]
theorem valS_code (f : DField) (m : DMask) : (valS f m).2 = 0 ∨ (valS f m).2 = 6 ∨ (valS f m).2 = 8 := by
  unfold valS
  split
  · exact .inr (.inl rfl)
  · split
    · exact .inl rfl
    · exact .inr (.inr rfl)
end
noncomputable def valueS (f : DField) (c : DCard) : Int × Int := if (!(tt (fieldOK f)) || !(tt (cardOK c))) = true then (0, 1) else (valIn f c.2, 0)
theorem valueS_no {f : DField} {c : DCard} (h : (!(tt (fieldOK f)) || !(tt (cardOK c))) = true) : valueS f c = (0, 1) := by rw [valueS, if_pos h]
theorem valueS_yes {f : DField} {c : DCard} (h : (!(tt (fieldOK f)) || !(tt (cardOK c))) = false) : valueS f c = (valIn f c.2, 0) := by rw [valueS, if_neg (by rw [h]; decide)]
end Go.Proofs.YtcaeabgfgofefaaDoor.VL
