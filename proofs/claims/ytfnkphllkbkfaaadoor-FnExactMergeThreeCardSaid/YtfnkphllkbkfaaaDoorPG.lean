/- Proved here: budgets of lists, names, cards and decks. Plain Lean, no program. -/
import Derived.Test.YtfnkphllkbkfaaaDoorPE
set_option linter.unusedVariables false
set_option linter.unusedSimpArgs false
namespace Go.Proofs.YtfnkphllkbkfaaaDoor.VL
open Go
/-! ### Budgets -/
def szs {α : Type} (f : α → Int → Int) : List α → Int → Int
  | [], l => l
  | k :: r, l => if f k l < 0 then -1 else szs f r (f k l)
def szSS {α : Type} (f : α → Int → Int) (x : List α) (l : Int) : Int := if l - x.length < 0 then -1 else szs f x (l - x.length)
/-- A budget that tells that the data is small. -/
def okSz {α : Type} (f : α → Int → Int) (p : α → Prop) : Prop := ∀ k l, 0 ≤ l ∧ l ≤ 1048576 → f k l ≤ 1048576 ∧ -1 ≤ f k l ∧ (0 ≤ f k l → p k)
section
variable {α : Type} {f : α → Int → Int} {q : α → Prop} {x : List α} {l : Int} {p : Nat × Int} {a : α}
theorem szs_in (hf : okSz f q) : ∀ (x : List α) {l : Int}, 0 ≤ l ∧ l ≤ 1048576 → szs f x l ≤ 1048576 ∧ -1 ≤ szs f x l ∧ (0 ≤ szs f x l → ∀ k ∈ x, q k)
  | [], l, hl => by unfold szs; exact ⟨by omega, by omega, fun _ k hk => by cases hk⟩
  | k :: r, l, hl => by
    unfold szs
    have h1 := hf k l hl
    split
    · exact ⟨by omega, by omega, fun h => absurd h (by omega)⟩
    · have h2 := szs_in hf r (l := f k l) (by omega)
      refine ⟨h2.1, h2.2.1, fun h k' hk => ?_⟩
      rcases List.mem_cons.1 hk with rfl | hk
      · exact h1.2.2 (by omega)
      · exact h2.2.2 h k' hk
theorem szSS_in (hf : okSz f q) (x : List α) {l : Int} (hl : 0 ≤ l ∧ l ≤ 1048576) : szSS f x l ≤ 1048576 ∧ -1 ≤ szSS f x l ∧ (0 ≤ szSS f x l → x.length ≤ 1048576 ∧ ∀ k ∈ x, q k) := by
  unfold szSS
  split
  · exact ⟨by omega, by omega, fun h => absurd h (by omega)⟩
  · have h := szs_in hf x (l := l - x.length) (by omega)
    exact ⟨h.1, h.2.1, fun h0 => ⟨by omega, h.2.2 h0⟩⟩
theorem okSz_list (hf : okSz f q) : okSz (szSS f) (fun x => x.length ≤ 1048576 ∧ ∀ k ∈ x, q k) := fun x l hl => szSS_in hf x hl
theorem szs_step (hf : okSz f q) (hI : p.1 ≤ x.length ∧ 0 ≤ p.2 ∧ p.2 ≤ 1048576 ∧ szs f (x.drop p.1) p.2 = szs f x (l - x.length)) (hz : p.1 < x.length) (ha : x[Int.toNat ((p.1 : Nat) : Int)]? = some a) (h : ¬ f a p.2 < 0) :
    p.1 + 1 ≤ x.length ∧ 0 ≤ f a p.2 ∧ f a p.2 ≤ 1048576 ∧ szs f (x.drop (p.1 + 1)) (f a p.2) = szs f x (l - x.length) := by
  refine ⟨by omega, by omega, (hf a p.2 ⟨hI.2.1, hI.2.2.1⟩).1, ?_⟩
  rw [← hI.2.2.2, drop_getI ha, szs, if_neg h]
theorem szs_ne (hl : ¬ l - x.length < 0) (hI : p.1 ≤ x.length ∧ 0 ≤ p.2 ∧ p.2 ≤ 1048576 ∧ szs f (x.drop p.1) p.2 = szs f x (l - x.length)) (ha : x[Int.toNat ((p.1 : Nat) : Int)]? = some a) (h : f a p.2 < 0) : -1 = szSS f x l := by
  rw [szSS, if_neg hl, ← hI.2.2.2, drop_getI ha, szs, if_pos h]
theorem szs_end (hl : ¬ l - x.length < 0) (hI : p.1 ≤ x.length ∧ 0 ≤ p.2 ∧ p.2 ≤ 1048576 ∧ szs f (x.drop p.1) p.2 = szs f x (l - x.length)) (hz : x.length ≤ p.1) : p.2 = szSS f x l := by
  rw [szSS, if_neg hl, ← hI.2.2.2, List.drop_of_length_le hz]
  rfl
end
def szB (s : ByteArray) (l : Int) : Int := if l - s.size < 0 then -1 else l - s.size
theorem szB_in : okSz szB (fun s => s.size ≤ 1048576) := fun s l hl => by unfold szB; split <;> omega

/-! ### Names -/
def lowI (s : ByteArray) (i : Nat) : Prop := ∃ b, s[i]? = some b ∧ 97 ≤ b.toNat ∧ b.toNat ≤ 122
def lowS (s : ByteArray) : Prop := ∀ i, i < s.size → lowI s i
def nameOK (s : ByteArray) : Prop := lowS s ∧ 1 ≤ s.size ∧ s.size ≤ 16
theorem byteI {s : ByteArray} {z : Nat} (h : z < s.size) : ∃ b, s[Int.toNat ((z : Nat) : Int)]? = some b := ⟨s[z], getElem?_pos s z h⟩
theorem byte_lt {s : ByteArray} {z : Nat} {b : UInt8} (h : s[z]? = some b) : z < s.size := by
  rcases Nat.lt_or_ge z s.size with h1 | h1
  · exact h1
  · rw [getElem?_neg s z (by omega)] at h; cases h
theorem lowI_iff {s : ByteArray} {z : Nat} {b : UInt8} (hb : s[Int.toNat ((z : Nat) : Int)]? = some b) : lowI s z ↔ (97 ≤ b.toNat ∧ b.toNat ≤ 122) := by
  rw [toN] at hb
  unfold lowI
  constructor
  · rintro ⟨b', h1, h2⟩
    rw [hb] at h1; obtain rfl := Option.some.inj h1
    exact h2
  · exact fun h => ⟨b, hb, h⟩
theorem name_no {s : ByteArray} {z : Nat} (hz : z < s.size) (h : ¬ lowI s z) : false = tt (nameOK s) := tt_no fun h' => h (h'.1 z hz)
theorem name_end {s : ByteArray} {z : Nat} (h : ∀ i, i < z → lowI s i) (hz : s.size ≤ z) : inb (s.size : Int) 1 16 = tt (nameOK s) := by
  refine tt_eq ?_
  simp only [inb, Bool.and_eq_true, decide_eq_true_eq, nameOK]
  exact ⟨fun h' => ⟨all_end h hz, by omega, by omega⟩, fun h' => by omega⟩
theorem byte_data {s : ByteArray} (i : Nat) : s[i]? = s.data[i]? := by
  rcases Nat.lt_or_ge i s.size with h | h
  · rw [getElem?_pos s i h, Array.getElem?_eq_getElem (by exact h)]; rfl
  · rw [getElem?_neg s i (by omega), Array.getElem?_eq_none (by exact h)]
theorem ext_get {s : ByteArray} {i j k : Nat} (h : i + k < j) (hj : j ≤ s.size) : (s.extract i j)[k]? = s[i + k]? := by
  rw [byte_data, byte_data, ByteArray.data_extract, Array.getElem?_extract]
  have : j ≤ s.data.size := hj
  rw [if_pos (by omega)]
theorem ext_size {s : ByteArray} {i j : Nat} (hj : j ≤ s.size) : (s.extract i j).size = j - i := by
  rw [ByteArray.size_extract]; omega
theorem ext_all (s : ByteArray) : s.extract 0 s.size = s := by
  apply ByteArray.ext
  rw [ByteArray.data_extract]
  exact Array.extract_size
theorem ext_ext {s : ByteArray} {a b c d : Nat} (hb : b ≤ s.size) (hd : a + d ≤ b) : (s.extract a b).extract c d = s.extract (a + c) (a + d) := by
  apply ByteArray.ext
  rw [ByteArray.data_extract, ByteArray.data_extract, ByteArray.data_extract, Array.extract_extract]
  congr 1
  omega
theorem size_zero {s : ByteArray} : s = ByteArray.empty ↔ s.size = 0 := by
  constructor
  · rintro rfl; rfl
  · intro h
    apply ByteArray.ext
    exact Array.eq_empty_of_size_eq_zero h
/-- The letters, as a table. -/
def lowT : List Bool := (List.range 256).map fun j => decide (97 ≤ j) && decide (j ≤ 122)
theorem lowT_iff (b : UInt8) : lowT.getD (Int.toNat (b.toNat : Int)) false = true ↔ 97 ≤ b.toNat ∧ b.toNat ≤ 122 := by
  have hb := b.toNat_lt
  rw [toN, lowT, List.getD_eq_getElem?_getD, List.getElem?_map, List.getElem?_range (by omega)]
  simp
def abc : ByteArray := ⟨#[97, 98, 99, 100, 101, 102, 103, 104, 105, 106, 107, 108, 109, 110, 111, 112, 113, 114, 115, 116, 117, 118, 119, 120, 121, 122]⟩
/-- A set of letters, as far as it has been made. -/
def asP (s : ByteArray) : Nat → List Bool
  | 0 => List.replicate 256 false
  | z + 1 => (asP s z).set ((s[z]?).getD 0).toNat true
theorem asP_step {s : ByteArray} {z : Nat} {b : UInt8} (hb : s[Int.toNat ((z : Nat) : Int)]? = some b) : (asP s z).set (Int.toNat (b.toNat : Int)) true = asP s (z + 1) := by
  rw [toN] at hb
  rw [asP, hb]; rfl
theorem asP_abc : asP abc abc.size = lowT := by decide +kernel
theorem abc_lt : ∀ z b, abc[Int.toNat ((z : Nat) : Int)]? = some b → b.toNat < 128 := by
  intro z b h
  rw [toN] at h
  have hz := byte_lt h
  have h2 : ∀ z, z < 26 → ((abc[z]?).getD 0).toNat < 128 := by decide +kernel
  have := h2 z hz
  rw [h] at this
  exact this
/-- What is left where the last ones that fit are dropped. -/
noncomputable def rkp (p : Nat → Prop) : Nat → Nat
  | 0 => 0
  | n + 1 => @ite _ (p n) (Classical.propDecidable _) (rkp p n) (n + 1)
theorem rkp_at {p : Nat → Prop} {z : Nat} : ∀ {n : Nat}, z ≤ n → (∀ i, z ≤ i → i < n → p i) → (z = 0 ∨ ¬ p (z - 1)) → rkp p n = z
  | 0, hz, _, _ => by rw [rkp]; omega
  | n + 1, hz, h, h0 => by
    rcases Nat.lt_or_ge n z with h1 | h1
    · obtain rfl : z = n + 1 := by omega
      rw [rkp, if_neg (by simpa using h0)]
    · rw [rkp, if_pos (h n h1 (by omega))]
      exact rkp_at h1 (fun i h2 h3 => h i h2 (by omega)) h0
noncomputable def trimR (s : ByteArray) : ByteArray := s.extract 0 (rkp (lowI s) s.size)
noncomputable def trimL (s : ByteArray) : ByteArray := s.extract (pre (lowI s) s.size) s.size
noncomputable def trimA (s : ByteArray) : ByteArray := if s.size = 0 then s else trimL (trimR s)
theorem trim_none {s : ByteArray} (h : (eqv s ByteArray.empty || eqv abc ByteArray.empty) = true) : s = trimA s := by
  rw [Bool.or_eq_true, eqv_iff, eqv_iff] at h
  rcases h with h | h
  · unfold trimA; rw [if_pos (size_zero.1 h)]
  · exact absurd (size_zero.1 h) (by decide)
theorem trim_some {s : ByteArray} (h : (eqv s ByteArray.empty || eqv abc ByteArray.empty) = false) : trimL (trimR s) = trimA s := by
  unfold trimA; rw [if_neg (fun h0 => eqv_false_iff.1 (Bool.or_eq_false_iff.1 h).1 (size_zero.2 h0))]
theorem rkp_le (p : Nat → Prop) : ∀ n, rkp p n ≤ n
  | 0 => Nat.le_refl 0
  | n + 1 => by unfold rkp; split; exact Nat.le_succ_of_le (rkp_le p n); exact Nat.le_refl _
theorem rkp_zero {p : Nat → Prop} : ∀ {n : Nat}, rkp p n = 0 → ∀ i, i < n → p i
  | 0, _, i, hi => absurd hi (Nat.not_lt_zero i)
  | n + 1, h, i, hi => by
    unfold rkp at h
    split at h
    · rename_i hp
      rcases Nat.lt_or_ge i n with h1 | h1
      · exact rkp_zero h i h1
      · obtain rfl : i = n := by omega
        exact hp
    · omega
theorem rkp_last {p : Nat → Prop} : ∀ {n : Nat}, 0 < rkp p n → ¬ p (rkp p n - 1)
  | 0, h => absurd h (by simp [rkp])
  | n + 1, h => by
    unfold rkp at h ⊢
    split at h
    · rename_i hp; rw [if_pos hp]; exact rkp_last h
    · rename_i hp; rw [if_neg hp]; simpa using hp
theorem pre_le (p : Nat → Prop) : ∀ n, pre p n ≤ n
  | 0 => Nat.le_refl 0
  | n + 1 => by unfold pre; split; exact Nat.le_refl _; exact Nat.le_succ_of_le (pre_le p n)
theorem pre_full {p : Nat → Prop} : ∀ {n : Nat}, pre p n = n → ∀ i, i < n → p i
  | 0, _, i, hi => absurd hi (Nat.not_lt_zero i)
  | n + 1, h, i, hi => by
    unfold pre at h
    split at h
    · rename_i h1; exact h1 i hi
    · have := pre_le p n; omega
theorem trimA_iff (s : ByteArray) : trimA s = ByteArray.empty ↔ lowS s := by
  rw [size_zero]
  unfold trimA
  split
  · rename_i h
    exact ⟨fun _ i hi => absurd hi (by omega), fun _ => h⟩
  · rename_i h
    have hk := rkp_le (lowI s) s.size
    have hsz : (trimR s).size = rkp (lowI s) s.size := by unfold trimR; rw [ext_size hk]; omega
    have hget : ∀ i, i < rkp (lowI s) s.size → (trimR s)[i]? = s[i]? := fun i hi => by
      unfold trimR; rw [ext_get (by omega) hk, Nat.zero_add]
    have hj := pre_le (lowI (trimR s)) (trimR s).size
    unfold trimL
    rw [ext_size (Nat.le_refl _)]
    constructor
    · intro h0
      have hf := pre_full (p := lowI (trimR s)) (n := (trimR s).size) (by omega)
      rcases Nat.eq_zero_or_pos (rkp (lowI s) s.size) with h1 | h1
      · exact rkp_zero h1
      · exfalso
        refine rkp_last h1 ?_
        obtain ⟨b, h2, h3⟩ := hf (rkp (lowI s) s.size - 1) (by omega)
        rw [hget _ (by omega)] at h2
        exact ⟨b, h2, h3⟩
    · intro hl
      have h1 : rkp (lowI s) s.size = 0 := rkp_at (Nat.zero_le _) (fun i _ hi => hl i hi) (.inl rfl)
      omega
theorem name_trim (s : ByteArray) : (decide ((s.size : Int) ≥ 1) && decide ((s.size : Int) ≤ 16) && eqv (trimA s) ByteArray.empty) = tt (nameOK s) := by
  refine tt_eq ?_
  rw [Bool.and_eq_true, eqv_iff, trimA_iff]
  simp only [Bool.and_eq_true, decide_eq_true_eq, nameOK]
  exact ⟨fun h => ⟨h.2, by omega, by omega⟩, fun h => ⟨⟨by omega, by omega⟩, h.1⟩⟩
abbrev DMask := BitVec 64 × BitVec 64
abbrev DCard := ByteArray × DMask
def cardOK (c : DCard) : Prop := nameOK c.1 ∧ okM c.2 = true
theorem card_and (c : DCard) : (tt (nameOK c.1) && okM c.2) = tt (cardOK c) := by
  refine tt_eq ?_
  rw [Bool.and_eq_true, tt_iff]; rfl
/-! ### Hashes -/
end Go.Proofs.YtfnkphllkbkfaaaDoor.VL
