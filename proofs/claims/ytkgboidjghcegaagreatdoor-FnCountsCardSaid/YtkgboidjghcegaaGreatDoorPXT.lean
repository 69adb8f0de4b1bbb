/- Proved here: a text without the bytes of a set at both ends. Plain Lean. -/
import Derived.Test.YtkgboidjghcegaaGreatDoorBpa
set_option linter.unusedVariables false
set_option linter.unusedSimpArgs false
namespace Go.Proofs.YtkgboidjghcegaaGreatDoor.VL
open Go
def inT (T : List Bool) (s : ByteArray) (i : Nat) : Prop := ∃ b, s[i]? = some b ∧ T.getD (Int.toNat (b.toNat : Int)) false = true
theorem inT_iff {T : List Bool} {s : ByteArray} {z : Nat} {b : UInt8} (hb : s[Int.toNat ((z : Nat) : Int)]? = some b) : inT T s z ↔ T.getD (Int.toNat (b.toNat : Int)) false = true := by
  rw [toN] at hb
  unfold inT
  constructor
  · rintro ⟨b', h1, h2⟩
    rw [hb] at h1; obtain rfl := Option.some.inj h1
    exact h2
  · exact fun h => ⟨b, hb, h⟩
noncomputable def trimRT (T : List Bool) (s : ByteArray) : ByteArray := s.extract 0 (rkp (inT T s) s.size)
noncomputable def trimLT (T : List Bool) (s : ByteArray) : ByteArray := s.extract (pre (inT T s) s.size) s.size
noncomputable def trimT (T : List Bool) (s : ByteArray) : ByteArray := if s.size = 0 then s else trimLT T (trimRT T s)
def cutOK (cs : ByteArray) (T : List Bool) : Prop := 2 ≤ cs.size ∧ (∀ (z : Nat) b, cs[Int.toNat ((z : Nat) : Int)]? = some b → b.toNat < 128) ∧ asP cs cs.size = T
def hdB (cs : ByteArray) : UInt8 := cs.data.toList.headD 0
theorem hd_at : ∀ (l : List UInt8) (h : 0 < l.length), l[0] = l.headD 0
  | [], h => by cases h
  | _ :: _, _ => rfl
theorem hdB_get {cs : ByteArray} (h : 1 ≤ cs.size) : cs[Int.toNat 0]? = some (hdB cs) := by
  show cs[0]? = _
  rw [getElem?_pos cs 0 (by omega), hdB]
  have h1 : 0 < cs.data.toList.length := by rw [Array.length_toList]; exact h
  congr 1
  show cs.data[0] = _
  rw [← Array.getElem_toList]
  exact hd_at cs.data.toList h1
theorem trimT_none {T : List Bool} {s cs : ByteArray} (hc : cutOK cs T) (h : (eqv s ByteArray.empty || eqv cs ByteArray.empty) = true) : s = trimT T s := by
  rw [Bool.or_eq_true, eqv_iff, eqv_iff] at h
  rcases h with h | h
  · unfold trimT; rw [if_pos (size_zero.1 h)]
  · have := size_zero.1 h
    have := hc.1
    omega
theorem trimT_some {T : List Bool} {s cs : ByteArray} (h : (eqv s ByteArray.empty || eqv cs ByteArray.empty) = false) : trimLT T (trimRT T s) = trimT T s := by
  unfold trimT; rw [if_neg (fun h0 => eqv_false_iff.1 (Bool.or_eq_false_iff.1 h).1 (size_zero.2 h0))]
theorem trimT_iff (T : List Bool) (s : ByteArray) : trimT T s = ByteArray.empty ↔ ∀ i, i < s.size → inT T s i := by
  rw [size_zero]
  unfold trimT
  split
  · rename_i h
    exact ⟨fun _ i hi => absurd hi (by omega), fun _ => h⟩
  · rename_i h
    have hk := rkp_le (inT T s) s.size
    have hsz : (trimRT T s).size = rkp (inT T s) s.size := by unfold trimRT; rw [ext_size hk]; omega
    have hget : ∀ i, i < rkp (inT T s) s.size → (trimRT T s)[i]? = s[i]? := fun i hi => by
      unfold trimRT; rw [ext_get (by omega) hk, Nat.zero_add]
    have hj := pre_le (inT T (trimRT T s)) (trimRT T s).size
    unfold trimLT
    rw [ext_size (Nat.le_refl _)]
    constructor
    · intro h0
      have hf := pre_full (p := inT T (trimRT T s)) (n := (trimRT T s).size) (by omega)
      rcases Nat.eq_zero_or_pos (rkp (inT T s) s.size) with h1 | h1
      · exact rkp_zero h1
      · exfalso
        refine rkp_last h1 ?_
        obtain ⟨b, h2, h3⟩ := hf (rkp (inT T s) s.size - 1) (by omega)
        rw [hget _ (by omega)] at h2
        exact ⟨b, h2, h3⟩
    · intro hl
      have h1 : rkp (inT T s) s.size = 0 := rkp_at (Nat.zero_le _) (fun i _ hi => hl i hi) (.inl rfl)
      omega
theorem cut_abc : cutOK abc lowT := ⟨by decide, abc_lt, asP_abc⟩
theorem inT_low {s : ByteArray} {i : Nat} : inT lowT s i ↔ lowI s i := by
  unfold inT lowI
  constructor
  · rintro ⟨b, h1, h2⟩; exact ⟨b, h1, (lowT_iff b).1 h2⟩
  · rintro ⟨b, h1, h2⟩; exact ⟨b, h1, (lowT_iff b).2 h2⟩
theorem name_trimT (s : ByteArray) : (decide ((s.size : Int) ≥ 1) && decide ((s.size : Int) ≤ 16) && eqv (trimT lowT s) ByteArray.empty) = tt (nameOK s) := by
  refine tt_eq ?_
  rw [Bool.and_eq_true, eqv_iff, trimT_iff]
  simp only [Bool.and_eq_true, decide_eq_true_eq, nameOK]
  exact ⟨fun h => ⟨fun i hi => inT_low.1 (h.2 i hi), by omega, by omega⟩, fun h => ⟨⟨by omega, by omega⟩, fun i hi => inT_low.2 (h.1 i hi)⟩⟩
end Go.Proofs.YtkgboidjghcegaaGreatDoor.VL
