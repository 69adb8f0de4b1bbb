/- Proved here: the order of names is one, and equal names alone are equal in it. Plain Lean. -/
import Derived.Test.YtbckpmjiimiceaaDoorPXO
import Derived.Test.YtbckpmjiimiceaaDoorPXM
set_option linter.unusedVariables false
set_option linter.unusedSimpArgs false
namespace Go.Proofs.YtbckpmjiimiceaaDoor.VL
open Go
/-- What a comparison keeps to. -/
structure CmpP {α : Type} (c : α → α → Int) : Prop where
  anti : ∀ x y, c y x = - c x y
  tr : ∀ x y z, c x y ≤ 0 → c y z ≤ 0 → c x z ≤ 0
section
variable {α : Type} {c d : α → α → Int}
theorem CmpP.self (h : CmpP c) (x : α) : c x x = 0 := by have := h.anti x x; omega
theorem CmpP.lt1 (h : CmpP c) {x y z : α} (h1 : c x y < 0) (h2 : c y z ≤ 0) : c x z < 0 := by
  apply Decidable.byContradiction; intro hn
  have a1 := h.anti x z
  have a2 := h.anti x y
  have := h.tr y z x h2 (by omega)
  omega
theorem CmpP.lt2 (h : CmpP c) {x y z : α} (h1 : c x y ≤ 0) (h2 : c y z < 0) : c x z < 0 := by
  apply Decidable.byContradiction; intro hn
  have a1 := h.anti x z
  have a2 := h.anti y z
  have := h.tr z x y (by omega) h1
  omega
theorem CmpP.eq (h : CmpP c) {x y z : α} (h1 : c x y = 0) (h2 : c y z = 0) : c x z = 0 := by
  have a1 := h.tr x y z (by omega) (by omega)
  have a2 := h.anti x y
  have a3 := h.anti y z
  have a4 := h.tr z y x (by omega) (by omega)
  have a5 := h.anti x z
  omega
theorem or2_lt {a b : Int} : or2 a b ≤ 0 ↔ a < 0 ∨ a = 0 ∧ b ≤ 0 := by unfold or2; split <;> omega
theorem CmpP.or2 (h : CmpP c) (h' : CmpP d) : CmpP fun x y => or2 (c x y) (d x y) := by
  refine ⟨fun x y => ?_, fun x y z h1 h2 => ?_⟩
  · have a1 := h.anti x y
    have a2 := h'.anti x y
    show VL.or2 (c y x) (d y x) = - VL.or2 (c x y) (d x y)
    unfold VL.or2; split <;> split <;> omega
  · have h1' : VL.or2 (c x y) (d x y) ≤ 0 := h1
    have h2' : VL.or2 (c y z) (d y z) ≤ 0 := h2
    show VL.or2 (c x z) (d x z) ≤ 0
    rw [or2_lt] at h1' h2' ⊢
    rcases h1' with h1' | ⟨e1, g1⟩
    · exact .inl (h.lt1 h1' (by omega))
    · rcases h2' with h2' | ⟨e2, g2⟩
      · exact .inl (h.lt2 (by omega) h2')
      · exact .inr ⟨h.eq e1 e2, h'.tr x y z g1 g2⟩
theorem CmpP.pull {β : Type} {f : β → α} (h : CmpP c) : CmpP fun x y => c (f x) (f y) := ⟨fun x y => h.anti _ _, fun x y z => h.tr _ _ _⟩
/-- A comparison gives an order to sort by. -/
theorem CmpP.pre (h : CmpP c) (p : α → Prop) : TPre c p := by
  refine ⟨fun {x y} _ _ h1 => ?_, fun {x y z} _ _ _ h1 h2 => ?_⟩
  · have := h.anti x y; omega
  · have a1 := h.anti x y
    have a2 := h.anti y z
    have a3 := h.anti x z
    have := h.tr x y z (by omega) (by omega)
    omega
end
theorem cb_anti : ∀ a b : List UInt8, Lib.compareBytes b a = - Lib.compareBytes a b
  | [], [] => by simp [Lib.compareBytes]
  | [], _ :: _ => by simp [Lib.compareBytes]
  | _ :: _, [] => by simp [Lib.compareBytes]
  | a :: as, b :: bs => by
    have ih := cb_anti as bs
    rw [Lib.compareBytes, Lib.compareBytes]
    by_cases h1 : a < b
    · have h2 : ¬ b < a := by rw [UInt8.lt_iff_toNat_lt] at h1 ⊢; omega
      rw [if_neg h2, if_pos h1, if_pos h1]; rfl
    · by_cases h2 : b < a
      · rw [if_pos h2, if_neg h1, if_pos h2]
      · simp only [if_neg h1, if_neg h2, ih]
theorem cb_zero : ∀ {a b : List UInt8}, Lib.compareBytes a b = 0 → a = b
  | [], [], _ => rfl
  | [], _ :: _, h => by simp [Lib.compareBytes] at h
  | _ :: _, [], h => by simp [Lib.compareBytes] at h
  | a :: as, b :: bs, h => by
    rw [Lib.compareBytes] at h
    split at h
    · cases h
    · split at h
      · cases h
      · rename_i h1 h2
        rw [cb_zero h, show a = b from UInt8.toNat_inj.1 (by rw [UInt8.lt_iff_toNat_lt] at h1 h2; omega)]
theorem cb_tr : ∀ a b c : List UInt8, Lib.compareBytes a b ≤ 0 → Lib.compareBytes b c ≤ 0 → Lib.compareBytes a c ≤ 0
  | [], _, [], _, _ => by simp [Lib.compareBytes]
  | [], _, _ :: _, _, _ => by simp [Lib.compareBytes]
  | _ :: _, [], _, h, _ => by simp [Lib.compareBytes] at h
  | _ :: _, _ :: _, [], _, h => by simp [Lib.compareBytes] at h
  | a :: as, b :: bs, c :: cs, h1, h2 => by
    have ih := cb_tr as bs cs
    rw [Lib.compareBytes] at h1 h2 ⊢
    simp only [UInt8.lt_iff_toNat_lt] at h1 h2 ⊢
    by_cases q1 : a.toNat < b.toNat
    · by_cases q2 : b.toNat < c.toNat
      · rw [if_pos (by omega)]; decide
      · rw [if_neg q2] at h2
        by_cases q3 : c.toNat < b.toNat
        · rw [if_pos q3] at h2; omega
        · rw [if_pos (by omega)]; decide
    · rw [if_neg q1] at h1
      by_cases q4 : b.toNat < a.toNat
      · rw [if_pos q4] at h1; omega
      · rw [if_neg q4] at h1
        by_cases q2 : b.toNat < c.toNat
        · rw [if_pos (by omega)]; decide
        · rw [if_neg q2] at h2
          by_cases q3 : c.toNat < b.toNat
          · rw [if_pos q3] at h2; omega
          · rw [if_neg q3] at h2
            rw [if_neg (by omega), if_neg (by omega)]; exact ih h1 h2
theorem cmpB_p : CmpP cmpB := ⟨fun x y => cb_anti _ _, fun x y z => cb_tr _ _ _⟩
theorem cmpB_zero {a b : ByteArray} (h : cmpB a b = 0) : a = b := by
  have := cb_zero h
  unfold bL at this
  exact ByteArray.ext (Array.toList_inj.1 this)
theorem cmpN_p : CmpP fun x y : Int => Lib.compareInt x y := by
  refine ⟨fun x y => ?_, fun x y z => ?_⟩ <;> simp only [Lib.compareInt] <;> (repeat' split) <;> omega
theorem cwP_p : CmpP cwP := by
  have h1 : CmpP fun a b => or2 (Lib.compareInt (zer a).size (zer b).size) (cmpB (zer a) (zer b)) := CmpP.or2 (CmpP.pull (f := fun a => ((zer a).size : Int)) cmpN_p) (CmpP.pull (f := zer) cmpB_p)
  refine ⟨fun x y => ?_, fun x y z => ?_⟩
  · have a1 : or2 (Lib.compareInt (zer y).size (zer x).size) (cmpB (zer y) (zer x)) = - or2 (Lib.compareInt (zer x).size (zer y).size) (cmpB (zer x) (zer y)) := h1.anti x y
    have a2 := cmpB_p.anti x y
    unfold cwP
    cases isDw x <;> cases isDw y <;> simp_all
  · have a1 := h1.tr x y z
    have a2 := cmpB_p.tr x y z
    unfold cwP
    cases isDw x <;> cases isDw y <;> cases isDw z <;> simp_all
theorem cmpL_p {f : ByteArray → ByteArray → Int} (hf : CmpP f) : CmpP (cmpL f) := by
  refine ⟨?_, ?_⟩
  · intro l
    induction l with
    | nil => intro m; cases m <;> simp [cmpL]
    | cons a l ih =>
      intro m
      cases m with
      | nil => simp [cmpL]
      | cons b m =>
        have a1 := hf.anti a b
        have a2 := ih m
        rw [cmpL, cmpL]; split <;> split <;> omega
  · intro l
    induction l with
    | nil => intro m k _ _; cases k <;> simp [cmpL]
    | cons a l ih =>
      intro m k h1 h2
      cases m with
      | nil => simp [cmpL] at h1
      | cons b m =>
        cases k with
        | nil => simp [cmpL] at h2
        | cons d k =>
          rw [cmpL] at h1 h2 ⊢
          have a1 := hf.anti a b
          have a2 := hf.anti b d
          have a3 := hf.anti a d
          by_cases q1 : f a b = 0
          · rw [if_neg (by omega)] at h1
            by_cases q2 : f b d = 0
            · rw [if_neg (by omega)] at h2
              rw [if_neg (by have := hf.eq q1 q2; omega)]
              exact ih m k h1 h2
            · rw [if_pos q2] at h2
              have := hf.lt2 (x := a) (y := b) (z := d) (by omega) (by omega)
              rw [if_pos (by omega)]; omega
          · rw [if_pos q1] at h1
            have h3 : f b d ≤ 0 := by split at h2 <;> omega
            have := hf.lt1 (x := a) (y := b) (z := d) (by omega) h3
            rw [if_pos (by omega)]; omega
theorem cnP_p : CmpP cnP := CmpP.or2 (CmpP.pull (f := fwP) (cmpL_p cwP_p)) cmpB_p
theorem cnP_zero {a b : ByteArray} : cnP a b = 0 ↔ a = b := by
  constructor
  · intro h
    rw [cnP, or2] at h
    split at h
    · omega
    · exact cmpB_zero h
  · rintro rfl; exact cnP_p.self a
end Go.Proofs.YtbckpmjiimiceaaDoor.VL
