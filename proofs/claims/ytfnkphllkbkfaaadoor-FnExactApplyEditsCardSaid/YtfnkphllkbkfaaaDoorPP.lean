/- Proved here: edits of decks. Plain Lean, no program. -/
import Derived.Test.YtfnkphllkbkfaaaDoorPN
import Derived.Test.YtfnkphllkbkfaaaDoorPR
import Derived.Test.YtfnkphllkbkfaaaDoorVY
import Derived.Test.YtfnkphllkbkfaaaDoorPO
set_option linter.unusedVariables false
set_option linter.unusedSimpArgs false
namespace Go.Proofs.YtfnkphllkbkfaaaDoor.VL
open Go
abbrev DEdit := Int × ByteArray × Int × DMask
theorem okEdit {e : DEdit} (h : (kEdit).ok e) : (-128 ≤ e.1 ∧ e.1 ≤ 127) ∧ (-32768 ≤ e.2.2.1 ∧ e.2.2.1 ≤ 32767) := ⟨ok_i8 (ok_pair h).1, ok_i16 (ok_pair (ok_pair (ok_pair h).2).2).1⟩

noncomputable def editB (e : DEdit) : Bool := tt (nameOK e.2.1) && (if e.1 = 1 ∨ e.1 = 2 then e.2.2.1 == 0 && okM e.2.2.2 else if e.1 = 3 ∨ e.1 = 4 then inb e.2.2.1 0 95 && eqv e.2.2.2 zM else false)
section
variable {e : DEdit}
theorem edit_no (h : tt (nameOK e.2.1) = false) : false = editB e := by rw [editB, h]; rfl
theorem edit_12 (h : tt (nameOK e.2.1) = true) (h1 : e.1 = 1 ∨ e.1 = 2) : (e.2.2.1 == 0 && okM e.2.2.2) = editB e := by rw [editB, h, if_pos h1]; rfl
theorem edit_34 (h : tt (nameOK e.2.1) = true) (h1 : ¬ (e.1 = 1 ∨ e.1 = 2)) (h2 : e.1 = 3 ∨ e.1 = 4) : (inb e.2.2.1 0 95 && eqv e.2.2.2 zM) = editB e := by rw [editB, h, if_neg h1, if_pos h2]; rfl
theorem edit_else (h1 : ¬ (e.1 = 1 ∨ e.1 = 2)) (h2 : ¬ (e.1 = 3 ∨ e.1 = 4)) : false = editB e := by rw [editB, if_neg h1, if_neg h2, Bool.and_false]
theorem edit_12' (h1 : e.1 = 1 ∨ e.1 = 2) : ((tt (nameOK e.2.1) && (e.2.2.1 == 0)) && okM e.2.2.2) = editB e := by rw [editB, if_pos h1, Bool.and_assoc]
theorem edit_34' (h1 : ¬ (e.1 = 1 ∨ e.1 = 2)) (h2 : e.1 = 3 ∨ e.1 = 4) : ((tt (nameOK e.2.1) && inb e.2.2.1 0 95) && eqv e.2.2.2 zM) = editB e := by rw [editB, if_neg h1, if_pos h2, Bool.and_assoc]
theorem edit_kind (h : editB e = true) : 1 ≤ e.1 ∧ e.1 ≤ 4 := by
  unfold editB at h
  by_cases h1 : e.1 = 1 ∨ e.1 = 2
  · omega
  · by_cases h2 : e.1 = 3 ∨ e.1 = 4
    · omega
    · rw [if_neg h1, if_neg h2, Bool.and_false] at h; cases h
theorem edit_hole (h : editB e = true) (h1 : ¬ e.1 = 1) (h2 : ¬ e.1 = 2) : 0 ≤ e.2.2.1 ∧ e.2.2.1 < 96 := by
  unfold editB at h
  rw [if_neg (by omega)] at h
  split at h
  · simp only [Bool.and_eq_true] at h
    exact hole_in h.2.1
  · rw [Bool.and_false] at h; cases h
end
/-- One bit within a mask. -/
theorem within_bit (m : DMask) {h : Int} (hh : 0 ≤ h ∧ h < 96) : withinM (bitM h) m = hasM m h := by
  obtain ⟨n, rfl⟩ : ∃ n : Nat, h = n := ⟨h.toNat, by omega⟩
  rw [hasM_bit m (by omega)]
  unfold withinM
  refine (eqv_of ?_).symm
  rw [show ((0#64, 0#64) : DMask) = zM from rfl]
  constructor
  · intro e
    apply mask_ext
    intro i hi
    rw [bit_less _ _ hi, bit_zM, bit_bit (by omega) i hi]
    by_cases hi' : i = n
    · subst hi'; rw [e]; simp
    · simp [hi']
  · intro e
    have := congrArg (fun m => bitB m n) e
    simp only [bit_less _ _ (show n < 128 by omega), bit_zM, bit_bit (show n < 128 by omega) n (by omega), decide_true, Bool.true_and] at this
    simpa using this
/-- The card at a place. -/
def cAt (x : List DCard) (k : Int) : DCard := x.getD k.toNat (.empty, zM)
theorem cAt_eq {x : List DCard} {k : Int} {a : DCard} (h : x[Int.toNat k]? = some a) : cAt x k = a := by rw [cAt, List.getD_eq_getElem?_getD, h]; rfl
noncomputable def apply2 (x : List DCard) (e : DEdit) (k : Int) : List DCard × Int :=
  if e.1 = 2 then (if (cAt x k).2 = e.2.2.2 then (x.take k.toNat ++ x.drop (k.toNat + 1), 0) else ([], 4))
  else if hasM (cAt x k).2 e.2.2.1 = decide (e.1 = 3) then ([], 4)
  else if e.1 = 3 then (x.set k.toNat ((cAt x k).1, withM (cAt x k).2 [e.2.2.1]), 0) else (x.set k.toNat ((cAt x k).1, lessM (cAt x k).2 (bitM e.2.2.1)), 0)
noncomputable def applyS (x : List DCard) (e : DEdit) : List DCard × Int :=
  if e.1 = 1 then (if x.length = 80 then ([], 3) else if 0 ≤ findC e.2.1 x then ([], 4) else (x ++ [(e.2.1, e.2.2.2)], 0))
  else if findC e.2.1 x < 0 then ([], 4) else apply2 x e (findC e.2.1 x)
section
variable {x : List DCard} {e : DEdit} {a : DCard}
theorem ap_full (h : e.1 = 1) (h1 : x.length = 80) : applyS x e = ([], 3) := by rw [applyS, if_pos h, if_pos h1]
theorem ap_there (h : e.1 = 1) (h1 : ¬ x.length = 80) (h2 : 0 ≤ findC e.2.1 x) : applyS x e = ([], 4) := by rw [applyS, if_pos h, if_neg h1, if_pos h2]
theorem ap_add (h : e.1 = 1) (h1 : ¬ x.length = 80) (h2 : findC e.2.1 x < 0) : applyS x e = (x ++ [(e.2.1, e.2.2.2)], 0) := by rw [applyS, if_pos h, if_neg h1, if_neg (by omega)]
theorem ap_none (h : ¬ e.1 = 1) (h2 : findC e.2.1 x < 0) : applyS x e = ([], 4) := by rw [applyS, if_neg h, if_pos h2]
theorem ap_state (h : ¬ (findC e.2.1 x < 0 ↔ e.1 = 1)) (h2 : ¬ e.1 = 1 ∨ ¬ (x.length : Int) = 80) : applyS x e = ([], 4) := by
  by_cases h1 : e.1 = 1
  · exact ap_there h1 (by omega) (by omega)
  · exact ap_none h1 (by omega)
theorem ap_drop (h : e.1 = 2) (h2 : ¬ findC e.2.1 x < 0) (ha : x[Int.toNat (findC e.2.1 x)]? = some a) (hm : a.2 = e.2.2.2) : applyS x e = (x.take (findC e.2.1 x).toNat ++ x.drop ((findC e.2.1 x).toNat + 1), 0) := by
  rw [applyS, if_neg (by omega), if_neg h2, apply2, if_pos h, cAt_eq ha, if_pos hm]
theorem ap_ndrop (h : e.1 = 2) (h2 : ¬ findC e.2.1 x < 0) (ha : x[Int.toNat (findC e.2.1 x)]? = some a) (hm : ¬ a.2 = e.2.2.2) : applyS x e = ([], 4) := by
  rw [applyS, if_neg (by omega), if_neg h2, apply2, if_pos h, cAt_eq ha, if_neg hm]
theorem ap_bad (h1 : ¬ e.1 = 1) (h : ¬ e.1 = 2) (h2 : ¬ findC e.2.1 x < 0) (ha : x[Int.toNat (findC e.2.1 x)]? = some a) (hb : hasM a.2 e.2.2.1 = decide (e.1 = 3)) : applyS x e = ([], 4) := by
  rw [applyS, if_neg h1, if_neg h2, apply2, if_neg h, cAt_eq ha, if_pos hb]
theorem ap_notch (h : e.1 = 3) (h2 : ¬ findC e.2.1 x < 0) (ha : x[Int.toNat (findC e.2.1 x)]? = some a) (hb : ¬ hasM a.2 e.2.2.1 = decide (e.1 = 3)) : applyS x e = (x.set (findC e.2.1 x).toNat (a.1, withM a.2 [e.2.2.1]), 0) := by
  rw [applyS, if_neg (by omega), if_neg h2, apply2, if_neg (by omega), cAt_eq ha, if_neg hb, if_pos h]
theorem ap_fill (h1 : ¬ e.1 = 1) (h : ¬ e.1 = 2) (h3 : ¬ e.1 = 3) (h2 : ¬ findC e.2.1 x < 0) (ha : x[Int.toNat (findC e.2.1 x)]? = some a) (hb : ¬ hasM a.2 e.2.2.1 = decide (e.1 = 3)) : applyS x e = (x.set (findC e.2.1 x).toNat (a.1, lessM a.2 (bitM e.2.2.1)), 0) := by
  rw [applyS, if_neg h1, if_neg h2, apply2, if_neg h, cAt_eq ha, if_neg hb, if_neg h3]
end
theorem bne_iff2 {p : Prop} [Decidable p] {a b : Int} (h : (decide p == (a == b)) = true) : p ↔ a = b := by
  have h1 : decide p = (a == b) := eq_of_beq h
  constructor
  · intro hp; rw [decide_eq_true hp] at h1; exact eq_of_beq h1.symm
  · intro e; subst e; rw [beq_self_eq_true] at h1; exact of_decide_eq_true h1
theorem bne_iff3 {p : Prop} [Decidable p] {a b : Int} (h : (decide p == (a == b)) = false) : ¬ (p ↔ a = b) := by
  intro h2
  have : decide p = (a == b) := by rw [Bool.eq_iff_iff, decide_eq_true_eq, beq_iff_eq]; exact h2
  rw [this] at h; simp at h
theorem has_spec1 {e : DEdit} {m : DMask} (he : editB e = true) (h1 : ¬ e.1 = 1) (h2 : ¬ e.1 = 2) (h : (withinM (bitM e.2.2.1) m == (e.1 == 4)) = false) : hasM m e.2.2.1 = decide (e.1 = 3) := by
  rw [within_bit _ (edit_hole he h1 h2)] at h
  have hk := edit_kind he
  by_cases h3 : e.1 = 3
  · rw [h3] at h ⊢; simpa using h
  · have h4 : e.1 = 4 := by omega
    rw [h4] at h ⊢; simpa using h
theorem has_spec2 {e : DEdit} {m : DMask} (he : editB e = true) (h1 : ¬ e.1 = 1) (h2 : ¬ e.1 = 2) (h : (withinM (bitM e.2.2.1) m == (e.1 == 4)) = true) : ¬ hasM m e.2.2.1 = decide (e.1 = 3) := by
  rw [within_bit _ (edit_hole he h1 h2)] at h
  have hk := edit_kind he
  by_cases h3 : e.1 = 3
  · rw [h3] at h ⊢; simpa using h
  · have h4 : e.1 = 4 := by omega
    rw [h4] at h ⊢; simpa using h
theorem has_impl1 {e : DEdit} {m : DMask} (h : (hasM m e.2.2.1 == (e.1 == 3)) = true) : hasM m e.2.2.1 = decide (e.1 = 3) := by
  rw [eq_of_beq h, Bool.eq_iff_iff, beq_iff_eq, decide_eq_true_eq]
theorem has_impl2 {e : DEdit} {m : DMask} (h : (hasM m e.2.2.1 == (e.1 == 3)) = false) : ¬ hasM m e.2.2.1 = decide (e.1 = 3) := by
  intro h2
  have : hasM m e.2.2.1 = (e.1 == 3) := by rw [h2, Bool.eq_iff_iff, beq_iff_eq, decide_eq_true_eq]
  rw [this] at h; simp at h
theorem bit_with0 (h : Int) : withM zM [h] = bitM h := join_zM _
theorem applyS_len (x : List DCard) (e : DEdit) : (applyS x e).1.length ≤ x.length + 1 := by
  unfold applyS apply2
  (repeat' split) <;> simp
  omega
section
variable {c : BitVec 64} {x : List DCard} {e : DEdit}
end
end Go.Proofs.YtfnkphllkbkfaaaDoor.VL
