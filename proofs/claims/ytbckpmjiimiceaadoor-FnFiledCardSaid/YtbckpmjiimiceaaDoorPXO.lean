/- Proved here: names compared word by word, as they are filed. Plain Lean. -/
import Derived.Test.YtbckpmjiimiceaaDoorPXL
import Derived.Test.YtbckpmjiimiceaaDoorPXT
import Derived.Lib.Small
set_option linter.unusedVariables false
set_option linter.unusedSimpArgs false
namespace Go.Proofs.YtbckpmjiimiceaaDoor.VL
open Go
/-! ### Bytes -/
def cmpB (a b : ByteArray) : Int := Lib.compareBytes (bL a) (bL b)
def digT : List Bool := (List.range 256).map fun j => decide (48 ≤ j) && decide (j ≤ 57)
def alnT : List Bool := (List.range 256).map fun j => (decide (97 ≤ j) && decide (j ≤ 122)) || (decide (48 ≤ j) && decide (j ≤ 57))
def dgsB : ByteArray := ⟨#[48, 49, 50, 51, 52, 53, 54, 55, 56, 57]⟩
def alnB : ByteArray := ⟨#[97, 98, 99, 100, 101, 102, 103, 104, 105, 106, 107, 108, 109, 110, 111, 112, 113, 114, 115, 116, 117, 118, 119, 120, 121, 122, 48, 49, 50, 51, 52, 53, 54, 55, 56, 57]⟩
theorem cut_of {cs : ByteArray} {T : List Bool} (h1 : 2 ≤ cs.size) (h2 : ∀ z, z < cs.size → ((cs[z]?).getD 0).toNat < 128) (h3 : asP cs cs.size = T) : cutOK cs T := by
  refine ⟨h1, ?_, h3⟩
  intro z b h
  rw [toN] at h
  have := h2 z (byte_lt h)
  rw [h] at this
  exact this
theorem cut_dgs : cutOK dgsB digT := cut_of (by decide) (by decide +kernel) (by decide +kernel)
theorem cut_aln : cutOK alnB alnT := cut_of (by decide) (by decide +kernel) (by decide +kernel)
theorem digT_iff (b : UInt8) : digT.getD (Int.toNat (b.toNat : Int)) false = true ↔ 48 ≤ b.toNat ∧ b.toNat ≤ 57 := by
  have hb := b.toNat_lt
  rw [toN, digT, List.getD_eq_getElem?_getD, List.getElem?_map, List.getElem?_range (by omega)]
  simp
theorem alnT_iff (b : UInt8) : alnT.getD (Int.toNat (b.toNat : Int)) false = true ↔ (97 ≤ b.toNat ∧ b.toNat ≤ 122) ∨ (48 ≤ b.toNat ∧ b.toNat ≤ 57) := by
  have hb := b.toNat_lt
  rw [toN, alnT, List.getD_eq_getElem?_getD, List.getElem?_map, List.getElem?_range (by omega)]
  simp
def zrT : List Bool := (List.range 256).map fun j => decide (j = 48)
theorem zrT_iff (b : UInt8) : zrT.getD (Int.toNat (b.toNat : Int)) false = true ↔ b.toNat = 48 := by
  have hb := b.toNat_lt
  rw [toN, zrT, List.getD_eq_getElem?_getD, List.getElem?_map, List.getElem?_range (by omega)]
  simp
/-- A word without zeros in front. -/
noncomputable def zer (w : ByteArray) : ByteArray := trimLT zrT w
def or2 (x y : Int) : Int := if x ≠ 0 then x else y
/-- Whether a word has digits alone, as the program asks. -/
noncomputable def isDw (w : ByteArray) : Bool := eqv (trimT digT w) ⟨#[]⟩
noncomputable def cwP (a b : ByteArray) : Int := if (isDw a && isDw b) = true then or2 (Lib.compareInt (zer a).size (zer b).size) (cmpB (zer a) (zer b)) else if isDw a = true then -1 else if isDw b = true then 1 else cmpB a b
theorem cw_two {a b : ByteArray} (h : (isDw a && isDw b) = true) : cwP a b = or2 (Lib.compareInt (zer a).size (zer b).size) (cmpB (zer a) (zer b)) := if_pos h
theorem cw_one {a b : ByteArray} (h : (isDw a && isDw b) = false) (h1 : isDw a = true) : cwP a b = -1 := by rw [cwP, if_neg (by rw [h]; decide), if_pos h1]
theorem cw_oth {a b : ByteArray} (h : (isDw a && isDw b) = false) (h1 : isDw a = false) (h2 : isDw b = true) : cwP a b = 1 := by rw [cwP, if_neg (by rw [h]; decide), if_neg (by rw [h1]; decide), if_pos h2]
theorem cw_no {a b : ByteArray} (h : (isDw a && isDw b) = false) (h1 : isDw a = false) (h2 : isDw b = false) : cwP a b = cmpB a b := by rw [cwP, if_neg (by rw [h]; decide), if_neg (by rw [h1]; decide), if_neg (by rw [h2]; decide)]
/-! ### Rows compared -/
def cmpL (f : ByteArray → ByteArray → Int) : List ByteArray → List ByteArray → Int
  | [], [] => 0
  | [], _ :: _ => -1
  | _ :: _, [] => 1
  | a :: l, b :: m => if f a b ≠ 0 then f a b else cmpL f l m
theorem cl_ne {f : ByteArray → ByteArray → Int} : ∀ {l m : List ByteArray} {z : Nat} {a b : ByteArray}, l[z]? = some a → m[z]? = some b → (∀ i x y, i < z → l[i]? = some x → m[i]? = some y → f x y = 0) → f a b ≠ 0 → cmpL f l m = f a b
  | [], _, z, a, b, ha, _, _, _ => by simp at ha
  | _ :: _, [], z, a, b, _, hb, _, _ => by simp at hb
  | x :: l, y :: m, 0, a, b, ha, hb, _, hn => by
    simp only [List.getElem?_cons_zero, Option.some.injEq] at ha hb
    subst ha hb
    rw [cmpL, if_pos hn]
  | x :: l, y :: m, z + 1, a, b, ha, hb, h0, hn => by
    have h1 := h0 0 x y (by omega) rfl rfl
    simp only [List.getElem?_cons_succ] at ha hb
    rw [cmpL, if_neg (by rw [h1]; exact fun h => h rfl)]
    exact cl_ne ha hb (fun i u v hi hu hv => h0 (i + 1) u v (by omega) (by simpa using hu) (by simpa using hv)) hn
theorem cl_len {f : ByteArray → ByteArray → Int} : ∀ {l m : List ByteArray} {z : Nat}, (∀ i x y, i < z → l[i]? = some x → m[i]? = some y → f x y = 0) → l.length ≤ z ∨ m.length ≤ z → cmpL f l m = (if l.length < m.length then -1 else if m.length < l.length then 1 else 0)
  | [], [], _, _, _ => rfl
  | [], _ :: _, _, _, _ => by rw [cmpL]; simp
  | _ :: _, [], _, _, _ => by rw [cmpL]; simp
  | x :: l, y :: m, 0, _, h => by simp at h
  | x :: l, y :: m, z + 1, h0, h => by
    have h1 := h0 0 x y (by omega) rfl rfl
    rw [cmpL, if_neg (by rw [h1]; exact fun h => h rfl)]
    rw [cl_len (z := z) (fun i u v hi hu hv => h0 (i + 1) u v (by omega) (by simpa using hu) (by simpa using hv)) (by simp only [List.length_cons] at h; omega)]
    simp only [List.length_cons, Nat.add_lt_add_iff_right]
/-! ### Names -/
noncomputable def theQ (x : ByteArray) : Bool := eqv x ⟨#[97]⟩ || eqv x ⟨#[97, 110]⟩ || eqv x ⟨#[116, 104, 101]⟩
def fstB (x : ByteArray) : ByteArray := (splB 32 x).headD .empty
theorem fst_get (x : ByteArray) : (splB 32 x)[Int.toNat 0]? = some (fstB x) := by
  have h : (splB 32 x).length = cnB 32 x + 1 := splB_len 32 x
  rw [fstB]
  cases hl : splB 32 x with
  | nil => rw [hl] at h; cases h
  | cons a l => rfl
noncomputable def fwP (x : ByteArray) : List ByteArray := if (decide (((splB 32 x).length : Int) > 1) && theQ (fstB x)) = true then (splB 32 x).drop 1 else splB 32 x
theorem fw_yes {x : ByteArray} (h : (decide (((splB 32 x).length : Int) > 1) && theQ (fstB x)) = true) : fwP x = (splB 32 x).drop 1 := if_pos h
theorem fw_no {x : ByteArray} (h : (decide (((splB 32 x).length : Int) > 1) && theQ (fstB x)) = false) : fwP x = splB 32 x := if_neg (by rw [h]; decide)
noncomputable def cnP (a b : ByteArray) : Int := or2 (cmpL cwP (fwP a) (fwP b)) (cmpB a b)
/-- What may be a name of an entry. -/
def enW (w : ByteArray) : Prop := w ≠ .empty ∧ ∀ i, i < w.size → inT alnT w i
def enOK (x : ByteArray) : Prop := 1 ≤ x.size ∧ x.size ≤ 24 ∧ ∀ w ∈ splB 32 x, enW w
theorem enW_trim {w : ByteArray} : (eqv w ⟨#[]⟩ || !(eqv (trimT alnT w) ⟨#[]⟩)) = false ↔ enW w := by
  rw [Bool.or_eq_false_iff, eqv_false_iff, Bool.not_eq_false', eqv_iff]
  show (w ≠ .empty ∧ trimT alnT w = .empty) ↔ _
  rw [trimT_iff]; rfl
theorem fw_mem {x w : ByteArray} (h : w ∈ fwP x) : w ∈ splB 32 x := by
  rw [fwP] at h
  split at h
  · exact List.mem_of_mem_drop h
  · exact h
/-! ### The other way -/
noncomputable def spD (w : ByteArray) : Bool := tt (∀ i, i < w.size → ∃ b, w[i]? = some b ∧ b.toNat ≤ 57)
theorem spD_same {w : ByteArray} (h : enW w) : spD w = isDw w := by
  apply Bool.eq_iff_iff.2
  rw [spD, tt_iff, isDw, eqv_iff]
  show _ ↔ trimT digT w = .empty
  rw [trimT_iff]
  constructor
  · intro h1 i hi
    obtain ⟨b, hb, h2⟩ := h1 i hi
    obtain ⟨b', hb', h3⟩ := h.2 i hi
    rw [hb] at hb'; obtain rfl := Option.some.inj hb'
    have h4 := (alnT_iff b).1 h3
    exact ⟨b, hb, (digT_iff b).2 (by omega)⟩
  · intro h1 i hi
    obtain ⟨b, hb, h2⟩ := h1 i hi
    exact ⟨b, hb, ((digT_iff b).1 h2).2⟩
noncomputable def cwS (a b : ByteArray) : Int := if (spD a && spD b) = true then or2 (Lib.compareInt (zer a).size (zer b).size) (cmpB (zer a) (zer b)) else if spD a = true then -1 else if spD b = true then 1 else cmpB a b
theorem cwS_same {a b : ByteArray} (ha : enW a) (hb : enW b) : cwS a b = cwP a b := by rw [cwS, cwP, spD_same ha, spD_same hb]
theorem cmpL_congr {f g : ByteArray → ByteArray → Int} : ∀ {l m : List ByteArray}, (∀ a ∈ l, ∀ b ∈ m, f a b = g a b) → cmpL f l m = cmpL g l m
  | [], [], _ => rfl
  | [], _ :: _, _ => rfl
  | _ :: _, [], _ => rfl
  | x :: l, y :: m, h => by
    rw [cmpL, cmpL, h x (by simp) y (by simp), cmpL_congr fun a ha b hb => h a (by simp [ha]) b (by simp [hb])]
noncomputable def cnS (a b : ByteArray) : Int := or2 (cmpL cwS (fwP a) (fwP b)) (cmpB a b)
theorem cn_same {a b : ByteArray} (ha : enOK a) (hb : enOK b) : cnS a b = cnP a b := by
  rw [cnS, cnP, cmpL_congr fun u hu v hv => cwS_same (ha.2.2 u (fw_mem hu)) (hb.2.2 v (fw_mem hv))]
end Go.Proofs.YtbckpmjiimiceaaDoor.VL
