/- Proved here: what is said of names that are filed, of their guides and drawers (FnFiled). Plain Lean. -/
import Derived.Test.YtbckpmjiimiceaaDoorPXF
import Derived.Test.YtbckpmjiimiceaaDoorPZQ
set_option linter.unusedVariables false
set_option linter.unusedSimpArgs false
namespace Go.Proofs.YtbckpmjiimiceaaDoor.VL
open Go
/-! ### Names that are drawn -/
def calledL : List ByteArray := [⟨#[97, 110, 105, 109, 97, 108]⟩, ⟨#[100, 111, 103]⟩, ⟨#[104, 111, 117, 110, 100]⟩, ⟨#[99, 97, 116]⟩, ⟨#[116, 104, 101, 32, 57, 32, 108, 105, 118, 101, 115]⟩, ⟨#[49, 48, 32, 108, 105, 118, 101, 115]⟩, ⟨#[97, 32, 100, 111, 103]⟩, ⟨#[97, 110, 32, 97, 110, 116]⟩, ⟨#[98, 105, 114, 100, 32, 48, 48, 55]⟩, ⟨#[98, 105, 114, 100, 32, 55]⟩, ⟨#[115, 116, 111, 110, 101]⟩, ⟨#[116, 104, 101]⟩, ⟨#[119, 97, 116, 101, 114, 32, 50, 98]⟩, ⟨#[50, 98]⟩, ⟨#[97]⟩, ⟨#[102, 105, 115, 104]⟩]
def enWb (w : ByteArray) : Bool := decide (0 < w.size) && (bL w).all fun b => alnT.getD b.toNat false
theorem enWb_ok {w : ByteArray} (h : enWb w = true) : enW w := by
  rw [enWb, Bool.and_eq_true, decide_eq_true_eq, List.all_eq_true] at h
  refine ⟨fun e => by rw [e] at h; exact absurd h.1 (by decide), fun i hi => ?_⟩
  exact ⟨_, bt_get hi, h.2 _ (by rw [bytA, List.getD_eq_getElem?_getD, List.getElem?_eq_getElem (by rw [bL_len]; exact hi)]; exact List.getElem_mem _)⟩
def enOKb (x : ByteArray) : Bool := decide (1 ≤ x.size) && decide (x.size ≤ 24) && (splB 32 x).all enWb
theorem enOKb_ok {x : ByteArray} (h : enOKb x = true) : enOK x := by
  rw [enOKb, Bool.and_eq_true, Bool.and_eq_true, decide_eq_true_eq, decide_eq_true_eq, List.all_eq_true] at h
  exact ⟨h.1.1, h.1.2, fun w hw => enWb_ok (h.2 w hw)⟩
theorem called_ok : okNs calledL := fun x hx => enOKb_ok (List.all_eq_true.1 (show calledL.all enOKb = true by decide +kernel) x hx)
theorem stone_ok : enOK ⟨#[115, 116, 111, 110, 101]⟩ := called_ok _ (by simp [calledL])
theorem txtD_mem {m : Int} {s : DSrc} {l : List ByteArray} (h : srcI m s) (hl : 1 ≤ l.length) : txtD s l ∈ l := List.mem_of_getElem? (txtD_get h hl)
theorem ok_add {names : List ByteArray} {x : ByteArray} (h : okNs names) (hx : enOK x) : okNs (names ++ [x]) := by
  intro u hu
  rcases List.mem_append.1 hu with h1 | h1
  · exact h u h1
  · rw [List.mem_singleton.1 h1]; exact hx
theorem or2_in {a b : Int} (h : -1 ≤ a ∧ a ≤ 1) (h' : -1 ≤ b ∧ b ≤ 1) : -1 ≤ or2 a b ∧ or2 a b ≤ 1 := by unfold or2; split <;> omega
theorem cb1_in (x y : ByteArray) : -1 ≤ cmpB x y ∧ cmpB x y ≤ 1 := by have := cmpB_in x y; omega
theorem ci_in (x y : Int) : -1 ≤ Lib.compareInt x y ∧ Lib.compareInt x y ≤ 1 := by unfold Lib.compareInt; split <;> (try split) <;> omega
theorem cwP_in (x y : ByteArray) : -1 ≤ cwP x y ∧ cwP x y ≤ 1 := by
  unfold cwP
  split
  · exact or2_in (ci_in _ _) (cb1_in _ _)
  · split
    · omega
    · split
      · omega
      · exact cb1_in _ _
theorem cmpL_in {f : ByteArray → ByteArray → Int} (hf : ∀ x y, -1 ≤ f x y ∧ f x y ≤ 1) : ∀ l m : List ByteArray, -1 ≤ cmpL f l m ∧ cmpL f l m ≤ 1
  | [], [] => by rw [cmpL]; omega
  | [], _ :: _ => by rw [cmpL]; omega
  | _ :: _, [] => by rw [cmpL]; omega
  | a :: l, b :: m => by
    rw [cmpL]; split
    · exact hf a b
    · exact cmpL_in hf l m
theorem cnP_in (x y : ByteArray) : -1 ≤ cnP x y ∧ cnP x y ≤ 1 := or2_in (cmpL_in cwP_in _ _) (cb1_in _ _)
/-! ### The law -/
noncomputable def nmF (names : List ByteArray) (i : Nat) : ByteArray := gdF names (filP names) i
theorem nmF_ok {names : List ByteArray} (h : okNs names) {i : Nat} (hi : i < names.length) : enOK (nmF names i) := h _ (gdF_in hi).2.2
theorem ck_ok {names : List ByteArray} (h : okNs names) (hl : names.length ≤ 8) {per : Int} (hp : 1 ≤ per ∧ per ≤ 100) : ckS names per = 0 := ckS_ok (badN_no.2 h) (by omega) (inb_all.2 hp)
theorem nm_anti (names : List ByteArray) (i k : Nat) : cnP (nmF names i) (nmF names k) = - cnP (nmF names k) (nmF names i) := cnP_p.anti _ _
theorem nm_zero (names : List ByteArray) (i k : Nat) : (cnP (nmF names i) (nmF names k) == 0) = eqv (nmF names i) (nmF names k) := by
  apply Bool.eq_iff_iff.2
  rw [beq_iff_eq, cnP_zero, eqv_iff]
theorem nm_stab {names : List ByteArray} {i k : Nat} (hik : i < k) (hk : k < names.length) : cnP (nmF names i) (nmF names k) ≤ 0 ∧ (cnP (nmF names i) (nmF names k) = 0 → (filP names).getD i 0 < (filP names).getD k 0) :=
  stab_at hik (gdF_in (by omega)).1 (gdF_in hk).1
theorem nm_le {names : List ByteArray} {i k : Nat} (hik : i ≤ k) (hk : k < names.length) : cnP (nmF names i) (nmF names k) ≤ 0 := stab_le hik (gdF_in (by omega)).1 (gdF_in hk).1
theorem gdP_eq (names : List ByteArray) {p : Nat} (hp : 1 ≤ p) : gdP names (p : Int) names.length = (List.range ((names.length + p - 1) / p)).map fun t => nmF names (t * p) := by
  rw [gdP, mult_filter hp, List.map_map]; rfl
theorem gdP_cnt (names : List ByteArray) {per : Int} (hp : 1 ≤ per) : ((gdP names per names.length).length : Int) = Int.tdiv ((names.length : Int) + per - 1) per := by
  obtain ⟨p, rfl⟩ : ∃ p : Nat, per = (p : Int) := ⟨per.toNat, by omega⟩
  rw [gdP_eq names (by omega), List.length_map, List.length_range, show (names.length : Int) + (p : Int) - 1 = ((names.length + p - 1 : Nat) : Int) by omega]
  rfl
theorem lastI_ge {q : ByteArray → Bool} {g : List ByteArray} {j : Nat} (hj : q (g.getD j .empty) = true) : ∀ {z : Nat}, j < z → (j : Int) ≤ lastI q g z
  | 0, h => absurd h (Nat.not_lt_zero _)
  | z + 1, h => by
    rw [lastI]; split
    · omega
    · rename_i hn
      have h1 : j ≠ z := fun e => hn (by rw [← e]; exact hj)
      exact lastI_ge hj (by omega)
theorem lastI_sat (q : ByteArray → Bool) (g : List ByteArray) : ∀ z : Nat, lastI q g z = 0 ∨ q (g.getD (lastI q g z).toNat .empty) = true
  | 0 => .inl rfl
  | z + 1 => by
    rw [lastI]; split
    · rename_i h; exact .inr h
    · exact lastI_sat q g z
noncomputable def drA (names : List ByteArray) (per : Int) (i : Nat) : Int := lastI (leN (nmF names i)) (gdP names per names.length) (gdP names per names.length).length
noncomputable def drG (names : List ByteArray) (per : Int) (i : Nat) : ByteArray := (gdP names per names.length).getD (drA names per i).toNat .empty
theorem dr_law {names : List ByteArray} {per : Int} (hp : 1 ≤ per) {i : Nat} (hi : i < names.length) :
    0 ≤ drA names per i ∧ drA names per i < (gdP names per names.length).length ∧ Int.tdiv (i : Int) per ≤ drA names per i ∧ (drA names per i > Int.tdiv (i : Int) per → drG names per i = nmF names i) ∧ (gdP names per names.length)[Int.toNat (drA names per i)]? = some (drG names per i) := by
  obtain ⟨p, rfl⟩ : ∃ p : Nat, per = (p : Int) := ⟨per.toNat, by omega⟩
  have hp' : 1 ≤ p := by omega
  have hin := lastI_in (leN (nmF names i)) (gdP names (p : Int) names.length) (gdP names (p : Int) names.length).length
  have hne : 0 < (gdP names (p : Int) names.length).length := List.length_pos_iff.2 (gdP_nil (List.ne_nil_of_length_pos (by omega)))
  have hlt := hin.2.2 hne
  have hlen : (gdP names (p : Int) names.length).length = (names.length + p - 1) / p := by rw [gdP_eq names hp', List.length_map, List.length_range]
  have hat : ∀ j, j < (gdP names (p : Int) names.length).length → (gdP names (p : Int) names.length).getD j .empty = nmF names (j * p) ∧ j * p < names.length := by
    intro j hj
    have h2 : j * p < names.length := by
      rw [hlen] at hj
      have h3 : (j + 1) * p ≤ names.length + p - 1 := Nat.le_trans (Nat.mul_le_mul_right p hj) (Nat.div_mul_le_self _ _)
      rw [Nat.add_mul] at h3; omega
    refine ⟨?_, h2⟩
    rw [gdP_eq names hp', List.getD_eq_getElem?_getD, List.getElem?_map, List.getElem?_range (by omega)]; rfl
  have htd : Int.tdiv (i : Int) (p : Int) = ((i / p : Nat) : Int) := rfl
  have hdm := Nat.div_add_mod i p
  have hml := Nat.mod_lt i (show 0 < p by omega)
  have hcm : p * (i / p) = i / p * p := Nat.mul_comm _ _
  have hjl : i / p < (gdP names (p : Int) names.length).length := by
    rw [hlen, Nat.lt_iff_add_one_le, Nat.le_div_iff_mul_le (by omega), Nat.add_mul]; omega
  have hnn : (0 : Int) ≤ ((i / p : Nat) : Int) := Int.natCast_nonneg _
  have hge := lastI_ge (q := leN (nmF names i)) (g := gdP names (p : Int) names.length) (j := i / p) (by
    rw [(hat _ hjl).1]; exact decide_eq_true (nm_le (by omega) hi)) hjl
  refine ⟨hin.1, hlt, by rw [htd]; exact hge, fun hgt => ?_, ?_⟩
  · rw [htd] at hgt
    rcases lastI_sat (leN (nmF names i)) (gdP names (p : Int) names.length) (gdP names (p : Int) names.length).length with h0 | h1
    · have : drA names (p : Int) i = 0 := h0
      omega
    · have h2 : drG names (p : Int) i = nmF names ((drA names (p : Int) i).toNat * p) := (hat _ (by have : drA names (p : Int) i < (gdP names (p : Int) names.length).length := hlt; omega)).1
      have h3 : (drA names (p : Int) i).toNat * p < names.length := (hat _ (by have : drA names (p : Int) i < (gdP names (p : Int) names.length).length := hlt; omega)).2
      have h4 : cnP (drG names (p : Int) i) (nmF names i) ≤ 0 := of_decide_eq_true h1
      have hnn : (0 : Int) ≤ ((i / p : Nat) : Int) := Int.natCast_nonneg _
      have h5 : i / p + 1 ≤ (drA names (p : Int) i).toNat := by omega
      have h6 := Nat.mul_le_mul_right p h5
      rw [Nat.add_mul] at h6
      have h7 : cnP (nmF names i) (drG names (p : Int) i) ≤ 0 := by rw [h2]; exact nm_le (by omega) h3
      have h8 := cnP_p.anti (nmF names i) (drG names (p : Int) i)
      exact cnP_zero.1 (by omega)
  · have : drA names (p : Int) i < (gdP names (p : Int) names.length).length := hlt
    rw [drG, List.getD_eq_getElem?_getD, List.getElem?_eq_getElem (by omega)]; rfl
theorem drw_at {names : List ByteArray} (h : okNs names) (hl : names.length ≤ 8) {per : Int} (hp : 1 ≤ per ∧ per ≤ 100) {i : Nat} (hi : i < names.length) : drwR names per (nmF names i) = (drA names per i, 0) :=
  drw_yes (tt_iff.2 (nmF_ok h hi)) (ck_ok h hl hp) (List.ne_nil_of_length_pos (by omega))
theorem drw_no {names : List ByteArray} (h : okNs names) {per : Int} (hp : 1 ≤ per ∧ per ≤ 100) (hn : names.length = 0) : drwR names per ⟨#[115, 116, 111, 110, 101]⟩ = (0, 6) :=
  drw_nil (tt_iff.2 stone_ok) (ck_ok h (by omega) hp) (List.eq_nil_of_length_eq_zero hn)
end Go.Proofs.YtbckpmjiimiceaaDoor.VL
