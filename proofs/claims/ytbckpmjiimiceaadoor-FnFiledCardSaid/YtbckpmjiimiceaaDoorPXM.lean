/- Proved here: insertion and symmetric merges sort a row stably. Plain Lean. -/
import Derived.Test.YtbckpmjiimiceaaDoorPXR
set_option linter.unusedVariables false
set_option linter.unusedSimpArgs false
namespace Go.Proofs.YtbckpmjiimiceaaDoor.VL
open Go
section
variable {α : Type}
/-! ### Insertion -/
def insR (q : α → α → Int) (x : α) : List α → List α
  | [] => [x]
  | z :: T => if q x z < 0 then z :: insR q x T else x :: z :: T
def isR (q : α → α → Int) (l : List α) : List α := l.foldl (fun T x => insR q x T) []
def isort (q : α → α → Int) (l : List α) : List α := (isR q l).reverse
def midS (T : List α) (k : Nat) (x : α) : List α := (T.drop k).reverse ++ x :: (T.take k).reverse
variable {q : α → α → Int} {p : α → Prop}
theorem ins_app {x : α} {U : List α} : ∀ {V : List α}, (∀ z ∈ V, q x z < 0) → (U = [] ∨ ∃ z U', U = z :: U' ∧ ¬ q x z < 0) → insR q x (V ++ U) = V ++ x :: U
  | [], _, hU => by
    rcases hU with rfl | ⟨z, U', rfl, h⟩
    · rfl
    · rw [List.nil_append, insR, if_neg h]; rfl
  | z :: V, hV, hU => by
    rw [List.cons_append, insR, if_pos (hV z (by simp)), ins_app (fun t ht => hV t (by simp [ht])) hU]; rfl
theorem mid_end {T : List α} {x : α} {k : Nat} (h : ∀ z ∈ T.take k, q x z < 0) (he : T.length ≤ k ∨ ∃ z, T[k]? = some z ∧ ¬ q x z < 0) : midS T k x = (insR q x T).reverse := by
  have h1 : insR q x (T.take k ++ T.drop k) = T.take k ++ x :: T.drop k := by
    refine ins_app h ?_
    rcases he with he | ⟨z, hz, hn⟩
    · exact .inl (List.drop_eq_nil_of_le he)
    · obtain ⟨hl, rfl⟩ := List.getElem?_eq_some_iff.1 hz
      exact .inr ⟨_, _, List.drop_eq_getElem_cons hl, hn⟩
  rw [List.take_append_drop] at h1
  rw [h1, midS]; simp
theorem mid_zero (T : List α) (x : α) : midS T 0 x = T.reverse ++ [x] := by simp [midS]
theorem two_at {P Q : List α} {y x : α} : (P ++ y :: x :: Q)[P.length]? = some y ∧ (P ++ y :: x :: Q)[P.length + 1]? = some x ∧ ((P ++ y :: x :: Q).set (P.length + 1) y).set P.length x = P ++ x :: y :: Q := by
  refine ⟨by simp, by simp, ?_⟩
  rw [List.set_append_right _ _ (by omega), show P.length + 1 - P.length = 1 by omega, List.set_append_right _ _ (by omega), Nat.sub_self]; rfl
theorem mid_form {L R T : List α} {x y : α} {k : Nat} (hy : T[k]? = some y) : L ++ (midS T k x ++ R) = (L ++ (T.drop (k + 1)).reverse) ++ y :: x :: ((T.take k).reverse ++ R) ∧ L ++ (midS T (k + 1) x ++ R) = (L ++ (T.drop (k + 1)).reverse) ++ x :: y :: ((T.take k).reverse ++ R) ∧ (L ++ (T.drop (k + 1)).reverse).length + k + 1 = L.length + T.length := by
  obtain ⟨hl, rfl⟩ := List.getElem?_eq_some_iff.1 hy
  refine ⟨?_, ?_, ?_⟩
  · rw [midS, List.drop_eq_getElem_cons hl]; simp only [List.reverse_cons, List.append_assoc, List.cons_append, List.nil_append]
  · rw [midS, List.take_succ_eq_append_getElem hl]; simp only [List.reverse_append, List.reverse_cons, List.reverse_nil, List.append_assoc, List.cons_append, List.nil_append]
  · rw [List.length_append, List.length_reverse, List.length_drop]; omega
theorem mid_step {L R T : List α} {x y : α} {k i : Nat} (hy : T[k]? = some y) (hi : i + k + 1 = L.length + T.length) :
    (L ++ (midS T k x ++ R))[i]? = some y ∧ (L ++ (midS T k x ++ R))[i + 1]? = some x ∧ ((L ++ (midS T k x ++ R)).set (i + 1) y).set i x = L ++ (midS T (k + 1) x ++ R) := by
  obtain ⟨h1, h2, h3⟩ := mid_form (L := L) (R := R) (x := x) hy
  obtain rfl : i = (L ++ (T.drop (k + 1)).reverse).length := by omega
  rw [h1, h2]; exact two_at
theorem isR_len (l : List α) : ∀ T : List α, (l.foldl (fun T x => insR q x T) T).length = T.length + l.length := by
  have h1 : ∀ (x : α) (T : List α), (insR q x T).length = T.length + 1 := by
    intro x T
    induction T with
    | nil => rfl
    | cons z T ih => rw [insR]; split <;> simp [ih]
  induction l with
  | nil => intro T; rfl
  | cons x l ih => intro T; rw [List.foldl_cons, ih, h1, List.length_cons]; omega
theorem isort_len (l : List α) : (isort q l).length = l.length := by rw [isort, List.length_reverse, isR, isR_len]; simp
theorem insR_mem {x y : α} : ∀ {T : List α}, y ∈ insR q x T ↔ y = x ∨ y ∈ T
  | [] => by simp [insR]
  | z :: T => by
    rw [insR]; split
    · rw [List.mem_cons, insR_mem, List.mem_cons, or_left_comm]
    · simp
theorem isR_mem {l : List α} : ∀ {T : List α} {y : α}, y ∈ l.foldl (fun T x => insR q x T) T ↔ y ∈ l ∨ y ∈ T := by
  induction l with
  | nil => intro T y; simp
  | cons x l ih => intro T y; rw [List.foldl_cons, ih, insR_mem, List.mem_cons, or_left_comm, or_assoc]
theorem isort_mem {l : List α} {y : α} : y ∈ isort q l ↔ y ∈ l := by rw [isort, List.mem_reverse, isR, isR_mem]; simp
theorem isR_more (l : List α) (x : α) : isR q (l ++ [x]) = insR q x (isR q l) := by rw [isR, List.foldl_append]; rfl
theorem isort_more {l : List α} {x : α} : isort q (l ++ [x]) = (insR q x (isR q l)).reverse := by rw [isort, isR_more]
/-- What a comparison must keep to on what is compared. -/
structure TPre (q : α → α → Int) (p : α → Prop) : Prop where
  tot : ∀ {x y}, p x → p y → q x y < 0 → ¬ q y x < 0
  tr : ∀ {x y z}, p x → p y → p z → ¬ q y x < 0 → ¬ q z y < 0 → ¬ q z x < 0
theorem TPre.lt_le (h : TPre q p) {x y z : α} (hx : p x) (hy : p y) (hz : p z) (h1 : q x y < 0) (h2 : ¬ q z y < 0) : q x z < 0 := by
  apply Decidable.byContradiction; intro hn
  exact h.tr hy hz hx h2 hn h1
theorem TPre.le_lt (h : TPre q p) {x y z : α} (hx : p x) (hy : p y) (hz : p z) (h1 : ¬ q y x < 0) (h2 : q y z < 0) : q x z < 0 := by
  apply Decidable.byContradiction; intro hn
  exact h.tr hz hx hy hn h1 h2
/-- In order. -/
def srtQ (q : α → α → Int) (l : List α) : Prop := l.Pairwise fun x y => ¬ q y x < 0
theorem ins_srt (ht : TPre q p) {x : α} (hx : p x) : ∀ {T : List α}, (∀ z ∈ T, p z) → (T.Pairwise fun x y => ¬ q x y < 0) → (insR q x T).Pairwise fun x y => ¬ q x y < 0
  | [], _, _ => List.pairwise_singleton _ _
  | z :: T, hp, hs => by
    have hs' := List.pairwise_cons.1 hs
    have hz := hp z (by simp)
    rw [insR]; split
    · rename_i hlt
      refine List.pairwise_cons.2 ⟨fun y hy => ?_, ins_srt ht hx (fun t h => hp t (by simp [h])) hs'.2⟩
      rcases insR_mem.1 hy with rfl | h
      · exact ht.tot hx hz hlt
      · exact hs'.1 y h
    · rename_i hge
      refine List.pairwise_cons.2 ⟨fun y hy => ?_, hs⟩
      rcases List.mem_cons.1 hy with rfl | h
      · exact hge
      · exact ht.tr (hp y (by simp [h])) hz hx (hs'.1 y h) hge
theorem isR_srt (ht : TPre q p) {l : List α} : ∀ {T : List α}, (∀ z ∈ T, p z) → (∀ z ∈ l, p z) → (T.Pairwise fun x y => ¬ q x y < 0) → (l.foldl (fun T x => insR q x T) T).Pairwise fun x y => ¬ q x y < 0 := by
  induction l with
  | nil => intro T _ _ h; exact h
  | cons x l ih =>
    intro T hT hl hs
    refine ih (fun z hz => ?_) (fun z hz => hl z (by simp [hz])) (ins_srt ht (hl x (by simp)) hT hs)
    rcases insR_mem.1 hz with rfl | h
    · exact hl _ (by simp)
    · exact hT z h
theorem isort_srt (ht : TPre q p) {l : List α} (hl : ∀ z ∈ l, p z) : srtQ q (isort q l) := List.pairwise_reverse.2 (isR_srt ht (fun _ h => by cases h) hl List.Pairwise.nil)
/-! ### Merges -/
def smg (q : α → α → Int) : List α → List α → List α
  | [], B => B
  | x :: A, [] => x :: A
  | x :: A, y :: B => if q y x < 0 then y :: smg q (x :: A) B else x :: smg q A (y :: B)
termination_by A B => A.length + B.length
theorem smg_nil (B : List α) : smg q [] B = B := by rw [smg]
theorem smg_right : ∀ A : List α, smg q A [] = A
  | [] => by rw [smg]
  | x :: A => by rw [smg]
theorem smg_split : ∀ {A1 A2 B1 B2 : List α}, (∀ x ∈ A1, ∀ y ∈ B2, ¬ q y x < 0) → (∀ x ∈ A2, ∀ y ∈ B1, q y x < 0) → smg q (A1 ++ A2) (B1 ++ B2) = smg q A1 B1 ++ smg q A2 B2
  | [], A2, [], B2, _, _ => by rw [smg_nil]; rfl
  | [], [], y :: B1, B2, _, _ => by simp [smg_nil]
  | [], x :: A2, y :: B1, B2, h1, h2 => by
    have ih := smg_split (A1 := []) (A2 := x :: A2) (B1 := B1) (B2 := B2) h1 (fun u hu v hv => h2 u hu v (by simp [hv]))
    rw [smg_nil, List.nil_append] at ih ⊢
    rw [List.cons_append, smg, if_pos (h2 x (by simp) y (by simp)), ih]; rfl
  | x :: A1, A2, [], [], _, _ => by simp [smg_right]
  | x :: A1, A2, [], y :: B2, h1, h2 => by
    have ih := smg_split (A1 := A1) (A2 := A2) (B1 := []) (B2 := y :: B2) (fun u hu v hv => h1 u (by simp [hu]) v hv) h2
    rw [smg_right, List.nil_append] at ih ⊢
    rw [List.cons_append, smg, if_neg (h1 x (by simp) y (by simp)), ih]; rfl
  | x :: A1, A2, y :: B1, B2, h1, h2 => by
    rw [List.cons_append, List.cons_append, smg, smg]
    by_cases h : q y x < 0
    · rw [if_pos h, if_pos h]
      have ih := smg_split (A1 := x :: A1) (A2 := A2) (B1 := B1) (B2 := B2) h1 (fun u hu v hv => h2 u hu v (by simp [hv]))
      rw [List.cons_append] at ih
      rw [ih]; rfl
    · rw [if_neg h, if_neg h]
      have ih := smg_split (A1 := A1) (A2 := A2) (B1 := y :: B1) (B2 := B2) (fun u hu v hv => h1 u (by simp [hu]) v hv) h2
      rw [List.cons_append] at ih
      rw [ih]; rfl
termination_by A1 A2 B1 B2 => A1.length + B1.length
theorem smg_mem {x : α} : ∀ {A B : List α}, x ∈ smg q A B ↔ x ∈ A ∨ x ∈ B
  | [], B => by rw [smg_nil]; simp
  | a :: A, [] => by rw [smg_right]; simp
  | a :: A, b :: B => by
    rw [smg]; split
    · rw [List.mem_cons, smg_mem, List.mem_cons, List.mem_cons]; grind
    · rw [List.mem_cons, smg_mem, List.mem_cons, List.mem_cons]; grind
termination_by A B => A.length + B.length
theorem smg_len : ∀ {A B : List α}, (smg q A B).length = A.length + B.length
  | [], B => by rw [smg_nil]; simp
  | a :: A, [] => by rw [smg_right]; simp
  | a :: A, b :: B => by
    rw [smg]; split
    · rw [List.length_cons, smg_len]; simp only [List.length_cons]; omega
    · rw [List.length_cons, smg_len]; simp only [List.length_cons]; omega
termination_by A B => A.length + B.length
theorem srt_split (ht : TPre q p) {x : α} (hx : p x) : ∀ {S : List α}, (∀ z ∈ S, p z) → srtQ q S → ∃ S1 S2, S = S1 ++ S2 ∧ (∀ z ∈ S1, ¬ q x z < 0) ∧ (∀ z ∈ S2, q x z < 0)
  | [], _, _ => ⟨[], [], rfl, (fun _ h => by cases h), (fun _ h => by cases h)⟩
  | s :: S, hp, hs => by
    have hs' := List.pairwise_cons.1 hs
    by_cases h : q x s < 0
    · refine ⟨[], s :: S, rfl, (fun _ h => by cases h), fun z hz => ?_⟩
      rcases List.mem_cons.1 hz with rfl | h1
      · exact h
      · exact ht.lt_le hx (hp s (by simp)) (hp z (by simp [h1])) h (hs'.1 z h1)
    · obtain ⟨S1, S2, rfl, h1, h2⟩ := srt_split ht hx (fun z hz => hp z (by simp [hz])) hs'.2
      refine ⟨s :: S1, S2, rfl, fun z hz => ?_, h2⟩
      rcases List.mem_cons.1 hz with rfl | h3
      · exact h
      · exact h1 z h3
/-- Put in from behind. -/
def insF (q : α → α → Int) (x : α) (S : List α) : List α := (insR q x S.reverse).reverse
theorem insF_app {x : α} {U V : List α} (hV : ∀ z ∈ V, q x z < 0) (hU : ∀ z ∈ U, ¬ q x z < 0) : insF q x (U ++ V) = U ++ x :: V := by
  rw [insF, List.reverse_append, ins_app (fun z hz => hV z (by simpa using hz))]
  · simp
  · cases h : U.reverse with
    | nil => exact .inl rfl
    | cons z U' => exact .inr ⟨z, U', rfl, hU z (by rw [← List.mem_reverse, h]; simp)⟩
theorem smg_ins (ht : TPre q p) {x : α} (hx : p x) {S T : List α} (hS : ∀ z ∈ S, p z) (hT : ∀ z ∈ T, p z) (hs : srtQ q S) (hs' : srtQ q T) : smg q S (insF q x T) = insF q x (smg q S T) := by
  obtain ⟨S1, S2, rfl, a1, a2⟩ := srt_split ht hx hS hs
  obtain ⟨T1, T2, rfl, b1, b2⟩ := srt_split ht hx hT hs'
  have pS1 : ∀ z ∈ S1, p z := fun z hz => hS z (by simp [hz])
  have pS2 : ∀ z ∈ S2, p z := fun z hz => hS z (by simp [hz])
  have pT1 : ∀ z ∈ T1, p z := fun z hz => hT z (by simp [hz])
  have pT2 : ∀ z ∈ T2, p z := fun z hz => hT z (by simp [hz])
  have c1 : ∀ u ∈ S1, ∀ y ∈ T2, ¬ q y u < 0 := fun u hu y hy => ht.tr (pS1 u hu) hx (pT2 y hy) (a1 u hu) (ht.tot hx (pT2 y hy) (b2 y hy))
  have c2 : ∀ u ∈ S2, ∀ y ∈ T1, q y u < 0 := fun u hu y hy => ht.le_lt (pT1 y hy) hx (pS2 u hu) (b1 y hy) (a2 u hu)
  rw [insF_app b2 b1, smg_split (B1 := T1) (B2 := x :: T2) (fun u hu y hy => ?_) c2, smg_split c1 c2, insF_app]
  · congr 1
    cases S2 with
    | nil => rw [smg_nil, smg_nil]
    | cons s S2 => rw [smg, if_pos (a2 s (by simp))]
  · intro z hz
    rcases smg_mem.1 hz with h | h
    · exact a2 z h
    · exact b2 z h
  · intro z hz
    rcases smg_mem.1 hz with h | h
    · exact a1 z h
    · exact b1 z h
  · rcases List.mem_cons.1 hy with rfl | h
    · exact a1 u hu
    · exact c1 u hu y h
theorem insF_srt (ht : TPre q p) {x : α} (hx : p x) {S : List α} (hS : ∀ z ∈ S, p z) (hs : srtQ q S) : srtQ q (insF q x S) :=
  List.pairwise_reverse.2 (ins_srt ht hx (fun z hz => hS z (by simpa using hz)) (List.pairwise_reverse.2 (by simpa [srtQ] using hs)))
theorem insF_mem {x y : α} {S : List α} : y ∈ insF q x S ↔ y = x ∨ y ∈ S := by rw [insF, List.mem_reverse, insR_mem, List.mem_reverse]
theorem fold_rev (l : List α) : ∀ T : List α, (l.foldl (fun T x => insR q x T) T).reverse = l.foldl (fun S x => insF q x S) T.reverse := by
  induction l with
  | nil => intro T; rfl
  | cons x l ih => intro T; rw [List.foldl_cons, ih, List.foldl_cons]; congr 1; rw [insF, List.reverse_reverse]
theorem fold_smg (ht : TPre q p) {l : List α} : ∀ {S T : List α}, (∀ z ∈ S, p z) → (∀ z ∈ T, p z) → (∀ z ∈ l, p z) → srtQ q S → srtQ q T → l.foldl (fun S x => insF q x S) (smg q S T) = smg q S (l.foldl (fun S x => insF q x S) T) := by
  induction l with
  | nil => intro S T _ _ _ _ _; rfl
  | cons x l ih =>
    intro S T hS hT hl h1 h2
    have hx := hl x (by simp)
    rw [List.foldl_cons, ← smg_ins ht hx hS hT h1 h2, List.foldl_cons]
    refine ih hS (fun z hz => ?_) (fun z hz => hl z (by simp [hz])) h1 (insF_srt ht hx hT h2)
    rcases insF_mem.1 hz with rfl | h
    · exact hx
    · exact hT z h
theorem isort_smg (ht : TPre q p) {A B : List α} (hA : ∀ z ∈ A, p z) (hB : ∀ z ∈ B, p z) : smg q (isort q A) (isort q B) = isort q (A ++ B) := by
  have e : ∀ l : List α, isort q l = l.foldl (fun S x => insF q x S) [] := fun l => fold_rev l []
  rw [e (A ++ B), List.foldl_append, ← e A, e B, ← fold_smg ht (fun z hz => hA z (isort_mem.1 hz)) (fun _ h => by cases h) hB (isort_srt ht hA) List.Pairwise.nil, smg_right]
/-! ### Parts of a row merged -/
def smS (q : α → α → Int) (xs : List α) (a m b : Nat) : List α := xs.take a ++ (smg q (prt xs a m) (prt xs m b) ++ xs.drop b)
theorem form_parts {xs L A B R : List α} {a m b : Nat} (h : xs = L ++ (A ++ (B ++ R))) (ha : a = L.length) (hm : m = a + A.length) (hb : b = m + B.length) : xs.take a = L ∧ prt xs a m = A ∧ prt xs m b = B ∧ xs.drop b = R := by
  subst h ha hm hb
  refine ⟨by simp, ?_, ?_, ?_⟩
  · rw [prt, List.drop_left, show L.length + A.length - L.length = A.length by omega, List.take_left]
  · rw [prt, ← List.drop_drop, List.drop_left, List.drop_left, show L.length + A.length + B.length - (L.length + A.length) = B.length by omega, List.take_left]
  · rw [← List.drop_drop, ← List.drop_drop, List.drop_left, List.drop_left, List.drop_left]
theorem form_of {xs : List α} {a m b : Nat} (h : a ≤ m) (hm : m ≤ b) (hb : b ≤ xs.length) : xs = xs.take a ++ (prt xs a m ++ (prt xs m b ++ xs.drop b)) := by
  exact (row_split (xs := xs) (a := a) (b := b) (by omega)).trans (by rw [prt_app h hm]; simp)
theorem sm_form {xs L A B R : List α} {a m b : Nat} (h : xs = L ++ (A ++ (B ++ R))) (ha : a = L.length) (hm : m = a + A.length) (hb : b = m + B.length) : smS q xs a m b = L ++ (smg q A B ++ R) := by
  obtain ⟨h1, h2, h3, h4⟩ := form_parts h ha hm hb
  rw [smS, h1, h2, h3, h4]
theorem ro_form {xs L A B R : List α} {a m b : Nat} (h : xs = L ++ (A ++ (B ++ R))) (ha : a = L.length) (hm : m = a + A.length) (hb : b = m + B.length) : roR xs a m b = L ++ (B ++ (A ++ R)) := by
  have hl : xs.length = b + R.length := by rw [h]; simp; omega
  refine (ofF_ext (roF_lt (by omega) (by omega) (by omega)) (by rw [h]; simp; omega) fun t ht => ?_).symm
  subst h
  unfold roF
  split
  · rw [List.getElem?_append_right (by omega), List.getElem?_append_left (by omega), List.getElem?_append_right (by omega), List.getElem?_append_right (by omega), List.getElem?_append_left (by omega)]; congr 1; omega
  · split
    · rw [List.getElem?_append_right (by omega), List.getElem?_append_right (by omega), List.getElem?_append_left (by omega), List.getElem?_append_right (by omega), List.getElem?_append_left (by omega)]; congr 1; omega
    · by_cases h1 : t < L.length
      · rw [List.getElem?_append_left h1, List.getElem?_append_left h1]
      · rw [List.getElem?_append_right (by omega), List.getElem?_append_right (by omega), List.getElem?_append_right (by omega), List.getElem?_append_right (by omega), List.getElem?_append_right (by omega), List.getElem?_append_right (by omega)]; congr 1; omega
theorem sm_len {xs : List α} {a m b : Nat} (h : a ≤ m) (hm : m ≤ b) (hb : b ≤ xs.length) : (smS q xs a m b).length = xs.length := by
  rw [smS, List.length_append, List.length_append, smg_len, prt_len (by omega), prt_len hb, List.length_take, List.length_drop]; omega
theorem sm_mem {xs : List α} {a m b : Nat} {x : α} (h : x ∈ smS q xs a m b) : x ∈ xs := by
  rw [smS] at h
  rcases List.mem_append.1 h with h | h
  · exact List.mem_of_mem_take h
  · rcases List.mem_append.1 h with h | h
    · rcases smg_mem.1 h with h | h <;> exact prt_mem h
    · exact List.mem_of_mem_drop h
theorem sm_none {xs : List α} {a b : Nat} (h : a ≤ b) : smS q xs a a b = xs := by rw [smS, prt_nil, smg_nil]; exact (row_split h).symm
theorem sm_nil {xs : List α} {a b : Nat} (h : a ≤ b) : smS q xs a b b = xs := by rw [smS, prt_nil, smg_right]; exact (row_split h).symm
theorem srt_last (ht : TPre q p) {l : List α} (hs : srtQ q l) {i j : Nat} {u v : α} (hij : i ≤ j) (hu : l[i]? = some u) (hv : l[j]? = some v) (hp : p v) : ¬ q v u < 0 := by
  rcases Nat.lt_or_ge i j with h | h
  · obtain ⟨li, rfl⟩ := List.getElem?_eq_some_iff.1 hu
    obtain ⟨lj, rfl⟩ := List.getElem?_eq_some_iff.1 hv
    exact List.pairwise_iff_getElem.1 hs i j li lj h
  · obtain rfl : i = j := by omega
    rw [hu] at hv; obtain rfl := Option.some.inj hv
    exact fun h1 => ht.tot hp hp h1 h1
theorem mem_prt {xs : List α} {a b : Nat} {x : α} (h : x ∈ prt xs a b) : ∃ t, a ≤ t ∧ t < b ∧ xs[t]? = some x := by
  obtain ⟨t, ht⟩ := List.getElem?_of_mem h
  obtain ⟨h1, h2⟩ := prt_at ht
  exact ⟨a + t, by omega, by omega, h2⟩
/-- Sorted parts, place by place. -/
theorem srt_at (ht : TPre q p) {xs : List α} (hp : ∀ x ∈ xs, p x) {a b : Nat} (hs : srtQ q (prt xs a b)) {i j : Nat} {u v : α} (h1 : a ≤ i) (hij : i ≤ j) (h2 : j < b) (hu : xs[i]? = some u) (hv : xs[j]? = some v) : ¬ q v u < 0 := by
  refine srt_last ht hs (i := i - a) (j := j - a) (by omega) ?_ ?_ (hp v (List.mem_of_getElem? hv))
  · rw [prt_get, if_pos (by omega), ← hu]; congr 1; omega
  · rw [prt_get, if_pos (by omega), ← hv]; congr 1; omega
theorem sm_left (ht : TPre q p) {xs : List α} (hp : ∀ x ∈ xs, p x) {a b i : Nat} {x : α} (hx : xs[a]? = some x) (hb : b ≤ xs.length) (hi : a + 1 ≤ i ∧ i ≤ b) (hs : srtQ q (prt xs (a + 1) b))
    (h1 : i = a + 1 ∨ ∃ u, xs[i - 1]? = some u ∧ q u x < 0) (h2 : i = b ∨ ∃ u, xs[i]? = some u ∧ ¬ q u x < 0) : roR xs a (a + 1) i = smS q xs a (a + 1) b := by
  have px := hp x (List.mem_of_getElem? hx)
  have e := form_of (xs := xs) (a := a) (m := a + 1) (b := b) (by omega) (by omega) hb
  have e2 : prt xs (a + 1) b = prt xs (a + 1) i ++ prt xs i b := prt_app hi.1 hi.2
  have hP : ∀ u ∈ prt xs (a + 1) i, q u x < 0 := by
    intro u hu
    obtain ⟨t, t1, t2, t3⟩ := mem_prt hu
    rcases h1 with h1 | ⟨v, hv, hl⟩
    · omega
    · exact ht.le_lt (hp u (List.mem_of_getElem? t3)) (hp v (List.mem_of_getElem? hv)) px (srt_at ht hp hs (i := t) (j := i - 1) (by omega) (by omega) (by omega) t3 hv) hl
  have hQ : ∀ u ∈ prt xs i b, ¬ q u x < 0 := by
    intro u hu
    obtain ⟨t, t1, t2, t3⟩ := mem_prt hu
    rcases h2 with h2 | ⟨v, hv, hl⟩
    · omega
    · exact ht.tr px (hp v (List.mem_of_getElem? hv)) (hp u (List.mem_of_getElem? t3)) hl (srt_at ht hp hs (i := i) (j := t) (by omega) (by omega) (by omega) hv t3)
  have ha := (List.getElem?_eq_some_iff.1 hx).1
  rw [smS, prt_one hx, e2]
  have m1 := smg_split (q := q) (A1 := []) (A2 := [x]) (B1 := prt xs (a + 1) i) (B2 := prt xs i b) (fun _ h => by cases h) (fun u hu v hv => by rw [List.mem_singleton.1 hu]; exact hP v hv)
  have m2 := smg_split (q := q) (A1 := [x]) (A2 := []) (B1 := []) (B2 := prt xs i b) (fun u hu v hv => by rw [List.mem_singleton.1 hu]; exact hQ v hv) (fun _ h => by cases h)
  rw [List.nil_append] at m1
  rw [List.append_nil, List.nil_append, smg_right, smg_nil] at m2
  rw [m1, smg_nil, m2]
  rw [prt_one hx, e2] at e
  rw [ro_form (L := xs.take a) (A := [x]) (B := prt xs (a + 1) i) (R := prt xs i b ++ xs.drop b) (e.trans (by simp)) (by simp; omega) (by simp) (by rw [prt_len (by omega)]; omega)]
  simp
theorem sm_right (ht : TPre q p) {xs : List α} (hp : ∀ x ∈ xs, p x) {a m i : Nat} {y : α} (hy : xs[m]? = some y) (hi : a ≤ i ∧ i ≤ m) (hs : srtQ q (prt xs a m))
    (h1 : i = a ∨ ∃ u, xs[i - 1]? = some u ∧ ¬ q y u < 0) (h2 : i = m ∨ ∃ u, xs[i]? = some u ∧ q y u < 0) : roR xs i m (m + 1) = smS q xs a m (m + 1) := by
  have py := hp y (List.mem_of_getElem? hy)
  have hm := (List.getElem?_eq_some_iff.1 hy).1
  have e := form_of (xs := xs) (a := a) (m := m) (b := m + 1) (by omega) (by omega) (by omega)
  have e2 : prt xs a m = prt xs a i ++ prt xs i m := prt_app hi.1 hi.2
  have hP : ∀ u ∈ prt xs a i, ¬ q y u < 0 := by
    intro u hu
    obtain ⟨t, t1, t2, t3⟩ := mem_prt hu
    rcases h1 with h1 | ⟨v, hv, hl⟩
    · omega
    · exact ht.tr (hp u (List.mem_of_getElem? t3)) (hp v (List.mem_of_getElem? hv)) py (srt_at ht hp hs (i := t) (j := i - 1) (by omega) (by omega) (by omega) t3 hv) hl
  have hQ : ∀ u ∈ prt xs i m, q y u < 0 := by
    intro u hu
    obtain ⟨t, t1, t2, t3⟩ := mem_prt hu
    rcases h2 with h2 | ⟨v, hv, hl⟩
    · omega
    · exact ht.lt_le py (hp v (List.mem_of_getElem? hv)) (hp u (List.mem_of_getElem? t3)) hl (srt_at ht hp hs (i := i) (j := t) (by omega) (by omega) (by omega) hv t3)
  have m1 := smg_split (q := q) (A1 := prt xs a i) (A2 := prt xs i m) (B1 := []) (B2 := [y]) (fun u hu v hv => by rw [List.mem_singleton.1 hv]; exact hP u hu) (fun _ _ _ h => by cases h)
  have m2 := smg_split (q := q) (A1 := []) (A2 := prt xs i m) (B1 := [y]) (B2 := []) (fun _ h => by cases h) (fun u hu v hv => by rw [List.mem_singleton.1 hv]; exact hQ u hu)
  rw [List.nil_append, smg_right] at m1
  rw [List.nil_append, List.append_nil, smg_nil, smg_right] at m2
  rw [smS, prt_one hy, e2, m1, m2]
  rw [prt_one hy, e2] at e
  rw [ro_form (L := xs.take a ++ prt xs a i) (A := prt xs i m) (B := [y]) (R := xs.drop (m + 1)) (e.trans (by simp)) (by simp; rw [prt_len (by omega)]; omega) (by rw [prt_len (by omega)]; omega) (by simp)]
  simp
theorem sm_main (ht : TPre q p) {xs : List α} (hp : ∀ x ∈ xs, p x) {a m b st en mid : Nat} (hb : b ≤ xs.length) (h1 : a ≤ st ∧ st ≤ m) (h2 : m ≤ en ∧ en ≤ b) (hmid : st + en = mid + m)
    (hs : srtQ q (prt xs a m)) (hs' : srtQ q (prt xs m b)) (c1 : st = a ∨ en = b ∨ ∃ u v, xs[en]? = some u ∧ xs[st - 1]? = some v ∧ ¬ q u v < 0) (c2 : st = m ∨ en = m ∨ ∃ u v, xs[en - 1]? = some u ∧ xs[st]? = some v ∧ q u v < 0) :
    smS q (smS q (roR xs st m en) a st mid) mid en b = smS q xs a m b ∧ srtQ q (prt (roR xs st m en) a st) ∧ srtQ q (prt (roR xs st m en) st mid) ∧ srtQ q (prt (smS q (roR xs st m en) a st mid) mid en) ∧ srtQ q (prt (smS q (roR xs st m en) a st mid) en b) := by
  have e := form_of (xs := xs) (a := a) (m := m) (b := b) (by omega) (by omega) hb
  have eA : prt xs a m = prt xs a st ++ prt xs st m := prt_app h1.1 h1.2
  have eB : prt xs m b = prt xs m en ++ prt xs en b := prt_app h2.1 h2.2
  have lA1 := prt_len (xs := xs) (a := a) (b := st) (by omega)
  have lA2 := prt_len (xs := xs) (a := st) (b := m) (by omega)
  have lB1 := prt_len (xs := xs) (a := m) (b := en) (by omega)
  have lB2 := prt_len (xs := xs) (a := en) (b := b) (by omega)
  have lL : a = (xs.take a).length := by simp; omega
  have x1 : ∀ u ∈ prt xs a st, ∀ v ∈ prt xs en b, ¬ q v u < 0 := by
    intro u hu v hv
    obtain ⟨t, t1, t2, t3⟩ := mem_prt hu
    obtain ⟨r, r1, r2, r3⟩ := mem_prt hv
    rcases c1 with c | c | ⟨f, g, hf, hg, hn⟩
    · omega
    · omega
    · have pu := hp u (List.mem_of_getElem? t3)
      have pv := hp v (List.mem_of_getElem? r3)
      have pf := hp f (List.mem_of_getElem? hf)
      have pg := hp g (List.mem_of_getElem? hg)
      have k1 := srt_at ht hp hs (i := t) (j := st - 1) (by omega) (by omega) (by omega) t3 hg
      have k2 := srt_at ht hp hs' (i := en) (j := r) (by omega) (by omega) (by omega) hf r3
      exact ht.tr pu pg pv k1 (ht.tr pg pf pv hn k2)
  have x2 : ∀ u ∈ prt xs st m, ∀ v ∈ prt xs m en, q v u < 0 := by
    intro u hu v hv
    obtain ⟨t, t1, t2, t3⟩ := mem_prt hu
    obtain ⟨r, r1, r2, r3⟩ := mem_prt hv
    rcases c2 with c | c | ⟨f, g, hf, hg, hn⟩
    · omega
    · omega
    · have pu := hp u (List.mem_of_getElem? t3)
      have pv := hp v (List.mem_of_getElem? r3)
      have pf := hp f (List.mem_of_getElem? hf)
      have pg := hp g (List.mem_of_getElem? hg)
      have k1 := srt_at ht hp hs (i := st) (j := t) (by omega) (by omega) (by omega) hg t3
      have k2 := srt_at ht hp hs' (i := r) (j := en - 1) (by omega) (by omega) (by omega) r3 hf
      exact ht.le_lt pv pf pu k2 (ht.lt_le pf pg pu hn k1)
  have sA := hs; rw [eA] at sA
  have sB := hs'; rw [eB] at sB
  have hA := List.pairwise_append.1 sA
  have hB := List.pairwise_append.1 sB
  have ex : xs = (xs.take a ++ prt xs a st) ++ (prt xs st m ++ (prt xs m en ++ (prt xs en b ++ xs.drop b))) := by
    exact e.trans (by rw [eA, eB]; simp)
  have hro := ro_form (a := st) (m := m) (b := en) ex (by simp; omega) (by omega) (by omega)
  have ed : roR xs st m en = xs.take a ++ (prt xs a st ++ (prt xs m en ++ (prt xs st m ++ (prt xs en b ++ xs.drop b)))) := by rw [hro]; simp
  have f1 := form_parts (a := a) (m := st) (b := mid) ed lL (by omega) (by omega)
  have hsm := sm_form (q := q) (a := a) (m := st) (b := mid) ed lL (by omega) (by omega)
  have lm := smg_len (q := q) (A := prt xs a st) (B := prt xs m en)
  have ed2 : smS q (roR xs st m en) a st mid = (xs.take a ++ smg q (prt xs a st) (prt xs m en)) ++ (prt xs st m ++ (prt xs en b ++ xs.drop b)) := by rw [hsm]; simp
  have f2 := form_parts (a := mid) (m := en) (b := b) ed2 (by rw [List.length_append]; omega) (by omega) (by omega)
  refine ⟨?_, ?_, ?_, ?_, ?_⟩
  · rw [sm_form (q := q) (a := mid) (m := en) (b := b) ed2 (by rw [List.length_append]; omega) (by omega) (by omega), smS, eA, eB, smg_split x1 x2]; simp
  · rw [f1.2.1]; exact hA.1
  · rw [f1.2.2.1]; exact hB.1
  · rw [f2.2.1]; exact hA.2.1
  · rw [f2.2.2.1]; exact hB.2.1
/-! ### Blocks -/
def isS (q : α → α → Int) (xs : List α) (a b : Nat) : List α := xs.take a ++ (isort q (prt xs a b) ++ xs.drop b)
def blS (q : α → α → Int) (s : Nat) (xs : List α) : List α := if h : xs.length ≤ s ∨ s = 0 then isort q xs else isort q (xs.take s) ++ blS q s (xs.drop s)
termination_by xs.length
decreasing_by rw [List.length_drop]; omega
theorem bl_small {xs : List α} {s : Nat} (h : xs.length ≤ s) : blS q s xs = isort q xs := by rw [blS, dif_pos (.inl h)]
theorem bl_step {xs : List α} {s : Nat} (h0 : 0 < s) (h : s ≤ xs.length) : blS q s xs = isort q (xs.take s) ++ blS q s (xs.drop s) := by
  rcases Nat.lt_or_ge s xs.length with h1 | h1
  · rw [blS, dif_neg (by omega)]
  · obtain hl : xs.length = s := by omega
    rw [bl_small (by omega), ← hl, List.take_length, List.drop_length, bl_small (by simp)]; simp [isort, isR]
theorem bl_len {s : Nat} : ∀ {xs : List α}, (blS q s xs).length = xs.length := by
  intro xs
  induction hn : xs.length using Nat.strongRecOn generalizing xs with
  | _ n ih =>
    rw [blS]; split
    · rw [isort_len]; exact hn
    · rename_i h
      rw [List.length_append, isort_len, ih _ (by rw [List.length_drop]; omega) rfl, List.length_drop, List.length_take]; omega
theorem bl_mem {s : Nat} {x : α} : ∀ {xs : List α}, x ∈ blS q s xs → x ∈ xs := by
  intro xs
  induction hn : xs.length using Nat.strongRecOn generalizing xs with
  | _ n ih =>
    intro h
    rw [blS] at h; split at h
    · exact isort_mem.1 h
    · rename_i h0
      rcases List.mem_append.1 h with h1 | h1
      · exact List.mem_of_mem_take (isort_mem.1 h1)
      · exact List.mem_of_mem_drop (ih _ (by rw [List.length_drop]; omega) rfl h1)
/-- The first loop: block by block. -/
theorem is_step {xs X : List α} {a s : Nat} (h0 : 0 < s) (ha : X.length = a) (h : a + s ≤ xs.length) (hI : blS q s xs = X ++ blS q s (xs.drop a)) :
    isS q (X ++ xs.drop a) a (a + s) = (X ++ isort q (prt xs a (a + s))) ++ xs.drop (a + s) ∧ blS q s xs = (X ++ isort q (prt xs a (a + s))) ++ blS q s (xs.drop (a + s)) ∧ (X ++ isort q (prt xs a (a + s))).length = a + s := by
  have e : xs.drop a = prt xs a (a + s) ++ xs.drop (a + s) := by
    rw [prt, show a + s - a = s by omega, ← List.drop_drop, List.take_append_drop]
  have hp : prt xs a (a + s) = (xs.drop a).take s := by rw [prt, show a + s - a = s by omega]
  have lp := prt_len (xs := xs) (a := a) (b := a + s) h
  refine ⟨?_, ?_, ?_⟩
  · have f := form_parts (xs := X ++ xs.drop a) (L := X) (A := prt xs a (a + s)) (B := []) (R := xs.drop (a + s)) (a := a) (m := a + s) (b := a + s) (by rw [e]; simp) ha.symm (by omega) (by simp)
    rw [isS, f.1, f.2.1, f.2.2.2]; simp
  · rw [hI, bl_step h0 (by rw [List.length_drop]; omega), List.drop_drop, hp]; simp
  · rw [List.length_append, isort_len]; omega
theorem is_last {xs X : List α} {a s : Nat} (ha : X.length = a) (h : a ≤ xs.length) (hs : xs.length ≤ a + s) (hI : blS q s xs = X ++ blS q s (xs.drop a)) : isS q (X ++ xs.drop a) a xs.length = blS q s xs := by
  have lp : (xs.drop a).length = xs.length - a := List.length_drop ..
  have f := form_parts (xs := X ++ xs.drop a) (L := X) (A := xs.drop a) (B := []) (R := []) (a := a) (m := xs.length) (b := xs.length) (by simp) ha.symm (by omega) (by simp)
  rw [isS, f.1, f.2.1, f.2.2.2, hI, bl_small (by omega)]; simp
/-- The second one: two blocks at a time. -/
theorem bl_two (ht : TPre q p) {xs X : List α} (hp : ∀ x ∈ xs, p x) {a s : Nat} (h0 : 0 < s) (ha : X.length = a) (h : a + s + s ≤ xs.length) (hI : blS q (s + s) xs = X ++ blS q (s + s) (xs.drop a)) :
    smS q (X ++ blS q s (xs.drop a)) a (a + s) (a + s + s) = (X ++ isort q (prt xs a (a + s + s))) ++ blS q s (xs.drop (a + s + s)) ∧ blS q (s + s) xs = (X ++ isort q (prt xs a (a + s + s))) ++ blS q (s + s) (xs.drop (a + s + s)) ∧ (X ++ isort q (prt xs a (a + s + s))).length = a + s + s ∧
    srtQ q (prt (X ++ blS q s (xs.drop a)) a (a + s)) ∧ srtQ q (prt (X ++ blS q s (xs.drop a)) (a + s) (a + s + s)) := by
  have hd : (xs.drop a).take s = prt xs a (a + s) := by rw [prt, show a + s - a = s by omega]
  have hd2 : (xs.drop (a + s)).take s = prt xs (a + s) (a + s + s) := by rw [prt, show a + s + s - (a + s) = s by omega]
  have hd3 : (xs.drop a).take (s + s) = prt xs a (a + s + s) := by rw [prt, show a + s + s - a = s + s by omega]
  have l1 := prt_len (xs := xs) (a := a) (b := a + s) (by omega)
  have l2 := prt_len (xs := xs) (a := a + s) (b := a + s + s) (by omega)
  have l3 := prt_len (xs := xs) (a := a) (b := a + s + s) (by omega)
  have e : X ++ blS q s (xs.drop a) = X ++ (isort q (prt xs a (a + s)) ++ (isort q (prt xs (a + s) (a + s + s)) ++ blS q s (xs.drop (a + s + s)))) := by
    rw [bl_step h0 (by rw [List.length_drop]; omega), List.drop_drop, hd, bl_step h0 (by rw [List.length_drop]; omega), List.drop_drop, hd2]
  have f := form_parts (a := a) (m := a + s) (b := a + s + s) e ha.symm (by rw [isort_len]; omega) (by rw [isort_len]; omega)
  refine ⟨?_, ?_, ?_, ?_, ?_⟩
  · rw [sm_form (q := q) (a := a) (m := a + s) (b := a + s + s) e ha.symm (by rw [isort_len]; omega) (by rw [isort_len]; omega), isort_smg ht (fun z hz => hp z (prt_mem hz)) (fun z hz => hp z (prt_mem hz)), ← prt_app (by omega) (by omega)]; simp
  · rw [hI, bl_step (by omega) (by rw [List.length_drop]; omega), List.drop_drop, hd3, show a + (s + s) = a + s + s by omega]; simp
  · rw [List.length_append, isort_len]; omega
  · rw [f.2.1]; exact isort_srt ht fun z hz => hp z (prt_mem hz)
  · rw [f.2.2.1]; exact isort_srt ht fun z hz => hp z (prt_mem hz)
theorem bl_one (ht : TPre q p) {xs X : List α} (hp : ∀ x ∈ xs, p x) {a s : Nat} (h0 : 0 < s) (ha : X.length = a) (h1 : a + s < xs.length) (h : xs.length ≤ a + s + s) (hI : blS q (s + s) xs = X ++ blS q (s + s) (xs.drop a)) :
    smS q (X ++ blS q s (xs.drop a)) a (a + s) xs.length = blS q (s + s) xs ∧ srtQ q (prt (X ++ blS q s (xs.drop a)) a (a + s)) ∧ srtQ q (prt (X ++ blS q s (xs.drop a)) (a + s) xs.length) := by
  have hd : (xs.drop a).take s = prt xs a (a + s) := by rw [prt, show a + s - a = s by omega]
  have l1 := prt_len (xs := xs) (a := a) (b := a + s) (by omega)
  have l2 : (xs.drop (a + s)).length = xs.length - (a + s) := List.length_drop ..
  have l3 : (xs.drop a).length = xs.length - a := List.length_drop ..
  have e : X ++ blS q s (xs.drop a) = X ++ (isort q (prt xs a (a + s)) ++ (isort q (xs.drop (a + s)) ++ [])) := by
    rw [bl_step h0 (by omega), List.drop_drop, hd, bl_small (by omega), List.append_nil]
  have f := form_parts (a := a) (m := a + s) (b := xs.length) e ha.symm (by rw [isort_len]; omega) (by rw [isort_len]; omega)
  refine ⟨?_, ?_, ?_⟩
  · rw [sm_form (q := q) (a := a) (m := a + s) (b := xs.length) e ha.symm (by rw [isort_len]; omega) (by rw [isort_len]; omega), isort_smg ht (fun z hz => hp z (prt_mem hz)) (fun z hz => hp z (List.mem_of_mem_drop hz)), hI, bl_small (s := s + s) (by omega), ← hd, ← List.drop_drop, List.take_append_drop]; simp
  · rw [f.2.1]; exact isort_srt ht fun z hz => hp z (prt_mem hz)
  · rw [f.2.2.1]; exact isort_srt ht fun z hz => hp z (List.mem_of_mem_drop hz)
theorem bl_no {xs X : List α} {a s : Nat} (ha : X.length = a) (h : xs.length ≤ a + s) (hI : blS q (s + s) xs = X ++ blS q (s + s) (xs.drop a)) : X ++ blS q s (xs.drop a) = blS q (s + s) xs := by
  have l3 : (xs.drop a).length = xs.length - a := List.length_drop ..
  rw [hI, bl_small (s := s) (by omega), bl_small (s := s + s) (by omega)]
end
end Go.Proofs.YtbckpmjiimiceaaDoor.VL
