/- Proved here: words for walking a call: what memory reads as, which cells a call owns, and that a step keeps both. General: over every program. -/
import Derived.Calls
import Derived.Tactics
import Derived.Maps.AppendAt
import Derived.Deep.LoopGhost
import Derived.KernelRfl
import Derived.Below
import Derived.RowKit
import Derived.Laws.StructEq
import Derived.Laws.Cells
import Derived.Laws.Entries
import Derived.Laws.Tables
import Derived.Laws.OwnMore
import Derived.Great.FillDense
import Derived.Great.BuildSlice
import Derived.Orders
set_option linter.unusedVariables false
set_option linter.unusedSimpArgs false
namespace Go.Proofs.YtkgboidjghcegaaGreatDoor.VL
open Go

/-- A part of memory that stays as it is. -/
abbrev Hp := Nat → Option Obj
def Hp.le (s t : Hp) : Prop := ∀ b o, s b = some o → t b = some o
theorem Hp.le_refl (s : Hp) : s.le s := fun _ _ h => h
theorem Hp.le_trans {s t u : Hp} (h : s.le t) (k : t.le u) : s.le u := fun b o hb => k b o (h b o hb)
def Hp.look (s : Hp) (a : Addr) : Option Value :=
  match s a.block with
  | some (.cells c _ _) => if a.spot.isSome then none else c[a.off]?
  | _ => none
theorem Hp.look_mono {s t : Hp} (h : s.le t) {a : Addr} {v : Value} (hv : s.look a = some v) : t.look a = some v := by
  unfold Hp.look at *
  split at hv
  · rename_i c e f hs
    rw [h _ _ hs]
    exact hv
  · cases hv
/-- The world has this part of memory. -/
def Fz (s : Hp) (w : World) : Prop := ∀ b o, s b = some o → w.heap[b]? = some o
theorem Fz.cell {s : Hp} {w : World} (h : Fz s w) {a : Addr} {v : Value} (hv : s.look a = some v) : w.cell? a = some v := by
  unfold Hp.look at hv
  unfold World.cell?
  split at hv
  · rename_i c e f hs
    rw [h _ _ hs]
    exact hv
  · cases hv
theorem Fz.lt {s : Hp} {w : World} (h : Fz s w) {b : Nat} {o : Obj} (hb : s b = some o) : b < w.heap.size := by
  have := h b o hb
  exact (Array.getElem?_eq_some_iff.1 this).1

/-- A kind of data: how many cells it takes, and what its cells say. -/
structure Kd (α : Type) where
  sz : Nat
  rd : Hp → List Value → α → Prop
  len : ∀ {s cs x}, rd s cs x → cs.length = sz
  mono : ∀ {s t cs x}, s.le t → rd s cs x → rd t cs x
  one : ∀ {s cs x}, rd s cs x → ∀ c ∈ cs, c.oneCell' = true

def RdL {α : Type} (k : Kd α) (s : Hp) : List Value → List α → Prop
  | cs, [] => cs = []
  | cs, x :: xs => ∃ c d, cs = c ++ d ∧ k.rd s c x ∧ RdL k s d xs

section
variable {α : Type} {k : Kd α} {s t : Hp}
theorem RdL.len {xs : List α} : ∀ {cs}, RdL k s cs xs → cs.length = xs.length * k.sz := by
  induction xs with
  | nil => intro cs h; simp only [RdL] at h; subst h; simp
  | cons x xs ih =>
    intro cs h
    obtain ⟨c, d, rfl, hc, hd⟩ := h
    rw [List.length_append, k.len hc, ih hd, List.length_cons, Nat.succ_mul]
    omega
theorem RdL.mono {xs : List α} (hst : s.le t) : ∀ {cs}, RdL k s cs xs → RdL k t cs xs := by
  induction xs with
  | nil => intro cs h; exact h
  | cons x xs ih =>
    intro cs h
    obtain ⟨c, d, rfl, hc, hd⟩ := h
    exact ⟨c, d, rfl, k.mono hst hc, ih hd⟩
theorem RdL.one {xs : List α} : ∀ {cs}, RdL k s cs xs → ∀ c ∈ cs, c.oneCell' = true := by
  induction xs with
  | nil => intro cs h; simp only [RdL] at h; subst h; intro c hc; cases hc
  | cons x xs ih =>
    intro cs h
    obtain ⟨c, d, rfl, hc, hd⟩ := h
    intro u hu
    rcases List.mem_append.1 hu with h | h
    · exact k.one hc u h
    · exact ih hd u h
theorem RdL.app {xs ys : List α} : ∀ {cs ds}, RdL k s cs xs → RdL k s ds ys → RdL k s (cs ++ ds) (xs ++ ys) := by
  induction xs with
  | nil => intro cs ds h h'; simp only [RdL] at h; subst h; exact h'
  | cons x xs ih =>
    intro cs ds h h'
    obtain ⟨c, d, rfl, hc, hd⟩ := h
    exact ⟨c, d ++ ds, by simp, hc, ih hd h'⟩
theorem RdL.single {c : List Value} {x : α} (h : k.rd s c x) : RdL k s c [x] := ⟨c, [], by simp, h, rfl⟩
theorem RdL.nil : RdL k s [] ([] : List α) := rfl
theorem RdL.split {xs ys : List α} : ∀ {cs}, RdL k s cs (xs ++ ys) → ∃ c d, cs = c ++ d ∧ RdL k s c xs ∧ RdL k s d ys := by
  induction xs with
  | nil => intro cs h; exact ⟨[], cs, rfl, rfl, h⟩
  | cons x xs ih =>
    intro cs h
    obtain ⟨c, d, rfl, hc, hd⟩ := h
    obtain ⟨c', d', rfl, h1, h2⟩ := ih hd
    exact ⟨c ++ c', d', by simp, ⟨c, c', rfl, hc, h1⟩, h2⟩
theorem RdL.take {xs : List α} {cs} (n : Nat) (h : RdL k s cs xs) : RdL k s (cs.take (n * k.sz)) (xs.take n) := by
  rcases Nat.lt_or_ge xs.length n with hn | hn
  · rw [List.take_of_length_le (l := xs) (by omega), List.take_of_length_le]
    · exact h
    · rw [h.len]; exact Nat.mul_le_mul_right _ (by omega)
  · have h' : RdL k s cs (xs.take n ++ xs.drop n) := by rw [List.take_append_drop]; exact h
    obtain ⟨c, d, rfl, hc, hd⟩ := h'.split
    have hl : c.length = n * k.sz := by rw [hc.len, List.length_take]; congr 1; omega
    rw [← hl, List.take_left]
    exact hc
theorem RdL.drop {xs : List α} {cs} (n : Nat) (h : RdL k s cs xs) : RdL k s (cs.drop (n * k.sz)) (xs.drop n) := by
  rcases Nat.lt_or_ge xs.length n with hn | hn
  · rw [List.drop_of_length_le (l := xs) (by omega), List.drop_of_length_le]
    · rfl
    · rw [h.len]; exact Nat.mul_le_mul_right _ (by omega)
  · have h' : RdL k s cs (xs.take n ++ xs.drop n) := by rw [List.take_append_drop]; exact h
    obtain ⟨c, d, rfl, hc, hd⟩ := h'.split
    have hl : c.length = n * k.sz := by rw [hc.len, List.length_take]; congr 1; omega
    rw [← hl, List.drop_left]
    exact hd
theorem RdL.get {xs : List α} {cs} (h : RdL k s cs xs) (i : Nat) (hi : i < xs.length) : k.rd s ((cs.drop (i * k.sz)).take k.sz) xs[i] := by
  have h1 := h.drop i
  rw [List.drop_eq_getElem_cons hi] at h1
  obtain ⟨c, d, he, hc, hd⟩ := h1
  rw [he, ← k.len hc, List.take_left]
  exact hc
theorem RdL.set {xs : List α} {cs} (h : RdL k s cs xs) (i : Nat) (hi : i < xs.length) {c : List Value} {y : α} (hc : k.rd s c y) :
    RdL k s (cs.take (i * k.sz) ++ (c ++ cs.drop ((i + 1) * k.sz))) (xs.set i y) := by
  rw [List.set_eq_take_append_cons_drop, if_pos hi]
  refine (h.take i).app ?_
  exact ⟨c, _, rfl, hc, h.drop (i + 1)⟩
end

/-! ### Kinds -/
def inR (k : IntKind) (n : Int) : Prop := k.min ≤ n ∧ n ≤ k.max
def Kd.int (k : IntKind) : Kd Int where
  sz := 1
  rd _ cs n := cs = [.int k n] ∧ inR k n
  len h := by rw [h.1]; rfl
  mono _ h := h
  one h := by rw [h.1]; intro c hc; simp at hc; subst hc; rfl
def Kd.u64 : Kd (BitVec 64) where
  sz := 1
  rd _ cs n := cs = [.int .u64 (n.toNat : Int)]
  len h := by rw [h]; rfl
  mono _ h := h
  one h := by rw [h]; intro c hc; simp at hc; subst hc; rfl
def Kd.bool : Kd Bool where
  sz := 1
  rd _ cs n := cs = [.bool n]
  len h := by rw [h]; rfl
  mono _ h := h
  one h := by rw [h]; intro c hc; simp at hc; subst hc; rfl
def Kd.str : Kd ByteArray where
  sz := 1
  rd _ cs n := cs = [.string n] ∧ n.size ≤ 9223372036854775807
  len h := by rw [h.1]; rfl
  mono _ h := h
  one h := by rw [h.1]; intro c hc; simp at hc; subst hc; rfl
def Kd.pair {α β : Type} (a : Kd α) (b : Kd β) : Kd (α × β) where
  sz := a.sz + b.sz
  rd s cs x := ∃ c d, cs = c ++ d ∧ a.rd s c x.1 ∧ b.rd s d x.2
  len h := by obtain ⟨c, d, rfl, h1, h2⟩ := h; rw [List.length_append, a.len h1, b.len h2]
  mono hst h := by obtain ⟨c, d, rfl, h1, h2⟩ := h; exact ⟨c, d, rfl, a.mono hst h1, b.mono hst h2⟩
  one h := by
    obtain ⟨c, d, rfl, h1, h2⟩ := h
    intro u hu
    rcases List.mem_append.1 hu with h | h
    · exact a.one h1 u h
    · exact b.one h2 u h
def Kd.ptr {α : Type} (k : Kd α) : Kd α where
  sz := 1
  rd s cs x := ∃ ad c, cs = [.pointer (some ad)] ∧ k.rd s c x ∧ ∀ j u, c[j]? = some u → s.look (ad.add j) = some u
  len h := by obtain ⟨ad, c, rfl, _⟩ := h; rfl
  mono hst h := by obtain ⟨ad, c, rfl, h1, h2⟩ := h; exact ⟨ad, c, rfl, k.mono hst h1, fun j u hu => Hp.look_mono hst (h2 j u hu)⟩
  one h := by obtain ⟨ad, c, rfl, _⟩ := h; intro c hc; simp at hc; subst hc; rfl
def Kd.slice {α : Type} (k : Kd α) : Kd (List α) where
  sz := 1
  rd s cs xs := ∃ A c, cs = [.slice A xs.length c] ∧ xs.length ≤ c ∧ c ≤ 9223372036854775807 ∧
    (0 < xs.length → ∃ ad cells, A = some ad ∧ RdL k s cells xs ∧ ∀ j u, cells[j]? = some u → s.look (ad.add j) = some u)
  len h := by obtain ⟨A, c, rfl, _⟩ := h; rfl
  mono hst h := by
    obtain ⟨A, c, rfl, h1, h2, h3⟩ := h
    refine ⟨A, c, rfl, h1, h2, fun h0 => ?_⟩
    obtain ⟨ad, cells, e, h4, h5⟩ := h3 h0
    exact ⟨ad, cells, e, h4.mono hst, fun j u hu => Hp.look_mono hst (h5 j u hu)⟩
  one h := by obtain ⟨A, c, rfl, _⟩ := h; intro c hc; simp at hc; subst hc; rfl
/-- Nothing. -/
def Kd.unit : Kd Unit where
  sz := 0
  rd _ cs _ := cs = []
  len h := by rw [h]; rfl
  mono _ h := h
  one h := by rw [h]; intro c hc; cases hc

/-- A part of data: where its cells begin, how it is read, how it is changed. -/
structure Sub {α β : Type} (k : Kd α) (o : Nat) (k' : Kd β) (f : α → β) (g : α → β → α) : Prop where
  rd : ∀ {s cs x}, k.rd s cs x → k'.rd s ((cs.drop o).take k'.sz) (f x)
  wr : ∀ {s cs x c y}, k.rd s cs x → k'.rd s c y → k.rd s (cs.take o ++ (c ++ cs.drop (o + k'.sz))) (g x y)
theorem Sub.whole {α : Type} (k : Kd α) : Sub k 0 k (fun x => x) (fun _ y => y) where
  rd h := by rw [List.drop_zero, ← k.len h, List.take_length]; exact h
  wr h h' := by rw [List.take_zero, Nat.zero_add, List.nil_append, ← k.len h, List.drop_length, List.append_nil]; exact h'
theorem Sub.le {α β : Type} {k : Kd α} {o : Nat} {k' : Kd β} {f : α → β} {g : α → β → α} (h : Sub k o k' f g) {s : Hp} {cs : List Value} {x : α} (hx : k.rd s cs x) : o + k'.sz ≤ cs.length ∨ k'.sz = 0 := by
  have h1 := k'.len (h.rd hx)
  rw [List.length_take, List.length_drop] at h1
  omega
theorem Sub.comp {α β γ : Type} {k : Kd α} {o : Nat} {k' : Kd β} {f : α → β} {g : α → β → α} {o' : Nat} {k'' : Kd γ} {f' : β → γ} {g' : β → γ → β}
    (h : Sub k o k' f g) (h' : Sub k' o' k'' f' g') (hz : 0 < k''.sz) : Sub k (o + o') k'' (fun x => f' (f x)) (fun x z => g x (g' (f x) z)) where
  rd {s cs x} hx := by
    have h1 := h'.rd (h.rd hx)
    have h2 := (h'.le (h.rd hx)).resolve_right (by omega)
    rw [List.length_take, List.length_drop] at h2
    rw [List.drop_take, List.drop_drop, List.take_take, Nat.min_eq_left (by omega)] at h1
    exact h1
  wr {s cs x c z} hx hz' := by
    have h1 := h.wr hx (h'.wr (h.rd hx) hz')
    have h2 := (h'.le (h.rd hx)).resolve_right (by omega)
    rw [List.length_take, List.length_drop] at h2
    have hl : c.length = k''.sz := k''.len hz'
    have e : cs.take o ++ ((((cs.drop o).take k'.sz).take o' ++ (c ++ ((cs.drop o).take k'.sz).drop (o' + k''.sz))) ++ cs.drop (o + k'.sz))
        = cs.take (o + o') ++ (c ++ cs.drop (o + o' + k''.sz)) := by
      rw [List.take_take, Nat.min_eq_left (by omega), List.drop_take, List.drop_drop, List.take_add, List.append_assoc, List.append_assoc, List.append_assoc]
      congr 3
      have e2 : cs.drop (o + k'.sz) = (cs.drop (o + (o' + k''.sz))).drop (k'.sz - (o' + k''.sz)) := by rw [List.drop_drop]; congr 1; omega
      rw [e2, show o + o' + k''.sz = o + (o' + k''.sz) by omega]
      exact List.take_append_drop _ _
    rw [e] at h1
    exact h1

/-! ### What a slot holds -/
/-- Whatever else a slot may own. -/
structure OSh where
  hold : Hp → World → Value → (Nat → Prop) → Prop
  mono : ∀ {s t : Hp} {w : World} {v : Value} {F : Nat → Prop}, s.le t → hold s w v F → hold t w v F
  frame : ∀ {s : Hp} {w w' : World} {v : Value} {F : Nat → Prop}, hold s w v F → (∀ b, F b → w'.heap[b]? = w.heap[b]?) → hold s w' v F
  lt : ∀ {s : Hp} {w : World} {v : Value} {F : Nat → Prop}, hold s w v F → ∀ b, F b → b < w.heap.size
  sur : Bool
  sure : ∀ {s : Hp} {w : World} {F : Nat → Prop}, sur = true → ¬ hold s w undef F
inductive As : Type 1
  | any
  | val (v : Value)
  | cel {α : Type} (k : Kd α) (x : α)
  | agg {α : Type} (k : Kd α) (x : α)
  | own {α : Type} (E : TypeId) (k : Kd α) (xs : List α)
  | box {α : Type} (E : TypeId) (k : Kd α) (x : α)
  | ali (s : Nat)
  | pel {α β : Type} (s i : Nat) (k : Kd α) (o : Nat) (k' : Kd β) (f : α → β) (g : α → β → α)
  | clo {α : Type} (f : FuncId) (k : Kd α) (x : α)
  | cap (f : FuncId) (ts : List Nat)
  | vw (t lo hi z : Nat)
  | deep (O : OSh)

/-- A place's value: a temporary's, or that of a part of the tuple that a temporary holds. -/
def gv (tmps : Array Value) (t : Nat) : Value :=
  if t < 10000 then tmps.getD t undef else
    match tmps.getD (t % 10000) undef with
    | .tuple vs => vs.getD (t / 10000 - 1) undef
    | _ => undef
/-- A pointer into the memory that a slice or a pointer begins. -/
def ptrIn (v : Value) (o : Nat) : Value :=
  match v with
  | .slice (some a) _ _ => .pointer (some (a.add o))
  | .pointer (some a) => .pointer (some (a.add o))
  | _ => undef
/-- A part of a row. -/
def cutV (v : Value) (lo hi z : Nat) : Value :=
  match v with
  | .slice a _ c => .slice (if c = lo then a else a.map (·.add (lo * z))) (hi - lo) (c - lo)
  | _ => undef
abbrev FS := Nat → Prop
def FS.no : FS := fun _ => False

def As.holds (s : Hp) (w : World) (g : Nat → Value) (v : Value) (F : FS) : As → Prop
  | .any => ∀ b, ¬ F b
  | .val u => v = u ∧ ∀ b, ¬ F b
  | .cel k x => k.rd s [v] x ∧ ∀ b, ¬ F b
  | .agg k x => (∃ cs, v = .agg cs ∧ k.rd s cs.toList x) ∧ ∀ b, ¬ F b
  | .own E k xs => (∃ cells, w.ownsRow 0 E k.sz v xs.length cells ∧ RdL k s cells xs) ∧ 0 < k.sz ∧ ∀ b, F b ↔ v.ownBlock = some b
  | .box E k x => ∃ b cs, v = .pointer (some ⟨b, 0, none⟩) ∧ w.heap[b]? = some (.cells cs E (0, 0)) ∧ k.rd s cs.toList x ∧ ∀ b', F b' ↔ b' = b
  | .ali t => (v = g t ∧ t < 10000) ∧ ∀ b, ¬ F b
  | .pel t i k o k' f h => (v = ptrIn (g t) (i * k.sz + o) ∧ t < 10000 ∧ Sub k o k' f h) ∧ ∀ b, ¬ F b
  | .clo f k x => (∃ cs, v = .func (.func f) #[] cs ∧ k.rd s cs.toList x) ∧ ∀ b, ¬ F b
  | .cap f ts => (v = .func (.func f) #[] (ts.map g).toArray ∧ ∀ t ∈ ts, t < 10000) ∧ ∀ b, ¬ F b
  | .vw t lo hi z => (v = cutV (g t) lo hi z ∧ t < 10000) ∧ ∀ b, ¬ F b
  | .deep O => O.hold s w v F

/-- Does it speak of another place? -/
def As.dep (d : Nat) : As → Bool
  | .ali t => t == d
  | .pel t _ _ _ _ _ _ => t == d
  | .cap _ ts => ts.contains d
  | .vw t _ _ _ => t == d
  | _ => false

theorem As.holds_mono {s t : Hp} (hst : s.le t) {w : World} {g : Nat → Value} {v : Value} {F : FS} {A : As} (h : A.holds s w g v F) : A.holds t w g v F := by
  cases A with
  | any => exact h
  | val u => exact h
  | cel k x => exact ⟨k.mono hst h.1, h.2⟩
  | agg k x => obtain ⟨⟨cs, e, h1⟩, h2⟩ := h; exact ⟨⟨cs, e, k.mono hst h1⟩, h2⟩
  | own E k xs => obtain ⟨⟨cells, h1, h2⟩, h3⟩ := h; exact ⟨⟨cells, h1, h2.mono hst⟩, h3⟩
  | box E k x => obtain ⟨b, cs, e, h1, h2, h3⟩ := h; exact ⟨b, cs, e, h1, k.mono hst h2, h3⟩
  | ali t => exact h
  | pel t i k o k' f h' => exact h
  | clo f k x => obtain ⟨⟨cs, e, h1⟩, h2⟩ := h; exact ⟨⟨cs, e, k.mono hst h1⟩, h2⟩
  | cap f ts => exact h
  | vw t lo hi z => exact h
  | deep O => exact O.mono hst h

theorem ownsRow_at {w w' : World} {E : TypeId} {size n : Nat} {v : Value} {cells : List Value} (h : w.ownsRow 0 E size v n cells)
    (hw : ∀ b, v.ownBlock = some b → w'.heap[b]? = w.heap[b]?) : w'.ownsRow 0 E size v n cells := by
  refine ⟨h.1, ?_⟩
  rcases h.2 with hn | ⟨g, cap, cur, rfl, hb, hg, rest⟩
  · exact .inl hn
  · exact .inr ⟨g, cap, cur, rfl, hb, by rw [hw g rfl]; exact hg, rest⟩

theorem As.holds_frame {s : Hp} {w w' : World} {g : Nat → Value} {v : Value} {F : FS} {A : As} (h : A.holds s w g v F)
    (hw : ∀ b, F b → w'.heap[b]? = w.heap[b]?) : A.holds s w' g v F := by
  cases A with
  | own E k xs =>
    obtain ⟨⟨cells, h1, h2⟩, h0, h3⟩ := h
    exact ⟨⟨cells, ownsRow_at h1 (fun b hb => hw b ((h3 b).2 hb)), h2⟩, h0, h3⟩
  | box E k x =>
    obtain ⟨b, cs, e, h1, h2, h3⟩ := h
    exact ⟨b, cs, e, by rw [hw b ((h3 b).2 rfl)]; exact h1, h2, h3⟩
  | deep O => exact O.frame h hw
  | _ => exact h

theorem As.holds_lt {s : Hp} {w : World} {g : Nat → Value} {v : Value} {F : FS} {A : As} (h : A.holds s w g v F) : ∀ b, F b → b < w.heap.size := by
  intro b hb
  cases A with
  | own E k xs =>
    obtain ⟨⟨cells, h1, h2⟩, h0, h3⟩ := h
    exact (h1.lt b ((h3 b).1 hb)).2
  | box E k x =>
    obtain ⟨b', cs, e, h1, h2, h3⟩ := h
    have := (h3 b).1 hb
    subst this
    exact (Array.getElem?_eq_some_iff.1 h1).1
  | any => exact (h b hb).elim
  | val u => exact (h.2 b hb).elim
  | cel k x => exact (h.2 b hb).elim
  | agg k x => exact (h.2 b hb).elim
  | ali t => exact (h.2 b hb).elim
  | pel t i k o k' f h' => exact (h.2 b hb).elim
  | clo f k x => exact (h.2 b hb).elim
  | cap f ts => exact (h.2 b hb).elim
  | vw t lo hi z => exact (h.2 b hb).elim
  | deep O => exact O.lt h b hb

theorem As.holds_g {s : Hp} {w : World} {g g' : Nat → Value} {v : Value} {F : FS} {A : As} (h : A.holds s w g v F)
    (hg : ∀ t, A.dep t = true → g' t = g t) : A.holds s w g' v F := by
  cases A with
  | ali t => exact ⟨⟨by rw [hg t (by simp [As.dep])]; exact h.1.1, h.1.2⟩, h.2⟩
  | pel t i k o k' f h' => exact ⟨⟨by rw [hg t (by simp [As.dep])]; exact h.1.1, h.1.2⟩, h.2⟩
  | cap f ts => exact ⟨⟨by rw [List.map_congr_left (fun t ht => hg t (by simp [As.dep, ht]))]; exact h.1.1, h.1.2⟩, h.2⟩
  | vw t lo hi z => exact ⟨⟨by rw [hg t (by simp [As.dep])]; exact h.1.1, h.1.2⟩, h.2⟩
  | _ => exact h

/-! ### The state of a walk -/
abbrev Env := Nat → As
/-- Tables of the library's that start-up code lays, in the memory that is not written to. Asked of a call only where the seat's rows tell of them. -/
def pow10L : List Value := (List.range 20).map fun i => .int .u64 ((10 ^ i : Nat) : Int)
def GlbT (P : Program) (s : Hp) : Prop := False → ∀ g, P.globalNamed "internal/strconv.uint64pow10" = some g → ∃ cs E f, s g = some (.cells cs E f) ∧ cs.toList = pow10L
/-- The errors that strconv's functions wrap. -/
def GlbE (P : Program) (s : Hp) : Prop := False → ∀ nm, (nm = "strconv.ErrSyntax" ∨ nm = "strconv.ErrRange") → ∀ g, P.globalNamed nm = some g → ∃ t u E f, s g = some (.cells #[.iface t u] E f)
def Glb (P : Program) (s : Hp) : Prop := GlbT P s ∧ GlbE P s
theorem Glb.le {P : Program} {s t : Hp} (h : Glb P s) (hst : s.le t) : Glb P t := by
  refine ⟨fun hon g hg => ?_, fun hon nm hn g hg => ?_⟩
  · obtain ⟨cs, E, f, h1, h2⟩ := h.1 hon g hg
    exact ⟨cs, E, f, hst _ _ h1, h2⟩
  · obtain ⟨t', u, E, f, h1⟩ := h.2 hon nm hn g hg
    exact ⟨t', u, E, f, hst _ _ h1⟩
/-! ### What is drawn is drawn -/
def GoodV (w : World) (x : Except String (World × List Addr)) : Prop := ∀ r, x = .ok r → r.1.drawn = w.drawn
theorem good_bind {w : World} {α : Type} {x : Except String α} {f : α → Except String (World × List Addr)} (h : ∀ a, GoodV w (f a)) : GoodV w (x >>= f) := by
  intro r hr
  cases x with
  | error e => cases hr
  | ok a => exact h a r hr
theorem good_throw {w : World} {s : String} : GoodV w (MonadExcept.throw s) := fun r hr => by cases hr
theorem good_pure {w : World} {r : World × List Addr} (h : r.1.drawn = w.drawn) : GoodV w (pure r) := fun r' hr => by cases hr; exact h
theorem view_drn {p : Program} {w w' : World} {a k : Addr} {u : TypeId} {v : Value} {b : Bool} {l : List Addr} (h : w.viewStore p a u k v b = .ok (w', l)) : w'.drawn = w.drawn := by
  have hg : GoodV w (w.viewStore p a u k v b) := by
    unfold World.viewStore
    dsimp only
    repeat first
      | exact good_throw
      | exact good_pure rfl
      | (refine good_bind (fun _ => ?_))
      | split
  exact hg _ h
theorem far_drn {p : Program} {w w' : World} {a : Addr} {v : Value} {b : Bool} {l : List Addr} (h : w.farStore p a v b = .ok (w', l)) : w'.drawn = w.drawn := by
  unfold World.farStore at h
  split at h
  · split at h
    · rename_i hv
      cases h
      exact view_drn hv
    · cases h
  · cases h
theorem ask_drn {α : Type} : ∀ (q : Ask α) (w : World), w.drawn ≤ (w.ask q).2.drawn := by
  intro q
  induction q with
  | done a => intro w; exact Nat.le_refl _
  | ask what range k ih =>
    intro w
    unfold World.ask
    dsimp only
    split
    · exact ih _ w
    · exact Nat.le_trans (Nat.le_succ _) (ih _ { w with drawn := w.drawn + 1 })
theorem sys_drn (w : World) (c : Sys) : w.drawn ≤ (w.sys c).2.drawn := by
  have h := ask_drn (Kernel.perform c w.os) w
  unfold World.sys
  split
  · exact Nat.le_refl _
  · rename_i heq
    rw [heq] at h
    exact h
theorem run_drn {α : Type} {P : Program} : ∀ {m : Sem α} {w w' : World} {v : α}, m.run P w = .ok v w' → w.drawn ≤ w'.drawn := by
  intro m
  induction m with
  | pure a => intro w w' v h; injection h with _ h; subst h; exact Nat.le_refl _
  | load m a k ih =>
    intro w w' v h
    unfold Sem.run at h
    split at h
    · exact ih _ h
    · split at h
      · exact ih _ h
      · cases h
  | store m a u k ih =>
    intro w w' v h
    cases u <;> simp only [Sem.run] at h
    all_goals first
      | (cases h; done)
      | (split at h
         · split at h
           · cases h
           · exact ih (w := World.setCell _ _ _) h
         · split at h
           · rename_i hf
             rw [← far_drn hf]; exact ih h
           · cases h)
  | new o k ih => intro w w' v h; exact ih _ (w := { w with heap := w.heap.push o }) h
  | shape r k ih => intro w w' v h; exact ih _ h
  | freeze a n k ih =>
    intro w w' v h
    have h1 := ih (w := w.freeze a n) h
    have : (w.freeze a n).drawn = w.drawn := by unfold World.freeze; split <;> rfl
    omega
  | frozen a k ih => intro w w' v h; exact ih _ h
  | getObj r k ih =>
    intro w w' v h
    unfold Sem.run at h
    split at h
    · cases h
    · exact ih _ h
    · cases h
  | setObj r o k ih =>
    intro w w' v h
    unfold Sem.run at h
    split at h
    · cases h
    · exact ih (w := { w with heap := w.heap.setIfInBounds r o }) h
    · cases h
  | choose q k ih =>
    intro w w' v h
    unfold Sem.run at h
    split at h
    · exact ih _ h
    · exact Nat.le_trans (Nat.le_succ _) (ih _ (w := { w with drawn := w.drawn + 1 }) h)
  | sys c k ih => intro w w' v h; exact Nat.le_trans (sys_drn w c) (ih _ h)
  | program k ih => intro w w' v h; exact ih _ h
  | mark m k ih => intro w w' v h; exact ih h
  | halt h => intro w w' v h; cases h
/-- What has changed in old memory is what was handed over. -/
structure Keep (w0 : World) (hd : FS) (w : World) : Prop where
  os : w.os = w0.os
  tape : w.tape = w0.tape
  output : w.output = w0.output
  size : w0.heap.size ≤ w.heap.size
  block : ∀ b, b < w0.heap.size → ¬ hd b → w.heap[b]? = w0.heap[b]?
  drn : True → w0.drawn ≤ w.drawn
theorem Keep.refl (w : World) (hd : FS) : Keep w hd w := ⟨rfl, rfl, rfl, Nat.le_refl _, fun _ _ _ => rfl, fun _ => Nat.le_refl _⟩

structure Rel (N : Nat) (w0 : World) (hd : FS) (pn : Nat → Option Value) (s0 : Hp) (env : Env) (s : Hp) (F : Nat → FS) (a : Act) (w : World) : Prop where
  dfr : a.defers = []
  size : a.tmps.size = N
  slot : ∀ t, (env t).holds s w (gv a.tmps) (gv a.tmps t) (F t)
  disj : ∀ t t' b, F t b → F t' b → t = t'
  mine : ∀ t b, F t b → s b = none ∧ (w0.heap.size ≤ b ∨ hd b)
  fz : Fz s w
  keep : Keep w0 hd w
  pin : ∀ t v, pn t = some v → t < 10000 ∧ gv a.tmps t = v
  ext : s0.le s
  new : ∀ b o, s b = some o → s0 b = none → w0.heap.size ≤ b ∨ hd b

def RelE (N : Nat) (w0 : World) (hd : FS) (pn : Nat → Option Value) (s0 : Hp) (env : Env) (a : Act) (w : World) : Prop := ∃ s F, Rel N w0 hd pn s0 env s F a w

/-- A place of the slot d: the slot itself, or a part of its tuple. -/
def ofSlot (d t : Nat) : Bool := t % 10000 == d
def upd (env : Env) (d : Nat) (A : As) : Env := fun t =>
  if t = d then A else if ofSlot d t then .any else if (env t).dep d then .any else env t

theorem gv_put_ne {tmps : Array Value} {d t : Nat} (v : Value) (h : ofSlot d t = false) : gv (tmps.setIfInBounds d v) t = gv tmps t := by
  have hne : t % 10000 ≠ d := by simpa [ofSlot] using h
  unfold gv
  split
  · rename_i hlt
    have : d ≠ t := by rw [Nat.mod_eq_of_lt hlt] at hne; exact Ne.symm hne
    simp [Array.getElem?_setIfInBounds_ne this]
  · simp [Array.getElem?_setIfInBounds_ne (Ne.symm hne)]
theorem gv_put_eq {tmps : Array Value} {d : Nat} (v : Value) (hd : d < 10000) (h : d < tmps.size) : gv (tmps.setIfInBounds d v) d = v := by
  unfold gv
  simp [hd, h]
theorem As.dep_lt {s : Hp} {w : World} {g : Nat → Value} {v : Value} {F : FS} {A : As} (h : A.holds s w g v F) {q : Nat} (hq : A.dep q = true) : q < 10000 := by
  cases A with
  | ali t => have : t = q := by simpa [As.dep] using hq
             subst this; exact h.1.2
  | pel t i k o k' f h' => have : t = q := by simpa [As.dep] using hq
                           subst this; exact h.1.2.1
  | cap f ts => exact h.1.2 q (by simpa [As.dep] using hq)
  | vw t lo hi z => have : t = q := by simpa [As.dep] using hq
                    subst this; exact h.1.2
  | _ => simp [As.dep] at hq

def updF (env : Env) (F : Nat → FS) (d : Nat) (Fd : FS) : Nat → FS := fun t =>
  if t = d then Fd else if ofSlot d t then FS.no else if (env t).dep d then FS.no else F t
theorem updF_old {env : Env} {F : Nat → FS} {d : Nat} {Fd : FS} {t : Nat} {b : Nat} (h : updF env F d Fd t b) (ht : t ≠ d) : F t b ∧ ofSlot d t = false := by
  unfold updF at h
  rw [if_neg ht] at h
  split at h
  · exact h.elim
  · rename_i ho
    split at h
    · exact h.elim
    · exact ⟨h, by simpa using ho⟩
theorem updF_new {env : Env} {F : Nat → FS} {d : Nat} {Fd : FS} {b : Nat} (h : updF env F d Fd d b) : Fd b := by
  unfold updF at h
  rwa [if_pos rfl] at h

/-- A slot gets a value. -/
theorem Rel.putG {N : Nat} {w0 : World} {hd : FS} {pn : Nat → Option Value} {s0 : Hp} {env : Env} {s s' : Hp} {F : Nat → FS} {a : Act} {w w' : World} {d : Nat} {v : Value} {A : As} {Fd : FS}
    (h : Rel N w0 hd pn s0 env s F a w) (hN : d < N) (hd' : d < 10000) (hpn : pn d = none)
    (hA : A.holds s' w' (gv (a.tmps.setIfInBounds d v)) v Fd) (hs : s.le s') (hsn : ∀ b o, s' b = some o → s b = none → w0.heap.size ≤ b ∨ hd b) (hfz : Fz s' w') (hk : Keep w0 hd w')
    (ho : ∀ t b, t ≠ d → ofSlot d t = false → F t b → w'.heap[b]? = w.heap[b]? ∧ s' b = none ∧ ¬ Fd b)
    (hF : ∀ b, Fd b → s' b = none ∧ (w0.heap.size ≤ b ∨ hd b)) :
    Rel N w0 hd pn s0 (upd env d A) s' (updF env F d Fd) (a.put (some d) v) w' := by
  have hput : (a.put (some d) v).tmps = a.tmps.setIfInBounds d v := rfl
  constructor
  · exact h.dfr
  · rw [hput, Array.size_setIfInBounds]; exact h.size
  · intro t
    rw [hput]
    unfold upd updF
    by_cases ht : t = d
    · subst ht
      simp only [if_true]
      rw [gv_put_eq v hd' (by rw [h.size]; exact hN)]
      exact hA
    · simp only [if_neg ht]
      by_cases hof : ofSlot d t = true
      · simp only [hof, if_true]; exact fun b hb => hb
      · have ho' : ofSlot d t = false := by simpa using hof
        simp only [ho', Bool.false_eq_true, if_false]
        by_cases hp : (env t).dep d = true
        · simp only [hp, if_true]; exact fun b hb => hb
        · simp only [hp, if_false, Bool.false_eq_true]
          rw [gv_put_ne v ho']
          refine As.holds_g (As.holds_frame (As.holds_mono hs (h.slot t)) (fun b hb => (ho t b ht ho' hb).1)) ?_
          intro q hq
          refine gv_put_ne v ?_
          by_cases hoq : ofSlot d q = true
          · have h1 : q < 10000 := As.dep_lt (h.slot t) hq
            have : q = d := by simpa [ofSlot, Nat.mod_eq_of_lt h1] using hoq
            subst this
            exact (hp hq).elim
          · simpa using hoq
  · intro t t' b hb hb'
    by_cases ht : t = d
    · by_cases ht' : t' = d
      · rw [ht, ht']
      · subst ht
        have h1 := updF_new hb
        have h2 := updF_old hb' ht'
        exact ((ho t' b ht' h2.2 h2.1).2.2 h1).elim
    · have h1 := updF_old hb ht
      by_cases ht' : t' = d
      · subst ht'
        have h2 := updF_new hb'
        exact ((ho t b ht h1.2 h1.1).2.2 h2).elim
      · exact h.disj t t' b h1.1 (updF_old hb' ht').1
  · intro t b hb
    by_cases ht : t = d
    · subst ht
      exact hF b (updF_new hb)
    · have h1 := updF_old hb ht
      exact ⟨(ho t b ht h1.2 h1.1).2.1, (h.mine t b h1.1).2⟩
  · exact hfz
  · exact hk
  · intro t v hv
    have h1 := h.pin t v hv
    refine ⟨h1.1, ?_⟩
    rw [hput, gv_put_ne, h1.2]
    have : t ≠ d := fun e => by subst e; rw [hpn] at hv; cases hv
    simp [ofSlot, Nat.mod_eq_of_lt h1.1, this]
  · exact Hp.le_trans h.ext hs
  · intro b o hb hb0
    cases hs' : s b with
    | none => exact hsn b o hb hs'
    | some o' => exact h.new b o' hs' hb0

/-- A slot gets a value, new memory may have been made. -/
theorem Rel.put {N : Nat} {w0 : World} {hd : FS} {pn : Nat → Option Value} {s0 : Hp} {env : Env} {s s' : Hp} {F : Nat → FS} {a : Act} {w w' : World} {d : Nat} {v : Value} {A : As} {Fd : FS}
    (h : Rel N w0 hd pn s0 env s F a w) (hN : d < N) (hd' : d < 10000) (hpn : pn d = none)
    (hA : A.holds s' w' (gv (a.tmps.setIfInBounds d v)) v Fd) (hs : s.le s') (hsn : ∀ b o, s' b = some o → s b = none → w.heap.size ≤ b) (hfz : Fz s' w')
    (hw : Keep w FS.no w') (hF : ∀ b, Fd b → w.heap.size ≤ b ∧ s' b = none) :
    RelE N w0 hd pn s0 (upd env d A) (a.put (some d) v) w' := by
  have hlt : ∀ t b, F t b → b < w.heap.size := fun t b hb => As.holds_lt (h.slot t) b hb
  refine ⟨s', _, h.putG hN hd' hpn hA hs (fun b o h1 h2 => .inl (Nat.le_trans h.keep.size (hsn b o h1 h2))) hfz ?_ ?_ ?_⟩
  · exact ⟨hw.os.trans h.keep.os, hw.tape.trans h.keep.tape, hw.output.trans h.keep.output, Nat.le_trans h.keep.size hw.size, fun b hb hn => by
      rw [hw.block b (Nat.lt_of_lt_of_le hb h.keep.size) (fun h => h)]
      exact h.keep.block b hb hn, fun hon => Nat.le_trans (h.keep.drn hon) (hw.drn hon)⟩
  · intro t b ht _ hb
    have hb' := hlt t b hb
    refine ⟨hw.block b hb' (fun h => h), ?_, fun hf => by have := (hF b hf).1; omega⟩
    cases hs' : s' b with
    | none => rfl
    | some o => have := hsn b o hs' (h.mine t b hb).1; omega
  · intro b hb
    have h1 := hF b hb
    exact ⟨h1.2, .inl (Nat.le_trans h.keep.size h1.1)⟩

/-- The same where no memory has changed. -/
theorem Rel.put0 {N : Nat} {w0 : World} {hd : FS} {pn : Nat → Option Value} {s0 : Hp} {env : Env} {s : Hp} {F : Nat → FS} {a : Act} {w : World} {d : Nat} {v : Value} {A : As}
    (h : Rel N w0 hd pn s0 env s F a w) (hN : d < N) (hd' : d < 10000) (hpn : pn d = none)
    (hA : A.holds s w (gv (a.tmps.setIfInBounds d v)) v FS.no) :
    RelE N w0 hd pn s0 (upd env d A) (a.put (some d) v) w :=
  h.put hN hd' hpn hA (Hp.le_refl s) (fun b o h1 h2 => by rw [h1] at h2; cases h2) h.fz (Keep.refl _ _) (fun b hb => hb.elim)

def updK (env : Env) (d : Nat) (A : As) : Env := fun t => if t = d then A else env t
/-- What a slot's memory holds has changed, its value has not. -/
theorem Rel.turn {N : Nat} {w0 : World} {hd : FS} {pn : Nat → Option Value} {s0 : Hp} {env : Env} {s s' : Hp} {F : Nat → FS} {a : Act} {w w' : World} {d : Nat} {A : As} {Fd : FS}
    (h : Rel N w0 hd pn s0 env s F a w) (hA : A.holds s' w' (gv a.tmps) (gv a.tmps d) Fd) (hs : s.le s') (hsn : ∀ b o, s' b = some o → s b = none → w0.heap.size ≤ b ∨ hd b) (hfz : Fz s' w') (hk : Keep w0 hd w')
    (ho : ∀ t b, t ≠ d → F t b → w'.heap[b]? = w.heap[b]? ∧ s' b = none ∧ ¬ Fd b) (hF : ∀ b, Fd b → s' b = none ∧ (w0.heap.size ≤ b ∨ hd b)) :
    RelE N w0 hd pn s0 (updK env d A) a w' := by
  refine ⟨s', fun t => if t = d then Fd else F t, h.dfr, h.size, fun t => ?_, fun t t' b hb hb' => ?_, fun t b hb => ?_, hfz, hk, h.pin, Hp.le_trans h.ext hs, fun b o hb hb0 => ?_⟩
  · unfold updK
    by_cases ht : t = d
    · subst ht; simp only [if_true]; exact hA
    · simp only [if_neg ht]
      exact As.holds_frame (As.holds_mono hs (h.slot t)) (fun b hb => (ho t b ht hb).1)
  · by_cases ht : t = d
    · by_cases ht' : t' = d
      · rw [ht, ht']
      · rw [if_pos ht] at hb; rw [if_neg ht'] at hb'
        exact ((ho t' b ht' hb').2.2 hb).elim
    · rw [if_neg ht] at hb
      by_cases ht' : t' = d
      · rw [if_pos ht'] at hb'
        exact ((ho t b ht hb).2.2 hb').elim
      · rw [if_neg ht'] at hb'
        exact h.disj t t' b hb hb'
  · by_cases ht : t = d
    · rw [if_pos ht] at hb; exact hF b hb
    · rw [if_neg ht] at hb
      exact ⟨(ho t b ht hb).2.1, (h.mine t b hb).2⟩
  · cases hs' : s b with
    | none => exact hsn b o hb hs'
    | some o' => exact h.new b o' hs' hb0

/-- Less is known. -/
theorem Rel.weaken {N : Nat} {w0 : World} {hd : FS} {pn : Nat → Option Value} {s0 : Hp} {env env' : Env} {s : Hp} {F : Nat → FS} {a : Act} {w : World}
    (h : Rel N w0 hd pn s0 env s F a w) (he : ∀ t, env' t = .any ∨ env' t = env t) : RelE N w0 hd pn s0 env' a w := by
  classical
  refine ⟨s, fun t => if env' t = env t then F t else FS.no, ⟨h.dfr, h.size, fun t => ?_, fun t t' b hb hb' => ?_, fun t b hb => ?_, h.fz, h.keep, h.pin, h.ext, h.new⟩⟩
  · by_cases ht : env' t = env t
    · simp only [ht, if_true]; exact h.slot t
    · simp only [if_neg ht]
      rw [(he t).resolve_right ht]
      exact fun b hb => hb
  · try dsimp only at hb hb'
    split at hb
    · split at hb'
      · exact h.disj t t' b hb hb'
      · exact hb'.elim
    · exact hb.elim
  · try dsimp only at hb
    split at hb
    · exact h.mine t b hb
    · exact hb.elim

end Go.Proofs.YtkgboidjghcegaaGreatDoor.VL
/- Proved here: rules for walking code with the words of VA: control, and operations that touch no memory. General: over every program. -/
set_option linter.unusedVariables false
set_option linter.unusedSimpArgs false
namespace Go.Proofs.YtkgboidjghcegaaGreatDoor.VL
open Go

structure Cx where
  P : Program
  N : Nat
  w0 : World
  hd : FS
  hN : N ≤ 10000
  pn : Nat → Option Value
  s0 : Hp
  gl : Glb P s0
def Cx.ok (C : Cx) (d : Nat) : Prop := d < C.N ∧ C.pn d = none
/-- An operation, and where its result goes. -/
def Hd (C : Cx) (o : Oper) (X : Op) (d : Nat) : Prop := o.op = X ∧ o.dst = some d ∧ C.ok d
def Cx.R (C : Cx) (env : Env) (a : Act) (w : World) : Prop := RelE C.N C.w0 C.hd C.pn C.s0 env a w

def AW (C : Cx) (c : Code) (env : Env) (Q : Exit → Act → World → Prop) : Prop := ∀ a w, C.R env a w → c.wp C.P Q a w
def AWl (C : Cx) (ops : Array Oper) (l : List Oper) (env : Env) (Q : Exit → Act → World → Prop) : Prop := ∀ a w, C.R env a w → wpList C.P ops Q l a w
/-- What holds where a piece of code is left. -/
def AX (C : Cx) (e : Exit) (env : Env) (Q : Exit → Act → World → Prop) : Prop := ∀ a w, C.R env a w → Q e a w
def OpT (C : Cx) (o : Oper) (env env' : Env) : Prop :=
  ∀ (Q : Exit → Act → World → Prop) (K : Act → World → Prop) a w, C.R env a w → (∀ a' w', C.R env' a' w' → K a' w') → o.wp C.P a w K Q

section
variable {C : Cx} {env env' : Env} {Q : Exit → Act → World → Prop} {x y c : Code} {ops : Array Oper} {l rest : List Oper} {o : Oper} {K : Act → World → Prop}

/-! ### Control -/
theorem AW.seq (h : AW C x env (Exit.then (fun a w => y.wp C.P Q a w) Q)) : AW C (.seq x y) env Q := fun a w hr => wp_seq (h a w hr)
theorem AW.skip (h : AX C .normal env Q) : AW C .skip env Q := fun a w hr => wp_skip (h a w hr)
theorem AW.region {id : Nat} (h : AWl C l.toArray l env Q) : AW C (.region id l.toArray false) env Q := fun a w hr => wp_region_lit (h a w hr)
theorem AWl.nil (h : AX C .normal env Q) : AWl C ops [] env Q := fun a w hr => wpList_nil (h a w hr)
theorem AW.block {id : Nat} (h : AW C c env (Exit.inBlock id Q)) : AW C (.block id c) env Q := fun a w hr => wp_block (h a w hr)
theorem AW.exit {id : Nat} (h : AX C (.exit id) env Q) : AW C (.exit id) env Q := fun a w hr => wp_exit (h a w hr)
theorem AW.ret (h : AX C .ret env Q) : AW C .ret env Q := fun a w hr => wp_ret (h a w hr)
theorem AX.go (h : AW C y env Q) : AX C .normal env (Exit.then (fun a w => y.wp C.P Q a w) Q) := h
theorem AX.normal_block {id : Nat} (h : AX C .normal env Q) : AX C .normal env (Exit.inBlock id Q) := h
theorem AX.exit_hit {id : Nat} (h : AX C .normal env Q) : AX C (.exit id) env (Exit.inBlock id Q) := fun a w hr => by
  simp only [Exit.inBlock, if_true]; exact h a w hr
theorem AX.exit_miss {id id' : Nat} (hne : id ≠ id') (h : AX C (.exit id) env Q) : AX C (.exit id) env (Exit.inBlock id' Q) := fun a w hr => by
  simp only [Exit.inBlock, if_neg hne]; exact h a w hr

/-- Less is known, or the same in other words. -/
def Env.to (env env' : Env) : Prop := ∀ t, env' t = .any ∨ env' t = env t
theorem Cx.R.to {a : Act} {w : World} (h : C.R env a w) (he : env.to env') : C.R env' a w := by
  obtain ⟨s, F, hr⟩ := h
  exact hr.weaken he
theorem AW.to (he : env.to env') (h : AW C c env' Q) : AW C c env Q := fun a w hr => h a w (hr.to he)
theorem AWl.to (he : env.to env') (h : AWl C ops l env' Q) : AWl C ops l env Q := fun a w hr => h a w (hr.to he)
theorem AX.to {e : Exit} (he : env.to env') (h : AX C e env' Q) : AX C e env Q := fun a w hr => h a w (hr.to he)
/-- The slots that are kept; of all others nothing is known. -/
def keep (l : List (Nat × As)) : Env := fun t => match l with
  | [] => .any
  | (d, A) :: r => if t = d then A else keep r t
theorem Env.to_nil : env.to (keep []) := fun t => .inl rfl
theorem Env.to_cons {d : Nat} {A : As} {l : List (Nat × As)} (hA : env d = A) (h : env.to (keep l)) : env.to (keep ((d, A) :: l)) := by
  intro t
  unfold keep
  by_cases ht : t = d
  · subst ht; rw [if_pos rfl]; exact .inr hA.symm
  · rw [if_neg ht]; exact h t

theorem AW.loop {ι : Type} (I : ι → Prop) (E : ι → Env) (m : ι → Nat) (x0 : ι) (h0 : I x0) (he : env.to (E x0))
    (round : ∀ z, I z → AW C c (E z) (Exit.then (fun a w => ∃ z', I z' ∧ m z' < m z ∧ C.R (E z') a w) Q)) : AW C (.loop c) env Q := by
  intro a w hr
  refine wp_loop_ghost (fun n a w => ∃ z, I z ∧ m z = n ∧ C.R (E z) a w) (m x0) ⟨x0, h0, rfl, hr.to he⟩ ?_
  rintro n a w ⟨z, hz, rfl, hR⟩
  refine wp_mono (round z hz a w hR) ?_
  intro e a' w' hq
  cases e with
  | normal => obtain ⟨z', h1, h2, h3⟩ := hq; exact ⟨m z', h2, z', h1, rfl, h3⟩
  | _ => exact hq
theorem AX.again {ι : Type} {I : ι → Prop} {E : ι → Env} {m : ι → Nat} {z : ι} (z' : ι) (h : I z') (hm : m z' < m z) (he : env.to (E z')) :
    AX C .normal env (Exit.then (fun a w => ∃ z', I z' ∧ m z' < m z ∧ C.R (E z') a w) Q) := fun a w hr => ⟨z', h, hm, hr.to he⟩

/-! ### What a slot tells -/
def As.flat : As → Bool
  | .own .. | .box .. | .deep .. => false
  | _ => true
theorem As.flat_no {s : Hp} {w : World} {g : Nat → Value} {v : Value} {F : FS} {A : As} (h : A.holds s w g v F) (hf : A.flat = true) : A.holds s w g v FS.no := by
  cases A with
  | own => cases hf
  | box => cases hf
  | deep => cases hf
  | any => exact fun b hb => hb
  | val u => exact ⟨h.1, fun b hb => hb⟩
  | cel k x => exact ⟨h.1, fun b hb => hb⟩
  | agg k x => exact ⟨h.1, fun b hb => hb⟩
  | ali t => exact ⟨h.1, fun b hb => hb⟩
  | pel t i k o k' f h' => exact ⟨h.1, fun b hb => hb⟩
  | clo f k x => exact ⟨h.1, fun b hb => hb⟩
  | cap f ts => exact ⟨h.1, fun b hb => hb⟩
  | vw t lo hi z => exact ⟨h.1, fun b hb => hb⟩
/-- An operand's value. -/
def Opd (C : Cx) (env : Env) (x : Operand) (A : As) : Prop := ∀ s F a w, Rel C.N C.w0 C.hd C.pn C.s0 env s F a w → A.holds s w (gv a.tmps) (a.eval x) FS.no
theorem gv_lo {tmps : Array Value} {t : Nat} (h : t < 10000) : gv tmps t = tmps.getD t undef := by unfold gv; rw [if_pos h]
theorem Opd.tmp {t : Nat} {A : As} (h : env t = A) (ht : t < 10000) (hf : A.flat = true) : Opd C env (.tmp t) A := fun s F a w hr => by
  have h1 := hr.slot t
  rw [h, gv_lo ht] at h1
  exact As.flat_no h1 hf
theorem Opd.int {k : IntKind} {n : Int} (h : inR k n) : Opd C env (.const (.int k n)) (.cel (Kd.int k) n) := fun s F a w hr => ⟨⟨rfl, h⟩, fun b hb => hb⟩
theorem Opd.u64 {n : Int} (h : 0 ≤ n ∧ n < 18446744073709551616) : Opd C env (.const (.int .u64 n)) (.cel Kd.u64 (BitVec.ofInt 64 n)) := fun s F a w hr => by
  refine ⟨?_, fun b hb => hb⟩
  show [Value.int .u64 n] = [Value.int .u64 ((BitVec.ofInt 64 n).toNat : Int)]
  have : ((BitVec.ofInt 64 n).toNat : Int) = n := by
    rw [BitVec.toNat_ofInt]; omega
  rw [this]
theorem Opd.bool {b : Bool} : Opd C env (.const (.bool b)) (.cel Kd.bool b) := fun s F a w hr => ⟨rfl, fun b hb => hb⟩
theorem Opd.str {b : ByteArray} (h : b.size ≤ 9223372036854775807) : Opd C env (.const (.string b)) (.cel Kd.str b) := fun s F a w hr => ⟨⟨rfl, h⟩, fun b hb => hb⟩
theorem Opd.nilslice {α : Type} (k : Kd α) : Opd C env (.const (.slice none 0 0)) (.cel (Kd.slice k) []) := fun s F a w hr =>
  ⟨⟨none, 0, rfl, Nat.le_refl _, by decide, fun h => by simp at h⟩, fun b hb => hb⟩
theorem Opd.const {v : Value} : Opd C env (.const v) (.val v) := fun s F a w hr => ⟨rfl, fun b hb => hb⟩
theorem Opd.func {f : FuncId} : Opd C env (.func f) (.clo f Kd.unit ()) := fun s F a w hr => ⟨⟨#[], rfl, rfl⟩, fun b hb => hb⟩

/-- What is known of data that has been read. -/
def Kd.ok {α : Type} (k : Kd α) (x : α) : Prop := ∃ s cs, k.rd s cs x
theorem R_ok {α : Type} {k : Kd α} {z : α} {t : Nat} (h : env t = .cel k z) {a : Act} {w : World} (hr : C.R env a w) : k.ok z := by
  obtain ⟨s, F, hr⟩ := hr
  have h1 := hr.slot t
  rw [h] at h1
  exact ⟨s, _, h1.1⟩
theorem R_okA {α : Type} {k : Kd α} {z : α} {t : Nat} (h : env t = .agg k z) {a : Act} {w : World} (hr : C.R env a w) : k.ok z := by
  obtain ⟨s, F, hr⟩ := hr
  have h1 := hr.slot t
  rw [h] at h1
  obtain ⟨⟨cs, e, h2⟩, _⟩ := h1
  exact ⟨s, _, h2⟩
theorem RdL.ok {α : Type} {k : Kd α} {s : Hp} {xs : List α} : ∀ {cs}, RdL k s cs xs → ∀ x ∈ xs, k.ok x := by
  induction xs with
  | nil => intro cs h x hx; cases hx
  | cons x xs ih =>
    intro cs h y hy
    obtain ⟨c, d, rfl, hc, hd⟩ := h
    cases hy with
    | head => exact ⟨s, c, hc⟩
    | tail _ hy => exact ih hd y hy
theorem ok_int {k : IntKind} {n : Int} (h : (Kd.int k).ok n) : inR k n := by obtain ⟨s, cs, h⟩ := h; exact h.2
theorem ok_i64 {n : Int} (h : (Kd.int .i64).ok n) : -9223372036854775808 ≤ n ∧ n ≤ 9223372036854775807 := ok_int h
theorem ok_i16 {n : Int} (h : (Kd.int .i16).ok n) : -32768 ≤ n ∧ n ≤ 32767 := ok_int h
theorem ok_u8 {n : Int} (h : (Kd.int .u8).ok n) : 0 ≤ n ∧ n ≤ 255 := ok_int h
theorem ok_str {n : ByteArray} (h : Kd.str.ok n) : n.size ≤ 9223372036854775807 := by obtain ⟨s, cs, h⟩ := h; exact h.2
theorem ok_pair {α β : Type} {a : Kd α} {b : Kd β} {z : α × β} (h : (Kd.pair a b).ok z) : a.ok z.1 ∧ b.ok z.2 := by
  obtain ⟨s, cs, c, d, rfl, h1, h2⟩ := h; exact ⟨⟨s, c, h1⟩, ⟨s, d, h2⟩⟩
theorem ok_slice {α : Type} {k : Kd α} {xs : List α} (h : (Kd.slice k).ok xs) : (∀ z ∈ xs, k.ok z) ∧ xs.length ≤ 9223372036854775807 := by
  obtain ⟨s, cs, A, c, rfl, h1, h2, h3⟩ := h
  refine ⟨fun z hz => ?_, by omega⟩
  obtain ⟨ad, cells, _, h4, _⟩ := h3 (List.length_pos_of_mem hz)
  exact h4.ok z hz
theorem ok_ptr {α : Type} {k : Kd α} {z : α} (h : (Kd.ptr k).ok z) : k.ok z := by obtain ⟨s, cs, ad, c, rfl, h1, _⟩ := h; exact ⟨s, c, h1⟩
theorem AW.fact {p : Prop} (hp : ∀ a w, C.R env a w → p) (h : p → AW C c env Q) : AW C c env Q := fun a w hr => h (hp a w hr) a w hr
theorem AW.cond {t : Nat} {b : Bool} (h : env t = .cel Kd.bool b) (ht : t < 10000) (h1 : b = true → AW C x env Q) (h2 : b = false → AW C y env Q) : AW C (.cond (.tmp t) x y) env Q := by
  intro a w hr
  obtain ⟨s, F, hr'⟩ := id hr
  have h3 := Opd.tmp (C := C) h ht rfl s F a w hr'
  have h4 : a.eval (.tmp t) = .bool b := by have := h3.1; simpa [Kd.bool] using this
  exact wp_cond_split h4 (fun hb => h1 hb a w hr) (fun hb => h2 hb a w hr)

/-! ### Operations in a row -/
theorem AWl.op (hg : o.guard = none) (h : OpT C o env env') (k : AWl C ops rest env' Q) : AWl C ops (o :: rest) env Q := fun a w hr =>
  wpList_plain hg fun K hK => h Q K a w hr (fun a' w' hr' => hK a' w' (k a' w' hr'))
theorem wanted_of {j t : Nat} {want b : Bool} (hg : o.guard = some (j, want)) (ht : (ops[j]?).bind (·.dst) = some t) (hb : env t = .cel Kd.bool b) (htl : t < 10000) {a : Act} {w : World} (hr : C.R env a w) :
    Region.wanted o (yielded ops a.tmps) = (b == want) := by
  obtain ⟨s, F, hr'⟩ := hr
  have h3 := Opd.tmp (C := C) hb htl rfl s F a w hr'
  have h4 : a.tmps.getD t undef = .bool b := by
    have h5 : a.eval (.tmp t) = .bool b := by have := h3.1; simpa [Kd.bool] using this
    exact h5
  have h5 : a.tmps[t]? = some (.bool b) := by
    rw [Array.getD_eq_getD_getElem?] at h4
    cases h6 : a.tmps[t]? with
    | none => rw [h6] at h4; cases h4
    | some u => rw [h6] at h4; simp at h4; rw [h4]
  simp only [Region.wanted, hg, yielded, ht, Option.bind_some, h5]
  cases b <;> cases want <;> rfl
theorem wanted_no {j t : Nat} {want : Bool} (hg : o.guard = some (j, want)) (ht : (ops[j]?).bind (·.dst) = some t) (hb : env t = .val undef) (htl : t < 10000) {a : Act} {w : World} (hr : C.R env a w) :
    Region.wanted o (yielded ops a.tmps) = false := by
  obtain ⟨s, F, hr'⟩ := hr
  have h3 := (Opd.tmp (C := C) hb htl rfl s F a w hr').1
  have h4 : a.tmps.getD t undef = undef := h3
  have h5 : yielded ops a.tmps j = none := by
    unfold yielded
    rw [ht, Option.bind_some]
    rw [Array.getD_eq_getD_getElem?] at h4
    cases h6 : a.tmps[t]? with
    | none => rfl
    | some u =>
      rw [h6] at h4
      simp only [Option.getD_some] at h4
      subst h4
      rfl
  simp only [Region.wanted, hg, h5]
  cases want <;> rfl
theorem AWl.passV {j t d : Nat} {want : Bool} (hg : o.guard = some (j, want)) (ht : (ops[j]?).bind (·.dst) = some t) (hb : env t = .cel Kd.bool (!want) ∨ env t = .val undef) (htl : t < 10000)
    (hd : o.dst = some d) (hdN : C.ok d) (k : AWl C ops rest (upd env d (.val undef)) Q) : AWl C ops (o :: rest) env Q := fun a w hr =>
  wpList_step fun K hK => by
    have h1 : Region.wanted o (yielded ops a.tmps) = false := by
      rcases hb with hb | hb
      · rw [wanted_of hg ht hb htl hr]; cases want <;> rfl
      · exact wanted_no hg ht hb htl hr
    rw [if_neg (by rw [h1]; simp)]
    rw [hd]
    obtain ⟨s, F, hr'⟩ := hr
    exact hK _ _ (k _ _ (hr'.put0 hdN.1 (Nat.lt_of_lt_of_le hdN.1 C.hN) hdN.2 ⟨rfl, fun b hb => hb⟩))
theorem AWl.run {j t : Nat} {want b : Bool} (hg : o.guard = some (j, want)) (ht : (ops[j]?).bind (·.dst) = some t) (hb : env t = .cel Kd.bool b) (htl : t < 10000) (hbw : b = want)
    (h : OpT C o env env') (k : AWl C ops rest env' Q) : AWl C ops (o :: rest) env Q := fun a w hr =>
  wpList_step fun K hK => by
    rw [if_pos (by rw [wanted_of hg ht hb htl hr, hbw]; simp)]
    exact h Q K a w hr (fun a' w' hr' => hK a' w' (k a' w' hr'))
theorem AWl.pass {j t d : Nat} {want b : Bool} (hg : o.guard = some (j, want)) (ht : (ops[j]?).bind (·.dst) = some t) (hb : env t = .cel Kd.bool b) (htl : t < 10000) (hbw : b = !want)
    (hd : o.dst = some d) (hdN : C.ok d) (k : AWl C ops rest (upd env d .any) Q) : AWl C ops (o :: rest) env Q := fun a w hr =>
  wpList_step fun K hK => by
    rw [if_neg (by rw [wanted_of hg ht hb htl hr, hbw]; cases want <;> simp)]
    rw [hd]
    obtain ⟨s, F, hr'⟩ := hr
    exact hK _ _ (k _ _ (hr'.put0 hdN.1 (Nat.lt_of_lt_of_le hdN.1 C.hN) hdN.2 (fun b hb => hb)))

/-- An operation that only computes. -/
theorem OpT.pure {d : Nat} {A : As} (hd : o.dst = some d) (hdN : C.ok d)
    (h : ∀ s F a w, Rel C.N C.w0 C.hd C.pn C.s0 env s F a w → ∃ v, (execOp a.eval o).run C.P w = .ok (.value v) w ∧ A.holds s w (gv (a.tmps.setIfInBounds d v)) v FS.no) : OpT C o env (upd env d A) := by
  intro Q K a w hr hK
  obtain ⟨s, F, hr'⟩ := hr
  obtain ⟨v, h1, h2⟩ := h s F a w hr'
  unfold Oper.wp
  rw [h1, Oper.upon_value, hd]
  exact hK _ _ (hr'.put0 hdN.1 (Nat.lt_of_lt_of_le hdN.1 C.hN) hdN.2 h2)
/-- The same where what comes out speaks of no other slot. -/
def As.free : As → Bool
  | .ali .. | .pel .. | .cap .. | .vw .. => false
  | _ => true
theorem As.holds_free {s : Hp} {w : World} {g g' : Nat → Value} {v : Value} {F : FS} {A : As} (h : A.holds s w g v F) (hf : A.free = true) : A.holds s w g' v F := by
  cases A with
  | ali => cases hf
  | pel => cases hf
  | cap => cases hf
  | vw => cases hf
  | _ => exact h
theorem OpT.move {p : Operand} {d : Nat} {A : As} (ho : o.op = .move p ∨ o.op = .assign p) (hd : o.dst = some d) (hdN : C.ok d) (hA : Opd C env p A) (hf : A.free = true) : OpT C o env (upd env d A) :=
  OpT.pure hd hdN fun s F a w hr => ⟨a.eval p, by rcases ho with ho | ho <;> simp only [execOp, ho] <;> rfl, As.holds_free (hA s F a w hr) hf⟩
/-- A copy of what is owned elsewhere. -/
theorem OpT.alias {t d : Nat} (hH : Hd C o (.move (.tmp t)) d) (htl : t < 10000) (hne : t ≠ d) : OpT C o env (upd env d (.ali t)) :=
  OpT.pure hH.2.1 hH.2.2 fun s F a w hr => ⟨a.eval (.tmp t), by simp only [execOp, hH.1]; rfl, ⟨by
    have hof : ofSlot d t = false := by simp [ofSlot, Nat.mod_eq_of_lt htl, hne]
    rw [gv_put_ne _ hof, gv_lo htl]
    rfl, htl⟩, fun b hb => hb⟩
theorem OpT.pick {p q r : Operand} {d : Nat} {b : Bool} {A B : As} (hH : Hd C o (.pick p q r) d) (hp : Opd C env p (.cel Kd.bool b))
    (hq : b = true → Opd C env q A) (hr : b = false → Opd C env r B) (hA : A.free = true) (hB : B.free = true) : OpT C o env (upd env d (if b = true then A else B)) :=
  OpT.pure hH.2.1 hH.2.2 fun s F a w h => by
    have h1 : a.eval p = .bool b := by have := (hp s F a w h).1; simpa [Kd.bool] using this
    refine ⟨if b then a.eval q else a.eval r, ?_, ?_⟩
    · simp only [execOp, hH.1, h1, asBool]; rfl
    · cases b
      · simpa using As.holds_free (hr rfl s F a w h) hB
      · simpa using As.holds_free (hq rfl s F a w h) hA
end
end Go.Proofs.YtkgboidjghcegaaGreatDoor.VL
/- Proved here: rules for arithmetic, comparisons, reads of memory, structs and arrays, with the words of VA. General: over every program. -/
set_option linter.unusedVariables false
set_option linter.unusedSimpArgs false
namespace Go.Proofs.YtkgboidjghcegaaGreatDoor.VL
open Go

theorem wrap_in (k : IntKind) (n : Int) : inR k (k.wrap n) := by
  unfold inR IntKind.wrap IntKind.min IntKind.max
  cases k <;> simp [IntKind.signed, IntKind.bits] <;> first | omega | (split <;> omega)
theorem wrap_id {k : IntKind} {n : Int} (h : inR k n) : k.wrap n = n := by
  unfold inR IntKind.min IntKind.max at h
  unfold IntKind.wrap
  cases k <;> simp [IntKind.signed, IntKind.bits] at h ⊢ <;> first | omega | (split <;> omega)
theorem wrap_u64 (n : Int) : IntKind.u64.wrap n = n % 18446744073709551616 := by
  unfold IntKind.wrap
  simp [IntKind.signed, IntKind.bits]
theorem inR_i64 {n : Int} : inR .i64 n ↔ -9223372036854775808 ≤ n ∧ n ≤ 9223372036854775807 := Iff.rfl
theorem inR_u8 {n : Int} : inR .u8 n ↔ 0 ≤ n ∧ n ≤ 255 := Iff.rfl
theorem wrap_i64 {n : Int} (h : -9223372036854775808 ≤ n ∧ n ≤ 9223372036854775807) : IntKind.i64.wrap n = n := wrap_id h

section
variable {C : Cx} {env env' : Env} {Q : Exit → Act → World → Prop} {o : Oper} {p q : Operand} {d : Nat} {T T' : TypeId}

theorem Opd.geti {k : IntKind} {n : Int} (h : Opd C env p (.cel (Kd.int k) n)) {s F a w} (hr : Rel C.N C.w0 C.hd C.pn C.s0 env s F a w) : a.eval p = .int k n ∧ inR k n := by
  have h1 := (h s F a w hr).1
  exact ⟨by have := h1.1; simpa using this, h1.2⟩
theorem Opd.getu {n : BitVec 64} (h : Opd C env p (.cel Kd.u64 n)) {s F a w} (hr : Rel C.N C.w0 C.hd C.pn C.s0 env s F a w) : a.eval p = .int .u64 (n.toNat : Int) := by
  have h1 := (h s F a w hr).1
  simpa [Kd.u64] using h1
theorem Opd.getb {n : Bool} (h : Opd C env p (.cel Kd.bool n)) {s F a w} (hr : Rel C.N C.w0 C.hd C.pn C.s0 env s F a w) : a.eval p = .bool n := by
  have h1 := (h s F a w hr).1
  simpa [Kd.bool] using h1
theorem Opd.gets {n : ByteArray} (h : Opd C env p (.cel Kd.str n)) {s F a w} (hr : Rel C.N C.w0 C.hd C.pn C.s0 env s F a w) : a.eval p = .string n ∧ n.size ≤ 9223372036854775807 := by
  have h1 := (h s F a w hr).1
  exact ⟨by have := h1.1; simpa using this, h1.2⟩

/-! ### Whole numbers -/
theorem OpT.ints {op : BinOp} {k : IntKind} {x y r : Int} (hH : Hd C o (.binOp op T p q T') d)
    (hp : Opd C env p (.cel (Kd.int k) x)) (hq : Opd C env q (.cel (Kd.int k) y))
    (hop : op = .add ∧ r = k.wrap (x + y) ∨ op = .sub ∧ r = k.wrap (x - y) ∨ op = .mul ∧ r = k.wrap (x * y)) : OpT C o env (upd env d (.cel (Kd.int k) r)) :=
  OpT.pure hH.2.1 hH.2.2 fun s F a w hr => by
    refine ⟨.int k r, ?_, ⟨⟨rfl, ?_⟩, fun b hb => hb⟩⟩
    · rcases hop with ⟨rfl, rfl⟩ | ⟨rfl, rfl⟩ | ⟨rfl, rfl⟩ <;> simp [execOp, hH.1, (hp.geti hr).1, (hq.geti hr).1, binOp, eqGuard, Op.intArith]
    · rcases hop with ⟨rfl, rfl⟩ | ⟨rfl, rfl⟩ | ⟨rfl, rfl⟩ <;> exact wrap_in _ _
theorem OpT.add {k : IntKind} {x y r : Int} (hH : Hd C o (.binOp .add T p q T') d) (hp : Opd C env p (.cel (Kd.int k) x)) (hq : Opd C env q (.cel (Kd.int k) y)) (hr : k.wrap (x + y) = r) : OpT C o env (upd env d (.cel (Kd.int k) r)) :=
  OpT.ints hH hp hq (.inl ⟨rfl, hr.symm⟩)
theorem OpT.sub {k : IntKind} {x y r : Int} (hH : Hd C o (.binOp .sub T p q T') d) (hp : Opd C env p (.cel (Kd.int k) x)) (hq : Opd C env q (.cel (Kd.int k) y)) (hr : k.wrap (x - y) = r) : OpT C o env (upd env d (.cel (Kd.int k) r)) :=
  OpT.ints hH hp hq (.inr (.inl ⟨rfl, hr.symm⟩))
theorem OpT.mul {k : IntKind} {x y r : Int} (hH : Hd C o (.binOp .mul T p q T') d) (hp : Opd C env p (.cel (Kd.int k) x)) (hq : Opd C env q (.cel (Kd.int k) y)) (hr : k.wrap (x * y) = r) : OpT C o env (upd env d (.cel (Kd.int k) r)) :=
  OpT.ints hH hp hq (.inr (.inr ⟨rfl, hr.symm⟩))
theorem OpT.quo {k : IntKind} {x y r : Int} (hH : Hd C o (.binOp .quo T p q T') d) (hp : Opd C env p (.cel (Kd.int k) x)) (hq : Opd C env q (.cel (Kd.int k) y)) (h0 : y ≠ 0) (hr : k.wrap (x.tdiv y) = r) : OpT C o env (upd env d (.cel (Kd.int k) r)) :=
  OpT.pure hH.2.1 hH.2.2 fun s F a w h => by
    refine ⟨.int k r, ?_, ⟨⟨rfl, ?_⟩, fun b hb => hb⟩⟩
    · subst hr; simp [execOp, hH.1, (hp.geti h).1, (hq.geti h).1, binOp, eqGuard, Op.intDiv, h0]
    · subst hr; exact wrap_in _ _
theorem tmod_in {k : IntKind} {x y : Int} (hx : inR k x) (hy : inR k y) (h0 : y ≠ 0) : inR k (x.tmod y) := by
  have h1 : x.tmod y ≤ x.natAbs ∧ -(x.natAbs : Int) ≤ x.tmod y ∧ (0 ≤ x → 0 ≤ x.tmod y) ∧ (x ≤ 0 → x.tmod y ≤ 0) := by
    have h2 := Int.natAbs_tmod x y
    have h3 : x.natAbs % y.natAbs ≤ x.natAbs := Nat.mod_le _ _
    refine ⟨by omega, by omega, fun h => Int.tmod_nonneg y h, fun h => ?_⟩
    have := Int.tmod_nonneg y (show 0 ≤ -x by omega)
    rw [Int.neg_tmod] at this
    omega
  unfold inR IntKind.min IntKind.max at *
  cases k <;> simp [IntKind.signed, IntKind.bits] at hx hy ⊢ <;> omega
theorem OpT.rem {k : IntKind} {x y : Int} (hH : Hd C o (.binOp .rem T p q T') d) (hp : Opd C env p (.cel (Kd.int k) x)) (hq : Opd C env q (.cel (Kd.int k) y)) (h0 : y ≠ 0) : OpT C o env (upd env d (.cel (Kd.int k) (x.tmod y))) :=
  OpT.pure hH.2.1 hH.2.2 fun s F a w h => by
    refine ⟨.int k (x.tmod y), ?_, ⟨⟨rfl, tmod_in (hp.geti h).2 (hq.geti h).2 h0⟩, fun b hb => hb⟩⟩
    simp [execOp, hH.1, (hp.geti h).1, (hq.geti h).1, binOp, eqGuard, Op.intDiv, h0]
theorem OpT.cmp {op : BinOp} {k : IntKind} {x y : Int} {r : Bool} (hH : Hd C o (.binOp op T p q T') d)
    (hp : Opd C env p (.cel (Kd.int k) x)) (hq : Opd C env q (.cel (Kd.int k) y))
    (hop : op = .eql ∧ r = (x == y) ∨ op = .neq ∧ r = (x != y) ∨ op = .lss ∧ r = decide (x < y) ∨ op = .leq ∧ r = decide (x ≤ y) ∨ op = .gtr ∧ r = decide (x > y) ∨ op = .geq ∧ r = decide (x ≥ y)) : OpT C o env (upd env d (.cel Kd.bool r)) :=
  OpT.pure hH.2.1 hH.2.2 fun s F a w hr => by
    refine ⟨.bool r, ?_, ⟨rfl, fun b hb => hb⟩⟩
    rcases hop with ⟨rfl, rfl⟩ | ⟨rfl, rfl⟩ | ⟨rfl, rfl⟩ | ⟨rfl, rfl⟩ | ⟨rfl, rfl⟩ | ⟨rfl, rfl⟩ <;> simp [execOp, hH.1, (hp.geti hr).1, (hq.geti hr).1, binOp, eqGuard, Op.intCmp]
theorem OpT.eql {k : IntKind} {x y : Int} (hH : Hd C o (.binOp .eql T p q T') d) (hp : Opd C env p (.cel (Kd.int k) x)) (hq : Opd C env q (.cel (Kd.int k) y)) : OpT C o env (upd env d (.cel Kd.bool (x == y))) := OpT.cmp hH hp hq (by simp)
theorem OpT.neq {k : IntKind} {x y : Int} (hH : Hd C o (.binOp .neq T p q T') d) (hp : Opd C env p (.cel (Kd.int k) x)) (hq : Opd C env q (.cel (Kd.int k) y)) : OpT C o env (upd env d (.cel Kd.bool (x != y))) := OpT.cmp hH hp hq (by simp)
theorem OpT.lss {k : IntKind} {x y : Int} (hH : Hd C o (.binOp .lss T p q T') d) (hp : Opd C env p (.cel (Kd.int k) x)) (hq : Opd C env q (.cel (Kd.int k) y)) : OpT C o env (upd env d (.cel Kd.bool (decide (x < y)))) := OpT.cmp hH hp hq (by simp)
theorem OpT.leq {k : IntKind} {x y : Int} (hH : Hd C o (.binOp .leq T p q T') d) (hp : Opd C env p (.cel (Kd.int k) x)) (hq : Opd C env q (.cel (Kd.int k) y)) : OpT C o env (upd env d (.cel Kd.bool (decide (x ≤ y)))) := OpT.cmp hH hp hq (by simp)
theorem OpT.gtr {k : IntKind} {x y : Int} (hH : Hd C o (.binOp .gtr T p q T') d) (hp : Opd C env p (.cel (Kd.int k) x)) (hq : Opd C env q (.cel (Kd.int k) y)) : OpT C o env (upd env d (.cel Kd.bool (decide (x > y)))) := OpT.cmp hH hp hq (by simp)
theorem OpT.geq {k : IntKind} {x y : Int} (hH : Hd C o (.binOp .geq T p q T') d) (hp : Opd C env p (.cel (Kd.int k) x)) (hq : Opd C env q (.cel (Kd.int k) y)) : OpT C o env (upd env d (.cel Kd.bool (decide (x ≥ y)))) := OpT.cmp hH hp hq (by simp)
theorem OpT.not {x : Bool} (hH : Hd C o (.unOp .not T p) d) (hp : Opd C env p (.cel Kd.bool x)) : OpT C o env (upd env d (.cel Kd.bool (!x))) :=
  OpT.pure hH.2.1 hH.2.2 fun s F a w hr => ⟨.bool (!x), by simp [execOp, hH.1, hp.getb hr, Op.unary], ⟨rfl, fun b hb => hb⟩⟩
theorem OpT.conv {k k' : IntKind} {x r : Int} (hH : Hd C o (.convert T T' p) d) (hT : (C.P.underlying T).isSome = true) (hT' : C.P.underlying T' = some (.int k')) (hp : Opd C env p (.cel (Kd.int k) x)) (hr : k'.wrap x = r) : OpT C o env (upd env d (.cel (Kd.int k') r)) :=
  OpT.pure hH.2.1 hH.2.2 fun s F a w h => ⟨.int k' r, by
    subst hr
    obtain ⟨u, hu⟩ := Option.isSome_iff_exists.1 hT
    cases u <;> simp [execOp, hH.1, (hp.geti h).1, convert, underlying, program, Sem.run, hu, hT', Conv.intToInt], ⟨⟨rfl, by subst hr; exact wrap_in _ _⟩, fun b hb => hb⟩⟩

/-! ### 64 bits -/
theorem ofInt_toNat (x : BitVec 64) : BitVec.ofInt 64 (x.toNat : Int) = x := by
  apply BitVec.eq_of_toNat_eq
  rw [BitVec.toNat_ofInt]
  have := x.isLt
  omega
theorem OpT.bits {op : BinOp} {x y r : BitVec 64} (hH : Hd C o (.binOp op T p q T') d)
    (hp : Opd C env p (.cel Kd.u64 x)) (hq : Opd C env q (.cel Kd.u64 y))
    (hop : op = .and ∧ r = x &&& y ∨ op = .or ∧ r = x ||| y ∨ op = .xor ∧ r = x ^^^ y ∨ op = .andNot ∧ r = x &&& ~~~y) : OpT C o env (upd env d (.cel Kd.u64 r)) :=
  OpT.pure hH.2.1 hH.2.2 fun s F a w hr => by
    refine ⟨.int .u64 (r.toNat : Int), ?_, ⟨rfl, fun b hb => hb⟩⟩
    have hw : ∀ z : BitVec 64, IntKind.u64.wrap (z.toNat : Int) = (z.toNat : Int) := fun z => by rw [wrap_u64]; have := z.isLt; omega
    rcases hop with ⟨rfl, rfl⟩ | ⟨rfl, rfl⟩ | ⟨rfl, rfl⟩ | ⟨rfl, rfl⟩ <;> simp only [execOp, hH.1, hp.getu hr, hq.getu hr, binOp, eqGuard, Op.intBits, IntKind.bits, ofInt_toNat, hw] <;> rfl
theorem OpT.band {x y : BitVec 64} (hH : Hd C o (.binOp .and T p q T') d) (hp : Opd C env p (.cel Kd.u64 x)) (hq : Opd C env q (.cel Kd.u64 y)) : OpT C o env (upd env d (.cel Kd.u64 (x &&& y))) := OpT.bits hH hp hq (by simp)
theorem OpT.bor {x y : BitVec 64} (hH : Hd C o (.binOp .or T p q T') d) (hp : Opd C env p (.cel Kd.u64 x)) (hq : Opd C env q (.cel Kd.u64 y)) : OpT C o env (upd env d (.cel Kd.u64 (x ||| y))) := OpT.bits hH hp hq (by simp)
theorem OpT.uadd {x y : BitVec 64} (hH : Hd C o (.binOp .add T p q T') d) (hp : Opd C env p (.cel Kd.u64 x)) (hq : Opd C env q (.cel Kd.u64 y)) : OpT C o env (upd env d (.cel Kd.u64 (x + y))) :=
  OpT.pure hH.2.1 hH.2.2 fun s F a w hr => by
    refine ⟨.int .u64 ((x + y).toNat : Int), ?_, ⟨rfl, fun b hb => hb⟩⟩
    have : IntKind.u64.wrap ((x.toNat : Int) + y.toNat) = ((x + y).toNat : Int) := by rw [wrap_u64, BitVec.toNat_add]; omega
    simp [execOp, hH.1, hp.getu hr, hq.getu hr, binOp, eqGuard, Op.intArith, this]
theorem OpT.umul {x y : BitVec 64} (hH : Hd C o (.binOp .mul T p q T') d) (hp : Opd C env p (.cel Kd.u64 x)) (hq : Opd C env q (.cel Kd.u64 y)) : OpT C o env (upd env d (.cel Kd.u64 (x * y))) :=
  OpT.pure hH.2.1 hH.2.2 fun s F a w hr => by
    refine ⟨.int .u64 ((x * y).toNat : Int), ?_, ⟨rfl, fun b hb => hb⟩⟩
    have : IntKind.u64.wrap ((x.toNat : Int) * y.toNat) = ((x * y).toNat : Int) := by rw [wrap_u64, BitVec.toNat_mul]; simp
    simp [execOp, hH.1, hp.getu hr, hq.getu hr, binOp, eqGuard, Op.intArith, this]
theorem OpT.ueql {x y : BitVec 64} (hH : Hd C o (.binOp .eql T p q T') d) (hp : Opd C env p (.cel Kd.u64 x)) (hq : Opd C env q (.cel Kd.u64 y)) : OpT C o env (upd env d (.cel Kd.bool (x == y))) :=
  OpT.pure hH.2.1 hH.2.2 fun s F a w hr => by
    refine ⟨.bool (x == y), ?_, ⟨rfl, fun b hb => hb⟩⟩
    have : ((x.toNat : Int) == (y.toNat : Int)) = (x == y) := by
      rw [Bool.eq_iff_iff]; simp; constructor
      · intro h; exact BitVec.eq_of_toNat_eq (by omega)
      · rintro rfl; rfl
    simp only [execOp, hH.1, hp.getu hr, hq.getu hr, binOp, eqGuard, Op.intCmp, this]; rfl
theorem OpT.shl {k' : IntKind} {x : BitVec 64} {y : Int} (hH : Hd C o (.binOp .shl T p q T') d) (hp : Opd C env p (.cel Kd.u64 x)) (hq : Opd C env q (.cel (Kd.int k') y)) (h0 : 0 ≤ y) : OpT C o env (upd env d (.cel Kd.u64 (x <<< y.toNat))) :=
  OpT.pure hH.2.1 hH.2.2 fun s F a w hr => by
    refine ⟨.int .u64 ((x <<< y.toNat).toNat : Int), ?_, ⟨rfl, fun b hb => hb⟩⟩
    have : IntKind.u64.wrap ((x.toNat : Int) * 2 ^ (min y.toNat 64)) = ((x <<< y.toNat).toNat : Int) := by
      rw [wrap_u64, BitVec.toNat_shiftLeft, Nat.shiftLeft_eq]
      rcases Nat.lt_or_ge y.toNat 64 with h | h
      · rw [Nat.min_eq_left (by omega)]; simp
      · rw [Nat.min_eq_right h]
        have h1 : x.toNat * 2 ^ y.toNat % 2 ^ 64 = 0 := by
          obtain ⟨m, hm⟩ := Nat.exists_eq_add_of_le h
          rw [hm, Nat.pow_add, ← Nat.mul_assoc, Nat.mul_right_comm]
          exact Nat.mul_mod_left _ _
        rw [h1]; omega
    simp only [execOp, hH.1, hp.getu hr, (hq.geti hr).1, binOp, eqGuard, Op.shift, if_neg (show ¬ y < 0 by omega), IntKind.bits, this]; rfl
theorem OpT.shr {k' : IntKind} {x : BitVec 64} {y : Int} (hH : Hd C o (.binOp .shr T p q T') d) (hp : Opd C env p (.cel Kd.u64 x)) (hq : Opd C env q (.cel (Kd.int k') y)) (h0 : 0 ≤ y) : OpT C o env (upd env d (.cel Kd.u64 (x >>> y.toNat))) :=
  OpT.pure hH.2.1 hH.2.2 fun s F a w hr => by
    refine ⟨.int .u64 ((x >>> y.toNat).toNat : Int), ?_, ⟨rfl, fun b hb => hb⟩⟩
    have : (x.toNat : Int).fdiv (2 ^ (min y.toNat 64)) = ((x >>> y.toNat).toNat : Int) := by
      rw [BitVec.toNat_ushiftRight, Nat.shiftRight_eq_div_pow, Int.fdiv_eq_ediv_of_nonneg _ (by exact Int.le_of_lt (Int.pow_pos (by omega)))]
      rcases Nat.lt_or_ge y.toNat 64 with h | h
      · rw [Nat.min_eq_left (by omega)]; simp
      · rw [Nat.min_eq_right h]
        have h2 : x.toNat < 2 ^ y.toNat := Nat.lt_of_lt_of_le x.isLt (Nat.pow_le_pow_right (by omega) h)
        rw [Nat.div_eq_of_lt h2]
        have := x.isLt
        omega
    simp only [execOp, hH.1, hp.getu hr, (hq.geti hr).1, binOp, eqGuard, Op.shift, if_neg (show ¬ y < 0 by omega), IntKind.bits, this]; rfl
/-- To 64 bits without a sign. -/
theorem OpT.convu {k : IntKind} {x : Int} (hH : Hd C o (.convert T T' p) d) (hT : (C.P.underlying T).isSome = true) (hT' : C.P.underlying T' = some (.int .u64)) (hp : Opd C env p (.cel (Kd.int k) x)) : OpT C o env (upd env d (.cel Kd.u64 (BitVec.ofInt 64 x))) :=
  OpT.pure hH.2.1 hH.2.2 fun s F a w h => ⟨.int .u64 ((BitVec.ofInt 64 x).toNat : Int), by
    obtain ⟨u, hu⟩ := Option.isSome_iff_exists.1 hT
    have : IntKind.u64.wrap x = ((BitVec.ofInt 64 x).toNat : Int) := by rw [wrap_u64, BitVec.toNat_ofInt]; omega
    cases u <;> simp [execOp, hH.1, (hp.geti h).1, convert, underlying, program, Sem.run, hu, hT', Conv.intToInt, this], ⟨rfl, fun b hb => hb⟩⟩
/-- From 64 bits without a sign. -/
theorem OpT.convi {k : IntKind} {x : BitVec 64} {r : Int} (hH : Hd C o (.convert T T' p) d) (hT : (C.P.underlying T).isSome = true) (hT' : C.P.underlying T' = some (.int k)) (hp : Opd C env p (.cel Kd.u64 x)) (hr : k.wrap (x.toNat : Int) = r) : OpT C o env (upd env d (.cel (Kd.int k) r)) :=
  OpT.pure hH.2.1 hH.2.2 fun s F a w h => ⟨.int k r, by
    subst hr
    obtain ⟨u, hu⟩ := Option.isSome_iff_exists.1 hT
    cases u <;> simp [execOp, hH.1, hp.getu h, convert, underlying, program, Sem.run, hu, hT', Conv.intToInt], ⟨⟨rfl, by subst hr; exact wrap_in _ _⟩, fun b hb => hb⟩⟩

/-! ### Texts -/
theorem OpT.seql {x y : ByteArray} (hH : Hd C o (.binOp .eql T p q T') d) (hp : Opd C env p (.cel Kd.str x)) (hq : Opd C env q (.cel Kd.str y)) : OpT C o env (upd env d (.cel Kd.bool (x.toList == y.toList))) :=
  OpT.pure hH.2.1 hH.2.2 fun s F a w hr => ⟨.bool (x.toList == y.toList), by simp [execOp, hH.1, (hp.gets hr).1, (hq.gets hr).1, binOp, eqGuard, Op.stringOp], ⟨rfl, fun b hb => hb⟩⟩
theorem OpT.bneq {x y : Bool} (hH : Hd C o (.binOp .neq T p q T') d) (hT : C.P.underlying T = some .bool) (hp : Opd C env p (.cel Kd.bool x)) (hq : Opd C env q (.cel Kd.bool y)) : OpT C o env (upd env d (.cel Kd.bool (!(x == y)))) :=
  OpT.pure hH.2.1 hH.2.2 fun s F a w hr => ⟨.bool (!(x == y)), by
    have h1 : ∀ w : World, (Op.equal T (.bool x) (.bool y)).run C.P w = .ok (x == y) w := fun w => run_equalIn_bool w 9999 T x y hT
    simp [execOp, hH.1, hp.getb hr, hq.getb hr, binOp, eqGuard, h1], ⟨rfl, fun b hb => hb⟩⟩
end
end Go.Proofs.YtkgboidjghcegaaGreatDoor.VL
/- Proved here: rules for reading memory, for structs and arrays, with the words of VA. General: over every program. -/
set_option linter.unusedVariables false
set_option linter.unusedSimpArgs false
namespace Go.Proofs.YtkgboidjghcegaaGreatDoor.VL
open Go

/-! ### What the program's table of types says -/
def aggT (P : Program) (T : TypeId) : Option Bool := match P.underlying T with
  | some (.struct _) => some true
  | some (.array _ _) => some true
  | some _ => some false
  | none => none
def sizeT (P : Program) (T : TypeId) : Option Nat := (P.info? T).map (·.size)
def zeroT (P : Program) (T : TypeId) : Option Value := (P.info? T).bind (·.zero)
def bytesT (P : Program) (T : TypeId) : Option Nat := (P.info? T).map (·.bytes)
def fldT (P : Program) (S : TypeId) (i : Nat) : Option (TypeId × Nat) := match P.underlying S with
  | some (.struct fs) => (fs[i]?).map fun f => (f.type, f.offset)
  | _ => none
def elT (P : Program) (T : TypeId) : Option TypeId := match P.underlying T with
  | some (.slice e) => some e
  | _ => none
def arT (P : Program) (T : TypeId) : Option (Nat × TypeId) := match P.underlying T with
  | some (.array n e) => some (n, e)
  | _ => none

section
variable {P : Program} {w : World} {T S E : TypeId}
theorem run_isAgg {b : Bool} (h : aggT P T = some b) : (isAgg T).run P w = .ok b w := by
  unfold aggT at h
  cases hu : P.underlying T with
  | none => rw [hu] at h; cases h
  | some u =>
    rw [hu] at h
    cases u <;> simp only [Option.some.injEq] at h <;> subst h <;> simp [isAgg, run_underlying hu]
theorem run_sizeT {n : Nat} (h : sizeT P T = some n) : (sizeOf T).run P w = .ok n w := by
  obtain ⟨i, hi, rfl⟩ := Option.map_eq_some_iff.1 h
  simp [sizeOf, typeInfo, hi]
theorem run_loadVar_cel {ad : Addr} {v : Value} (h : aggT P T = some false) (hv : w.cell? ad = some v) : (loadVar T ad).run P w = .ok v w := by
  simp [loadVar, run_isAgg h, hv]
theorem run_loadVar_agg {ad : Addr} {c : List Value} (h : aggT P T = some true) (hn : sizeT P T = some c.length) (hc : ∀ j u, c[j]? = some u → w.cell? (ad.add j) = some u) :
    (loadVar T ad).run P w = .ok (.agg c.toArray) w := by
  simp [loadVar, run_isAgg h, run_sizeT hn, run_loadCells_list w ad c hc]
theorem run_part_cel {cs : Array Value} {o : Nat} {v : Value} (h : aggT P T = some false) (hv : cs[o]? = some v) : (part T cs o).run P w = .ok v w := by
  simp [part, run_isAgg h, hv]
theorem run_part_agg {cs : Array Value} {o n : Nat} (h : aggT P T = some true) (hn : sizeT P T = some n) : (part T cs o).run P w = .ok (.agg (cs.extract o (o + n))) w := by
  simp [part, run_isAgg h, run_sizeT hn]
end

theorem add_add (a : Addr) (i j : Nat) : (a.add i).add j = a.add (i + j) := by
  unfold Addr.add
  by_cases h1 : i = 0 <;> by_cases h2 : j = 0 <;> simp [h1, h2, Nat.add_assoc]
theorem cellsAt_sub {s : Hp} {ad : Addr} {c : List Value} (h : ∀ j u, c[j]? = some u → s.look (ad.add j) = some u) (o n : Nat) :
    ∀ j u, ((c.drop o).take n)[j]? = some u → s.look ((ad.add o).add j) = some u := by
  intro j u hu
  rw [add_add]
  refine h _ _ ?_
  rw [List.getElem?_take] at hu
  split at hu
  · rwa [List.getElem?_drop] at hu
  · cases hu

section
variable {C : Cx} {env env' : Env} {Q : Exit → Act → World → Prop} {o : Oper} {p q : Operand} {d : Nat} {T T' S E : TypeId} {α β γ : Type} {k : Kd α} {k' : Kd β}

theorem Opd.getp {x : α} (h : Opd C env p (.cel (Kd.ptr k) x)) {s F a w} (hr : Rel C.N C.w0 C.hd C.pn C.s0 env s F a w) :
    ∃ ad c, a.eval p = .pointer (some ad) ∧ k.rd s c x ∧ ∀ j u, c[j]? = some u → s.look (ad.add j) = some u := by
  obtain ⟨ad, c, e, h1, h2⟩ := (h s F a w hr).1
  exact ⟨ad, c, by simpa using e, h1, h2⟩
theorem Opd.gets1 {x : α} (h : Opd C env p (.cel k x)) {s F a w} (hr : Rel C.N C.w0 C.hd C.pn C.s0 env s F a w) : k.rd s [a.eval p] x := (h s F a w hr).1
theorem Opd.geta {x : α} (h : Opd C env p (.agg k x)) {s F a w} (hr : Rel C.N C.w0 C.hd C.pn C.s0 env s F a w) : ∃ cs, a.eval p = .agg cs ∧ k.rd s cs.toList x := (h s F a w hr).1

/-! ### Through a pointer to what stays as it is -/
theorem OpT.nilCheck {x : α} (hH : Hd C o (.nilCheck p) d) (hp : Opd C env p (.cel (Kd.ptr k) x)) : OpT C o env (upd env d (.cel (Kd.ptr k) x)) :=
  OpT.pure hH.2.1 hH.2.2 fun s F a w hr => by
    obtain ⟨ad, c, e, h1, h2⟩ := hp.getp hr
    refine ⟨.pointer (some ad), by simp [execOp, hH.1, e], ⟨⟨ad, c, rfl, h1, h2⟩, fun b hb => hb⟩⟩
theorem OpT.load {x : α} (hH : Hd C o (.load T p) d) (hp : Opd C env p (.cel (Kd.ptr k) x)) (hT : aggT C.P T = some false) (hz : k.sz = 1) : OpT C o env (upd env d (.cel k x)) :=
  OpT.pure hH.2.1 hH.2.2 fun s F a w hr => by
    obtain ⟨ad, c, e, h1, h2⟩ := hp.getp hr
    have hl := k.len h1
    rw [hz] at hl
    obtain ⟨v, rfl⟩ := List.length_eq_one_iff.1 hl
    have hv : w.cell? ad = some v := by have := hr.fz.cell (h2 0 v rfl); simpa [Addr.add] using this
    exact ⟨v, by simp [execOp, hH.1, e, Instr.loadAt, Instr.sureAddr, run_loadVar_cel hT hv], ⟨h1, fun b hb => hb⟩⟩
theorem OpT.loadA {x : α} (hH : Hd C o (.load T p) d) (hp : Opd C env p (.cel (Kd.ptr k) x)) (hT : aggT C.P T = some true) (hz : sizeT C.P T = some k.sz) : OpT C o env (upd env d (.agg k x)) :=
  OpT.pure hH.2.1 hH.2.2 fun s F a w hr => by
    obtain ⟨ad, c, e, h1, h2⟩ := hp.getp hr
    exact ⟨.agg c.toArray, by simp [execOp, hH.1, e, Instr.loadAt, Instr.sureAddr, run_loadVar_agg hT (by rw [hz, k.len h1]) (fun j u hu => hr.fz.cell (h2 j u hu))], ⟨⟨_, rfl, h1⟩, fun b hb => hb⟩⟩
theorem run_fieldAt {P : Program} {w : World} {i off n : Nat} {ad : Addr} (hf : fldT P S i = some (T, off)) (hn : sizeT P T = some n) (h0 : n ≠ 0) :
    (Instr.fieldAt S (.pointer (some ad)) i).run P w = .ok (.pointer (some (ad.add off))) w := by
  unfold fldT at hf
  split at hf
  · rename_i fs hu
    obtain ⟨f, hf1, hf2⟩ := Option.map_eq_some_iff.1 hf
    simp only [Prod.mk.injEq] at hf2
    obtain ⟨rfl, rfl⟩ := hf2
    simp [Instr.fieldAt, run_underlying hu, hf1, Instr.sureAddr, fieldPlace, run_sizeT hn, h0]
  · cases hf
theorem OpT.fieldAddr {x : α} {i off n : Nat} {f : α → β} {g : α → β → α} (hH : Hd C o (.fieldAddr S p i) d) (hp : Opd C env p (.cel (Kd.ptr k) x))
    (hf : fldT C.P S i = some (T, off)) (hn : sizeT C.P T = some n) (h0 : n ≠ 0) (hs : Sub k off k' f g) : OpT C o env (upd env d (.cel (Kd.ptr k') (f x))) :=
  OpT.pure hH.2.1 hH.2.2 fun s F a w hr => by
    obtain ⟨ad, c, e, h1, h2⟩ := hp.getp hr
    refine ⟨.pointer (some (ad.add off)), ?_, ⟨⟨ad.add off, _, rfl, hs.rd h1, cellsAt_sub h2 off k'.sz⟩, fun b hb => hb⟩⟩
    have := run_fieldAt (P := C.P) (w := w) (ad := ad) hf hn h0
    simp only [execOp, hH.1, e]
    simp [this]
theorem OpT.indexAddr {xs : List α} {x : α} {kk : IntKind} {i : Int} (hH : Hd C o (.indexAddr T p q) d) (hp : Opd C env p (.cel (Kd.slice k) xs)) (hq : Opd C env q (.cel (Kd.int kk) i))
    (hT : elT C.P T = some E) (hz : sizeT C.P E = some k.sz) (h0 : 0 ≤ i) (hx : xs[i.toNat]? = some x) : OpT C o env (upd env d (.cel (Kd.ptr k) x)) :=
  OpT.pure hH.2.1 hH.2.2 fun s F a w hr => by
    obtain ⟨A, c, e, h1, h2, h3⟩ := (hp s F a w hr).1
    have hi : i.toNat < xs.length := (List.getElem?_eq_some_iff.1 hx).1
    have hxe : xs[i.toNat] = x := (List.getElem?_eq_some_iff.1 hx).2
    obtain ⟨ad, cells, rfl, h4, h5⟩ := h3 (by omega)
    have e' : a.eval p = .slice (some ad) xs.length c := by simpa using e
    have hu : C.P.underlying T = some (.slice E) := by
      unfold elT at hT
      split at hT
      · simp only [Option.some.injEq] at hT; subst hT; assumption
      · cases hT
    refine ⟨.pointer (some (ad.add (i.toNat * k.sz))), ?_, ⟨⟨_, _, rfl, by rw [← hxe]; exact h4.get i.toNat hi, cellsAt_sub h5 _ _⟩, fun b hb => hb⟩⟩
    have h6 : 0 ≤ i ∧ i < (xs.length : Int) := ⟨h0, by omega⟩
    simp [execOp, hH.1, e', (hq.geti hr).1, Instr.indexAt, asIntOf, run_underlying hu, run_sizeT hz, h6]
theorem OpT.len {xs : List α} (hH : Hd C o (.call { callee := .builtin .len, args := #[p], argTypes := #[T] }) d) (hp : Opd C env p (.cel (Kd.slice k) xs))
    (hT : elT C.P T = some E) : OpT C o env (upd env d (.cel (Kd.int .i64) (xs.length : Int))) :=
  OpT.pure hH.2.1 hH.2.2 fun s F a w hr => by
    obtain ⟨A, c, e, h1, h2, h3⟩ := (hp s F a w hr).1
    have e' : a.eval p = .slice A xs.length c := by simpa using e
    have hu : C.P.underlying T = some (.slice E) := by
      unfold elT at hT
      split at hT
      · simp only [Option.some.injEq] at hT; subst hT; assumption
      · cases hT
    refine ⟨.int .i64 xs.length, ?_, ⟨⟨rfl, by rw [inR_i64]; omega⟩, fun b hb => hb⟩⟩
    simp [execOp, hH.1, e', resolve, invoke, builtin, Builtin.len_, run_underlying hu, goInt]
theorem OpT.lenS {x : ByteArray} (hH : Hd C o (.call { callee := .builtin .len, args := #[p], argTypes := #[T] }) d) (hp : Opd C env p (.cel Kd.str x))
    (hT : C.P.underlying T = some .string) : OpT C o env (upd env d (.cel (Kd.int .i64) (x.size : Int))) :=
  OpT.pure hH.2.1 hH.2.2 fun s F a w hr => by
    refine ⟨.int .i64 x.size, ?_, ⟨⟨rfl, by rw [inR_i64]; have := (hp.gets hr).2; omega⟩, fun b hb => hb⟩⟩
    simp [execOp, hH.1, (hp.gets hr).1, resolve, invoke, builtin, Builtin.len_, run_underlying hT, goInt]
/-- A byte of a text. -/
theorem OpT.indexS {x : ByteArray} {kk : IntKind} {i : Int} {b : UInt8} (hH : Hd C o (.index T p q) d) (hp : Opd C env p (.cel Kd.str x)) (hq : Opd C env q (.cel (Kd.int kk) i))
    (hT : C.P.underlying T = some .string) (h0 : 0 ≤ i) (hb : x[i.toNat]? = some b) : OpT C o env (upd env d (.cel (Kd.int .u8) (b.toNat : Int))) :=
  OpT.pure hH.2.1 hH.2.2 fun s F a w hr => by
    refine ⟨.int .u8 b.toNat, ?_, ⟨⟨rfl, by rw [inR_u8]; have := b.toNat_lt; omega⟩, fun b hb => hb⟩⟩
    simp [execOp, hH.1, (hp.gets hr).1, (hq.geti hr).1, Instr.index, asIntOf, run_underlying hT, h0, hb]

/-! ### Structs and arrays -/
theorem sub_cell {s : Hp} {off : Nat} {f : α → β} {g : α → β → α} (hs : Sub k off k' f g) (hz : k'.sz = 1) {cs : List Value} {x : α} (h : k.rd s cs x) : ∃ v, cs[off]? = some v ∧ k'.rd s [v] (f x) := by
  have h1 := hs.rd h
  have h2 := k'.len h1
  rw [hz] at h1 h2
  have h3 : off < cs.length := by rw [List.length_take, List.length_drop] at h2; omega
  refine ⟨cs[off], List.getElem?_eq_getElem h3, ?_⟩
  rw [List.drop_eq_getElem_cons h3] at h1
  exact h1
/-- An element of an array. -/
theorem OpT.indexC {x : α} {n : Nat} {kk : IntKind} {i : Int} {f : α → β} {g : α → β → α} (hH : Hd C o (.index T p q) d) (hp : Opd C env p (.agg k x)) (hq : Opd C env q (.cel (Kd.int kk) i))
    (hT : arT C.P T = some (n, E)) (hE : aggT C.P E = some false) (hz : sizeT C.P E = some k'.sz) (h0 : 0 ≤ i ∧ i < n) (hz1 : k'.sz = 1) (hs : Sub k i.toNat k' f g) : OpT C o env (upd env d (.cel k' (f x))) :=
  OpT.pure hH.2.1 hH.2.2 fun s F a w hr => by
    obtain ⟨cs, e, h1⟩ := hp.geta hr
    obtain ⟨v, h2, h3⟩ := sub_cell hs hz1 h1
    have hu : C.P.underlying T = some (.array n E) := by
      unfold arT at hT
      split at hT
      · simp only [Option.some.injEq, Prod.mk.injEq] at hT; obtain ⟨rfl, rfl⟩ := hT; assumption
      · cases hT
    refine ⟨v, ?_, ⟨h3, fun b hb => hb⟩⟩
    rw [hz1] at hz
    have h4 := run_part_cel (P := C.P) (w := w) (cs := cs) (o := i.toNat) (v := v) hE (by simpa using h2)
    simp [execOp, hH.1, e, (hq.geti hr).1, Instr.index, asIntOf, run_underlying hu, run_sizeT hz, h0, h4]
end
end Go.Proofs.YtkgboidjghcegaaGreatDoor.VL
/- Proved here: rules for memory that a call owns: variables, rows that are made, appended to and stored into; literals. With the words of VA. General: over every program. -/
set_option linter.unusedVariables false
set_option linter.unusedSimpArgs false
namespace Go.Proofs.YtkgboidjghcegaaGreatDoor.VL
open Go

/-! ### Literals -/
def splice (cs : List Value) (o : Nat) (c : List Value) : List Value := cs.take o ++ (c ++ cs.drop (o + c.length))
theorem fold_splice (o : Nat) (c : List Value) (cs : Array Value) (h : o + c.length ≤ cs.size) :
    ((c.zipIdx 0).foldl (fun cs (x : Value × Nat) => cs.setIfInBounds (o + x.2) x.1) cs).toList = splice cs.toList o c := by
  obtain ⟨h1, h2⟩ := Great.foldl_set o c 0 cs
  have hcs : cs.toList.length = cs.size := Array.length_toList
  have ht : (cs.toList.take o).length = o := by rw [List.length_take]; omega
  apply List.ext_getElem?
  intro k
  have h3 := h2 k
  rw [Array.getElem?_toList, h3]
  unfold splice
  by_cases hk : o + 0 ≤ k ∧ k < o + 0 + c.length ∧ k < cs.size
  · rw [if_pos hk, List.getElem?_append_right (by omega), List.getElem?_append_left (by omega), ht]
    rfl
  · rw [if_neg hk]
    by_cases h4 : k < o
    · rw [List.getElem?_append_left (by omega), List.getElem?_take, if_pos h4]
      simp
    · rw [List.getElem?_append_right (by omega), ht]
      by_cases h5 : k < cs.size
      · rw [List.getElem?_append_right (by omega), List.getElem?_drop, Array.getElem?_toList]
        congr 1; omega
      · have e1 : cs[k]? = none := Array.getElem?_eq_none (by omega)
        have e2 : (c ++ cs.toList.drop (o + c.length))[k - o]? = none := by
          refine List.getElem?_eq_none ?_
          rw [List.length_append, List.length_drop]
          omega
        rw [e1, e2]

/-- The cells of a value. -/
def Value.cl (v : Value) : List Value := v.cells.toList
theorem fill_cons {pl : Nat → Option (Nat × Nat)} {cells : Array Value} {i off size : Nat} {v : Value} {rest : List (Nat × Value)} (h : pl i = some (off, size)) (hv : (Value.cl v).length = size) (hle : off + size ≤ cells.size) :
    ∃ cells', cells'.toList = splice cells.toList off (Value.cl v) ∧ cells'.size = cells.size ∧ Instr.fill pl cells ((i, v) :: rest) = Instr.fill pl cells' rest := by
  have hv' : v.cells.size = size := by simpa [Value.cl] using hv
  refine ⟨_, fold_splice off (Value.cl v) cells (by rw [hv]; exact hle), ?_, ?_⟩
  · exact (Great.foldl_set off (Value.cl v) 0 cells).1
  · rw [Instr.fill.eq_2]
    simp only [h]
    rw [if_neg (by simp [hv']; omega)]
    congr 1
    rw [← Array.foldl_toList, Array.toList_zipIdx]
    rfl

def plT (P : Program) (S : TypeId) : Option (List (Nat × Nat)) := match P.info? S, P.underlying S with
  | some _, some (.struct fs) => fs.toList.mapM (fun f => (P.info? f.type).map fun i => (f.offset, i.size))
  | _, _ => none

section
variable {C : Cx} {env env' : Env} {Q : Exit → Act → World → Prop} {o : Oper} {p q : Operand} {d : Nat} {T T' S E : TypeId} {α β γ : Type} {k : Kd α} {k' : Kd β}

theorem cl_cel {s : Hp} {v : Value} {x : β} (h : k'.rd s [v] x) : Value.cl v = [v] := by
  have h1 := k'.one h v (by simp)
  unfold Value.cl
  cases v <;> first | rfl | (simp [Value.oneCell'] at h1)

/-- What a literal's parts make of data. -/
inductive Built (C : Cx) (env : Env) (k : Kd α) (pl : Nat → Option (Nat × Nat)) : List (Nat × Operand) → α → α → Prop
  | nil (x : α) : Built C env k pl [] x x
  | cel {β : Type} {k' : Kd β} {f : α → β} {g : α → β → α} {i off : Nat} {p : Operand} {y : β} {x r : α} {rest : List (Nat × Operand)} (hp : Opd C env p (.cel k' y)) (hl : pl i = some (off, 1)) (hz : k'.sz = 1) (hs : Sub k off k' f g)
      (h : Built C env k pl rest (g x y) r) : Built C env k pl ((i, p) :: rest) x r
  | agg {β : Type} {k' : Kd β} {f : α → β} {g : α → β → α} {i off : Nat} {p : Operand} {y : β} {x r : α} {rest : List (Nat × Operand)} (hp : Opd C env p (.agg k' y)) (hl : pl i = some (off, k'.sz)) (hz : 0 < k'.sz) (hs : Sub k off k' f g)
      (h : Built C env k pl rest (g x y) r) : Built C env k pl ((i, p) :: rest) x r
theorem Built.fill {pl : Nat → Option (Nat × Nat)} {parts : List (Nat × Operand)} {x r : α} (h : Built C env k pl parts x r) {s F a w} (hr : Rel C.N C.w0 C.hd C.pn C.s0 env s F a w) :
    ∀ cells : Array Value, k.rd s cells.toList x → ∃ cells', Instr.fill pl cells (parts.map fun z => (z.1, a.eval z.2)) = some cells' ∧ k.rd s cells'.toList r := by
  induction h with
  | nil x => intro cells hc; exact ⟨cells, rfl, hc⟩
  | cel hp hl hz hs _ ih =>
    intro cells hc
    have h1 := hp.gets1 hr
    have h2 := cl_cel h1
    have h3 := hs.le hc
    rw [Array.length_toList] at h3
    obtain ⟨cells', e1, e2, e3⟩ := fill_cons (pl := pl) (cells := cells) (rest := _) hl (by rw [h2]; rfl) (by omega)
    rw [List.map_cons, e3]
    refine ih cells' ?_
    rw [e1, h2]
    have h4 := hs.wr hc h1
    rw [hz] at h4
    exact h4
  | agg hp hl hz hs _ ih =>
    intro cells hc
    obtain ⟨cs, e, h1⟩ := hp.geta hr
    have h2 : Value.cl (.agg cs) = cs.toList := rfl
    have h3 := hs.le hc
    rw [Array.length_toList] at h3
    have h5 := Kd.len _ h1
    obtain ⟨cells', e1, e2, e3⟩ := fill_cons (pl := pl) (cells := cells) (v := .agg cs) (rest := _) hl (by rw [h2, h5]) (by omega)
    rw [List.map_cons, e, e3]
    refine ih cells' ?_
    rw [e1, h2]
    have h4 := hs.wr hc h1
    unfold splice
    rw [h5]
    exact h4
theorem OpT.build_of {pl : Nat → Option (Nat × Nat)} {parts : List (Nat × Operand)} {z : Value} {x r : α} (hH : Hd C o (.build S parts.toArray) d)
    (hpl : ∀ l cells', Instr.fill pl z.cells l = some cells' → C.P.built S l = some cells')
    (hx : ∀ s, k.rd s (Value.cl z) x) (hb : Built C env k pl parts x r) : OpT C o env (upd env d (.agg k r)) :=
  OpT.pure hH.2.1 hH.2.2 fun s F a w hr => by
    obtain ⟨cells', h1, h2⟩ := hb.fill hr z.cells (hx s)
    refine ⟨.agg cells', ?_, ⟨⟨_, rfl, h2⟩, fun b hb => hb⟩⟩
    have h3 : C.P.built S (parts.toArray.map fun (i, x) => (i, a.eval x)).toList = some cells' := by
      have e : (parts.toArray.map fun (i, x) => (i, a.eval x)).toList = parts.map fun z => (z.1, a.eval z.2) := by simp
      rw [e]
      exact hpl _ _ h1
    have h4 := run_build (P := C.P) w S _ cells' h3
    simp only [execOp, hH.1, Sem.run_bind]
    rw [h4]
    rfl
/-- A struct's literal. -/
theorem OpT.build {pl : List (Nat × Nat)} {parts : List (Nat × Operand)} {z : Value} {x r : α} (hH : Hd C o (.build S parts.toArray) d) (hpl : plT C.P S = some pl) (hz : zeroT C.P S = some z)
    (hx : ∀ s, k.rd s (Value.cl z) x) (hb : Built C env k (fun i => pl[i]?) parts x r) : OpT C o env (upd env d (.agg k r)) := by
  refine OpT.build_of (pl := fun i => pl[i]?) (z := z) hH (fun l cells' h => ?_) hx hb
  unfold plT at hpl
  unfold zeroT at hz
  unfold Program.built
  cases hi : C.P.info? S with
  | none => rw [hi] at hz; cases hz
  | some it =>
    rw [hi] at hz hpl
    simp only [Option.bind_some] at hz
    cases hu : C.P.underlying S with
    | none => rw [hu] at hpl; cases hpl
    | some u =>
      rw [hu] at hpl
      cases u <;> simp only [] at hpl <;> try (cases hpl; done)
      case struct fs =>
        simp only [hz, hpl]
        rw [← h]
        simp
/-- An array's literal. -/
theorem OpT.buildA {n m : Nat} {parts : List (Nat × Operand)} {z : Value} {x r : α} (hH : Hd C o (.build S parts.toArray) d) (har : arT C.P S = some (n, E)) (hm : sizeT C.P E = some m) (hz : zeroT C.P S = some z)
    (hx : ∀ s, k.rd s (Value.cl z) x) (hb : Built C env k (fun i => some (i * m, m)) parts x r) : OpT C o env (upd env d (.agg k r)) := by
  refine OpT.build_of (pl := fun i => some (i * m, m)) (z := z) hH (fun l cells' h => ?_) hx hb
  obtain ⟨ie, he, rfl⟩ := Option.map_eq_some_iff.1 hm
  unfold arT at har
  unfold zeroT at hz
  unfold Program.built
  cases hi : C.P.info? S with
  | none => rw [hi] at hz; cases hz
  | some it =>
    rw [hi] at hz
    simp only [Option.bind_some] at hz
    split at har
    · rename_i n' e' hu
      simp only [Option.some.injEq, Prod.mk.injEq] at har
      obtain ⟨rfl, rfl⟩ := har
      simp only [hu, hz, he]
      exact h
    · cases har
end
end Go.Proofs.YtkgboidjghcegaaGreatDoor.VL
/- Proved here: rules for memory that a call owns: variables and rows, read, stored into, appended to. With the words of VA. General: over every program. -/
set_option linter.unusedVariables false
set_option linter.unusedSimpArgs false
namespace Go.Proofs.YtkgboidjghcegaaGreatDoor.VL
open Go

section
variable {C : Cx} {env env' : Env} {Q : Exit → Act → World → Prop} {o : Oper} {p q : Operand} {d t : Nat} {T T' S E : TypeId} {α β γ : Type} {k : Kd α} {k' : Kd β}

/-- The operand is the value of slot t. -/
def Root (C : Cx) (env : Env) (p : Operand) (t : Nat) : Prop := t < 10000 ∧ ∀ s F a w, Rel C.N C.w0 C.hd C.pn C.s0 env s F a w → a.eval p = gv a.tmps t
theorem Root.self (h : t < 10000) : Root C env (.tmp t) t := ⟨h, fun s F a w hr => by rw [gv_lo h]; rfl⟩
theorem Root.ali {u : Nat} (h : env u = .ali t) (hu : u < 10000) (ht : t < 10000) : Root C env (.tmp u) t := ⟨ht, fun s F a w hr => (Opd.tmp (C := C) h hu rfl s F a w hr).1.1⟩

theorem keep_alloc (w : World) (ob : Obj) : Keep w FS.no (w.alloc ob) := ⟨rfl, rfl, rfl, by simp, fun b hb _ => Go.RowKit.Below.heap_alloc w ob b hb, fun _ => Nat.le_refl _⟩
theorem fz_alloc {s : Hp} {w : World} (h : Fz s w) (ob : Obj) : Fz s (w.alloc ob) := fun b o hb => by
  rw [Go.RowKit.Below.heap_alloc w ob b (h.lt hb)]; exact h b o hb

/-! ### Variables -/
theorem OpT.box_of {ob : Oper} {cs : Array Value} {x : α} (hd : o.dst = some d) (hdN : C.ok d)
    (h : ∀ s F a w, Rel C.N C.w0 C.hd C.pn C.s0 env s F a w → ∃ cs : Array Value, (execOp a.eval o).run C.P w = .ok (.value (.pointer (some ⟨w.heap.size, 0, none⟩))) (w.alloc (.cells cs E)) ∧ k.rd s cs.toList x) : OpT C o env (upd env d (.box E k x)) := by
  intro Q K a w hr hK
  obtain ⟨s, F, hr'⟩ := hr
  obtain ⟨cs, h1, h2⟩ := h s F a w hr'
  unfold Oper.wp
  rw [h1, Oper.upon_value, hd]
  refine hK _ _ (hr'.put (Fd := fun b => b = w.heap.size) hdN.1 (Nat.lt_of_lt_of_le hdN.1 C.hN) hdN.2 ⟨w.heap.size, cs, rfl, heap_alloc_new w _, h2, fun b' => Iff.rfl⟩ (Hp.le_refl s) (fun b o h1 h2 => by rw [h1] at h2; cases h2) (fz_alloc hr'.fz _) (keep_alloc w _) ?_)
  intro b hb
  refine ⟨by omega, ?_⟩
  cases hs : s b with
  | none => rfl
  | some o' => have := hr'.fz.lt hs; omega
theorem OpT.boxA {x : α} (hH : Hd C o (.box E p) d) (hp : Opd C env p (.agg k x)) : OpT C o env (upd env d (.box E k x)) :=
  OpT.box_of (ob := o) (cs := #[]) hH.2.1 hH.2.2 fun s F a w hr => by
    obtain ⟨cs, e, h1⟩ := hp.geta hr
    exact ⟨cs, by simp only [execOp, hH.1, e]; rfl, h1⟩
theorem OpT.box {x : α} (hH : Hd C o (.box E p) d) (hp : Opd C env p (.cel k x)) : OpT C o env (upd env d (.box E k x)) :=
  OpT.box_of (ob := o) (cs := #[]) hH.2.1 hH.2.2 fun s F a w hr => by
    have h1 := hp.gets1 hr
    have h2 := cl_cel h1
    refine ⟨(a.eval p).cells, by simp only [execOp, hH.1]; rfl, ?_⟩
    rw [show (a.eval p).cells.toList = [a.eval p] from h2]
    exact h1
theorem OpT.alloc {z : Value} {x : α} (hH : Hd C o (.alloc E) d) (hz : zeroT C.P E = some z) (hx : ∀ s, k.rd s (Value.cl z) x) : OpT C o env (upd env d (.box E k x)) :=
  OpT.box_of (ob := o) (cs := #[]) hH.2.1 hH.2.2 fun s F a w hr => by
    refine ⟨z.cells, ?_, hx s⟩
    unfold zeroT at hz
    obtain ⟨i, hi, hzz⟩ := Option.bind_eq_some_iff.1 hz
    simp [execOp, hH.1, Instr.alloc, zeroValue, typeInfo, hi, hzz, newVar, newRow]
theorem OpT.nilCheckB {x : α} (hH : Hd C o (.nilCheck p) d) (hp : Root C env p t) (hb : env t = .box E k x) (hne : t ≠ d) : OpT C o env (upd env d (.ali t)) :=
  OpT.pure hH.2.1 hH.2.2 fun s F a w hr => by
    have h1 := hr.slot t
    rw [hb] at h1
    obtain ⟨b, cs, e, _⟩ := h1
    refine ⟨.pointer (some ⟨b, 0, none⟩), by simp [execOp, hH.1, hp.2 s F a w hr, e], ⟨?_, hp.1⟩, fun b hb => hb⟩
    rw [gv_put_ne _ (by simp [ofSlot, Nat.mod_eq_of_lt hp.1, hne]), e]
theorem OpT.fieldAddrB {x : α} {i off n : Nat} {f : α → β} {g : α → β → α} (hH : Hd C o (.fieldAddr S p i) d) (hp : Root C env p t) (hb : env t = .box E k x) (hne : t ≠ d)
    (hf : fldT C.P S i = some (T, off)) (hn : sizeT C.P T = some n) (h0 : n ≠ 0) (hs : Sub k off k' f g) : OpT C o env (upd env d (.pel t 0 k off k' f g)) :=
  OpT.pure hH.2.1 hH.2.2 fun s F a w hr => by
    have h1 := hr.slot t
    rw [hb] at h1
    obtain ⟨b, cs, e, _⟩ := h1
    refine ⟨.pointer (some ((⟨b, 0, none⟩ : Addr).add off)), ?_, ⟨?_, hp.1, hs⟩, fun b hb => hb⟩
    · have := run_fieldAt (P := C.P) (w := w) (ad := ⟨b, 0, none⟩) hf hn h0
      simp only [execOp, hH.1, hp.2 s F a w hr, e]
      simp [this]
    · rw [gv_put_ne _ (by simp [ofSlot, Nat.mod_eq_of_lt hp.1, hne]), e]
      simp [ptrIn]
/-- A slot that holds memory of the call's own. -/
def Has (env : Env) (t : Nat) {α : Type} (k : Kd α) (i : Nat) (x : α) : Prop := (∃ E, env t = .box E k x ∧ i = 0) ∨ (∃ E xs, env t = .own E k xs ∧ xs[i]? = some x)
/-- Where it lies. -/
theorem Has.get {i : Nat} {x : α} (h : Has env t k i x) {s F a w} (hr : Rel C.N C.w0 C.hd C.pn C.s0 env s F a w) :
    ∃ (g : Nat) (E : TypeId) (cur : Array Value) (L : List Value), (∀ o, ptrIn (gv a.tmps t) o = .pointer (some ((⟨g, 0, none⟩ : Addr).add o))) ∧ w.heap[g]? = some (.cells cur E (0, 0)) ∧ (∀ (j : Nat) (u : Value), L[j]? = some u → cur[j]? = some u) ∧ k.rd s ((L.drop (i * k.sz)).take k.sz) x := by
  have h1 := hr.slot t
  rcases h with ⟨E, h, rfl⟩ | ⟨E, xs, h, hx⟩
  · rw [h] at h1
    obtain ⟨b, cs, e, h2, h3, _⟩ := h1
    refine ⟨b, E, cs, cs.toList, fun o => by rw [e]; rfl, h2, fun j u hu => by simpa using hu, ?_⟩
    rw [Nat.zero_mul, List.drop_zero, ← k.len h3, List.take_length]
    exact h3
  · rw [h] at h1
    obtain ⟨⟨cells, h2, h3⟩, hz, _⟩ := h1
    have hi : i < xs.length := (List.getElem?_eq_some_iff.1 hx).1
    have hxe := (List.getElem?_eq_some_iff.1 hx).2
    rcases h2.2 with ⟨_, hn⟩ | ⟨g, cap, cur, hv, _, hg, _, _, _, htake⟩
    · omega
    · refine ⟨g, E, cur, cells, fun o => by rw [hv]; rfl, hg, fun j u hu => ?_, by rw [← hxe]; exact h3.get i hi⟩
      rw [← htake, List.getElem?_take] at hu
      split at hu
      · simpa using hu
      · cases hu
theorem own_cell {w : World} {g : Nat} {cur : Array Value} {E : TypeId} (hg : w.heap[g]? = some (.cells cur E (0, 0))) {j : Nat} {u : Value} (h : cur[j]? = some u) : w.cell? ((⟨g, 0, none⟩ : Addr).add j) = some u := by
  rw [Addr.add_lit, Nat.zero_add]
  unfold World.cell?
  simp [hg, h]
theorem OpT.loadP {i off : Nat} {x : α} {f : α → β} {g : α → β → α} (hH : Hd C o (.load T p) d) (hp : Opd C env p (.pel t i k off k' f g)) (hh : Has env t k i x) (hT : aggT C.P T = some false) (hz : k'.sz = 1) : OpT C o env (upd env d (.cel k' (f x))) :=
  OpT.pure hH.2.1 hH.2.2 fun s F a w hr => by
    obtain ⟨⟨e, ht, hs⟩, _⟩ := hp s F a w hr
    obtain ⟨b, E, cur, L, h1, h2, h3, h4⟩ := Has.get hh hr
    obtain ⟨v, h5, h6⟩ := sub_cell hs hz h4
    rw [h1] at e
    have h7 : w.cell? ((⟨b, 0, none⟩ : Addr).add (i * k.sz + off)) = some v := by
      refine own_cell h2 (h3 _ _ ?_)
      rw [List.getElem?_take] at h5
      split at h5
      · rwa [List.getElem?_drop] at h5
      · cases h5
    exact ⟨v, by simp only [execOp, hH.1, e]; simp [Instr.loadAt, Instr.sureAddr, run_loadVar_cel hT h7], ⟨h6, fun b hb => hb⟩⟩
theorem own_part {w : World} {g : Nat} {cur : Array Value} {E : TypeId} (hg : w.heap[g]? = some (.cells cur E (0, 0))) {L : List Value} (hL : ∀ (j : Nat) (u : Value), L[j]? = some u → cur[j]? = some u) (o1 n1 o2 n2 : Nat) :
    ∀ (j : Nat) (u : Value), ((((L.drop o1).take n1).drop o2).take n2)[j]? = some u → w.cell? (((⟨g, 0, none⟩ : Addr).add (o1 + o2)).add j) = some u := by
  intro j u hu
  rw [add_add]
  refine own_cell hg (hL _ _ ?_)
  rw [List.getElem?_take] at hu
  split at hu
  · rw [List.getElem?_drop, List.getElem?_take] at hu
    split at hu
    · rw [List.getElem?_drop] at hu
      rw [show o1 + o2 + j = o1 + (o2 + j) by omega]
      exact hu
    · cases hu
  · cases hu
theorem OpT.loadPA {i off : Nat} {x : α} {f : α → β} {g : α → β → α} (hH : Hd C o (.load T p) d) (hp : Opd C env p (.pel t i k off k' f g)) (hh : Has env t k i x) (hT : aggT C.P T = some true) (hz : sizeT C.P T = some k'.sz) : OpT C o env (upd env d (.agg k' (f x))) :=
  OpT.pure hH.2.1 hH.2.2 fun s F a w hr => by
    obtain ⟨⟨e, ht, hs⟩, _⟩ := hp s F a w hr
    obtain ⟨b, E, cur, L, h1, h2, h3, h4⟩ := Has.get hh hr
    rw [h1] at e
    have h5 := hs.rd h4
    have h6 := own_part h2 h3 (i * k.sz) k.sz off k'.sz
    have h7 := run_loadVar_agg hT (by rw [hz, k'.len h5]) h6
    refine ⟨.agg ((((L.drop (i * k.sz)).take k.sz).drop off).take k'.sz).toArray, ?_, ⟨⟨_, rfl, by simpa using h5⟩, fun b hb => hb⟩⟩
    simp only [execOp, hH.1, e, Instr.loadAt, Instr.sureAddr, Sem.run_bind, Sem.run_pure, Result.andThen_ok]
    rw [h7]
    rfl
/-- A whole variable. -/
theorem OpT.loadB {x : α} (hH : Hd C o (.load T p) d) (hp : Root C env p t) (hb : env t = .box E k x) (hT : aggT C.P T = some true) (hz : sizeT C.P T = some k.sz) : OpT C o env (upd env d (.agg k x)) :=
  OpT.pure hH.2.1 hH.2.2 fun s F a w hr => by
    have h1 := hr.slot t
    rw [hb] at h1
    obtain ⟨b, cs, e, h2, h3, _⟩ := h1
    have h6 : ∀ j u, cs.toList[j]? = some u → w.cell? ((⟨b, 0, none⟩ : Addr).add j) = some u := fun j u hu => own_cell h2 (by simpa using hu)
    exact ⟨_, by simp only [execOp, hH.1, hp.2 s F a w hr, e]; simp only [Instr.loadAt, Instr.sureAddr, Sem.run_bind, Sem.run_pure, Result.andThen_ok]; rw [run_loadVar_agg hT (by rw [hz, k.len h3]) h6]; rfl, ⟨⟨_, rfl, by simpa using h3⟩, fun b hb => hb⟩⟩
end
end Go.Proofs.YtkgboidjghcegaaGreatDoor.VL
/- Proved here: rules for stores, rows that are made and appended to, and for handing on what is owned. With the words of VA. General: over every program. -/
set_option linter.unusedVariables false
set_option linter.unusedSimpArgs false
namespace Go.Proofs.YtkgboidjghcegaaGreatDoor.VL
open Go

theorem splice_elem {cs c : List Value} {a sz off m : Nat} (h1 : off + m ≤ sz) (h2 : a + sz ≤ cs.length) (hc : c.length = m) :
    cs.take a ++ ((((cs.drop a).take sz).take off ++ (c ++ ((cs.drop a).take sz).drop (off + m))) ++ cs.drop (a + sz)) = cs.take (a + off) ++ (c ++ cs.drop (a + off + m)) := by
  rw [List.take_take, Nat.min_eq_left (by omega), List.drop_take, List.drop_drop, List.take_add, List.append_assoc, List.append_assoc, List.append_assoc]
  congr 3
  have e2 : cs.drop (a + sz) = (cs.drop (a + (off + m))).drop (sz - (off + m)) := by rw [List.drop_drop]; congr 1; omega
  rw [e2, show a + off + m = a + (off + m) by omega]
  exact List.take_append_drop _ _
theorem take_splice {L c : List Value} {O m N : Nat} (h1 : O + m ≤ N) (h2 : N ≤ L.length) (hc : c.length = m) :
    (L.take O ++ (c ++ L.drop (O + m))).take N = (L.take N).take O ++ (c ++ (L.take N).drop (O + m)) := by
  have hl : (L.take O).length = O := by rw [List.length_take]; omega
  rw [List.take_append, List.take_append, hl, hc, List.take_of_length_le (l := L.take O) (by omega), List.take_of_length_le (l := c) (by omega), List.take_take, Nat.min_eq_left (by omega), List.drop_take]
  congr 3
  omega

section
variable {C : Cx} {env env' : Env} {Q : Exit → Act → World → Prop} {o : Oper} {p q : Operand} {d t : Nat} {T T' S E : TypeId} {α β γ : Type} {k : Kd α} {k' : Kd β}

theorem keep_setRow {w0 w : World} {hd : FS} {g : Nat} (h : Keep w0 hd w) (hg : w0.heap.size ≤ g ∨ hd g) (cs : Array Value) : Keep w0 hd (w.setRow g cs) :=
  ⟨h.os, h.tape, h.output, by rw [setRow_size]; exact h.size, fun b hb hn => by
    rw [setRow_other w g b cs (fun e => by subst e; rcases hg with h1 | h1; · omega
                                           · exact hn h1)]
    exact h.block b hb hn, h.drn⟩
theorem fz_setRow {s : Hp} {w : World} (h : Fz s w) {g : Nat} (hg : s g = none) (cs : Array Value) : Fz s (w.setRow g cs) := fun b o hb => by
  rw [setRow_other w g b cs (fun e => by subst e; rw [hg] at hb; cases hb)]
  exact h b o hb

theorem run_store_at {P : Program} {w : World} {g O : Nat} {cur : Array Value} {Eg : TypeId} {v : Value} {c : List Value} (hg : w.heap[g]? = some (.cells cur Eg (0, 0))) (hv : Value.cl v = c) (hn : sizeT P T = some c.length) (hO : O + c.length ≤ cur.size) (h1 : ∀ u ∈ c, u.oneCell' = true) :
    (Instr.storeAt T (.pointer (some ((⟨g, 0, none⟩ : Addr).add O))) v).run P w = .ok () (w.setRow g (cur.toList.take O ++ (c ++ cur.toList.drop (O + c.length))).toArray) := by
  have h2 := run_storeCells_at P g O Eg c 0 cur w hg (by omega) h1
  have h3 : v.cells.size = c.length := by rw [← hv]; simp [Value.cl]
  have h4 : v.cells.toList = c := hv
  rw [Addr.add_lit, Nat.zero_add]
  simp only [Instr.storeAt, Instr.sureAddr, Sem.run_bind, Sem.run_pure, Result.andThen_ok, storeVar, run_sizeT hn, h3, ne_eq, not_true_eq_false, if_false, h4]
  simp only [Nat.add_zero, List.append_assoc] at h2
  exact h2

/-- A store into what is owned. -/
theorem OpT.store_of {i off : Nat} {x : α} {y : β} {f : α → β} {g : α → β → α} {A : As} (ho : o.op = .store T p q) (hd : o.dst = none) (hp : Opd C env p (.pel t i k off k' f g)) (hh : Has env t k i x)
    (hA : (∃ E, env t = .box E k x ∧ i = 0 ∧ A = .box E k (g x y)) ∨ (∃ E xs, env t = .own E k xs ∧ xs[i]? = some x ∧ A = .own E k (xs.set i (g x y))))
    (hz : sizeT C.P T = some k'.sz) (hz0 : 0 < k'.sz)
    (hq : ∀ s F a w, Rel C.N C.w0 C.hd C.pn C.s0 env s F a w → ∃ c, Value.cl (a.eval q) = c ∧ k'.rd s c y) : OpT C o env (updK env t A) := by
  intro Q K a w hr hK
  obtain ⟨s, F, hr'⟩ := hr
  obtain ⟨⟨e, ht, hs⟩, _⟩ := hp s F a w hr'
  obtain ⟨c, hc1, hc2⟩ := hq s F a w hr'
  have hcl := k'.len hc2
  have hslot := hr'.slot t
  have finish : ∀ (b : Nat) (Eb : TypeId) (cur : Array Value), a.eval p = .pointer (some ((⟨b, 0, none⟩ : Addr).add (i * k.sz + off))) → w.heap[b]? = some (.cells cur Eb (0, 0)) → i * k.sz + off + k'.sz ≤ cur.size → F t b → (∀ b', F t b' → b' = b) →
      A.holds s (w.setRow b (cur.toList.take (i * k.sz + off) ++ (c ++ cur.toList.drop (i * k.sz + off + c.length))).toArray) (gv a.tmps) (gv a.tmps t) (F t) → o.wp C.P a w K Q := by
    intro b Eb cur e' hg hle hFb hFo hAh
    have hrun := run_store_at (P := C.P) (T := T) (v := a.eval q) hg hc1 (by rw [hz, hcl]) (by rw [hcl]; exact hle) (k'.one hc2)
    unfold Oper.wp
    simp only [execOp, ho, e', Sem.run_bind]
    rw [hrun]
    simp only [Result.andThen_ok, Sem.run_pure]
    rw [Oper.upon_skip, hd]
    have hm := hr'.mine t b hFb
    refine hK _ _ (hr'.turn hAh (Hp.le_refl s) (fun b o h1 h2 => by rw [h1] at h2; cases h2) (fz_setRow hr'.fz hm.1 _) (keep_setRow hr'.keep hm.2 _) (fun t' b' hne hb' => ?_) (fun b' hb' => by rw [hFo b' hb']; exact hm))
    have hbb : b' ≠ b := fun e => by subst e; exact hne (hr'.disj t' t b' hb' hFb)
    exact ⟨setRow_other w b b' _ hbb, (hr'.mine t' b' hb').1, fun h => hbb (hFo b' h)⟩
  rcases hA with ⟨E, hE, rfl, rfl⟩ | ⟨E, xs, hE, hx, rfl⟩
  · rw [hE] at hslot
    obtain ⟨b, cs, ev, hg, hrd, hF⟩ := hslot
    have hle := (hs.le hrd).resolve_right (by omega)
    rw [Array.length_toList] at hle
    rw [ev] at e
    refine finish b E cs e hg (by omega) ((hF b).2 rfl) (fun b' h => (hF b').1 h) ?_
    refine ⟨b, _, ev, setRow_heap w b cs _ E (0, 0) hg, ?_, hF⟩
    have := hs.wr hrd hc2
    rw [Nat.zero_mul, Nat.zero_add, hcl]
    simpa using this
  · rw [hE] at hslot
    obtain ⟨⟨cells, how, hrd⟩, hz1, hF⟩ := hslot
    have hi : i < xs.length := (List.getElem?_eq_some_iff.1 hx).1
    have hxe := (List.getElem?_eq_some_iff.1 hx).2
    rcases how.2 with ⟨_, hn⟩ | ⟨b, cap, cur, hv, hb0, hg, hncap, hcm, hcs, htake⟩
    · omega
    · have helem := hrd.get i hi
      have hle := (hs.le helem).resolve_right (by omega)
      have hl1 : cells.length = xs.length * k.sz := hrd.len
      have hmul : (i + 1) * k.sz ≤ xs.length * k.sz := Nat.mul_le_mul_right _ hi
      have hmul2 : xs.length * k.sz ≤ cap * k.sz := Nat.mul_le_mul_right _ hncap
      have hs1 : (i + 1) * k.sz = i * k.sz + k.sz := Nat.succ_mul _ _
      rw [List.length_take, List.length_drop] at hle
      have hoff : off + k'.sz ≤ k.sz := by omega
      rw [hv] at e
      refine finish b E cur e hg (by omega) ((hF b).2 (by rw [hv]; rfl)) (fun b' h => by have := (hF b').1 h; rw [hv] at this; simpa [Value.ownBlock] using this.symm) ?_
      have hset := hrd.set i hi (hs.wr helem hc2)
      rw [hs1] at hset
      rw [splice_elem hoff (by omega) hcl, hxe] at hset
      refine ⟨⟨_, ⟨?_, .inr ⟨b, cap, _, by rw [List.length_set]; exact hv, hb0, setRow_heap w b cur _ E (0, 0) hg, by rw [List.length_set]; exact hncap, hcm, ?_, ?_⟩⟩, hset⟩, hz1, hF⟩
      · rw [hset.len]
      · simp only [List.size_toArray, List.length_append, List.length_take, List.length_drop, Array.length_toList, hcl]
        omega
      · rw [hcl, List.length_set]
        have hct : cur.toList.length = cur.size := Array.length_toList
        rw [show (cur.toList.take (i * k.sz + off) ++ (c ++ cur.toList.drop (i * k.sz + off + k'.sz))).toArray.toList = (cur.toList.take (i * k.sz + off) ++ (c ++ cur.toList.drop (i * k.sz + off + k'.sz))) from rfl,
          take_splice (by omega) (by omega) hcl, htake]
theorem OpT.storeO {i off : Nat} {xs : List α} {x : α} {y : β} {f : α → β} {g : α → β → α} (ho : o.op = .store T p q) (hd : o.dst = none) (hp : Opd C env p (.pel t i k off k' f g)) (hb : env t = .own E k xs) (hx : xs[i]? = some x)
    (hz : sizeT C.P T = some 1) (hz1 : k'.sz = 1) (hq : Opd C env q (.cel k' y)) : OpT C o env (updK env t (.own E k (xs.set i (g x y)))) :=
  OpT.store_of (y := y) ho hd hp (.inr ⟨E, xs, hb, hx⟩) (.inr ⟨E, xs, hb, hx, rfl⟩) (by rw [hz, hz1]) (by omega) fun s F a w hr => ⟨_, cl_cel (hq.gets1 hr), hq.gets1 hr⟩
theorem OpT.storeB {off : Nat} {x : α} {y : β} {f : α → β} {g : α → β → α} (ho : o.op = .store T p q) (hd : o.dst = none) (hp : Opd C env p (.pel t 0 k off k' f g)) (hb : env t = .box E k x)
    (hz : sizeT C.P T = some 1) (hz1 : k'.sz = 1) (hq : Opd C env q (.cel k' y)) : OpT C o env (updK env t (.box E k (g x y))) :=
  OpT.store_of (y := y) ho hd hp (.inl ⟨E, hb, rfl⟩) (.inl ⟨E, hb, rfl, rfl⟩) (by rw [hz, hz1]) (by omega) fun s F a w hr => ⟨_, cl_cel (hq.gets1 hr), hq.gets1 hr⟩
theorem OpT.storeBA {off : Nat} {x : α} {y : β} {f : α → β} {g : α → β → α} (ho : o.op = .store T p q) (hd : o.dst = none) (hp : Opd C env p (.pel t 0 k off k' f g)) (hb : env t = .box E k x)
    (hz : sizeT C.P T = some k'.sz) (hz1 : 0 < k'.sz) (hq : Opd C env q (.agg k' y)) : OpT C o env (updK env t (.box E k (g x y))) :=
  OpT.store_of (y := y) ho hd hp (.inl ⟨E, hb, rfl⟩) (.inl ⟨E, hb, rfl, rfl⟩) hz hz1 fun s F a w hr => by
    obtain ⟨cs, e, h1⟩ := hq.geta hr
    exact ⟨_, by rw [e]; rfl, h1⟩
/-- The whole variable as a part of itself. -/
theorem Opd.whole (hp : Root C env p t) {x : α} (hb : env t = .box E k x) : Opd C env p (.pel t 0 k 0 k (fun x => x) (fun _ y => y)) := fun s F a w hr => by
  have h1 := hr.slot t
  rw [hb] at h1
  obtain ⟨b, cs, e, _⟩ := h1
  refine ⟨⟨?_, hp.1, Sub.whole k⟩, fun b hb => hb⟩
  rw [hp.2 s F a w hr, e]
  simp [ptrIn, Addr.add]
theorem OpT.indexAddrO {xs : List α} {x : α} {kk : IntKind} {i : Int} (hH : Hd C o (.indexAddr T p q) d) (hp : Root C env p t) (hb : env t = .own E k xs) (hne : t ≠ d) (hq : Opd C env q (.cel (Kd.int kk) i))
    (hT : elT C.P T = some S) (hz : sizeT C.P S = some k.sz) (h0 : 0 ≤ i) (hx : xs[i.toNat]? = some x) : OpT C o env (upd env d (.pel t i.toNat k 0 k (fun x => x) (fun _ y => y))) :=
  OpT.pure hH.2.1 hH.2.2 fun s F a w hr => by
    have h1 := hr.slot t
    rw [hb] at h1
    obtain ⟨⟨cells, how, hrd⟩, hz1, hF⟩ := h1
    have hi : i.toNat < xs.length := (List.getElem?_eq_some_iff.1 hx).1
    have hu : C.P.underlying T = some (.slice S) := by
      unfold elT at hT
      split at hT
      · simp only [Option.some.injEq] at hT; subst hT; assumption
      · cases hT
    rcases how.2 with ⟨_, hn⟩ | ⟨b, cap, cur, hv, hb0, hg, hncap, hcm, hcs, htake⟩
    · omega
    · refine ⟨.pointer (some ((⟨b, 0, none⟩ : Addr).add (i.toNat * k.sz))), ?_, ⟨?_, hp.1, Sub.whole k⟩, fun b hb => hb⟩
      · have h6 : 0 ≤ i ∧ i < (xs.length : Int) := ⟨h0, by omega⟩
        simp only [execOp, hH.1, hp.2 s F a w hr, hv, (hq.geti hr).1]
        simp [Instr.indexAt, asIntOf, run_underlying hu, run_sizeT hz, h6]
      · rw [gv_put_ne _ (by simp [ofSlot, Nat.mod_eq_of_lt hp.1, hne]), hv]
        rfl
theorem OpT.lenO {xs : List α} (hH : Hd C o (.call { callee := .builtin .len, args := #[p], argTypes := #[T] }) d) (hp : Root C env p t) (hb : env t = .own E k xs)
    (hT : elT C.P T = some S) : OpT C o env (upd env d (.cel (Kd.int .i64) (xs.length : Int))) :=
  OpT.pure hH.2.1 hH.2.2 fun s F a w hr => by
    have h1 := hr.slot t
    rw [hb] at h1
    obtain ⟨⟨cells, how, hrd⟩, hz1, hF⟩ := h1
    have hu : C.P.underlying T = some (.slice S) := by
      unfold elT at hT
      split at hT
      · simp only [Option.some.injEq] at hT; subst hT; assumption
      · cases hT
    obtain ⟨A, c, hv, hl⟩ : ∃ A c, gv a.tmps t = .slice A xs.length c ∧ xs.length ≤ 9223372036854775807 := by
      rcases how.2 with ⟨hv, hn⟩ | ⟨b, cap, cur, hv, hb0, hg, hncap, hcm, hcs, htake⟩
      · exact ⟨none, 0, by rw [hv, hn], by omega⟩
      · exact ⟨_, cap, hv, by simp only [maxLen] at hcm; omega⟩
    refine ⟨.int .i64 xs.length, ?_, ⟨⟨rfl, by rw [inR_i64]; omega⟩, fun b hb => hb⟩⟩
    simp only [execOp, hH.1, resolve, invoke, builtin]
    simp [hp.2 s F a w hr, hv, Builtin.len_, run_underlying hu, goInt]
end
end Go.Proofs.YtkgboidjghcegaaGreatDoor.VL
/- Proved here: rules for rows that are made, appended to, cut, handed on and frozen. With the words of VA. General: over every program. -/
set_option linter.unusedVariables false
set_option linter.unusedSimpArgs false
namespace Go.Proofs.YtkgboidjghcegaaGreatDoor.VL
open Go

/-- So many elements side by side. -/
def Kd.arr {α : Type} (n : Nat) (k : Kd α) : Kd (List α) where
  sz := n * k.sz
  rd s cs xs := RdL k s cs xs ∧ xs.length = n
  len h := by rw [h.1.len, h.2]
  mono hst h := ⟨h.1.mono hst, h.2⟩
  one h := h.1.one
theorem sub_arr {α : Type} {k : Kd α} {n i : Nat} (hi : i < n) (z : α) : Sub (Kd.arr n k) (i * k.sz) k (fun xs => xs.getD i z) (fun xs y => xs.set i y) where
  rd {s cs x} h := by
    have h1 : i < x.length := by rw [h.2]; exact hi
    have := h.1.get i h1
    simpa [List.getD_eq_getElem?_getD, List.getElem?_eq_getElem h1] using this
  wr {s cs x c y} h hc := by
    have h1 := h.1.set i (by rw [h.2]; exact hi) hc
    rw [Nat.succ_mul] at h1
    exact ⟨h1, by rw [List.length_set]; exact h.2⟩

theorem made_list (z : Array Value) (n : Nat) : (madeCells z (n * z.size)).toList = (List.replicate n z.toList).flatten := by
  induction n with
  | zero => simp [madeCells]
  | succ n ih =>
    rw [List.replicate_succ', List.flatten_append, ← ih]
    unfold madeCells
    rw [Nat.succ_mul]
    simp only [Array.toList_map, Array.toList_range, List.range_add, List.map_append, List.map_map, List.flatten_cons, List.flatten_nil, List.append_nil]
    congr 1
    apply List.ext_getElem
    · simp
    · intro j h1 h2
      simp at h1
      simp [Nat.add_mod, Nat.mod_eq_of_lt h1, h1]
theorem RdL_made {α : Type} {k : Kd α} {s : Hp} {c : List Value} {x : α} (h : k.rd s c x) (n : Nat) : RdL k s (List.replicate n c).flatten (List.replicate n x) := by
  induction n with
  | zero => exact rfl
  | succ n ih => exact ⟨c, _, by rw [List.replicate_succ, List.flatten_cons], h, ih⟩

/-- Less is known, said in full. -/
theorem Rel.weaken' {N : Nat} {w0 : World} {hd : FS} {pn : Nat → Option Value} {s0 : Hp} {env env' : Env} {s : Hp} {F : Nat → FS} {a : Act} {w : World}
    (h : Rel N w0 hd pn s0 env s F a w) (he : ∀ t, env' t = .any ∨ env' t = env t) : ∃ F', Rel N w0 hd pn s0 env' s F' a w ∧ ∀ t b, F' t b → F t b ∧ env' t = env t := by
  classical
  refine ⟨fun t => if env' t = env t then F t else FS.no, ⟨h.dfr, h.size, fun t => ?_, fun t t' b hb hb' => ?_, fun t b hb => ?_, h.fz, h.keep, h.pin, h.ext, h.new⟩, fun t b hb => ?_⟩
  · by_cases ht : env' t = env t
    · simp only [ht, if_true]; exact h.slot t
    · simp only [if_neg ht]
      rw [(he t).resolve_right ht]
      exact fun b hb => hb
  · try dsimp only at hb hb'
    split at hb
    · split at hb'
      · exact h.disj t t' b hb hb'
      · exact hb'.elim
    · exact hb.elim
  · try dsimp only at hb
    split at hb
    · exact h.mine t b hb
    · exact hb.elim
  · try dsimp only at hb
    split at hb
    · exact ⟨hb, by assumption⟩
    · exact hb.elim
theorem upd_any_to (env : Env) (t : Nat) : ∀ u, upd env t .any u = .any ∨ upd env t .any u = env u := by
  intro u
  unfold upd
  split
  · exact .inl rfl
  · split
    · exact .inl rfl
    · split
      · exact .inl rfl
      · exact .inr rfl

section
variable {C : Cx} {env env' : Env} {Q : Exit → Act → World → Prop} {o : Oper} {p q r : Operand} {c : Code} {ops : Array Oper} {l : List Oper} {d t : Nat} {T T' S E : TypeId} {α β γ : Type} {k : Kd α} {k' : Kd β}

theorem OpT.own_new {xs : List α} (hd : o.dst = some d) (hdN : C.ok d) (hz0 : 0 < k.sz)
    (h : ∀ s F a w, Rel C.N C.w0 C.hd C.pn C.s0 env s F a w → ∃ (cs : Array Value), (execOp a.eval o).run C.P w = .ok (.value (.slice (some ⟨w.heap.size, 0, none⟩) xs.length xs.length)) (w.alloc (.cells cs E)) ∧ RdL k s cs.toList xs ∧ xs.length ≤ 9223372036854775807) : OpT C o env (upd env d (.own E k xs)) := by
  intro Q K a w hr hK
  obtain ⟨s, F, hr'⟩ := hr
  obtain ⟨cs, h1, h2, h3⟩ := h s F a w hr'
  unfold Oper.wp
  rw [h1, Oper.upon_value, hd]
  have hl := h2.len
  rw [Array.length_toList] at hl
  refine hK _ _ (hr'.put (Fd := fun b => b = w.heap.size) hdN.1 (Nat.lt_of_lt_of_le hdN.1 C.hN) hdN.2 ⟨⟨cs.toList, World.ownsRow_lit w cs xs.length (Nat.zero_le _) (by simp only [maxLen]; omega) hl, h2⟩, hz0, fun b' => ?_⟩ (Hp.le_refl s) (fun b o h1 h2 => by rw [h1] at h2; cases h2) (fz_alloc hr'.fz _) (keep_alloc w _) ?_)
  · simp only [Value.ownBlock, Option.some.injEq]; exact ⟨fun h => h.symm, fun h => h.symm⟩
  · intro b hb
    refine ⟨by omega, ?_⟩
    cases hs : s b with
    | none => rfl
    | some o' => have := hr'.fz.lt hs; omega
theorem OpT.make {n : Nat} {i1 i2 : IntKind} {z : Value} {by_ : Nat} {x : α} (hH : Hd C o (.makeSlice T p q) d) (hp : Opd C env p (.cel (Kd.int i1) (n : Int))) (hq : Opd C env q (.cel (Kd.int i2) (n : Int)))
    (hT : elT C.P T = some E) (hz : zeroT C.P E = some z) (hsz : sizeT C.P E = some k.sz) (hby : bytesT C.P E = some by_) (hz0 : 0 < k.sz) (hx : ∀ s, k.rd s (Value.cl z) x) (hn : by_ * n ≤ 281474976710656) (hn2 : n ≤ 9223372036854775807) :
    OpT C o env (upd env d (.own E k (List.replicate n x))) :=
  OpT.own_new hH.2.1 hH.2.2 hz0 fun s F a w hr => by
    obtain ⟨i, hi, hzz⟩ := Option.bind_eq_some_iff.1 hz
    have hu : C.P.underlying T = some (.slice E) := by
      unfold elT at hT
      split at hT
      · simp only [Option.some.injEq] at hT; subst hT; assumption
      · cases hT
    unfold sizeT at hsz
    unfold bytesT at hby
    rw [hi] at hsz hby
    simp only [Option.map_some, Option.some.injEq] at hsz hby
    have hl := k.len (hx s)
    have hzs : z.cells.size = k.sz := by simpa [Value.cl] using hl
    have hb : (i.bytes : Int) * (n : Int) ≤ 281474976710656 := by rw [hby]; have : ((by_ * n : Nat) : Int) ≤ 281474976710656 := by omega
                                                                  rwa [Int.natCast_mul] at this
    have hrun := run_make (P := C.P) w T E i z hu hi hzz i1 i2 (n : Int) (n : Int) (by omega) (Int.le_refl _) hb (by omega)
    simp only [Int.toNat_natCast, hsz] at hrun
    refine ⟨madeCells z.cells (n * k.sz), ?_, ?_, by rw [List.length_replicate]; exact hn2⟩
    · simp only [execOp, hH.1, (hp.geti hr).1, (hq.geti hr).1, Sem.run_bind]
      rw [hrun, List.length_replicate]
      rfl
    · rw [← hzs, made_list]
      exact RdL_made (hx s) n
theorem OpT.buildSlice {n m : Nat} {parts : List (Nat × Operand)} {z : Value} {x : α} {xs : List α} (hH : Hd C o (.buildSlice T n parts.toArray) d)
    (hT : elT C.P T = some E) (hz : zeroT C.P E = some z) (hm : sizeT C.P E = some m) (hmk : k.sz = m) (hz0 : 0 < m) (hx : ∀ s, k.rd s (Value.cl z) x) (hnm : 0 < n ∧ n * m ≤ 16777216)
    (hb : Built C env (Kd.arr n k) (fun i => some (i * m, m)) parts (List.replicate n x) xs) : OpT C o env (upd env d (.own E k xs)) :=
  OpT.own_new hH.2.1 hH.2.2 (by omega) fun s F a w hr => by
    obtain ⟨i, hi, hzz⟩ := Option.bind_eq_some_iff.1 hz
    have hu : C.P.underlying T = some (.slice E) := by
      unfold elT at hT
      split at hT
      · simp only [Option.some.injEq] at hT; subst hT; assumption
      · cases hT
    unfold sizeT at hm
    rw [hi] at hm
    simp only [Option.map_some, Option.some.injEq] at hm
    have hl := k.len (hx s)
    have hzs : z.cells.size = m := by rw [← hmk]; simpa [Value.cl] using hl
    have hstart : (Kd.arr n k).rd s ((Array.range (n * m)).map (z.cells[· % z.cells.size]!)).toList (List.replicate n x) := by
      refine ⟨?_, List.length_replicate⟩
      have h1 : ((Array.range (n * m)).map (z.cells[· % z.cells.size]!)) = madeCells z.cells (n * z.cells.size) := by
        have e : n * m = n * z.cells.size := by rw [hzs]
        rw [e]; rfl
      rw [h1, made_list]
      exact RdL_made (hx s) n
    obtain ⟨cells', h1, h2⟩ := hb.fill hr _ hstart
    have hpos : 0 < n * m := Nat.mul_pos hnm.1 hz0
    have hrun := Go.run_buildSlice (P := C.P) w T E n (parts.toArray.map fun (i, x) => (i, a.eval x)) cells' i z hu hi hzz (by rw [hm]; omega) (by rw [hm]; omega) (by rw [hm]; rw [← h1]; simp)
    refine ⟨cells', ?_, h2.1, ?_⟩
    · simp only [execOp, hH.1, Sem.run_bind]
      rw [hrun, h2.2]
      rfl
    · have h3 := h2.2
      have : n ≤ n * m := Nat.le_mul_of_pos_right _ hz0
      omega
/-- A literal without elements. -/
theorem OpT.buildSlice0 {m : Nat} {z : Value} (k : Kd α) (hH : Hd C o (.buildSlice T 0 #[]) d)
    (hT : elT C.P T = some E) (hm : sizeT C.P E = some k.sz) (hz0 : 0 < k.sz) : OpT C o env (upd env d (.own E k [])) :=
  OpT.own_new hH.2.1 hH.2.2 hz0 fun s F a w hr => by
    have hu : C.P.underlying T = some (.slice E) := by
      unfold elT at hT
      split at hT
      · simp only [Option.some.injEq] at hT; subst hT; assumption
      · cases hT
    refine ⟨#[], ?_, rfl, by simp⟩
    simp [execOp, hH.1, Instr.buildSlice, run_underlying hu, run_sizeT hm, Instr.fill, newRow, Array.range_zero']

/-- What is owned goes to another slot. -/
theorem OpT.take {A : As} (ho : o.op = .assign p ∨ o.op = .move p) (hd : o.dst = some d) (hdN : C.ok d) (hp : Root C env p t) (hA : env t = A) (hf : A.flat = false) (hne : t ≠ d) : OpT C o env (upd (upd env t .any) d A) := by
  intro Q K a w hr hK
  obtain ⟨s, F, hr'⟩ := hr
  have hev := hp.2 s F a w hr'
  obtain ⟨F1, h1, h2⟩ := hr'.weaken' (upd_any_to env t)
  have hslot := hr'.slot t
  rw [hA] at hslot
  have hrun : (execOp a.eval o).run C.P w = .ok (.value (gv a.tmps t)) w := by rcases ho with ho | ho <;> simp only [execOp, ho, hev] <;> rfl
  unfold Oper.wp
  rw [hrun, Oper.upon_value, hd]
  have hnot : ∀ b, ¬ F1 t b := fun b hb => by
    have h3 := h1.slot t
    have h4 : upd env t .any t = .any := by unfold upd; rw [if_pos rfl]
    rw [h4] at h3
    exact h3 b hb
  refine hK _ _ ⟨s, _, h1.putG (Fd := F t) hdN.1 (Nat.lt_of_lt_of_le hdN.1 C.hN) hdN.2 ?_ (Hp.le_refl s) (fun b o h1 h2 => by rw [h1] at h2; cases h2) h1.fz h1.keep (fun t' b hne' hof hb => ?_) (fun b hb => hr'.mine t b hb)⟩
  · refine As.holds_free hslot ?_
    cases A <;> first | rfl | cases hf
  · have h3 := h2 t' b hb
    refine ⟨rfl, (h1.mine t' b hb).1, fun hFb => ?_⟩
    have := hr'.disj t' t b h3.1 hFb
    subst this
    exact hnot b hb

/-- What is appended: a row of the call's own, or what is shared. -/
def Src (C : Cx) (env : Env) (q : Operand) {α : Type} (k : Kd α) (ys : List α) : Prop :=
  ∀ s F a w, Rel C.N C.w0 C.hd C.pn C.s0 env s F a w → ∃ A m, a.eval q = .slice A ys.length m ∧ (A = none → ys = []) ∧ ∃ cells, RdL k s cells ys ∧ ∀ ad, A = some ad → ∀ j u, cells[j]? = some u → w.cell? (ad.add j) = some u
theorem Src.shared {ys : List α} (h : Opd C env q (.cel (Kd.slice k) ys)) : Src C env q k ys := fun s F a w hr => by
  obtain ⟨A, c, e, h1, h2, h3⟩ := (h s F a w hr).1
  have e' : a.eval q = .slice A ys.length c := by simpa using e
  refine ⟨A, c, e', ?_, ?_⟩
  · intro hn
    rcases Nat.eq_zero_or_pos ys.length with h0 | h0
    · exact List.eq_nil_of_length_eq_zero h0
    · obtain ⟨ad, cells, h4, _⟩ := h3 h0
      rw [hn] at h4; cases h4
  · rcases Nat.eq_zero_or_pos ys.length with h0 | h0
    · have : ys = [] := List.eq_nil_of_length_eq_zero h0
      subst this
      exact ⟨[], rfl, fun ad _ j u hu => by simp at hu⟩
    · obtain ⟨ad, cells, h4, h5, h6⟩ := h3 h0
      refine ⟨cells, h5, fun ad' he j u hu => ?_⟩
      rw [h4] at he
      injection he with he
      subst he
      exact hr.fz.cell (h6 j u hu)
theorem Src.own {ys : List α} {u : Nat} (h : Root C env q u) (hu : env u = .own E k ys) : Src C env q k ys := fun s F a w hr => by
  have h1 := hr.slot u
  rw [hu] at h1
  obtain ⟨⟨cells, how, hrd⟩, hz, hF⟩ := h1
  rw [h.2 s F a w hr]
  rcases how.2 with ⟨hv, hn⟩ | ⟨g, cap, cur, hv, _, hg, _, _, _, htake⟩
  · refine ⟨none, 0, by rw [hv, hn], (fun _ => List.eq_nil_of_length_eq_zero hn), cells, hrd, (fun ad he => by cases he)⟩
  · refine ⟨some ⟨g, 0, none⟩, cap, hv, (fun he => by cases he), cells, hrd, fun ad he j u hu => ?_⟩
    injection he with he
    subst he
    refine own_cell hg ?_
    rw [← htake, List.getElem?_take] at hu
    split at hu
    · simpa using hu
    · cases hu
theorem OpT.append {xs ys : List α} {z : Value} {by_ : Nat} (hH : Hd C o (.call { callee := .builtin .append, args := #[p, q], argTypes := #[T, T] }) d) (hp : Root C env p t) (hA : env t = .own E k xs) (hq : Src C env q k ys) (hne : t ≠ d)
    (hT : elT C.P T = some E) (hz : zeroT C.P E = some z) (hzl : (Value.cl z).length = k.sz) (hsz : sizeT C.P E = some k.sz) (hby : bytesT C.P E = some by_) (hb0 : 0 < by_) (hn : (xs.length + ys.length) * by_ ≤ 140737488355328) :
    OpT C o env (upd (upd env t .any) d (.own E k (xs ++ ys))) := by
  intro Q K a w hr hK
  obtain ⟨s, F, hr'⟩ := hr
  have hev := hp.2 s F a w hr'
  obtain ⟨F1, h1, h2⟩ := hr'.weaken' (upd_any_to env t)
  have hslot := hr'.slot t
  rw [hA] at hslot
  obtain ⟨⟨cells, how, hrd⟩, hz0, hF⟩ := hslot
  have hu : C.P.underlying T = some (.slice E) := by
    unfold elT at hT
    split at hT
    · simp only [Option.some.injEq] at hT; subst hT; assumption
    · cases hT
  obtain ⟨i, hi, hzz⟩ := Option.bind_eq_some_iff.1 hz
  unfold sizeT at hsz
  unfold bytesT at hby
  rw [hi] at hsz hby
  simp only [Option.map_some, Option.some.injEq] at hsz hby
  have hle : xs.length + ys.length ≤ 140737488355328 := Nat.le_trans (Nat.le_mul_of_pos_right _ hb0) hn
  obtain ⟨A, m, hqe, hA0, cy, hcy, hcell⟩ := hq s F a w hr'
  have hrun : ∃ v' w', (Builtin.append_ #[T, T] o.type #[gv a.tmps t, .slice A ys.length m]).run C.P w = .ok v' w' ∧ w'.ownsRow 0 E k.sz v' (xs.length + ys.length) (cells ++ cy) ∧ w.grownBy w' (gv a.tmps t).ownBlock ∧ (v'.ownBlock = (gv a.tmps t).ownBlock ∨ v'.ownBlock = some w.heap.size) := by
    cases A with
    | none =>
      have hy := hA0 rfl
      subst hy
      simp only [RdL] at hcy
      subst hcy
      have e0 : (Builtin.append_ #[T, T] o.type #[gv a.tmps t, .slice none 0 m]).run C.P w = .ok (gv a.tmps t) w := by
        rcases how.2 with ⟨hv, hn0⟩ | ⟨g, cap, cur, hv, _, _, hnc, _⟩
        · rw [hv]; simp [Builtin.append_, run_underlying hu, sizeOf, typeInfo, hi, Builtin.lenOf, Builtin.firstCells]
        · rw [hv]; simp [Builtin.append_, run_underlying hu, sizeOf, typeInfo, hi, Builtin.lenOf, Builtin.firstCells, hnc, storeCells]
      exact ⟨_, w, e0, by simpa using how, ⟨rfl, rfl, rfl, Nat.le_refl _, fun _ _ _ => rfl⟩, .inl rfl⟩
    | some ad =>
      obtain ⟨v', w', r1, r2, r3, _, r5⟩ := run_append_own_at (P := C.P) w 0 T o.type E i z k.sz by_ hu hi hzz hsz hby (by rw [← hzl]; simp [Value.cl]) hz0 (gv a.tmps t) xs.length cells how ad ys.length m cy hcy.len (hcell ad rfl) hcy.one (by simp only [maxLen]; omega) hn (Nat.zero_le _)
      exact ⟨v', w', r1, r2, r3, r5⟩
  obtain ⟨v', w', r1, r2, r3, r4⟩ := hrun
  have hrun2 : (execOp a.eval o).run C.P w = .ok (.value v') w' := by
    simp only [execOp, hH.1, resolve, invoke, builtin]
    simp [hev, hqe, r1]
  unfold Oper.wp
  rw [hrun2, Oper.upon_value, hH.2.1]
  have hnot : ∀ b, ¬ F1 t b := fun b hb => by
    have h3 := h1.slot t
    have h4 : upd env t .any t = .any := by unfold upd; rw [if_pos rfl]
    rw [h4] at h3
    exact h3 b hb
  have hmine : ∀ b, (gv a.tmps t).ownBlock = some b → s b = none ∧ (C.w0.heap.size ≤ b ∨ C.hd b) := fun b hb => hr'.mine t b ((hF b).2 hb)
  have hnew : ∀ b, b = w.heap.size → s b = none ∧ (C.w0.heap.size ≤ b ∨ C.hd b) := fun b hb => by
    refine ⟨?_, .inl (by have := hr'.keep.size; omega)⟩
    cases hs : s b with
    | none => rfl
    | some o' => have := hr'.fz.lt hs; omega
  have hblk : ∀ b, b < w.heap.size → (gv a.tmps t).ownBlock ≠ some b → w'.heap[b]? = w.heap[b]? := fun b hb hne' => r3.block b hb (fun e => hne' e.symm)
  refine hK _ _ ⟨s, _, h1.putG (Fd := fun b => v'.ownBlock = some b) hH.2.2.1 (Nat.lt_of_lt_of_le hH.2.2.1 C.hN) hH.2.2.2 ?_ (Hp.le_refl s) (fun b o h1 h2 => by rw [h1] at h2; cases h2) (fun b o' hb => ?_) ⟨r3.os.trans h1.keep.os, r3.tape.trans h1.keep.tape, r3.output.trans h1.keep.output, Nat.le_trans h1.keep.size r3.size, fun b hb hn' => ?_, fun hon => Nat.le_trans (h1.keep.drn hon) (run_drn r1)⟩ (fun t' b hne' hof hb => ?_) (fun b hb => ?_)⟩
  · exact ⟨⟨cells ++ cy, by rw [List.length_append]; exact r2, hrd.app hcy⟩, hz0, fun b => Iff.rfl⟩
  · have hlt := h1.fz.lt hb
    rw [hblk b hlt (fun e => by rw [(hmine b e).1] at hb; cases hb)]
    exact h1.fz b o' hb
  · rw [hblk b (Nat.lt_of_lt_of_le hb h1.keep.size) (fun e => by rcases (hmine b e).2 with h | h; · omega
                                                                 · exact hn' h)]
    exact h1.keep.block b hb hn'
  · have h3 := h2 t' b hb
    have hlt : b < w.heap.size := As.holds_lt (hr'.slot t') b h3.1
    have hneb : (gv a.tmps t).ownBlock ≠ some b := fun e => by
      have := hr'.disj t' t b h3.1 ((hF b).2 e)
      subst this
      exact hnot b hb
    refine ⟨hblk b hlt hneb, (h1.mine t' b hb).1, fun hFb => ?_⟩
    rcases r4 with h | h
    · exact hneb (h ▸ hFb)
    · rw [h] at hFb; injection hFb with hFb; omega
  · rcases r4 with h | h
    · exact hmine b (h ▸ hb)
    · rw [h] at hb; injection hb with hb; exact hnew b hb.symm

/-! ### What is owned stays as it is from here on -/
def Hp.and (s : Hp) (b : Nat) (o : Obj) : Hp := fun b' => if b' = b then some o else s b'
theorem R_freeze {xs : List α} (ht : env t = .own E k xs) {a : Act} {w : World} (hr : C.R env a w) : C.R (updK env t (.cel (Kd.slice k) xs)) a w := by
  obtain ⟨s, F, hr'⟩ := hr
  have hslot := hr'.slot t
  rw [ht] at hslot
  obtain ⟨⟨cells, how, hrd⟩, hz0, hF⟩ := hslot
  rcases how.2 with ⟨hv, hn⟩ | ⟨g, cap, cur, hv, _, hg, hnc, hcm, hcs, htake⟩
  · refine hr'.turn (Fd := FS.no) ⟨⟨none, 0, by rw [hv, hn], by omega, by omega, fun h => by omega⟩, fun b hb => hb⟩ (Hp.le_refl s) (fun b o h1 h2 => by rw [h1] at h2; cases h2) hr'.fz hr'.keep (fun t' b hne hb => ⟨rfl, (hr'.mine t' b hb).1, fun h => h⟩) (fun b hb => hb.elim)
  · have hFg : F t g := (hF g).2 (by rw [hv]; rfl)
    have hsg := (hr'.mine t g hFg).1
    have hle : s.le (s.and g (.cells cur E (0, 0))) := fun b o hb => by
      unfold Hp.and
      by_cases hbg : b = g
      · subst hbg; rw [hsg] at hb; cases hb
      · rw [if_neg hbg]; exact hb
    refine hr'.turn (s' := s.and g (.cells cur E (0, 0))) (Fd := FS.no) ⟨⟨some ⟨g, 0, none⟩, cap, by rw [hv], hnc, by simp only [maxLen] at hcm; omega, fun h => ⟨⟨g, 0, none⟩, cells, rfl, hrd.mono hle, fun j u hu => ?_⟩⟩, fun b hb => hb⟩ hle (fun b o hb hb0 => ?_) (fun b o hb => ?_) hr'.keep (fun t' b hne hb => ⟨rfl, ?_, fun h => h⟩) (fun b hb => hb.elim)
    · rw [Addr.add_lit, Nat.zero_add]
      unfold Hp.look Hp.and
      simp only [if_true]
      rw [← htake, List.getElem?_take] at hu
      split at hu
      · simpa using hu
      · cases hu
    · unfold Hp.and at hb
      by_cases hbg : b = g
      · subst hbg; exact (hr'.mine t b hFg).2
      · rw [if_neg hbg, hb0] at hb; cases hb
    · unfold Hp.and at hb
      by_cases hbg : b = g
      · subst hbg; rw [if_pos rfl] at hb; injection hb with hb; rw [← hb]; exact hg
      · rw [if_neg hbg] at hb; exact hr'.fz b o hb
    · have hbg : b ≠ g := fun e => by subst e; exact hne (hr'.disj t' t b hb hFg)
      unfold Hp.and
      rw [if_neg hbg]
      exact (hr'.mine t' b hb).1
theorem R_freezeB {x : α} (ht : env t = .box E k x) {a : Act} {w : World} (hr : C.R env a w) : C.R (updK env t (.cel (Kd.ptr k) x)) a w := by
  obtain ⟨s, F, hr'⟩ := hr
  have hslot := hr'.slot t
  rw [ht] at hslot
  obtain ⟨g, cs, hv, hg, hrd, hF⟩ := hslot
  have hFg : F t g := (hF g).2 rfl
  have hsg := (hr'.mine t g hFg).1
  have hle : s.le (s.and g (.cells cs E (0, 0))) := fun b o hb => by
    unfold Hp.and
    by_cases hbg : b = g
    · subst hbg; rw [hsg] at hb; cases hb
    · rw [if_neg hbg]; exact hb
  refine hr'.turn (s' := s.and g (.cells cs E (0, 0))) (Fd := FS.no) ⟨⟨⟨g, 0, none⟩, cs.toList, by rw [hv], k.mono hle hrd, fun j u hu => ?_⟩, fun b hb => hb⟩ hle (fun b o hb hb0 => ?_) (fun b o hb => ?_) hr'.keep (fun t' b hne hb => ⟨rfl, ?_, fun h => h⟩) (fun b hb => hb.elim)
  · rw [Addr.add_lit, Nat.zero_add]
    unfold Hp.look Hp.and
    simp only [if_true]
    simpa using hu
  · unfold Hp.and at hb
    by_cases hbg : b = g
    · subst hbg; exact (hr'.mine t b hFg).2
    · rw [if_neg hbg, hb0] at hb; cases hb
  · unfold Hp.and at hb
    by_cases hbg : b = g
    · subst hbg; rw [if_pos rfl] at hb; injection hb with hb; rw [← hb]; exact hg
    · rw [if_neg hbg] at hb; exact hr'.fz b o hb
  · have hbg : b ≠ g := fun e => by subst e; exact hne (hr'.disj t' t b hb hFg)
    unfold Hp.and
    rw [if_neg hbg]
    exact (hr'.mine t' b hb).1
theorem AW.freeze {xs : List α} (ht : env t = .own E k xs) (h : AW C c (updK env t (.cel (Kd.slice k) xs)) Q) : AW C c env Q := fun a w hr => h a w (R_freeze ht hr)
theorem AWl.freeze {xs : List α} (ht : env t = .own E k xs) (h : AWl C ops l (updK env t (.cel (Kd.slice k) xs)) Q) : AWl C ops l env Q := fun a w hr => h a w (R_freeze ht hr)
theorem AX.freeze {e : Exit} {xs : List α} (ht : env t = .own E k xs) (h : AX C e (updK env t (.cel (Kd.slice k) xs)) Q) : AX C e env Q := fun a w hr => h a w (R_freeze ht hr)
theorem AWl.freezeB {x : α} (ht : env t = .box E k x) (h : AWl C ops l (updK env t (.cel (Kd.ptr k) x)) Q) : AWl C ops l env Q := fun a w hr => h a w (R_freezeB ht hr)
end
end Go.Proofs.YtkgboidjghcegaaGreatDoor.VL
/- Proved here: rules for calls, what a call takes and gives, and how a function's contract follows from its walk. With the words of VA. General: over every program. -/
set_option linter.unusedVariables false
set_option linter.unusedSimpArgs false
namespace Go.Proofs.YtkgboidjghcegaaGreatDoor.VL
open Go

def g0 : Nat → Value := fun _ => undef
/-- The parts of what a call gives back: itself, or its tuple's parts. -/
def resV (n : Nat) (v : Value) (j : Nat) : Value := if n = 1 then v else match v with
  | .tuple vs => vs.getD j undef
  | _ => undef

/-- WHAT A CALL TAKES AND GIVES: 'ins' speak of the arguments, 'out' of the results, 'outs' of the arguments behind the call (.any: it isn't told). -/
def ACall (P : Program) (f : FuncId) (ins out outs : List As) : Prop :=
  ∀ (w : World) (s : Hp) (args : Array Value) (F : Nat → FS), Fz s w → Glb P s → args.size = ins.length →
    (∀ i, (ins.getD i .any).holds s w g0 (args.getD i undef) (F i)) → (∀ i j b, F i b → F j b → i = j) → (∀ i b, F i b → s b = none) →
    Calls P f args w fun e w' => ∃ (v : Value) (s' : Hp) (F' Fr : Nat → FS), e = .returned v ∧ s.le s' ∧ (∀ b o, s' b = some o → s b = none → w.heap.size ≤ b ∨ ∃ i, F i b) ∧ Fz s' w' ∧ Keep w (fun b => ∃ i, F i b) w' ∧
      (out.length = 1 ∨ ∃ vs, v = .tuple vs ∧ vs.size = out.length) ∧
      (∀ j, (out.getD j .any).holds s' w' g0 (resV out.length v j) (Fr j)) ∧ (∀ i, (outs.getD i .any).holds s' w' g0 (args.getD i undef) (F' i)) ∧
      (∀ i j b, Fr i b → Fr j b → i = j) ∧ (∀ i j b, F' i b → F' j b → i = j) ∧ (∀ i j b, Fr i b → ¬ F' j b) ∧
      (∀ i b, Fr i b → s' b = none ∧ (w.heap.size ≤ b ∨ ∃ i, F i b)) ∧ (∀ i b, F' i b → s' b = none ∧ (w.heap.size ≤ b ∨ ∃ i, F i b))

/-- What a walk owes where it returns. -/
def Ret (C : Cx) (fn : Func) (out outs : List As) (a : Act) (w : World) : Prop :=
  a.defers = [] ∧ ∃ (v : Value) (s : Hp) (F' Fr : Nat → FS), (results fn a.tmps).run C.P w = .ok v w ∧ C.s0.le s ∧ (∀ b o, s b = some o → C.s0 b = none → C.w0.heap.size ≤ b ∨ C.hd b) ∧ Fz s w ∧ Keep C.w0 C.hd w ∧
      (out.length = 1 ∨ ∃ vs, v = .tuple vs ∧ vs.size = out.length) ∧
      (∀ j, (out.getD j .any).holds s w g0 (resV out.length v j) (Fr j)) ∧ (∀ i, outs.getD i .any = .any ∨ ∃ u, C.pn i = some u ∧ (outs.getD i .any).holds s w g0 u (F' i)) ∧ (∀ i, outs.getD i .any = .any → ∀ b, ¬ F' i b) ∧
      (∀ i j b, Fr i b → Fr j b → i = j) ∧ (∀ i j b, F' i b → F' j b → i = j) ∧ (∀ i j b, Fr i b → ¬ F' j b) ∧
      (∀ i b, Fr i b → s b = none ∧ (C.w0.heap.size ≤ b ∨ C.hd b)) ∧ (∀ i b, F' i b → s b = none ∧ (C.w0.heap.size ≤ b ∨ C.hd b))
def RetQ (C : Cx) (fn : Func) (out outs : List As) : Exit → Act → World → Prop
  | .ret, a, w => Ret C fn out outs a w
  | .normal, a, w => Ret C fn out outs a w
  | _, _, _ => False


def As.isAny : As → Bool
  | .any => true
  | _ => false
theorem As.isAny_eq {A : As} (h : A.isAny = true) : A = .any := by cases A <;> first | rfl | cases h
def pnOf (outs : List As) (args : Array Value) : Nat → Option Value := fun i => if (outs.getD i .any).isAny then none else some (args.getD i undef)
def envOf (ins : List As) : Env := fun t => if t < 10000 then ins.getD t .any else .any

theorem free_getD {ins : List As} (h : ins.all As.free = true) (i : Nat) : (ins.getD i .any).free = true := by
  rw [List.getD_eq_getElem?_getD]
  cases hi : ins[i]? with
  | none => rfl
  | some A => exact List.all_eq_true.1 h A (List.mem_of_getElem? hi)

/-- A function's contract follows from its walk. -/
theorem ACall.intro {P : Program} {f : FuncId} {fn : Func} {c : Code} {N : Nat} {ins out outs : List As} (hf : P.funcs[f]? = some fn) (hb : fn.body = some c) (hn : fn.ntmps = N) (hN : N ≤ 10000) (hle : ins.length ≤ N)
    (hfree : ins.all As.free = true) (hol : outs.length ≤ ins.length)
    (h : ∀ (w0 : World) (hd : FS) (s0 : Hp) (gl : Glb P s0) (args : Array Value), args.size = ins.length → AW ⟨P, N, w0, hd, hN, pnOf outs args, s0, gl⟩ c (envOf ins) (RetQ ⟨P, N, w0, hd, hN, pnOf outs args, s0, gl⟩ fn out outs)) : ACall P f ins out outs := by
  intro w s args F hfz hgl hsz hh hdj hsn
  refine calls_of_wp hf hb ?_
  have hany : ∀ i, ins.length ≤ i → ins.getD i .any = .any := fun i hi => by rw [List.getD_eq_getElem?_getD, List.getElem?_eq_none hi]; rfl
  have hgv : ∀ t, t < 10000 → gv (args ++ Array.replicate (N - args.size) undef) t = args.getD t undef := fun t ht => by
    rw [gv_lo ht, Array.getD_eq_getD_getElem?, Array.getD_eq_getD_getElem?, Array.getElem?_append]
    split
    · rfl
    · rename_i hge
      rw [Array.getElem?_replicate, Array.getElem?_eq_none (by omega)]
      split <;> rfl
  have hrel : RelE N w (fun b => ∃ i, F i b) (pnOf outs args) s (envOf ins) { tmps := args ++ Array.replicate (fn.ntmps - args.size) undef, defers := [] } w := by
    rw [hn]
    refine ⟨s, F, rfl, ?_, fun t => ?_, hdj2 hdj, fun t b hb => ⟨hsn t b hb, .inr ⟨t, hb⟩⟩, hfz, Keep.refl _ _, fun t v hv => ?_, Hp.le_refl s, fun b o h1 h2 => by rw [h1] at h2; cases h2⟩
    · simp only [Array.size_append, Array.size_replicate]; omega
    · unfold envOf
      by_cases ht : t < 10000
      · rw [if_pos ht]
        rw [hgv t ht]
        exact As.holds_free (hh t) (free_getD hfree t)
      · rw [if_neg ht]
        have h1 := hh t
        rw [hany t (by omega)] at h1
        exact h1
    · unfold pnOf at hv
      split at hv
      · cases hv
      · rename_i hna
        have ht : t < 10000 := by
          rcases Nat.lt_or_ge t 10000 with h1 | h1
          · exact h1
          · exfalso
            apply hna
            rw [List.getD_eq_getElem?_getD, List.getElem?_eq_none (by omega)]
            rfl
        refine ⟨ht, ?_⟩
        injection hv with hv
        rw [← hv]
        exact hgv t ht
  have key := h w (fun b => ∃ i, F i b) s hgl args hsz _ _ hrel
  have fin : ∀ (a : Act) (w' : World), Ret ⟨P, N, w, fun b => ∃ i, F i b, hN, pnOf outs args, s, hgl⟩ fn out outs a w' → a.defers = [] ∧ ∃ v, (results fn a.tmps).run P w' = .ok v w' ∧
      ∃ (v' : Value) (s' : Hp) (F' Fr : Nat → FS), Ending.returned v = .returned v' ∧ s.le s' ∧ (∀ b o, s' b = some o → s b = none → w.heap.size ≤ b ∨ ∃ i, F i b) ∧ Fz s' w' ∧ Keep w (fun b => ∃ i, F i b) w' ∧
      (out.length = 1 ∨ ∃ vs, v' = .tuple vs ∧ vs.size = out.length) ∧
      (∀ j, (out.getD j .any).holds s' w' g0 (resV out.length v' j) (Fr j)) ∧ (∀ i, (outs.getD i .any).holds s' w' g0 (args.getD i undef) (F' i)) ∧
      (∀ i j b, Fr i b → Fr j b → i = j) ∧ (∀ i j b, F' i b → F' j b → i = j) ∧ (∀ i j b, Fr i b → ¬ F' j b) ∧
      (∀ i b, Fr i b → s' b = none ∧ (w.heap.size ≤ b ∨ ∃ i, F i b)) ∧ (∀ i b, F' i b → s' b = none ∧ (w.heap.size ≤ b ∨ ∃ i, F i b)) := by
    rintro a w' ⟨hdf, v, s', F', Fr, h1, h2, h3, h4, h5, h6, h7, h8, h8', h9, h10, h11, h12, h13⟩
    refine ⟨hdf, v, h1, v, s', F', Fr, rfl, h2, h3, h4, h5, h6, h7, fun i => ?_, h9, h10, h11, h12, h13⟩
    rcases h8 i with h | ⟨u, hu, h⟩
    · rw [h]; exact h8' i h
    · have hu' : pnOf outs args i = some u := hu
      unfold pnOf at hu'
      split at hu'
      · cases hu'
      · injection hu' with hu'; rw [hu']; exact h
  refine wp_mono key ?_
  intro e a w' hq
  cases e with
  | ret => exact fin a w' hq
  | normal => exact fin a w' hq
  | exit id => exact hq.elim
  | goto l => exact hq.elim
  | panic ch => exact hq.elim
  | outgrown => exact hq.elim
where hdj2 {F : Nat → FS} (h : ∀ i j b, F i b → F j b → i = j) : ∀ t t' b, F t b → F t' b → t = t' := h

section
variable {C : Cx} {env env' : Env} {Q : Exit → Act → World → Prop} {o : Oper} {fn : Func} {p q r : Operand} {c : Code} {ops : Array Oper} {l : List Oper} {d t : Nat} {T T' S E : TypeId} {α β γ : Type} {k : Kd α} {k' : Kd β}

/-- The slot's value is what slot t holds. -/
def At (env : Env) (r t : Nat) : Prop := r < 10000 ∧ t < 10000 ∧ (t = r ∨ env r = .ali t)
theorem At.self (h : t < 10000) : At env t t := ⟨h, h, .inl rfl⟩
theorem At.ali {r : Nat} (h : env r = .ali t) (hr : r < 10000) (ht : t < 10000) : At env r t := ⟨hr, ht, .inr h⟩
theorem At.val {r : Nat} (h : At env r t) {s F a w} (hr : Rel C.N C.w0 C.hd C.pn C.s0 env s F a w) : gv a.tmps r = gv a.tmps t := by
  rcases h.2.2 with h1 | h1
  · rw [h1]
  · have := hr.slot r
    rw [h1] at this
    exact this.1.1

/-- What is told of the arguments at the end. -/
def OutsOK (C : Cx) (env : Env) (outs : List As) (ts : List Nat) : Prop := ∀ i, outs.getD i .any = .any ∨ ((C.pn i).isSome = true ∧ env i = outs.getD i .any ∧ (outs.getD i .any).free = true ∧ i ∉ ts)
theorem OutsOK.nil {ts : List Nat} : OutsOK C env [] ts := fun i => .inl rfl

end
end Go.Proofs.YtkgboidjghcegaaGreatDoor.VL
/- Proved here: the rule for a call of a function whose contract is known, and for taking the parts of what it gives. With the words of VA. General: over every program. -/
set_option linter.unusedVariables false
set_option linter.unusedSimpArgs false
namespace Go.Proofs.YtkgboidjghcegaaGreatDoor.VL
open Go

theorem holds_F {s : Hp} {w : World} {g : Nat → Value} {v : Value} {F F' : FS} {A : As} (h : A.holds s w g v F) (hF : ∀ b, F b ↔ F' b) : A.holds s w g v F' := by
  have : F = F' := funext fun b => propext (hF b)
  rw [← this]; exact h

def oneA : List As → As
  | [A] => A
  | _ => .any
def partA (out : List As) (j : Nat) : As := match out with
  | [_] => .any
  | _ => out.getD j .any
def updRes (env : Env) (d : Nat) (out : List As) : Env := fun u =>
  if u = d then oneA out else if ofSlot d u then partA out (u / 10000 - 1) else if (env u).dep d then .any else env u

theorem Rel.putR {N : Nat} {w0 : World} {hd : FS} {pn : Nat → Option Value} {s0 : Hp} {env : Env} {s : Hp} {F : Nat → FS} {a : Act} {w : World} {d : Nat} {v : Value} {out : List As} {Fr : Nat → FS}
    (h : Rel N w0 hd pn s0 env s F a w) (hN : d < N) (hd' : d < 10000) (hpn : pn d = none)
    (hsh : out.length = 1 ∨ ∃ vs, v = .tuple vs ∧ vs.size = out.length) (hA : ∀ j, (out.getD j .any).holds s w g0 (resV out.length v j) (Fr j)) (hfree : out.all As.free = true)
    (ho : ∀ t b j, F t b → ¬ Fr j b) (hdj : ∀ i j b, Fr i b → Fr j b → i = j) (hF : ∀ j b, Fr j b → s b = none ∧ (w0.heap.size ≤ b ∨ hd b)) :
    RelE N w0 hd pn s0 (updRes env d out) (a.put (some d) v) w := by
  have hput : (a.put (some d) v).tmps = a.tmps.setIfInBounds d v := rfl
  let FF : Nat → FS := fun u => if u = d then (if out.length = 1 then Fr 0 else FS.no) else if ofSlot d u then (if out.length = 1 then FS.no else Fr (u / 10000 - 1)) else if (env u).dep d then FS.no else F u
  have hFF : ∀ u b, FF u b → (∃ j, Fr j b ∧ ((u = d ∧ j = 0 ∧ out.length = 1) ∨ (u ≠ d ∧ ofSlot d u = true ∧ out.length ≠ 1 ∧ j = u / 10000 - 1))) ∨ (F u b ∧ u ≠ d ∧ ofSlot d u = false) := by
    intro u b hb
    dsimp only [FF] at hb
    split at hb
    · rename_i hu
      split at hb
      · exact .inl ⟨0, hb, .inl ⟨hu, rfl, by assumption⟩⟩
      · exact hb.elim
    · rename_i hu
      split at hb
      · rename_i hof
        split at hb
        · exact hb.elim
        · exact .inl ⟨_, hb, .inr ⟨hu, hof, by assumption, rfl⟩⟩
      · rename_i hof
        split at hb
        · exact hb.elim
        · exact .inr ⟨hb, hu, by simpa using hof⟩
  refine ⟨s, FF, h.dfr, by rw [hput, Array.size_setIfInBounds]; exact h.size, fun u => ?_, fun u u' b hb hb' => ?_, fun u b hb => ?_, h.fz, h.keep, fun t u hv => ?_, h.ext, h.new⟩
  · rw [hput]
    unfold updRes
    by_cases hu : u = d
    · subst hu
      rw [if_pos rfl, gv_put_eq v hd' (by rw [h.size]; exact hN)]
      have e : FF u = if out.length = 1 then Fr 0 else FS.no := by dsimp only [FF]; rw [if_pos rfl]
      rw [e]
      match out, hA, hfree with
      | [], _, _ => exact fun b hb => hb
      | [A], hA, hfree =>
        have h1 := hA 0
        simp only [List.length_singleton, if_true]
        exact As.holds_free h1 (show A.free = true by simpa using hfree)
      | A :: B :: l, _, _ => rw [if_neg (by simp)]; exact fun b hb => hb
    · rw [if_neg hu]
      by_cases hof : ofSlot d u = true
      · rw [if_pos hof]
        have e : FF u = if out.length = 1 then FS.no else Fr (u / 10000 - 1) := by dsimp only [FF]; rw [if_neg hu, if_pos hof]
        rw [e]
        have hmod : u % 10000 = d := by simpa [ofSlot] using hof
        have hval : ∀ vs, v = .tuple vs → gv (a.tmps.setIfInBounds d v) u = vs.getD (u / 10000 - 1) undef := by
          intro vs hv
          unfold gv
          rw [if_neg (by omega), hmod, hv]
          have : (a.tmps.setIfInBounds d (Value.tuple vs)).getD d undef = .tuple vs := by
            have := gv_put_eq (tmps := a.tmps) (.tuple vs) hd' (by rw [h.size]; exact hN)
            rwa [gv_lo hd'] at this
          rw [this]
        match out, hA, hfree, hsh with
        | [A], _, _, _ => simp only [List.length_singleton, if_true]; exact fun b hb => hb
        | [], hA, hfree, hsh => rw [if_neg (by simp)]; exact fun b hb => hA _ b hb
        | A :: B :: l, hA, hfree, hsh =>
          rw [if_neg (by simp)]
          obtain ⟨vs, hv, hvs⟩ := hsh.resolve_left (by simp)
          rw [hval vs hv]
          have h1 := hA (u / 10000 - 1)
          unfold resV at h1
          rw [if_neg (by simp), hv] at h1
          refine As.holds_free h1 ?_
          show ((A :: B :: l).getD (u / 10000 - 1) .any).free = true
          rw [List.getD_eq_getElem?_getD]
          cases hi : (A :: B :: l)[u / 10000 - 1]? with
          | none => rfl
          | some A' => exact List.all_eq_true.1 hfree A' (List.mem_of_getElem? hi)
      · have ho' : ofSlot d u = false := by simpa using hof
        rw [if_neg hof]
        by_cases hp : (env u).dep d = true
        · rw [if_pos hp]
          have e : FF u = FS.no := by dsimp only [FF]; rw [if_neg hu, if_neg hof, if_pos hp]
          rw [e]; exact fun b hb => hb
        · rw [if_neg hp]
          have e : FF u = F u := by dsimp only [FF]; rw [if_neg hu, if_neg hof, if_neg hp]
          rw [e, gv_put_ne v ho']
          refine As.holds_g (h.slot u) ?_
          intro q hq
          refine gv_put_ne v ?_
          by_cases hoq : ofSlot d q = true
          · have h1 : q < 10000 := As.dep_lt (h.slot u) hq
            have : q = d := by simpa [ofSlot, Nat.mod_eq_of_lt h1] using hoq
            subst this
            exact (hp hq).elim
          · simpa using hoq
  · rcases hFF u b hb with ⟨j, h1, h2⟩ | ⟨h1, h2, h3⟩
    · rcases hFF u' b hb' with ⟨j', h4, h5⟩ | ⟨h4, h5, h6⟩
      · have hj := hdj j j' b h1 h4
        rcases h2 with ⟨e1, e2, e3⟩ | ⟨e1, e2, e3, e4⟩
        · rcases h5 with ⟨f1, f2, f3⟩ | ⟨f1, f2, f3, f4⟩
          · rw [e1, f1]
          · exact (f3 e3).elim
        · rcases h5 with ⟨f1, f2, f3⟩ | ⟨f1, f2, f3, f4⟩
          · exact (e3 f3).elim
          · have m1 : u % 10000 = d := by simpa [ofSlot] using e2
            have m2 : u' % 10000 = d := by simpa [ofSlot] using f2
            omega
      · exact (ho u' b j h4 h1).elim
    · rcases hFF u' b hb' with ⟨j', h4, h5⟩ | ⟨h4, h5, h6⟩
      · exact (ho u b j' h1 h4).elim
      · exact h.disj u u' b h1 h4
  · rcases hFF u b hb with ⟨j, h1, h2⟩ | ⟨h1, h2, h3⟩
    · exact hF j b h1
    · exact h.mine u b h1
  · have h1 := h.pin t u hv
    refine ⟨h1.1, ?_⟩
    rw [hput, gv_put_ne, h1.2]
    have : t ≠ d := fun e => by subst e; rw [hpn] at hv; cases hv
    simp [ofSlot, Nat.mod_eq_of_lt h1.1, this]

/-! ### How an argument is handed over -/
inductive Mode
  | flat
  | root (t : Nat)
  | bor (t : Nat)
  deriving DecidableEq
inductive Bor : As → As → Prop
  | own {α : Type} (E : TypeId) (k : Kd α) (xs : List α) : Bor (.own E k xs) (.cel (Kd.slice k) xs)
  | box {α : Type} (E : TypeId) (k : Kd α) (x : α) : Bor (.box E k x) (.cel (Kd.ptr k) x)
  | deep {O : OSh} {A : As} (h : ∀ {s w g v F sc}, O.hold s w v F → Hp.le s sc → (∀ b, F b → sc b = w.heap[b]?) → A.holds sc w g v FS.no) : Bor (.deep O) A
/-- A pointer into what is owned, lent for a call. -/
def BorE (C : Cx) (env : Env) (x : Operand) (t : Nat) (A : As) : Prop :=
  ∃ (α β : Type) (k : Kd α) (k' : Kd β) (i o : Nat) (f : α → β) (g : α → β → α) (y : α), Opd C env x (.pel t i k o k' f g) ∧ Has env t k i y ∧ A = .cel (Kd.ptr k') (f y)
theorem Has.own {C : Cx} {env : Env} {t : Nat} {α : Type} {k : Kd α} {i : Nat} {x : α} (h : Has env t k i x) {s : Hp} {F : Nat → FS} {a : Act} {w : World} (hr : Rel C.N C.w0 C.hd C.pn C.s0 env s F a w) {g : Nat}
    (hg : ptrIn (gv a.tmps t) 0 = .pointer (some ⟨g, 0, none⟩)) : F t g := by
  have h1 := hr.slot t
  rcases h with ⟨E, h, rfl⟩ | ⟨E, xs, h, hx⟩
  · rw [h] at h1
    obtain ⟨b, cs, e, _, _, hF⟩ := h1
    rw [e] at hg
    have : b = g := by simpa [ptrIn, Addr.add] using hg
    exact (hF g).2 this.symm
  · rw [h] at h1
    obtain ⟨⟨cells, h2, _⟩, _, hF⟩ := h1
    have hi : i < xs.length := (List.getElem?_eq_some_iff.1 hx).1
    rcases h2.2 with ⟨_, hn⟩ | ⟨b, cap, cur, hv, _⟩
    · omega
    · rw [hv] at hg
      have : b = g := by simpa [ptrIn, Addr.add] using hg
      exact (hF g).2 (by rw [hv, this]; rfl)
def ArgOK (C : Cx) (env : Env) (x : Operand) (A O : As) : Mode → Prop
  | .flat => Opd C env x A ∧ A.flat = true ∧ A.free = true ∧ O = .any
  | .root t => Root C env x t ∧ env t = A ∧ A.flat = false ∧ O.free = true
  | .bor t => (Root C env x t ∧ Bor (env t) A ∧ O = .any) ∨ (BorE C env x t A ∧ O = .any)
inductive Args (C : Cx) (env : Env) : List Operand → List As → List As → List Mode → Prop
  | nil : Args C env [] [] [] []
  | cons {x : Operand} {A O : As} {m : Mode} {xs : List Operand} {ins outs : List As} {ms : List Mode} (h : ArgOK C env x A O m) (r : Args C env xs ins outs ms) : Args C env (x :: xs) (A :: ins) (O :: outs) (m :: ms)
/-- The same, at one place of the walk. -/
def ArgOKA (C : Cx) (env : Env) (a : Act) (w : World) (x : Operand) (A O : As) : Mode → Prop
  | .flat => (∀ s F, Rel C.N C.w0 C.hd C.pn C.s0 env s F a w → A.holds s w (gv a.tmps) (a.eval x) FS.no) ∧ A.flat = true ∧ A.free = true ∧ O = .any
  | .root t => Root C env x t ∧ env t = A ∧ A.flat = false ∧ O.free = true
  | .bor t => (Root C env x t ∧ Bor (env t) A ∧ O = .any) ∨ (BorE C env x t A ∧ O = .any)
inductive ArgsA (C : Cx) (env : Env) (a : Act) (w : World) : List Operand → List As → List As → List Mode → Prop
  | nil : ArgsA C env a w [] [] [] []
  | cons {x : Operand} {A O : As} {m : Mode} {xs : List Operand} {ins outs : List As} {ms : List Mode} (h : ArgOKA C env a w x A O m) (r : ArgsA C env a w xs ins outs ms) : ArgsA C env a w (x :: xs) (A :: ins) (O :: outs) (m :: ms)
theorem Args.at {C : Cx} {env : Env} {a : Act} {w : World} {xs : List Operand} {ins outs : List As} {ms : List Mode} (h : Args C env xs ins outs ms) : ArgsA C env a w xs ins outs ms := by
  induction h with
  | nil => exact .nil
  | @cons x A O m xs ins outs ms h r ih =>
    refine .cons ?_ ih
    cases m with
    | flat => exact ⟨fun s F hr => h.1 s F a w hr, h.2⟩
    | root t => exact h
    | bor t => exact h
theorem ArgsA.app {C : Cx} {env : Env} {a : Act} {w : World} {xs ys : List Operand} {ins ins' outs outs' : List As} {ms ms' : List Mode} (h : ArgsA C env a w xs ins outs ms) (h' : ArgsA C env a w ys ins' outs' ms') :
    ArgsA C env a w (xs ++ ys) (ins ++ ins') (outs ++ outs') (ms ++ ms') := by
  induction h with
  | nil => exact h'
  | cons h r ih => exact .cons h ih
theorem ArgsA.get {C : Cx} {env : Env} {a : Act} {w : World} {xs : List Operand} {ins outs : List As} {ms : List Mode} (h : ArgsA C env a w xs ins outs ms) : xs.length = ins.length ∧ ms.length = ins.length ∧ outs.length = ins.length ∧
    ∀ i x, xs[i]? = some x → ∃ m, ms[i]? = some m ∧ ArgOKA C env a w x (ins.getD i .any) (outs.getD i .any) m := by
  induction h with
  | nil => exact ⟨rfl, rfl, rfl, fun i x h => by simp at h⟩
  | cons h r ih =>
    obtain ⟨h1, h2, h3, h4⟩ := ih
    refine ⟨by simp [h1], by simp [h2], by simp [h3], fun i x hx => ?_⟩
    cases i with
    | zero => simp at hx; subst hx; exact ⟨_, rfl, h⟩
    | succ i => simpa using h4 i x (by simpa using hx)
def rootsOf : List Mode → List Nat
  | [] => []
  | .root t :: ms => t :: rootsOf ms
  | _ :: ms => rootsOf ms
def borsOf : List Mode → List Nat
  | [] => []
  | .bor t :: ms => t :: borsOf ms
  | _ :: ms => borsOf ms
def msOK (ms : List Mode) : Bool := decide ((rootsOf ms).Nodup) && (rootsOf ms).all fun t => !(borsOf ms).contains t
theorem mem_roots {ms : List Mode} {t : Nat} : t ∈ rootsOf ms ↔ ∃ i : Nat, ms[i]? = some (Mode.root t) := by
  induction ms with
  | nil => simp [rootsOf]
  | cons m ms ih =>
    have step : (∃ i : Nat, (m :: ms)[i]? = some (Mode.root t)) ↔ m = .root t ∨ ∃ i : Nat, ms[i]? = some (Mode.root t) := by
      constructor
      · rintro ⟨i, hi⟩
        cases i with
        | zero => simp at hi; exact .inl hi
        | succ i => exact .inr ⟨i, by simpa using hi⟩
      · rintro (h | ⟨i, hi⟩)
        · exact ⟨0, by simp [h]⟩
        · exact ⟨i + 1, by simpa using hi⟩
    rw [step, ← ih]
    cases m <;> simp [rootsOf, eq_comm]
theorem mem_bors {ms : List Mode} {t : Nat} : t ∈ borsOf ms ↔ ∃ i : Nat, ms[i]? = some (Mode.bor t) := by
  induction ms with
  | nil => simp [borsOf]
  | cons m ms ih =>
    have step : (∃ i : Nat, (m :: ms)[i]? = some (Mode.bor t)) ↔ m = .bor t ∨ ∃ i : Nat, ms[i]? = some (Mode.bor t) := by
      constructor
      · rintro ⟨i, hi⟩
        cases i with
        | zero => simp at hi; exact .inl hi
        | succ i => exact .inr ⟨i, by simpa using hi⟩
      · rintro (h | ⟨i, hi⟩)
        · exact ⟨0, by simp [h]⟩
        · exact ⟨i + 1, by simpa using hi⟩
    rw [step, ← ih]
    cases m <;> simp [borsOf, eq_comm]
theorem roots_inj {ms : List Mode} (h : (rootsOf ms).Nodup) : ∀ {i j t : Nat}, ms[i]? = some (.root t) → ms[j]? = some (.root t) → i = j := by
  induction ms with
  | nil => intro i j t hi; simp at hi
  | cons m ms ih =>
    intro i j t hi hj
    have hnd : (rootsOf ms).Nodup := by
      cases m <;> simp only [rootsOf] at h <;> first | exact h | exact (List.nodup_cons.1 h).2
    cases i with
    | zero =>
      cases j with
      | zero => rfl
      | succ j =>
        simp at hi
        subst hi
        have : t ∈ rootsOf ms := mem_roots.2 ⟨j, by simpa using hj⟩
        exact ((List.nodup_cons.1 h).1 this).elim
    | succ i =>
      cases j with
      | zero =>
        simp at hj
        subst hj
        have : t ∈ rootsOf ms := mem_roots.2 ⟨i, by simpa using hi⟩
        exact ((List.nodup_cons.1 h).1 this).elim
      | succ j => have := ih hnd (t := t) (i := i) (j := j) (by simpa using hi) (by simpa using hj); omega
/-- The slots whose memory was handed over have what they have behind the call. -/
def updRoots (env : Env) : List Mode → List As → Env
  | .root t :: ms, O :: outs => updK (updRoots env ms outs) t O
  | _ :: ms, _ :: outs => updRoots env ms outs
  | _, _ => env
theorem updRoots_not {env : Env} {u : Nat} : ∀ {ms : List Mode} {outs : List As}, (∀ i : Nat, ms[i]? ≠ some (Mode.root u)) → updRoots env ms outs u = env u
  | [], _, _ => rfl
  | m :: ms, [], h => by cases m <;> rfl
  | m :: ms, O :: outs, h => by
    have ih := updRoots_not (env := env) (u := u) (ms := ms) (outs := outs) (fun i hi => h (i + 1) (by simpa using hi))
    cases m with
    | root t =>
      have ht : u ≠ t := fun e => h 0 (by simp [e])
      simp only [updRoots, updK, if_neg ht]
      exact ih
    | flat => exact ih
    | bor t => exact ih
theorem updRoots_at {env : Env} {u : Nat} : ∀ {ms : List Mode} {outs : List As} {i : Nat}, (rootsOf ms).Nodup → ms.length = outs.length → ms[i]? = some (.root u) → updRoots env ms outs u = outs.getD i .any
  | [], _, i, _, _, h => by simp at h
  | m :: ms, [], i, _, hl, h => by simp at hl
  | m :: ms, O :: outs, i, hn, hl, h => by
    have hnd : (rootsOf ms).Nodup := by
      cases m <;> simp only [rootsOf] at hn <;> first | exact hn | exact (List.nodup_cons.1 hn).2
    cases i with
    | zero => simp at h; subst h; simp [updRoots, updK]
    | succ i =>
      have h' : ms[i]? = some (.root u) := by simpa using h
      have ih := updRoots_at (env := env) (u := u) (ms := ms) (outs := outs) hnd (by simpa using hl) h'
      cases m with
      | root t =>
        have ht : u ≠ t := fun e => by
          subst e
          exact (List.nodup_cons.1 hn).1 (mem_roots.2 ⟨i, h'⟩)
        simp only [updRoots, updK, if_neg ht]
        simpa using ih
      | flat => simpa [updRoots] using ih
      | bor t => simpa [updRoots] using ih
/-- It says the same whatever is frozen. -/
def As.indep (A : As) : Prop := ∀ s s' w v F, A.holds s w g0 v F → A.holds s' w g0 v F

section
variable {C : Cx} {env env' : Env} {Q : Exit → Act → World → Prop} {o : Oper} {fn : Func} {p q r : Operand} {c : Code} {ops : Array Oper} {l : List Oper} {d t : Nat} {T T' S E : TypeId} {α β γ : Type} {k : Kd α} {k' : Kd β}

theorem run_callFunc {P : Program} {f : FuncId} {fn : Func} (hf : P.funcs[f]? = some fn) (hb : fn.body.isNone = false) (hn : (fn.name == "runtime.NumGoroutine") = false) (args : Array Value) (w : World) :
    (callFunc f args).run P w = .ok (.enter f args) w := by
  have h1 : fn.name ≠ "runtime.NumGoroutine" := by simpa using hn
  have h2 : fn.body ≠ none := by intro h; rw [h] at hb; cases hb
  simp [callFunc, hf, h1, h2]

/-- A world behind a call, for the caller. -/
theorem R_call {a : Act} {w : World} {f : FuncId} {ins out outs : List As} {xs : List Operand} {ms : List Mode} (hc : ACall C.P f ins out outs) (ha : ArgsA C env a w xs ins outs ms) (hm : msOK ms = true)
    (hi : borsOf ms = [] ∨ (∀ A ∈ out, A.indep) ∧ ∀ A ∈ outs, A.indep) (hof : out.all As.free = true) (hdN : C.ok d)
    (hr : C.R env a w) : Calls C.P f (xs.map a.eval).toArray w fun e w' => ∃ v, e = .returned v ∧ C.R (updRes (updRoots env ms outs) d out) (a.put (some d) v) w' := by
  classical
  obtain ⟨s, F, hr'⟩ := hr
  obtain ⟨hl1, hl2, hl3, hget⟩ := ha.get
  have hm' := hm
  unfold msOK at hm'
  simp only [Bool.and_eq_true, decide_eq_true_eq, List.all_eq_true, Bool.not_eq_true', List.contains_eq_mem, decide_eq_false_iff_not] at hm'
  obtain ⟨hnd, hsep⟩ := hm'
  let bw : Nat → Prop := fun b => ∃ t, t ∈ borsOf ms ∧ F t b
  let sc : Hp := fun b => if bw b then w.heap[b]? else s b
  let Fc : Nat → FS := fun i b => ∃ t, ms[i]? = some (.root t) ∧ F t b
  have hbs : ∀ b, bw b → s b = none := fun b ⟨t, _, hb⟩ => (hr'.mine t b hb).1
  have hssc : s.le sc := fun b o hb => by
    show (if bw b then w.heap[b]? else s b) = some o
    rw [if_neg (fun h => by rw [hbs b h] at hb; cases hb)]
    exact hb
  have hfzc : Fz sc w := fun b o hb => by
    have hb' : (if bw b then w.heap[b]? else s b) = some o := hb
    split at hb'
    · exact hb'
    · exact hr'.fz b o hb'
  have hargs : ∀ i x, xs[i]? = some x → (xs.map a.eval).toArray.getD i undef = a.eval x := fun i x hx => by
    simp [Array.getD_eq_getD_getElem?, hx]
  have hin : ∀ i, (ins.getD i .any).holds sc w g0 ((xs.map a.eval).toArray.getD i undef) (Fc i) := by
    intro i
    cases hx : xs[i]? with
    | none =>
      have hi' : xs.length ≤ i := by
        rcases Nat.lt_or_ge i xs.length with h | h
        · rw [List.getElem?_eq_getElem h] at hx; cases hx
        · exact h
      rw [List.getD_eq_getElem?_getD, List.getElem?_eq_none (by omega)]
      rintro b ⟨t, ht, _⟩
      rw [List.getElem?_eq_none (by omega)] at ht; cases ht
    | some x =>
      obtain ⟨m, hmi, hok⟩ := hget i x hx
      rw [hargs i x hx]
      cases m with
      | flat =>
        obtain ⟨h1, h2, h3, _⟩ := hok
        refine holds_F (As.holds_free (As.holds_mono hssc (h1 s F hr')) h3) (fun b => ⟨fun h => h.elim, ?_⟩)
        rintro ⟨t, ht, _⟩
        rw [hmi] at ht; cases ht
      | root t =>
        obtain ⟨h1, h2, h3, _⟩ := hok
        have h4 := hr'.slot t
        rw [h2] at h4
        rw [h1.2 s F a w hr']
        refine holds_F (As.holds_free (As.holds_mono hssc h4) (by cases hA : ins.getD i .any <;> rw [hA] at h3 <;> first | rfl | cases h3)) (fun b => ⟨fun h => ⟨t, hmi, h⟩, ?_⟩)
        rintro ⟨t', ht', hb⟩
        rw [hmi] at ht'
        injection ht' with ht'
        injection ht' with ht'
        rw [ht']; exact hb
      | bor t =>
        have hFc : ∀ b, ¬ Fc i b := by
          rintro b ⟨t', ht', _⟩
          rw [hmi] at ht'; cases ht'
        have htm : t ∈ borsOf ms := mem_bors.2 ⟨i, hmi⟩
        have hlook : ∀ g, F t g → sc g = w.heap[g]? := fun g hg => by
          show (if bw g then w.heap[g]? else s g) = _
          rw [if_pos ⟨t, htm, hg⟩]
        rcases hok with hok | ⟨⟨α', β', k1, k2, i1, o1, f1, g1, y, hp, hh, hA⟩, _⟩
        rotate_left
        · obtain ⟨⟨e, _, hs⟩, _⟩ := hp s F a w hr'
          obtain ⟨b, E, cur, L, e1, e2, e3, e4⟩ := Has.get hh hr'
          have hFb : F t b := Has.own hh hr' (by rw [e1 0]; simp [Addr.add])
          rw [hA, e, e1]
          refine ⟨⟨_, _, rfl, k2.mono hssc (hs.rd e4), fun j u hu => ?_⟩, hFc⟩
          rw [add_add, Addr.add_lit, Nat.zero_add]
          unfold Hp.look
          simp only [hlook b hFb, e2]
          rw [List.getElem?_take] at hu
          split at hu
          · rw [List.getElem?_drop, List.getElem?_take] at hu
            split at hu
            · rw [List.getElem?_drop] at hu
              have := e3 _ _ hu
              rw [show i1 * k1.sz + o1 + j = i1 * k1.sz + (o1 + j) by omega]
              simpa using this
            · cases hu
          · cases hu
        obtain ⟨h1, h2, _⟩ := hok
        have h4 := hr'.slot t
        rw [h1.2 s F a w hr']
        generalize ins.getD i .any = A at h2 ⊢
        generalize env t = B at h2 h4
        cases h2 with
        | deep hd => exact holds_F (hd h4 hssc hlook) (fun b => ⟨fun h => h.elim, fun h => hFc b h⟩)
        | own E k zs =>
          obtain ⟨⟨cells, how, hrd⟩, hz0, hF⟩ := h4
          refine ⟨?_, hFc⟩
          rcases how.2 with ⟨hv, hn⟩ | ⟨g, cap, cur, hv, _, hg, hnc, hcm, hcs, htake⟩
          · exact ⟨none, 0, by rw [hv, hn], by omega, by omega, fun h => by omega⟩
          · have hFg : F t g := (hF g).2 (by rw [hv]; rfl)
            refine ⟨some ⟨g, 0, none⟩, cap, by rw [hv], hnc, by simp only [maxLen] at hcm; omega, fun h => ⟨⟨g, 0, none⟩, cells, rfl, hrd.mono hssc, fun j u hu => ?_⟩⟩
            rw [Addr.add_lit, Nat.zero_add]
            unfold Hp.look
            simp only [hlook g hFg, hg]
            rw [← htake, List.getElem?_take] at hu
            split at hu
            · simpa using hu
            · cases hu
        | box E k z =>
          obtain ⟨g, cs, hv, hg, hrd, hF⟩ := h4
          have hFg : F t g := (hF g).2 rfl
          refine ⟨⟨⟨g, 0, none⟩, cs.toList, by rw [hv], k.mono hssc hrd, fun j u hu => ?_⟩, hFc⟩
          rw [Addr.add_lit, Nat.zero_add]
          unfold Hp.look
          simp only [hlook g hFg, hg]
          simpa using hu
  have hnobw : ∀ t b, t ∈ rootsOf ms → F t b → ¬ bw b := by
    rintro t b ht hb ⟨t', ht', hb'⟩
    have := hr'.disj t t' b hb hb'
    subst this
    exact hsep t ht ht'
  have key := hc w sc (xs.map a.eval).toArray Fc hfzc (C.gl.le (Hp.le_trans hr'.ext hssc)) (by simp [hl1]) hin
    (by
      rintro i j b ⟨t, ht, hb⟩ ⟨t', ht', hb'⟩
      have := hr'.disj t t' b hb hb'
      subst this
      exact roots_inj hnd ht ht')
    (by
      rintro i b ⟨t, ht, hb⟩
      show (if bw b then w.heap[b]? else s b) = none
      rw [if_neg (hnobw t b (mem_roots.2 ⟨i, ht⟩) hb)]
      exact (hr'.mine t b hb).1)
  refine Calls.mono key ?_
  rintro e w' ⟨v, s', F', Fr, rfl, h1, h2, h3, h4, h5, h6, h7, h8, h9, h10, h11, h12⟩
  refine ⟨v, rfl, ?_⟩
  -- behind the call
  let sn : Hp := fun b => if bw b then none else s' b
  have hsn1 : s.le sn := fun b o hb => by
    show (if bw b then none else s' b) = some o
    rw [if_neg (fun h => by rw [hbs b h] at hb; cases hb)]
    exact h1 b o (hssc b o hb)
  have hsn2 : ∀ b o, sn b = some o → s' b = some o ∧ ¬ bw b := fun b o hb => by
    have hb' : (if bw b then none else s' b) = some o := hb
    split at hb'
    · cases hb'
    · exact ⟨hb', by assumption⟩
  have hnone : ∀ b, s' b = none → sn b = none := fun b hb => by
    show (if bw b then none else s' b) = none
    split
    · rfl
    · exact hb
  have hFcF : ∀ i b, Fc i b → ∃ t, t ∈ rootsOf ms ∧ F t b := by
    rintro i b ⟨t, ht, hb⟩
    exact ⟨t, mem_roots.2 ⟨i, ht⟩, hb⟩
  have hokb : ∀ b, (w.heap.size ≤ b ∨ ∃ i, Fc i b) → (C.w0.heap.size ≤ b ∨ C.hd b) := by
    rintro b (hb | ⟨i, hb⟩)
    · exact .inl (Nat.le_trans hr'.keep.size hb)
    · obtain ⟨t, _, hb'⟩ := hFcF i b hb
      exact (hr'.mine t b hb').2
  have down : ∀ (A : As), (borsOf ms = [] ∨ A.indep) → ∀ v F, A.holds s' w' g0 v F → A.holds sn w' g0 v F := by
    rintro A (hA | hA) v F hh
    · have : sn = s' := funext fun b => by
        show (if bw b then none else s' b) = s' b
        rw [if_neg]
        rintro ⟨t, ht, _⟩
        rw [hA] at ht; cases ht
      rw [this]; exact hh
    · exact hA s' sn w' v F hh
  let F1 : Nat → FS := fun u b => (∃ i, ms[i]? = some (.root u) ∧ F' i b) ∨ ((∀ i : Nat, ms[i]? ≠ some (Mode.root u)) ∧ F u b)
  have hother : ∀ u b, (∀ i : Nat, ms[i]? ≠ some (Mode.root u)) → F u b → b < w.heap.size ∧ ¬ ∃ i, Fc i b := by
    intro u b hu hb
    refine ⟨As.holds_lt (hr'.slot u) b hb, ?_⟩
    rintro ⟨i, t, ht, hb'⟩
    have := hr'.disj u t b hb hb'
    subst this
    exact hu i ht
  have hrel1 : Rel C.N C.w0 C.hd C.pn C.s0 (updRoots env ms outs) sn F1 a w' := by
    refine ⟨hr'.dfr, hr'.size, fun u => ?_, fun u u' b hb hb' => ?_, fun u b hb => ?_, fun b o hb => h3 b o (hsn2 b o hb).1, ?_, hr'.pin, Hp.le_trans hr'.ext hsn1, fun b o hb hb0 => ?_⟩
    · by_cases hu : ∃ i : Nat, ms[i]? = some (Mode.root u)
      · obtain ⟨i, hmi⟩ := hu
        rw [updRoots_at hnd (by rw [hl2, hl3]) hmi]
        have hil : i < xs.length := by
          rcases Nat.lt_or_ge i xs.length with h | h
          · exact h
          · rw [List.getElem?_eq_none (by omega)] at hmi; cases hmi
        obtain ⟨m, hm1, hok⟩ := hget i xs[i] (List.getElem?_eq_getElem hil)
        rw [hmi] at hm1
        injection hm1 with hm1
        subst hm1
        obtain ⟨k1, k2, k3, k4⟩ := hok
        have h13 := h7 i
        rw [hargs i xs[i] (List.getElem?_eq_getElem hil), k1.2 s F a w hr'] at h13
        have h14 : (outs.getD i .any).holds sn w' g0 (gv a.tmps u) (F' i) := by
          refine down _ ?_ _ _ h13
          rcases hi with hi | ⟨_, hi⟩
          · exact .inl hi
          · refine .inr ?_
            rw [List.getD_eq_getElem?_getD, List.getElem?_eq_getElem (by omega)]
            exact hi _ (List.getElem_mem _)
        refine holds_F (As.holds_free h14 k4) (fun b => ⟨fun h => .inl ⟨i, hmi, h⟩, ?_⟩)
        rintro (⟨j, hj, hb⟩ | ⟨hno, _⟩)
        · have := roots_inj hnd hmi hj; subst this; exact hb
        · exact (hno i hmi).elim
      · have hu' : ∀ i : Nat, ms[i]? ≠ some (Mode.root u) := fun i hi => hu ⟨i, hi⟩
        rw [updRoots_not hu']
        refine holds_F (As.holds_frame (As.holds_mono hsn1 (hr'.slot u)) (fun b hb => ?_)) (fun b => ⟨fun h => .inr ⟨hu', h⟩, ?_⟩)
        · have := hother u b hu' hb
          exact h4.block b this.1 this.2
        · rintro (⟨j, hj, hb⟩ | ⟨_, hb⟩)
          · exact (hu' j hj).elim
          · exact hb
    · rcases hb with ⟨i, hi1, hb1⟩ | ⟨hn1, hb1⟩
      · rcases hb' with ⟨j, hj1, hb2⟩ | ⟨hn2, hb2⟩
        · have := h9 i j b hb1 hb2
          subst this
          rw [hi1] at hj1; injection hj1 with hj1; injection hj1
        · have := hother u' b hn2 hb2
          rcases (h12 i b hb1).2 with h | h
          · omega
          · exact (this.2 h).elim
      · rcases hb' with ⟨j, hj1, hb2⟩ | ⟨hn2, hb2⟩
        · have := hother u b hn1 hb1
          rcases (h12 j b hb2).2 with h | h
          · omega
          · exact (this.2 h).elim
        · exact hr'.disj u u' b hb1 hb2
    · rcases hb with ⟨i, hi1, hb1⟩ | ⟨hn1, hb1⟩
      · exact ⟨hnone b (h12 i b hb1).1, hokb b (h12 i b hb1).2⟩
      · refine ⟨?_, (hr'.mine u b hb1).2⟩
        cases hs' : sn b with
        | none => rfl
        | some o =>
          exfalso
          obtain ⟨e1, e2⟩ := hsn2 b o hs'
          have h13 := hother u b hn1 hb1
          cases hsc : sc b with
          | none =>
            rcases h2 b o e1 hsc with h | h
            · omega
            · exact h13.2 h
          | some o' =>
            have hb' : (if bw b then w.heap[b]? else s b) = some o' := hsc
            rw [if_neg e2, (hr'.mine u b hb1).1] at hb'
            cases hb'
    · refine ⟨h4.os.trans hr'.keep.os, h4.tape.trans hr'.keep.tape, h4.output.trans hr'.keep.output, Nat.le_trans hr'.keep.size h4.size, fun b hb hn => ?_, fun hon => Nat.le_trans (hr'.keep.drn hon) (h4.drn hon)⟩
      rw [h4.block b (Nat.lt_of_lt_of_le hb hr'.keep.size) ?_]
      · exact hr'.keep.block b hb hn
      · rintro ⟨i, hb'⟩
        rcases hokb b (.inr ⟨i, hb'⟩) with h | h
        · omega
        · exact hn h
    · obtain ⟨e1, e2⟩ := hsn2 b o hb
      cases hsc : sc b with
      | none => exact hokb b (h2 b o e1 hsc)
      | some o' =>
        have hb' : (if bw b then w.heap[b]? else s b) = some o' := hsc
        rw [if_neg e2] at hb'
        exact hr'.new b o' hb' hb0
  refine hrel1.putR hdN.1 (Nat.lt_of_lt_of_le hdN.1 C.hN) hdN.2 h5 (fun j => ?_) hof (fun u b j hb hb' => ?_) h8 (fun j b hb => ⟨hnone b (h11 j b hb).1, hokb b (h11 j b hb).2⟩)
  · refine down _ ?_ _ _ (h6 j)
    rcases hi with hi | ⟨hi, _⟩
    · exact .inl hi
    · refine .inr ?_
      rw [List.getD_eq_getElem?_getD]
      cases hj : out[j]? with
      | none => exact fun s s' w v F h => h
      | some A => exact hi A (List.mem_of_getElem? hj)
  · rcases hb with ⟨i, hi1, hb1⟩ | ⟨hn1, hb1⟩
    · exact h10 j i b hb' hb1
    · have h13 := hother u b hn1 hb1
      rcases (h11 j b hb').2 with h | h
      · omega
      · exact h13.2 h

/-- THE RULE FOR A CALL. -/
theorem OpT.call {f : FuncId} {ins out outs : List As} {xs : List Operand} {ms : List Mode} {ts : Array TypeId} (hH : Hd C o (.call { callee := .value (.func f), args := xs.toArray, argTypes := ts }) d)
    (hf : C.P.funcs[f]? = some fn) (hb : fn.body.isNone = false) (hn : (fn.name == "runtime.NumGoroutine") = false)
    (hc : ACall C.P f ins out outs) (ha : Args C env xs ins outs ms) (hm : msOK ms = true) (hi : borsOf ms = [] ∨ (∀ A ∈ out, A.indep) ∧ ∀ A ∈ outs, A.indep) (hof : out.all As.free = true) :
    OpT C o env (updRes (updRoots env ms outs) d out) := by
  intro Q K a w hr hK
  have hrun : (execOp a.eval o).run C.P w = .ok (.enter f (xs.map a.eval).toArray) w := by
    have h1 := run_callFunc hf hb hn (xs.map a.eval).toArray w
    simp only [execOp, hH.1, resolve, Deferred.ofValue, Act.eval, invoke]
    simp [h1]
  unfold Oper.wp
  rw [hrun, Oper.upon_enter, hH.2.1]
  refine Calls.mono (R_call hc ha.at hm hi hof hH.2.2 hr) ?_
  rintro e w' ⟨v, rfl, hR⟩
  exact hK _ _ hR
end
end Go.Proofs.YtkgboidjghcegaaGreatDoor.VL
/- Proved here: rules for regions whose order is open, for tuples' parts, and for cuts of what is shared. With the words of VA. General: over every program. -/
set_option linter.unusedVariables false
set_option linter.unusedSimpArgs false
namespace Go.Proofs.YtkgboidjghcegaaGreatDoor.VL
open Go

section
variable {C : Cx} {env env' env0 : Env} {Q : Exit → Act → World → Prop} {o : Oper} {fn : Func} {p q r : Operand} {c : Code} {ops : Array Oper} {l : List Oper} {d t : Nat} {T T' S E : TypeId} {α β γ : Type} {k : Kd α} {k' : Kd β}

theorem updK_self (env : Env) (d : Nat) (A : As) : updK env d A d = A := if_pos rfl
theorem updK_ne (env : Env) {d u : Nat} (A : As) (h : u ≠ d) : updK env d A u = env u := if_neg h
/-! ### A tuple's part -/
theorem holds_ne_undef {s : Hp} {w : World} {g : Nat → Value} {F : FS} {A : As} (h : A.holds s w g undef F) : A = .any ∨ A = .val undef ∨ (∃ t, A = .ali t) ∨ (∃ (α β : Type) (t i : Nat) (k : Kd α) (o : Nat) (k' : Kd β) (f : α → β) (h : α → β → α), A = .pel t i k o k' f h) ∨ (∃ t lo hi z, A = .vw t lo hi z) ∨ (∃ O, A = .deep O ∧ O.sur = false) := by
  cases A with
  | any => exact .inl rfl
  | val u => exact .inr (.inl (by rw [h.1]))
  | cel k x => have := k.one h.1 undef (by simp); simp [undef, Value.oneCell'] at this
  | agg k x => obtain ⟨⟨cs, e, _⟩, _⟩ := h; simp [undef] at e
  | own E k xs =>
    obtain ⟨⟨cells, how, _⟩, _⟩ := h
    rcases how.2 with ⟨e, _⟩ | ⟨g, cap, cur, e, _⟩ <;> simp [undef] at e
  | box E k x => obtain ⟨b, cs, e, _⟩ := h; simp [undef] at e
  | ali t => exact .inr (.inr (.inl ⟨t, rfl⟩))
  | pel t i k o k' f h' => exact .inr (.inr (.inr (.inl ⟨_, _, t, i, k, o, k', f, h', rfl⟩)))
  | vw t lo hi z => exact .inr (.inr (.inr (.inr (.inl ⟨t, lo, hi, z, rfl⟩))))
  | deep O =>
    cases hs : O.sur with
    | true => exact (O.sure hs h).elim
    | false => exact .inr (.inr (.inr (.inr (.inr ⟨O, rfl, hs⟩))))
  | clo f k x => obtain ⟨⟨cs, e, _⟩, _⟩ := h; simp [undef] at e
  | cap f ts => obtain ⟨⟨e, _⟩, _⟩ := h; simp [undef] at e
def As.solid : As → Bool
  | .cel .. | .agg .. | .own .. | .box .. | .clo .. => true
  | .deep O => O.sur
  | _ => false
theorem solid_free {A : As} (h : A.solid = true) : A.free = true := by cases A <;> first | rfl | cases h
theorem run_extract {j : Nat} {A : As} (ht : t < 10000) (hA : env (t + 10000 * (j + 1)) = A) (hs : A.solid = true) {s F a w} (hr : Rel C.N C.w0 C.hd C.pn C.s0 env s F a w) :
    (Instr.extract (a.eval (.tmp t)) j).run C.P w = .ok (gv a.tmps (t + 10000 * (j + 1))) w := by
  have h1 := hr.slot (t + 10000 * (j + 1))
  rw [hA] at h1
  have hmod : (t + 10000 * (j + 1)) % 10000 = t := by omega
  have hdiv : (t + 10000 * (j + 1)) / 10000 - 1 = j := by omega
  have hgv : gv a.tmps (t + 10000 * (j + 1)) = match a.tmps.getD t undef with | .tuple vs => vs.getD j undef | _ => undef := by
    unfold gv
    rw [if_neg (by omega), hmod, hdiv]
    (try (cases a.tmps.getD t undef <;> rfl))
  have hnu : gv a.tmps (t + 10000 * (j + 1)) ≠ undef := by
    intro e
    rw [e] at h1
    rcases holds_ne_undef h1 with rfl | rfl | ⟨_, rfl⟩ | ⟨_, _, _, _, _, _, _, _, _, rfl⟩ | ⟨_, _, _, _, rfl⟩ | ⟨O, rfl, hO⟩ <;> first | (cases hs; done) | (have hs' : O.sur = true := hs; rw [hO] at hs'; cases hs')
  have he : a.eval (.tmp t) = a.tmps.getD t undef := rfl
  rw [he]
  rw [hgv] at hnu ⊢
  cases hv : a.tmps.getD t undef with
  | tuple vs =>
    rw [hv] at hnu
    simp only at hnu ⊢
    rw [Array.getD_eq_getD_getElem?] at hnu ⊢
    cases hj : vs[j]? with
    | none => rw [hj] at hnu; simp at hnu
    | some u => simp [Instr.extract, hj]
  | _ => rw [hv] at hnu; exact (hnu rfl).elim
theorem OpT.extract {j m : Nat} {A : As} (hH : Hd C o (.extract (.tmp t) j) d) (ht : t < 10000) (hm : m = t + 10000 * (j + 1)) (hA : env m = A) (hf : A.flat = true) (hs : A.solid = true) : OpT C o env (upd env d A) :=
  OpT.pure hH.2.1 hH.2.2 fun s F a w hr => by
    subst hm
    have h1 := hr.slot (t + 10000 * (j + 1))
    rw [hA] at h1
    refine ⟨_, by simp only [execOp, hH.1, Sem.run_bind]; rw [run_extract ht hA hs hr]; rfl, As.holds_free (As.flat_no h1 hf) (solid_free hs)⟩
/-! ### A region whose order is open -/
structure DI where
  d : Nat
  out : List As
  md : Bool
  nd : List Nat
/-- What such an operation writes: a slot (with its tuple's parts), or what a slot's memory holds. -/
def DI.upd (i : DI) (env : Env) : Env := if i.md then updK env i.d (i.out.getD 0 .any) else updRes env i.d i.out
def DI.at (i : DI) (t : Nat) : As := if i.md then (i.out.getD 0 .any) else if t = i.d then oneA i.out else partA i.out (t / 10000 - 1)
def DI.dep (i : DI) (d : Nat) : Bool := i.out.any fun A => A.dep d
/-- One operation of such a region: what it makes hangs on the slots 'nd' alone. -/
def DStep (C : Cx) (ops : Array Oper) (env : Env) (o : Oper) (i : DI) : Prop :=
  (∃ j want t, o.guard = some (j, want) ∧ (ops[j]?).bind (·.dst) = some t ∧ t ∈ i.nd ∧ (env t = .cel Kd.bool (!want) ∨ env t = .val undef) ∧ t < 10000 ∧ i.md = false ∧ (i.out = [.any] ∨ i.out = [.val undef]) ∧ o.dst = some i.d ∧ C.ok i.d) ∨
  ((o.guard = none ∨ (∃ j want t b, o.guard = some (j, want) ∧ (ops[j]?).bind (·.dst) = some t ∧ t ∈ i.nd ∧ env t = .cel Kd.bool b ∧ t < 10000 ∧ b = want)) ∧ ∀ env', (∀ t ∈ i.nd, env' t = env t) → OpT C o env' (i.upd env'))
inductive DC (C : Cx) (ops : Array Oper) : Env → List Oper → List DI → Env → Prop
  | nil (env : Env) : DC C ops env [] [] env
  | cons {env env' : Env} {o : Oper} {i : DI} {l : List Oper} {I : List DI} (h : DStep C ops env o i) (r : DC C ops (i.upd env) l I env') : DC C ops env (o :: l) (i :: I) env'

def ancOf (acc : List (List Nat)) (o : Oper) : List Nat :=
  o.after.toList.flatMap fun e => if Region.binds .any e then e.on :: acc.getD e.on [] else []
def ancs : List Oper → List (List Nat) → List (List Nat)
  | [], acc => acc
  | o :: l, acc => ancs l (acc ++ [ancOf acc o])
def idxOf (ds : List Nat) (t : Nat) : Option Nat := ds.findIdx? (· == t)
/-- In the text's order. -/
def envT (env0 : Env) (I : List DI) : Env := I.foldl (fun e i => i.upd e) env0
theorem DC.get {env env' : Env} {l : List Oper} {I : List DI} (h : DC C ops env l I env') : env' = envT env I ∧ l.length = I.length ∧ ∀ j o i, l[j]? = some o → I[j]? = some i → DStep C ops (envT env (I.take j)) o i := by
  induction h with
  | nil env => exact ⟨rfl, rfl, fun j o i h => by simp at h⟩
  | cons h r ih =>
    obtain ⟨h1, h2, h3⟩ := ih
    refine ⟨h1, by simp [h2], fun j o i ho hi => ?_⟩
    cases j with
    | zero => simp at ho hi; subst ho; subst hi; exact h
    | succ j => exact h3 j o i (by simpa using ho) (by simpa using hi)
theorem ancs_pre : ∀ (l : List Oper) (acc : List (List Nat)), ∃ r, ancs l acc = acc ++ r ∧ r.length = l.length
  | [], acc => ⟨[], by simp [ancs], rfl⟩
  | o :: l, acc => by
    obtain ⟨r, h1, h2⟩ := ancs_pre l (acc ++ [ancOf acc o])
    exact ⟨ancOf acc o :: r, by simp [ancs, h1], by simp [h2]⟩
theorem ancs_at : ∀ (l : List Oper) (acc : List (List Nat)) (j : Nat) (o : Oper), l[j]? = some o →
    (ancs l acc).getD (acc.length + j) [] = ancOf ((ancs l acc).take (acc.length + j)) o
  | [], acc, j, o, h => by simp at h
  | o' :: l, acc, 0, o, h => by
    simp at h
    subst h
    obtain ⟨r, h1, h2⟩ := ancs_pre l (acc ++ [ancOf acc o'])
    simp only [ancs, h1, Nat.add_zero]
    rw [List.append_assoc, List.take_left]
    simp
  | o' :: l, acc, j + 1, o, h => by
    have h1 := ancs_at l (acc ++ [ancOf acc o']) j o (by simpa using h)
    simp only [List.length_append, List.length_singleton] at h1
    simp only [ancs]
    rw [show acc.length + (j + 1) = acc.length + 1 + j by omega]
    exact h1
theorem mem_ancOf {acc : List (List Nat)} {x : Nat} : x ∈ ancOf acc o ↔ ∃ e ∈ o.after, Region.binds .any e = true ∧ (x = e.on ∨ x ∈ acc.getD e.on []) := by
  unfold ancOf
  rw [List.mem_flatMap]
  constructor
  · rintro ⟨e, he, hx⟩
    split at hx
    · exact ⟨e, by simpa using he, by assumption, by simpa using hx⟩
    · cases hx
  · rintro ⟨e, he, hb, hx⟩
    refine ⟨e, by simpa using he, ?_⟩
    rw [if_pos hb]
    simpa using hx

/-- What the look gives. -/
structure DGood (l : List Oper) (I : List DI) : Prop where
  len : l.length = I.length
  nd : (I.map (·.d)).Nodup
  lt : ∀ i ∈ I, i.d < 10000
  edge : ∀ j o, l[j]? = some o → ∀ e ∈ o.after, Region.binds .any e = true → e.on < j
  need : ∀ j o i, l[j]? = some o → I[j]? = some i → ∀ t ∈ i.nd, ∀ x, idxOf (I.map (·.d)) (t % 10000) = some x → (x ∈ (ancs l []).getD j [] ∨ (x < l.length ∧ j ∈ (ancs l []).getD x [])) ∨ x = j
  deps : ∀ j o i, l[j]? = some o → I[j]? = some i → ∀ x i', I[x]? = some i' → i'.md = false → i.dep i'.d = true → x ∈ (ancs l []).getD j []
theorem keep_none : ∀ (e0 : List (Nat × As)) (t : Nat), (∀ p ∈ e0, p.1 ≠ t) → keep e0 t = .any
  | [], t, _ => rfl
  | (d, A) :: r, t, h => by
    unfold keep
    rw [if_neg (fun e => h (d, A) (by simp) e.symm)]
    exact keep_none r t (fun p hp => h p (by simp [hp]))
theorem keep_mem : ∀ (e0 : List (Nat × As)) (t : Nat), keep e0 t = .any ∨ ∃ p ∈ e0, keep e0 t = p.2
  | [], t => .inl rfl
  | (d, A) :: r, t => by
    unfold keep
    by_cases h : t = d
    · rw [if_pos h]; exact .inr ⟨(d, A), by simp, rfl⟩
    · rw [if_neg h]
      rcases keep_mem r t with h1 | ⟨p, hp, h1⟩
      · exact .inl h1
      · exact .inr ⟨p, by simp [hp], h1⟩
end
end Go.Proofs.YtkgboidjghcegaaGreatDoor.VL
