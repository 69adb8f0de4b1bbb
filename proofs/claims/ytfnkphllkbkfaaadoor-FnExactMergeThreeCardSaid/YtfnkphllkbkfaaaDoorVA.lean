/- Proved here: words for walking a call: what memory reads as, which cells a call owns, and that a step keeps both. General: over every program. -/
import Derived.Calls
import Derived.Tactics
import Derived.Maps.AppendAt
import Derived.Deep.LoopGhost
import Derived.KernelRfl
import Derived.Below
set_option linter.unusedVariables false
set_option linter.unusedSimpArgs false
namespace Go.Proofs.YtfnkphllkbkfaaaDoor.VL
open Go

/-- A part of memory that stays as it is. -/
abbrev Hp := Nat → Option Obj
def Hp.le (s t : Hp) : Prop := ∀ b o, s b = some o → t b = some o
theorem Hp.le_refl (s : Hp) : s.le s := fun _ _ h => h
theorem Hp.le_trans {s t u : Hp} (h : s.le t) (k : t.le u) : s.le u := fun b o hb => k b o (h b o hb)
def Hp.look (s : Hp) (a : Addr) : Option Value :=
  match s a.block with
  | some (.cells c _ _) => if a.spot.isSome then none else c[a.off]?
  | _ => none
theorem Hp.look_mono {s t : Hp} (h : s.le t) {a : Addr} {v : Value} (hv : s.look a = some v) : t.look a = some v := by
  unfold Hp.look at *
  split at hv
  · rename_i c e f hs
    rw [h _ _ hs]
    exact hv
  · cases hv
/-- The world has this part of memory. -/
def Fz (s : Hp) (w : World) : Prop := ∀ b o, s b = some o → w.heap[b]? = some o
theorem Fz.cell {s : Hp} {w : World} (h : Fz s w) {a : Addr} {v : Value} (hv : s.look a = some v) : w.cell? a = some v := by
  unfold Hp.look at hv
  unfold World.cell?
  split at hv
  · rename_i c e f hs
    rw [h _ _ hs]
    exact hv
  · cases hv
theorem Fz.lt {s : Hp} {w : World} (h : Fz s w) {b : Nat} {o : Obj} (hb : s b = some o) : b < w.heap.size := by
  have := h b o hb
  exact (Array.getElem?_eq_some_iff.1 this).1

/-- A kind of data: how many cells it takes, and what its cells say. -/
structure Kd (α : Type) where
  sz : Nat
  rd : Hp → List Value → α → Prop
  len : ∀ {s cs x}, rd s cs x → cs.length = sz
  mono : ∀ {s t cs x}, s.le t → rd s cs x → rd t cs x
  one : ∀ {s cs x}, rd s cs x → ∀ c ∈ cs, c.oneCell' = true

def RdL {α : Type} (k : Kd α) (s : Hp) : List Value → List α → Prop
  | cs, [] => cs = []
  | cs, x :: xs => ∃ c d, cs = c ++ d ∧ k.rd s c x ∧ RdL k s d xs

section
variable {α : Type} {k : Kd α} {s t : Hp}
theorem RdL.len {xs : List α} : ∀ {cs}, RdL k s cs xs → cs.length = xs.length * k.sz := by
  induction xs with
  | nil => intro cs h; simp only [RdL] at h; subst h; simp
  | cons x xs ih =>
    intro cs h
    obtain ⟨c, d, rfl, hc, hd⟩ := h
    rw [List.length_append, k.len hc, ih hd, List.length_cons, Nat.succ_mul]
    omega
theorem RdL.mono {xs : List α} (hst : s.le t) : ∀ {cs}, RdL k s cs xs → RdL k t cs xs := by
  induction xs with
  | nil => intro cs h; exact h
  | cons x xs ih =>
    intro cs h
    obtain ⟨c, d, rfl, hc, hd⟩ := h
    exact ⟨c, d, rfl, k.mono hst hc, ih hd⟩
theorem RdL.one {xs : List α} : ∀ {cs}, RdL k s cs xs → ∀ c ∈ cs, c.oneCell' = true := by
  induction xs with
  | nil => intro cs h; simp only [RdL] at h; subst h; intro c hc; cases hc
  | cons x xs ih =>
    intro cs h
    obtain ⟨c, d, rfl, hc, hd⟩ := h
    intro u hu
    rcases List.mem_append.1 hu with h | h
    · exact k.one hc u h
    · exact ih hd u h
theorem RdL.app {xs ys : List α} : ∀ {cs ds}, RdL k s cs xs → RdL k s ds ys → RdL k s (cs ++ ds) (xs ++ ys) := by
  induction xs with
  | nil => intro cs ds h h'; simp only [RdL] at h; subst h; exact h'
  | cons x xs ih =>
    intro cs ds h h'
    obtain ⟨c, d, rfl, hc, hd⟩ := h
    exact ⟨c, d ++ ds, by simp, hc, ih hd h'⟩
theorem RdL.single {c : List Value} {x : α} (h : k.rd s c x) : RdL k s c [x] := ⟨c, [], by simp, h, rfl⟩
theorem RdL.nil : RdL k s [] ([] : List α) := rfl
theorem RdL.split {xs ys : List α} : ∀ {cs}, RdL k s cs (xs ++ ys) → ∃ c d, cs = c ++ d ∧ RdL k s c xs ∧ RdL k s d ys := by
  induction xs with
  | nil => intro cs h; exact ⟨[], cs, rfl, rfl, h⟩
  | cons x xs ih =>
    intro cs h
    obtain ⟨c, d, rfl, hc, hd⟩ := h
    obtain ⟨c', d', rfl, h1, h2⟩ := ih hd
    exact ⟨c ++ c', d', by simp, ⟨c, c', rfl, hc, h1⟩, h2⟩
theorem RdL.take {xs : List α} {cs} (n : Nat) (h : RdL k s cs xs) : RdL k s (cs.take (n * k.sz)) (xs.take n) := by
  rcases Nat.lt_or_ge xs.length n with hn | hn
  · rw [List.take_of_length_le (l := xs) (by omega), List.take_of_length_le]
    · exact h
    · rw [h.len]; exact Nat.mul_le_mul_right _ (by omega)
  · have h' : RdL k s cs (xs.take n ++ xs.drop n) := by rw [List.take_append_drop]; exact h
    obtain ⟨c, d, rfl, hc, hd⟩ := h'.split
    have hl : c.length = n * k.sz := by rw [hc.len, List.length_take]; congr 1; omega
    rw [← hl, List.take_left]
    exact hc
theorem RdL.drop {xs : List α} {cs} (n : Nat) (h : RdL k s cs xs) : RdL k s (cs.drop (n * k.sz)) (xs.drop n) := by
  rcases Nat.lt_or_ge xs.length n with hn | hn
  · rw [List.drop_of_length_le (l := xs) (by omega), List.drop_of_length_le]
    · rfl
    · rw [h.len]; exact Nat.mul_le_mul_right _ (by omega)
  · have h' : RdL k s cs (xs.take n ++ xs.drop n) := by rw [List.take_append_drop]; exact h
    obtain ⟨c, d, rfl, hc, hd⟩ := h'.split
    have hl : c.length = n * k.sz := by rw [hc.len, List.length_take]; congr 1; omega
    rw [← hl, List.drop_left]
    exact hd
theorem RdL.get {xs : List α} {cs} (h : RdL k s cs xs) (i : Nat) (hi : i < xs.length) : k.rd s ((cs.drop (i * k.sz)).take k.sz) xs[i] := by
  have h1 := h.drop i
  rw [List.drop_eq_getElem_cons hi] at h1
  obtain ⟨c, d, he, hc, hd⟩ := h1
  rw [he, ← k.len hc, List.take_left]
  exact hc
theorem RdL.set {xs : List α} {cs} (h : RdL k s cs xs) (i : Nat) (hi : i < xs.length) {c : List Value} {y : α} (hc : k.rd s c y) :
    RdL k s (cs.take (i * k.sz) ++ (c ++ cs.drop ((i + 1) * k.sz))) (xs.set i y) := by
  rw [List.set_eq_take_append_cons_drop, if_pos hi]
  refine (h.take i).app ?_
  exact ⟨c, _, rfl, hc, h.drop (i + 1)⟩
end

/-! ### Kinds -/
def inR (k : IntKind) (n : Int) : Prop := k.min ≤ n ∧ n ≤ k.max
def Kd.int (k : IntKind) : Kd Int where
  sz := 1
  rd _ cs n := cs = [.int k n] ∧ inR k n
  len h := by rw [h.1]; rfl
  mono _ h := h
  one h := by rw [h.1]; intro c hc; simp at hc; subst hc; rfl
def Kd.u64 : Kd (BitVec 64) where
  sz := 1
  rd _ cs n := cs = [.int .u64 (n.toNat : Int)]
  len h := by rw [h]; rfl
  mono _ h := h
  one h := by rw [h]; intro c hc; simp at hc; subst hc; rfl
def Kd.bool : Kd Bool where
  sz := 1
  rd _ cs n := cs = [.bool n]
  len h := by rw [h]; rfl
  mono _ h := h
  one h := by rw [h]; intro c hc; simp at hc; subst hc; rfl
def Kd.str : Kd ByteArray where
  sz := 1
  rd _ cs n := cs = [.string n] ∧ n.size ≤ 9223372036854775807
  len h := by rw [h.1]; rfl
  mono _ h := h
  one h := by rw [h.1]; intro c hc; simp at hc; subst hc; rfl
def Kd.pair {α β : Type} (a : Kd α) (b : Kd β) : Kd (α × β) where
  sz := a.sz + b.sz
  rd s cs x := ∃ c d, cs = c ++ d ∧ a.rd s c x.1 ∧ b.rd s d x.2
  len h := by obtain ⟨c, d, rfl, h1, h2⟩ := h; rw [List.length_append, a.len h1, b.len h2]
  mono hst h := by obtain ⟨c, d, rfl, h1, h2⟩ := h; exact ⟨c, d, rfl, a.mono hst h1, b.mono hst h2⟩
  one h := by
    obtain ⟨c, d, rfl, h1, h2⟩ := h
    intro u hu
    rcases List.mem_append.1 hu with h | h
    · exact a.one h1 u h
    · exact b.one h2 u h
def Kd.ptr {α : Type} (k : Kd α) : Kd α where
  sz := 1
  rd s cs x := ∃ ad c, cs = [.pointer (some ad)] ∧ k.rd s c x ∧ ∀ j u, c[j]? = some u → s.look (ad.add j) = some u
  len h := by obtain ⟨ad, c, rfl, _⟩ := h; rfl
  mono hst h := by obtain ⟨ad, c, rfl, h1, h2⟩ := h; exact ⟨ad, c, rfl, k.mono hst h1, fun j u hu => Hp.look_mono hst (h2 j u hu)⟩
  one h := by obtain ⟨ad, c, rfl, _⟩ := h; intro c hc; simp at hc; subst hc; rfl
def Kd.slice {α : Type} (k : Kd α) : Kd (List α) where
  sz := 1
  rd s cs xs := ∃ A c, cs = [.slice A xs.length c] ∧ xs.length ≤ c ∧ c ≤ 9223372036854775807 ∧
    (0 < xs.length → ∃ ad cells, A = some ad ∧ RdL k s cells xs ∧ ∀ j u, cells[j]? = some u → s.look (ad.add j) = some u)
  len h := by obtain ⟨A, c, rfl, _⟩ := h; rfl
  mono hst h := by
    obtain ⟨A, c, rfl, h1, h2, h3⟩ := h
    refine ⟨A, c, rfl, h1, h2, fun h0 => ?_⟩
    obtain ⟨ad, cells, e, h4, h5⟩ := h3 h0
    exact ⟨ad, cells, e, h4.mono hst, fun j u hu => Hp.look_mono hst (h5 j u hu)⟩
  one h := by obtain ⟨A, c, rfl, _⟩ := h; intro c hc; simp at hc; subst hc; rfl
/-- Nothing. -/
def Kd.unit : Kd Unit where
  sz := 0
  rd _ cs _ := cs = []
  len h := by rw [h]; rfl
  mono _ h := h
  one h := by rw [h]; intro c hc; cases hc

/-- A part of data: where its cells begin, how it is read, how it is changed. -/
structure Sub {α β : Type} (k : Kd α) (o : Nat) (k' : Kd β) (f : α → β) (g : α → β → α) : Prop where
  rd : ∀ {s cs x}, k.rd s cs x → k'.rd s ((cs.drop o).take k'.sz) (f x)
  wr : ∀ {s cs x c y}, k.rd s cs x → k'.rd s c y → k.rd s (cs.take o ++ (c ++ cs.drop (o + k'.sz))) (g x y)
theorem Sub.whole {α : Type} (k : Kd α) : Sub k 0 k (fun x => x) (fun _ y => y) where
  rd h := by rw [List.drop_zero, ← k.len h, List.take_length]; exact h
  wr h h' := by rw [List.take_zero, Nat.zero_add, List.nil_append, ← k.len h, List.drop_length, List.append_nil]; exact h'
theorem Sub.le {α β : Type} {k : Kd α} {o : Nat} {k' : Kd β} {f : α → β} {g : α → β → α} (h : Sub k o k' f g) {s : Hp} {cs : List Value} {x : α} (hx : k.rd s cs x) : o + k'.sz ≤ cs.length ∨ k'.sz = 0 := by
  have h1 := k'.len (h.rd hx)
  rw [List.length_take, List.length_drop] at h1
  omega
theorem Sub.comp {α β γ : Type} {k : Kd α} {o : Nat} {k' : Kd β} {f : α → β} {g : α → β → α} {o' : Nat} {k'' : Kd γ} {f' : β → γ} {g' : β → γ → β}
    (h : Sub k o k' f g) (h' : Sub k' o' k'' f' g') (hz : 0 < k''.sz) : Sub k (o + o') k'' (fun x => f' (f x)) (fun x z => g x (g' (f x) z)) where
  rd {s cs x} hx := by
    have h1 := h'.rd (h.rd hx)
    have h2 := (h'.le (h.rd hx)).resolve_right (by omega)
    rw [List.length_take, List.length_drop] at h2
    rw [List.drop_take, List.drop_drop, List.take_take, Nat.min_eq_left (by omega)] at h1
    exact h1
  wr {s cs x c z} hx hz' := by
    have h1 := h.wr hx (h'.wr (h.rd hx) hz')
    have h2 := (h'.le (h.rd hx)).resolve_right (by omega)
    rw [List.length_take, List.length_drop] at h2
    have hl : c.length = k''.sz := k''.len hz'
    have e : cs.take o ++ ((((cs.drop o).take k'.sz).take o' ++ (c ++ ((cs.drop o).take k'.sz).drop (o' + k''.sz))) ++ cs.drop (o + k'.sz))
        = cs.take (o + o') ++ (c ++ cs.drop (o + o' + k''.sz)) := by
      rw [List.take_take, Nat.min_eq_left (by omega), List.drop_take, List.drop_drop, List.take_add, List.append_assoc, List.append_assoc, List.append_assoc]
      congr 3
      have e2 : cs.drop (o + k'.sz) = (cs.drop (o + (o' + k''.sz))).drop (k'.sz - (o' + k''.sz)) := by rw [List.drop_drop]; congr 1; omega
      rw [e2, show o + o' + k''.sz = o + (o' + k''.sz) by omega]
      exact List.take_append_drop _ _
    rw [e] at h1
    exact h1

/-! ### What a slot holds -/
/-- Whatever else a slot may own. -/
structure OSh where
  hold : Hp → World → Value → (Nat → Prop) → Prop
  mono : ∀ {s t : Hp} {w : World} {v : Value} {F : Nat → Prop}, s.le t → hold s w v F → hold t w v F
  frame : ∀ {s : Hp} {w w' : World} {v : Value} {F : Nat → Prop}, hold s w v F → (∀ b, F b → w'.heap[b]? = w.heap[b]?) → hold s w' v F
  lt : ∀ {s : Hp} {w : World} {v : Value} {F : Nat → Prop}, hold s w v F → ∀ b, F b → b < w.heap.size
  sur : Bool
  sure : ∀ {s : Hp} {w : World} {F : Nat → Prop}, sur = true → ¬ hold s w undef F
inductive As : Type 1
  | any
  | val (v : Value)
  | cel {α : Type} (k : Kd α) (x : α)
  | agg {α : Type} (k : Kd α) (x : α)
  | own {α : Type} (E : TypeId) (k : Kd α) (xs : List α)
  | box {α : Type} (E : TypeId) (k : Kd α) (x : α)
  | ali (s : Nat)
  | pel {α β : Type} (s i : Nat) (k : Kd α) (o : Nat) (k' : Kd β) (f : α → β) (g : α → β → α)
  | clo {α : Type} (f : FuncId) (k : Kd α) (x : α)
  | cap (f : FuncId) (ts : List Nat)
  | vw (t lo hi z : Nat)
  | deep (O : OSh)

/-- A place's value: a temporary's, or that of a part of the tuple that a temporary holds. -/
def gv (tmps : Array Value) (t : Nat) : Value :=
  if t < 10000 then tmps.getD t undef else
    match tmps.getD (t % 10000) undef with
    | .tuple vs => vs.getD (t / 10000 - 1) undef
    | _ => undef
/-- A pointer into the memory that a slice or a pointer begins. -/
def ptrIn (v : Value) (o : Nat) : Value :=
  match v with
  | .slice (some a) _ _ => .pointer (some (a.add o))
  | .pointer (some a) => .pointer (some (a.add o))
  | _ => undef
/-- A part of a row. -/
def cutV (v : Value) (lo hi z : Nat) : Value :=
  match v with
  | .slice a _ c => .slice (if c = lo then a else a.map (·.add (lo * z))) (hi - lo) (c - lo)
  | _ => undef
abbrev FS := Nat → Prop
def FS.no : FS := fun _ => False

def As.holds (s : Hp) (w : World) (g : Nat → Value) (v : Value) (F : FS) : As → Prop
  | .any => ∀ b, ¬ F b
  | .val u => v = u ∧ ∀ b, ¬ F b
  | .cel k x => k.rd s [v] x ∧ ∀ b, ¬ F b
  | .agg k x => (∃ cs, v = .agg cs ∧ k.rd s cs.toList x) ∧ ∀ b, ¬ F b
  | .own E k xs => (∃ cells, w.ownsRow 0 E k.sz v xs.length cells ∧ RdL k s cells xs) ∧ 0 < k.sz ∧ ∀ b, F b ↔ v.ownBlock = some b
  | .box E k x => ∃ b cs, v = .pointer (some ⟨b, 0, none⟩) ∧ w.heap[b]? = some (.cells cs E (0, 0)) ∧ k.rd s cs.toList x ∧ ∀ b', F b' ↔ b' = b
  | .ali t => (v = g t ∧ t < 10000) ∧ ∀ b, ¬ F b
  | .pel t i k o k' f h => (v = ptrIn (g t) (i * k.sz + o) ∧ t < 10000 ∧ Sub k o k' f h) ∧ ∀ b, ¬ F b
  | .clo f k x => (∃ cs, v = .func (.func f) #[] cs ∧ k.rd s cs.toList x) ∧ ∀ b, ¬ F b
  | .cap f ts => (v = .func (.func f) #[] (ts.map g).toArray ∧ ∀ t ∈ ts, t < 10000) ∧ ∀ b, ¬ F b
  | .vw t lo hi z => (v = cutV (g t) lo hi z ∧ t < 10000) ∧ ∀ b, ¬ F b
  | .deep O => O.hold s w v F

/-- Does it speak of another place? -/
def As.dep (d : Nat) : As → Bool
  | .ali t => t == d
  | .pel t _ _ _ _ _ _ => t == d
  | .cap _ ts => ts.contains d
  | .vw t _ _ _ => t == d
  | _ => false

theorem As.holds_mono {s t : Hp} (hst : s.le t) {w : World} {g : Nat → Value} {v : Value} {F : FS} {A : As} (h : A.holds s w g v F) : A.holds t w g v F := by
  cases A with
  | any => exact h
  | val u => exact h
  | cel k x => exact ⟨k.mono hst h.1, h.2⟩
  | agg k x => obtain ⟨⟨cs, e, h1⟩, h2⟩ := h; exact ⟨⟨cs, e, k.mono hst h1⟩, h2⟩
  | own E k xs => obtain ⟨⟨cells, h1, h2⟩, h3⟩ := h; exact ⟨⟨cells, h1, h2.mono hst⟩, h3⟩
  | box E k x => obtain ⟨b, cs, e, h1, h2, h3⟩ := h; exact ⟨b, cs, e, h1, k.mono hst h2, h3⟩
  | ali t => exact h
  | pel t i k o k' f h' => exact h
  | clo f k x => obtain ⟨⟨cs, e, h1⟩, h2⟩ := h; exact ⟨⟨cs, e, k.mono hst h1⟩, h2⟩
  | cap f ts => exact h
  | vw t lo hi z => exact h
  | deep O => exact O.mono hst h

theorem ownsRow_at {w w' : World} {E : TypeId} {size n : Nat} {v : Value} {cells : List Value} (h : w.ownsRow 0 E size v n cells)
    (hw : ∀ b, v.ownBlock = some b → w'.heap[b]? = w.heap[b]?) : w'.ownsRow 0 E size v n cells := by
  refine ⟨h.1, ?_⟩
  rcases h.2 with hn | ⟨g, cap, cur, rfl, hb, hg, rest⟩
  · exact .inl hn
  · exact .inr ⟨g, cap, cur, rfl, hb, by rw [hw g rfl]; exact hg, rest⟩

theorem As.holds_frame {s : Hp} {w w' : World} {g : Nat → Value} {v : Value} {F : FS} {A : As} (h : A.holds s w g v F)
    (hw : ∀ b, F b → w'.heap[b]? = w.heap[b]?) : A.holds s w' g v F := by
  cases A with
  | own E k xs =>
    obtain ⟨⟨cells, h1, h2⟩, h0, h3⟩ := h
    exact ⟨⟨cells, ownsRow_at h1 (fun b hb => hw b ((h3 b).2 hb)), h2⟩, h0, h3⟩
  | box E k x =>
    obtain ⟨b, cs, e, h1, h2, h3⟩ := h
    exact ⟨b, cs, e, by rw [hw b ((h3 b).2 rfl)]; exact h1, h2, h3⟩
  | deep O => exact O.frame h hw
  | _ => exact h

theorem As.holds_lt {s : Hp} {w : World} {g : Nat → Value} {v : Value} {F : FS} {A : As} (h : A.holds s w g v F) : ∀ b, F b → b < w.heap.size := by
  intro b hb
  cases A with
  | own E k xs =>
    obtain ⟨⟨cells, h1, h2⟩, h0, h3⟩ := h
    exact (h1.lt b ((h3 b).1 hb)).2
  | box E k x =>
    obtain ⟨b', cs, e, h1, h2, h3⟩ := h
    have := (h3 b).1 hb
    subst this
    exact (Array.getElem?_eq_some_iff.1 h1).1
  | any => exact (h b hb).elim
  | val u => exact (h.2 b hb).elim
  | cel k x => exact (h.2 b hb).elim
  | agg k x => exact (h.2 b hb).elim
  | ali t => exact (h.2 b hb).elim
  | pel t i k o k' f h' => exact (h.2 b hb).elim
  | clo f k x => exact (h.2 b hb).elim
  | cap f ts => exact (h.2 b hb).elim
  | vw t lo hi z => exact (h.2 b hb).elim
  | deep O => exact O.lt h b hb

theorem As.holds_g {s : Hp} {w : World} {g g' : Nat → Value} {v : Value} {F : FS} {A : As} (h : A.holds s w g v F)
    (hg : ∀ t, A.dep t = true → g' t = g t) : A.holds s w g' v F := by
  cases A with
  | ali t => exact ⟨⟨by rw [hg t (by simp [As.dep])]; exact h.1.1, h.1.2⟩, h.2⟩
  | pel t i k o k' f h' => exact ⟨⟨by rw [hg t (by simp [As.dep])]; exact h.1.1, h.1.2⟩, h.2⟩
  | cap f ts => exact ⟨⟨by rw [List.map_congr_left (fun t ht => hg t (by simp [As.dep, ht]))]; exact h.1.1, h.1.2⟩, h.2⟩
  | vw t lo hi z => exact ⟨⟨by rw [hg t (by simp [As.dep])]; exact h.1.1, h.1.2⟩, h.2⟩
  | _ => exact h

/-! ### The state of a walk -/
abbrev Env := Nat → As
/-- What has changed in old memory is what was handed over. -/
structure Keep (w0 : World) (hd : FS) (w : World) : Prop where
  os : w.os = w0.os
  tape : w.tape = w0.tape
  output : w.output = w0.output
  size : w0.heap.size ≤ w.heap.size
  block : ∀ b, b < w0.heap.size → ¬ hd b → w.heap[b]? = w0.heap[b]?
theorem Keep.refl (w : World) (hd : FS) : Keep w hd w := ⟨rfl, rfl, rfl, Nat.le_refl _, fun _ _ _ => rfl⟩

structure Rel (N : Nat) (w0 : World) (hd : FS) (pn : Nat → Option Value) (s0 : Hp) (env : Env) (s : Hp) (F : Nat → FS) (a : Act) (w : World) : Prop where
  dfr : a.defers = []
  size : a.tmps.size = N
  slot : ∀ t, (env t).holds s w (gv a.tmps) (gv a.tmps t) (F t)
  disj : ∀ t t' b, F t b → F t' b → t = t'
  mine : ∀ t b, F t b → s b = none ∧ (w0.heap.size ≤ b ∨ hd b)
  fz : Fz s w
  keep : Keep w0 hd w
  pin : ∀ t v, pn t = some v → t < 10000 ∧ gv a.tmps t = v
  ext : s0.le s
  new : ∀ b o, s b = some o → s0 b = none → w0.heap.size ≤ b ∨ hd b

def RelE (N : Nat) (w0 : World) (hd : FS) (pn : Nat → Option Value) (s0 : Hp) (env : Env) (a : Act) (w : World) : Prop := ∃ s F, Rel N w0 hd pn s0 env s F a w

/-- A place of the slot d: the slot itself, or a part of its tuple. -/
def ofSlot (d t : Nat) : Bool := t % 10000 == d
def upd (env : Env) (d : Nat) (A : As) : Env := fun t =>
  if t = d then A else if ofSlot d t then .any else if (env t).dep d then .any else env t

theorem gv_put_ne {tmps : Array Value} {d t : Nat} (v : Value) (h : ofSlot d t = false) : gv (tmps.setIfInBounds d v) t = gv tmps t := by
  have hne : t % 10000 ≠ d := by simpa [ofSlot] using h
  unfold gv
  split
  · rename_i hlt
    have : d ≠ t := by rw [Nat.mod_eq_of_lt hlt] at hne; exact Ne.symm hne
    simp [Array.getElem?_setIfInBounds_ne this]
  · simp [Array.getElem?_setIfInBounds_ne (Ne.symm hne)]
theorem gv_put_eq {tmps : Array Value} {d : Nat} (v : Value) (hd : d < 10000) (h : d < tmps.size) : gv (tmps.setIfInBounds d v) d = v := by
  unfold gv
  simp [hd, h]
theorem As.dep_lt {s : Hp} {w : World} {g : Nat → Value} {v : Value} {F : FS} {A : As} (h : A.holds s w g v F) {q : Nat} (hq : A.dep q = true) : q < 10000 := by
  cases A with
  | ali t => have : t = q := by simpa [As.dep] using hq
             subst this; exact h.1.2
  | pel t i k o k' f h' => have : t = q := by simpa [As.dep] using hq
                           subst this; exact h.1.2.1
  | cap f ts => exact h.1.2 q (by simpa [As.dep] using hq)
  | vw t lo hi z => have : t = q := by simpa [As.dep] using hq
                    subst this; exact h.1.2
  | _ => simp [As.dep] at hq

def updF (env : Env) (F : Nat → FS) (d : Nat) (Fd : FS) : Nat → FS := fun t =>
  if t = d then Fd else if ofSlot d t then FS.no else if (env t).dep d then FS.no else F t
theorem updF_old {env : Env} {F : Nat → FS} {d : Nat} {Fd : FS} {t : Nat} {b : Nat} (h : updF env F d Fd t b) (ht : t ≠ d) : F t b ∧ ofSlot d t = false := by
  unfold updF at h
  rw [if_neg ht] at h
  split at h
  · exact h.elim
  · rename_i ho
    split at h
    · exact h.elim
    · exact ⟨h, by simpa using ho⟩
theorem updF_new {env : Env} {F : Nat → FS} {d : Nat} {Fd : FS} {b : Nat} (h : updF env F d Fd d b) : Fd b := by
  unfold updF at h
  rwa [if_pos rfl] at h

/-- A slot gets a value. -/
theorem Rel.putG {N : Nat} {w0 : World} {hd : FS} {pn : Nat → Option Value} {s0 : Hp} {env : Env} {s s' : Hp} {F : Nat → FS} {a : Act} {w w' : World} {d : Nat} {v : Value} {A : As} {Fd : FS}
    (h : Rel N w0 hd pn s0 env s F a w) (hN : d < N) (hd' : d < 10000) (hpn : pn d = none)
    (hA : A.holds s' w' (gv (a.tmps.setIfInBounds d v)) v Fd) (hs : s.le s') (hsn : ∀ b o, s' b = some o → s b = none → w0.heap.size ≤ b ∨ hd b) (hfz : Fz s' w') (hk : Keep w0 hd w')
    (ho : ∀ t b, t ≠ d → ofSlot d t = false → F t b → w'.heap[b]? = w.heap[b]? ∧ s' b = none ∧ ¬ Fd b)
    (hF : ∀ b, Fd b → s' b = none ∧ (w0.heap.size ≤ b ∨ hd b)) :
    Rel N w0 hd pn s0 (upd env d A) s' (updF env F d Fd) (a.put (some d) v) w' := by
  have hput : (a.put (some d) v).tmps = a.tmps.setIfInBounds d v := rfl
  constructor
  · exact h.dfr
  · rw [hput, Array.size_setIfInBounds]; exact h.size
  · intro t
    rw [hput]
    unfold upd updF
    by_cases ht : t = d
    · subst ht
      simp only [if_true]
      rw [gv_put_eq v hd' (by rw [h.size]; exact hN)]
      exact hA
    · simp only [if_neg ht]
      by_cases hof : ofSlot d t = true
      · simp only [hof, if_true]; exact fun b hb => hb
      · have ho' : ofSlot d t = false := by simpa using hof
        simp only [ho', Bool.false_eq_true, if_false]
        by_cases hp : (env t).dep d = true
        · simp only [hp, if_true]; exact fun b hb => hb
        · simp only [hp, if_false, Bool.false_eq_true]
          rw [gv_put_ne v ho']
          refine As.holds_g (As.holds_frame (As.holds_mono hs (h.slot t)) (fun b hb => (ho t b ht ho' hb).1)) ?_
          intro q hq
          refine gv_put_ne v ?_
          by_cases hoq : ofSlot d q = true
          · have h1 : q < 10000 := As.dep_lt (h.slot t) hq
            have : q = d := by simpa [ofSlot, Nat.mod_eq_of_lt h1] using hoq
            subst this
            exact (hp hq).elim
          · simpa using hoq
  · intro t t' b hb hb'
    by_cases ht : t = d
    · by_cases ht' : t' = d
      · rw [ht, ht']
      · subst ht
        have h1 := updF_new hb
        have h2 := updF_old hb' ht'
        exact ((ho t' b ht' h2.2 h2.1).2.2 h1).elim
    · have h1 := updF_old hb ht
      by_cases ht' : t' = d
      · subst ht'
        have h2 := updF_new hb'
        exact ((ho t b ht h1.2 h1.1).2.2 h2).elim
      · exact h.disj t t' b h1.1 (updF_old hb' ht').1
  · intro t b hb
    by_cases ht : t = d
    · subst ht
      exact hF b (updF_new hb)
    · have h1 := updF_old hb ht
      exact ⟨(ho t b ht h1.2 h1.1).2.1, (h.mine t b h1.1).2⟩
  · exact hfz
  · exact hk
  · intro t v hv
    have h1 := h.pin t v hv
    refine ⟨h1.1, ?_⟩
    rw [hput, gv_put_ne, h1.2]
    have : t ≠ d := fun e => by subst e; rw [hpn] at hv; cases hv
    simp [ofSlot, Nat.mod_eq_of_lt h1.1, this]
  · exact Hp.le_trans h.ext hs
  · intro b o hb hb0
    cases hs' : s b with
    | none => exact hsn b o hb hs'
    | some o' => exact h.new b o' hs' hb0

/-- A slot gets a value, new memory may have been made. -/
theorem Rel.put {N : Nat} {w0 : World} {hd : FS} {pn : Nat → Option Value} {s0 : Hp} {env : Env} {s s' : Hp} {F : Nat → FS} {a : Act} {w w' : World} {d : Nat} {v : Value} {A : As} {Fd : FS}
    (h : Rel N w0 hd pn s0 env s F a w) (hN : d < N) (hd' : d < 10000) (hpn : pn d = none)
    (hA : A.holds s' w' (gv (a.tmps.setIfInBounds d v)) v Fd) (hs : s.le s') (hsn : ∀ b o, s' b = some o → s b = none → w.heap.size ≤ b) (hfz : Fz s' w')
    (hw : Keep w FS.no w') (hF : ∀ b, Fd b → w.heap.size ≤ b ∧ s' b = none) :
    RelE N w0 hd pn s0 (upd env d A) (a.put (some d) v) w' := by
  have hlt : ∀ t b, F t b → b < w.heap.size := fun t b hb => As.holds_lt (h.slot t) b hb
  refine ⟨s', _, h.putG hN hd' hpn hA hs (fun b o h1 h2 => .inl (Nat.le_trans h.keep.size (hsn b o h1 h2))) hfz ?_ ?_ ?_⟩
  · exact ⟨hw.os.trans h.keep.os, hw.tape.trans h.keep.tape, hw.output.trans h.keep.output, Nat.le_trans h.keep.size hw.size, fun b hb hn => by
      rw [hw.block b (Nat.lt_of_lt_of_le hb h.keep.size) (fun h => h)]
      exact h.keep.block b hb hn⟩
  · intro t b ht _ hb
    have hb' := hlt t b hb
    refine ⟨hw.block b hb' (fun h => h), ?_, fun hf => by have := (hF b hf).1; omega⟩
    cases hs' : s' b with
    | none => rfl
    | some o => have := hsn b o hs' (h.mine t b hb).1; omega
  · intro b hb
    have h1 := hF b hb
    exact ⟨h1.2, .inl (Nat.le_trans h.keep.size h1.1)⟩

/-- The same where no memory has changed. -/
theorem Rel.put0 {N : Nat} {w0 : World} {hd : FS} {pn : Nat → Option Value} {s0 : Hp} {env : Env} {s : Hp} {F : Nat → FS} {a : Act} {w : World} {d : Nat} {v : Value} {A : As}
    (h : Rel N w0 hd pn s0 env s F a w) (hN : d < N) (hd' : d < 10000) (hpn : pn d = none)
    (hA : A.holds s w (gv (a.tmps.setIfInBounds d v)) v FS.no) :
    RelE N w0 hd pn s0 (upd env d A) (a.put (some d) v) w :=
  h.put hN hd' hpn hA (Hp.le_refl s) (fun b o h1 h2 => by rw [h1] at h2; cases h2) h.fz (Keep.refl _ _) (fun b hb => hb.elim)

def updK (env : Env) (d : Nat) (A : As) : Env := fun t => if t = d then A else env t
/-- What a slot's memory holds has changed, its value has not. -/
theorem Rel.turn {N : Nat} {w0 : World} {hd : FS} {pn : Nat → Option Value} {s0 : Hp} {env : Env} {s s' : Hp} {F : Nat → FS} {a : Act} {w w' : World} {d : Nat} {A : As} {Fd : FS}
    (h : Rel N w0 hd pn s0 env s F a w) (hA : A.holds s' w' (gv a.tmps) (gv a.tmps d) Fd) (hs : s.le s') (hsn : ∀ b o, s' b = some o → s b = none → w0.heap.size ≤ b ∨ hd b) (hfz : Fz s' w') (hk : Keep w0 hd w')
    (ho : ∀ t b, t ≠ d → F t b → w'.heap[b]? = w.heap[b]? ∧ s' b = none ∧ ¬ Fd b) (hF : ∀ b, Fd b → s' b = none ∧ (w0.heap.size ≤ b ∨ hd b)) :
    RelE N w0 hd pn s0 (updK env d A) a w' := by
  refine ⟨s', fun t => if t = d then Fd else F t, h.dfr, h.size, fun t => ?_, fun t t' b hb hb' => ?_, fun t b hb => ?_, hfz, hk, h.pin, Hp.le_trans h.ext hs, fun b o hb hb0 => ?_⟩
  · unfold updK
    by_cases ht : t = d
    · subst ht; simp only [if_true]; exact hA
    · simp only [if_neg ht]
      exact As.holds_frame (As.holds_mono hs (h.slot t)) (fun b hb => (ho t b ht hb).1)
  · by_cases ht : t = d
    · by_cases ht' : t' = d
      · rw [ht, ht']
      · rw [if_pos ht] at hb; rw [if_neg ht'] at hb'
        exact ((ho t' b ht' hb').2.2 hb).elim
    · rw [if_neg ht] at hb
      by_cases ht' : t' = d
      · rw [if_pos ht'] at hb'
        exact ((ho t b ht hb).2.2 hb').elim
      · rw [if_neg ht'] at hb'
        exact h.disj t t' b hb hb'
  · by_cases ht : t = d
    · rw [if_pos ht] at hb; exact hF b hb
    · rw [if_neg ht] at hb
      exact ⟨(ho t b ht hb).2.1, (h.mine t b hb).2⟩
  · cases hs' : s b with
    | none => exact hsn b o hb hs'
    | some o' => exact h.new b o' hs' hb0

/-- Less is known. -/
theorem Rel.weaken {N : Nat} {w0 : World} {hd : FS} {pn : Nat → Option Value} {s0 : Hp} {env env' : Env} {s : Hp} {F : Nat → FS} {a : Act} {w : World}
    (h : Rel N w0 hd pn s0 env s F a w) (he : ∀ t, env' t = .any ∨ env' t = env t) : RelE N w0 hd pn s0 env' a w := by
  classical
  refine ⟨s, fun t => if env' t = env t then F t else FS.no, ⟨h.dfr, h.size, fun t => ?_, fun t t' b hb hb' => ?_, fun t b hb => ?_, h.fz, h.keep, h.pin, h.ext, h.new⟩⟩
  · by_cases ht : env' t = env t
    · simp only [ht, if_true]; exact h.slot t
    · simp only [if_neg ht]
      rw [(he t).resolve_right ht]
      exact fun b hb => hb
  · try dsimp only at hb hb'
    split at hb
    · split at hb'
      · exact h.disj t t' b hb hb'
      · exact hb'.elim
    · exact hb.elim
  · try dsimp only at hb
    split at hb
    · exact h.mine t b hb
    · exact hb.elim

end Go.Proofs.YtfnkphllkbkfaaaDoor.VL
