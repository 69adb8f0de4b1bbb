/- Proved here: what a law is handed reads as data, and a law's row follows from its contract. With the words of VA..VN. General: over every program. -/
import Derived.Test.YtmmjcpiikdcldaaGreatDoorBvb
import Derived.WalkKit
import Derived.ProofKit
import Derived.OpenShut
import Derived.ShutString
import Derived.ChangeOld
import Derived.Below
import Derived.Carry
import Derived.SizedLaws
import Derived.JoinedOf
set_option linter.unusedVariables false
set_option linter.unusedSimpArgs false
namespace Go.Proofs.YtmmjcpiikdcldaaGreatDoor.VL
open Go Go.ChangeShapes Go.RowKit

/-- The memory of a world. -/
def hpOf (w : World) : Hp := fun b => w.heap[b]?
theorem fz_hpOf (w : World) : Fz (hpOf w) w := fun _ _ h => h
theorem look_hpOf {w : World} {a : Addr} {v : Value} (h : w.cell? a = some v) : (hpOf w).look a = some v := by
  unfold World.cell? at h
  unfold Hp.look hpOf
  exact h

abbrev Light {H : Type} (P : Program) (T : TypeId) (d : DataW H) : Prop := (d.weights P T).all (· ≤ reachBytes) = true
/-- What reads as the type reads as the kind; and it is no larger than told. -/
def KT {α : Type} (P : Program) (T : TypeId) (k : Kd α) (sm : α → Prop) : Prop :=
  P.cellsOf T = k.sz ∧ ∀ {H : Type} {enc : TypeId × Value → H} {w : World} {sp : Nat → Bool} {fuel : Nat} {cs : List Value} {x : DataW H × List MemPlace},
    DataW.trod enc P w 0 sp true fuel T cs = some x → Light P T x.1 → ∃ z, k.rd (hpOf w) cs z ∧ sm z

section
variable {P : Program} {T E : TypeId} {α β : Type}
theorem KT.int {kk : IntKind} (h : P.underlying T = some (.int kk)) (hz : P.cellsOf T = 1) : KT P T (Kd.int kk) (fun _ => True) := by
  refine ⟨hz, fun {H enc w sp fuel cs x} ht hl => ?_⟩
  obtain ⟨n, rfl, rfl, hw⟩ := DataW.trod_int h ht
  refine ⟨n, ⟨rfl, ?_⟩, trivial⟩
  simpa [Lit.wf, inR] using hw
theorem KT.u64 (h : P.underlying T = some (.int .u64)) (hz : P.cellsOf T = 1) : KT P T Kd.u64 (fun _ => True) := by
  refine ⟨hz, fun {H enc w sp fuel cs x} ht hl => ?_⟩
  obtain ⟨n, rfl, rfl, hw⟩ := DataW.trod_int h ht
  have hw' : 0 ≤ n ∧ n ≤ 18446744073709551615 := by simpa [Lit.wf, IntKind.min, IntKind.max, IntKind.signed, IntKind.bits] using hw
  refine ⟨BitVec.ofInt 64 n, ?_, trivial⟩
  show [Value.int .u64 n] = [.int .u64 _]
  congr 2
  rw [BitVec.toNat_ofInt]
  omega
theorem KT.bool (h : P.underlying T = some .bool) (hz : P.cellsOf T = 1) : KT P T Kd.bool (fun _ => True) := by
  refine ⟨hz, fun {H enc w sp fuel cs x} ht hl => ?_⟩
  obtain ⟨b, rfl, rfl⟩ := DataW.trod_bool h ht
  exact ⟨b, rfl, trivial⟩
theorem mapM_cells {w : World} {a : Addr} {n : Nat} {cs : List Value} (h : w.cells? 0 a n = some cs) : cs.length = n ∧ ∀ j u, cs[j]? = some u → (hpOf w).look (a.add j) = some u := by
  unfold World.cells? at h
  rw [if_pos (Nat.zero_le _)] at h
  have hl := mapM_some_length h
  refine ⟨by simpa using hl, fun j u hu => look_hpOf ?_⟩
  have hj : j < n := by
    have := (List.getElem?_eq_some_iff.1 hu).1
    rw [hl] at this; simpa using this
  have := mapM_some_get h j j (by simp [hj])
  rw [this]; exact hu

theorem weightsAll_mem {H : Type} {P : Program} {e : TypeId} : ∀ {ds : List (DataW H)}, (DataW.weightsAll P e ds).all (· ≤ reachBytes) = true → ∀ d ∈ ds, Light P e d
  | [], _, d, hd => by cases hd
  | d' :: r, h, d, hd => by
    rw [DataW.weightsAll, List.all_append, Bool.and_eq_true] at h
    rcases List.mem_cons.1 hd with rfl | hd
    · exact h.1
    · exact weightsAll_mem h.2 d hd

theorem KT.slice {k : Kd α} {sm : α → Prop} {B : Nat} (h : P.underlying T = some (.slice E)) (hz : P.cellsOf T = 1) (he : KT P E k sm) (hB : P.bytesOf E = B) : KT P T (Kd.slice k) (fun xs => (∀ z ∈ xs, sm z) ∧ xs.length * B ≤ 140737488351232) := by
  refine ⟨hz, fun {H enc w sp fuel cs x} ht hl => ?_⟩
  rcases DataW.trod_slice h ht with ⟨rfl, rfl⟩ | ⟨a, len, cap, elems, rest, n, rfl, rfl, rfl, h1, h2, h3, h4, h5, h6, h7⟩
  · exact ⟨[], ⟨none, 0, rfl, Nat.le_refl _, Nat.zero_le _, fun h => absurd h (Nat.lt_irrefl 0)⟩, (fun z hz => by cases hz), by rw [List.length_nil, Nat.zero_mul]; exact Nat.zero_le _⟩
  · simp only [Light, DataW.weights, h, List.all_cons, List.all_append, Bool.and_eq_true, decide_eq_true_eq] at hl
    obtain ⟨hl1, hl2, hl3⟩ := hl
    have hel := weightsAll_mem hl2
    -- the elements, one by one
    have key : ∀ m, m ≤ len → ∃ xs cells, xs.length = m ∧ RdL k (hpOf w) cells xs ∧ (∀ z ∈ xs, sm z) ∧ ∀ j u, cells[j]? = some u → (hpOf w).look (a.add j) = some u := by
      intro m
      induction m with
      | zero => intro _; exact ⟨[], [], rfl, rfl, (fun z hz => by cases hz), fun j u hu => by cases hu⟩
      | succ m ih =>
        intro hm
        obtain ⟨xs, cells, e1, e2, e3, e4⟩ := ih (by omega)
        have hm5 := h5 m (by omega)
        have hlt : m < elems.length := by omega
        rw [List.getElem?_eq_getElem hlt] at hm5
        obtain ⟨c, hc1, hc2⟩ := Option.bind_eq_some_iff.1 hm5
        obtain ⟨hc3, hc4⟩ := mapM_cells hc1
        obtain ⟨z, hz1, hz2⟩ := he.2 hc2 (hel _ (List.mem_map_of_mem (List.getElem_mem hlt)))
        refine ⟨xs ++ [z], cells ++ c, by simp [e1], e2.app (RdL.single hz1), ?_, ?_⟩
        · intro y hy
          rcases List.mem_append.1 hy with hy | hy
          · exact e3 y hy
          · rw [List.mem_singleton] at hy; subst hy; exact hz2
        · intro j u hu
          have hlen := e2.len
          rw [e1] at hlen
          rw [List.getElem?_append] at hu
          split at hu
          · exact e4 j u hu
          · have := hc4 (j - cells.length) u hu
            rw [add_add, he.1, hlen] at this
            rw [← this]; congr 2; omega
    obtain ⟨xs, cells, e1, e2, e3, e4⟩ := key len (Nat.le_refl _)
    refine ⟨xs, ⟨some a, cap, by rw [e1], by omega, by simp only [maxLen] at h3; omega, fun h0 => ⟨a, cells, rfl, e2, e4⟩⟩, e3, ?_⟩
    rw [hB] at hl1
    simp only [reachBytes, List.length_map] at hl1
    have : xs.length * B ≤ (elems.length + rest.length) * B := Nat.mul_le_mul_right _ (by omega)
    omega

/-- The fields of a struct, from a place on. -/
def KTs {α : Type} (P : Program) (fs : List Field) (o : Nat) (k : Kd α) (sm : α → Prop) : Prop :=
  ∀ {H : Type} {enc : TypeId × Value → H} {w : World} {sp : Nat → Bool} {n : Nat} {cs : List Value} {xs : List (DataW H × List MemPlace)},
    (∀ (i : Nat) (f : Field), fs[i]? = some f → DataW.trod enc P w 0 sp true n f.type ((cs.drop f.offset).take (P.cellsOf f.type)) = xs[i]?) → xs.length = fs.length →
    (DataW.weightsEach P (fs.map (·.type)) (xs.map (·.1))).all (· ≤ reachBytes) = true → cs.length = o + k.sz → ∃ z, k.rd (hpOf w) (cs.drop o) z ∧ sm z
theorem KTs.one {k : Kd α} {sm : α → Prop} {f : Field} {o : Nat} (ho : f.offset = o) (h : KT P f.type k sm) : KTs P [f] o k sm := by
  intro H enc w sp n cs xs hx hl hw hc
  match xs, hl with
  | [x], _ =>
    have h0 := hx 0 f rfl
    simp only [List.getElem?_cons_zero] at h0
    rw [ho, List.take_of_length_le (by rw [List.length_drop, h.1]; omega)] at h0
    refine h.2 h0 ?_
    simpa [DataW.weightsEach] using hw
theorem KTs.cons {k : Kd α} {k' : Kd β} {sm : α → Prop} {sm' : β → Prop} {f : Field} {fs : List Field} {o : Nat} (ho : f.offset = o) (h : KT P f.type k sm) (hs : KTs P fs (o + k.sz) k' sm') :
    KTs P (f :: fs) o (Kd.pair k k') (fun z => sm z.1 ∧ sm' z.2) := by
  intro H enc w sp n cs xs hx hl hw hc
  match xs, hl with
  | x :: xs, hl =>
    have hsz : (Kd.pair k k').sz = k.sz + k'.sz := rfl
    have h0 := hx 0 f rfl
    simp only [List.getElem?_cons_zero] at h0
    simp only [List.map_cons, DataW.weightsEach, List.all_append, Bool.and_eq_true] at hw
    obtain ⟨z, hz1, hz2⟩ := h.2 h0 hw.1
    obtain ⟨z', hz1', hz2'⟩ := hs (xs := xs) (cs := cs) (fun i g hg => by simpa using hx (i + 1) g (by simpa using hg)) (by simpa using hl) hw.2 (by omega)
    refine ⟨(z, z'), ⟨_, _, ?_, hz1, hz1'⟩, hz2, hz2'⟩
    rw [ho, h.1, ← List.drop_drop, List.take_append_drop]
/-! ### A law's arguments -/
theorem okWide_one {w : World} {r : Reach} {base : Nat} {v : Value} (hT : aggT P T = some false) (h : Value.okWide P w r base T v) : v.cells.toList = [v] := by
  unfold aggT at hT
  unfold Value.okWide at h
  split at hT
  · cases hT
  · cases hT
  · rename_i u h1 h2 hu
    rw [hu] at h
    have h' : Cell.okWide P w r base T v := by
      cases u <;> first | exact h | exact (h1 _ rfl).elim | exact (h2 _ _ rfl).elim
    cases v with
    | agg cs => exfalso; cases u <;> simp_all [Cell.okWide, Cell.ok]
    | _ => rfl
  · cases hT
theorem KT.arg {H : Type} {enc : TypeId × Value → H} {w : World} {r : Reach} {base : Nat} {sp : Nat → Bool} {v : Value} {d : DataW H} {ps : List MemPlace} {k : Kd α} {sm : α → Prop} (h : KT P T k sm) (hT : aggT P T = some false)
    (hok : Value.okWide P w r base T v) (ht : DataW.Trod enc P w 0 sp true T v d ps) (hl : Light P T d) : ∃ x, (As.cel k x).holds (hpOf w) w g0 v FS.no ∧ sm x := by
  obtain ⟨fuel, ht⟩ := ht
  rw [okWide_one hT hok] at ht
  obtain ⟨x, h1, h2⟩ := h.2 ht hl
  exact ⟨x, ⟨h1, fun b hb => hb⟩, h2⟩
theorem trodAll_frame {H : Type} {enc : TypeId × Value → H} (hl : laidOutB P = true) {W W' : World} (hb : Below W.heap.size W W') : ∀ {ts : List TypeId} {vs : List Value} {ds : List (DataW H)} {ps : List MemPlace},
    (ts.all fun t => P.readableRec t && decide (t < P.types.size)) = true → DataW.TrodAll enc P W 0 (fun _ => true) true ts vs ds ps → (∀ x ∈ ps, x.block < W.heap.size) →
    DataW.TrodAll enc P W' 0 (fun b => decide (b < W.heap.size)) true ts vs ds ps
  | [], vs, ds, ps, hr, h, hlt => by
    obtain ⟨rfl, rfl, rfl⟩ := trodAll_nil h
    rfl
  | t :: ts, vs, ds, ps, hr, h, hlt => by
    obtain ⟨v, vs, d, ds, p, q, rfl, rfl, rfl, h1, h2⟩ := trodAll_cons h
    simp only [List.all_cons, Bool.and_eq_true, decide_eq_true_eq] at hr
    exact ⟨p, q, Below.trod hl hr.1.1 hr.1.2 h1 hb (fun x hx => hlt x (List.mem_append_left _ hx)), trodAll_frame hl hb hr.2 h2 (fun x hx => hlt x (List.mem_append_right _ hx)), rfl⟩
theorem Keep.below {w w' : World} (h : Keep w (fun b => ∃ i : Nat, FS.no b) w') : Below w.heap.size w w' :=
  ⟨h.os, h.tape, h.output, h.size, fun k hk => h.block k hk (fun ⟨_, e⟩ => e)⟩
/-- A law's row follows from its contract. -/
theorem law_calls {H : Type} {enc : TypeId × Value → H} {f : FuncId} {fn : Func} {s : ChangeSpec} {W : World} {args : Array Value} {ds gs : List (DataW H)} {before : List MemPlace} {ins : List As} {tb : TypeId}
    (hlay : laidOutB P = true) (hr : (fn.params.toList.all fun t => P.readableRec t && decide (t < P.types.size)) = true) (hv : s.vars = []) (hres : fn.resultTypes = #[tb]) (hb : P.underlying tb = some .bool)
    (hfn : (s.fn H ds).results = [.lit (.bool true)] ∧ (s.fn H ds).args = ds ∧ (s.fn H ds).vars = [])
    (hW : DataW.Whole enc P fn.params.toList s.vars false W args.toList ds gs before) (hc : ACall P f ins [.cel Kd.bool true] []) (hG : Glb P (hpOf W))
    (hsz : args.size = ins.length) (hh : ∀ i, (ins.getD i .any).holds (hpOf W) W g0 (args.getD i undef) FS.no) :
    Calls P f args W fun e W' => ∃ v, e = .returned v ∧ s.post enc P fn false true false false W args v W' := by
  refine (hc W (hpOf W) args (fun _ => FS.no) (fz_hpOf W) hG hsz hh (fun i j b hb => hb.elim) (fun i b hb => hb.elim)).mono fun e W' ⟨v, s', F', Fr, he, _, _, _, hk, _, hr', _⟩ => ?_
  have hbel : Below W.heap.size W W' := hk.below
  have h0 := hr' 0
  simp only [List.getD_cons_zero, As.holds, resV, List.length_cons, List.length_nil, Nat.zero_add, if_true] at h0
  have hvb : v = .bool true := by
    have := h0.1
    simpa [Kd.bool] using this
  have hlt := hW.lt
  have hW0 := hW
  obtain ⟨p, q, hA, hV, rfl, hfz, hnd⟩ := hW
  rw [hv] at hV
  obtain ⟨rfl, rfl⟩ := trodVars_none hV
  refine ⟨v, he, ds, [], _, [], p, [], hW0, ?_, ?_, ?_, hbel.frame _, fun h => by cases h⟩
  · rw [List.append_nil, hfn.1, hres, hvb]
    exact trodAll_mk1 (shut_bool hb _)
  · rw [List.append_nil, hfn.2.1]
    exact trodAll_frame hlay hbel hr hA (fun x hx => hlt x (List.mem_append_left _ hx))
  · rw [List.append_nil, hfn.2.2, hv]
    rfl
end
/-- A row's closed facts, in parts: the kernel weighs each by itself. -/
theorem joinedFacts_of {P : Program} {f : FuncId} {fn : Func} {s : ChangeSpec} {c : OpenClaim}
    (h1 : (c.wf (OpenSpec.ofChange s) && laidOutB P && mapsRowed P && fn.params.all (P.readableRec ·) && namedTie P c.named s.vars && (c.stops == []) && (P.stops == []) && (c.knobs == []) && (P.stopKnobs == [])) = true)
    (h2 : (c.inPlace == P.inPlace f) = true) (h3 : (c.unfollowed == P.unfollowed f) = true) (h4 : (c.recurses == P.recurses f) = true) (h5 : (c.named == P.varsNamed f) = true)
    (h6 : ((c.maps == (fn.params.toList ++ s.plain.varTypes P).any (P.mapsRec ·)) && (c.ifaces == (fn.params.toList ++ s.plain.varTypes P).any (P.ifacesRec ·)) && (c.mapsOut == P.mapsAmong fn.resultTypes.toList) &&
      (c.loops == (fn.params.toList ++ s.plain.varTypes P).any (P.loopsFrom ·)) && (c.wideKeys == (fn.params.toList ++ s.plain.varTypes P ++ fn.resultTypes.toList).any (P.wideKeysFrom ·)) &&
      s.vars.all (P.varReadable ·) && fn.resultTypes.all (fun t => P.readableRec t && decide (t < P.types.size)) && (c.ifacesOut == fn.resultTypes.toList.any (P.ifacesRec ·)) && (c.loopsOut == fn.resultTypes.toList.any (P.loopsFrom ·)) && (c.plainKeys == P.plainKeys) && c.shortTexts.isNone && P.stopsHeard) = true)
    (h7 : P.mayEnter = true) (h8 : (c.lifted == P.liftsFinal) = true) (h9 : (P.make == some c.make) = true)
    (h10 : ((c.kinds == (if c.domain.isEmpty then [] else fn.params.toList.map fun t => match P.underlying t with | some (.int k) => some k | _ => none)) && (c.pinned == c.pinnedBy) &&
      (c.veiled == (fn.params.toList ++ s.plain.varTypes P ++ fn.resultTypes.toList).any (P.veiledRec ·)) && c.veiledFits P fn.params.toList (fn.params.toList ++ s.plain.varTypes P ++ fn.resultTypes.toList)) = true) :
    joinedFacts P f fn s c = true := by
  simp only [Bool.and_eq_true] at h1 h6 h10
  simp only [joinedFacts, Bool.and_eq_true]
  obtain ⟨⟨⟨⟨⟨⟨⟨⟨a1, a2⟩, a3⟩, a4⟩, a5⟩, a6⟩, a7⟩, a8⟩, a9⟩ := h1
  obtain ⟨⟨⟨⟨⟨⟨⟨⟨⟨⟨⟨b1, b2⟩, b3⟩, b4⟩, b5⟩, b6⟩, b7⟩, b8⟩, b9⟩, b10⟩, b11⟩, b12⟩ := h6
  obtain ⟨⟨⟨c1, c2⟩, c3⟩, c4⟩ := h10
  exact ⟨⟨⟨⟨⟨⟨⟨⟨⟨⟨⟨⟨⟨⟨⟨⟨⟨⟨⟨⟨⟨⟨⟨⟨⟨⟨⟨⟨⟨⟨⟨a1, a2⟩, a3⟩, a4⟩, a5⟩, a6⟩, a7⟩, a8⟩, a9⟩, h2⟩, h3⟩, h4⟩, h5⟩, b1⟩, b2⟩, b3⟩, b4⟩, b5⟩, b6⟩, b7⟩, b8⟩, b9⟩, b10⟩, b11⟩, b12⟩, h7⟩, h8⟩, h9⟩, c1⟩, c2⟩, c3⟩, c4⟩
end Go.Proofs.YtmmjcpiikdcldaaGreatDoor.VL
