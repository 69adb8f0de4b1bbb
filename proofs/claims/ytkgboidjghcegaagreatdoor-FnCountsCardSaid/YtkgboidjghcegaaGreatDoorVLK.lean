/- Proved here: slices.SortFunc over rows of three numbers each, under a closure of which a contract is told; out of the kit's shelf. General: over every program. -/
import Derived.Test.YtkgboidjghcegaaGreatDoorBvb
import Derived.Test.YtkgboidjghcegaaGreatDoorPXH
import Derived.Shelf.SlSortCmp.WholeK
import Derived.Shelf.SlSortCmp.NoneTotal
set_option linter.unusedVariables false
set_option linter.unusedSimpArgs false
namespace Go.Proofs.YtkgboidjghcegaaGreatDoor.VL
open Go Go.Sort Go.Shelf
abbrev kC3 : Kd (Int × Int × Int) := Kd.pair (Kd.int .i64) (Kd.pair (Kd.int .i64) (Kd.int .i64))
def okC3 (c : Int × Int × Int) : Prop := inR .i64 c.1 ∧ inR .i64 c.2.1 ∧ inR .i64 c.2.2
abbrev CC3 := {c : Int × Int × Int // okC3 c}
instance : Inhabited CC3 := ⟨⟨(0, 0, 0), inR_i64.2 (by decide), inR_i64.2 (by decide), inR_i64.2 (by decide)⟩⟩
def encC (c : CC3) : List Value := [.int .i64 c.1.1, .int .i64 c.1.2.1, .int .i64 c.1.2.2]
theorem kC3_rd {s : Hp} (c : CC3) : kC3.rd s (encC c) c.1 := ⟨[_], [_, _], rfl, ⟨rfl, c.2.1⟩, [_], [_], rfl, ⟨rfl, c.2.2.1⟩, ⟨rfl, c.2.2.2⟩⟩
theorem rdl_C3 {s : Hp} : ∀ {xs : List (Int × Int × Int)} {cs : List Value}, RdL kC3 s cs xs → ∃ zs : List CC3, zs.map (·.1) = xs ∧ cs = zs.flatMap encC
  | [], cs, h => ⟨[], rfl, h⟩
  | x :: xs, cs, h => by
    obtain ⟨c, d, rfl, ⟨c1, c2, rfl, h1, c3, c4, rfl, h2, h3⟩, h4⟩ := h
    obtain ⟨zs, e1, rfl⟩ := rdl_C3 h4
    have g1 : c1 = [Value.int .i64 x.1] := h1.1
    have g2 : c3 = [Value.int .i64 x.2.1] := h2.1
    have g3 : c4 = [Value.int .i64 x.2.2] := h3.1
    have e9 : c1 ++ (c3 ++ c4) ++ zs.flatMap encC = [Value.int .i64 x.1, .int .i64 x.2.1, .int .i64 x.2.2] ++ zs.flatMap encC := by rw [g1, g2, g3]; rfl
    exact ⟨⟨x, h1.2, h2.2, h3.2⟩ :: zs, by rw [List.map_cons, e1], e9⟩
theorem rdl_of_C3 {s : Hp} : ∀ {zs : List CC3}, RdL kC3 s (zs.flatMap encC) (zs.map (·.1))
  | [] => rfl
  | z :: zs => ⟨encC z, zs.flatMap encC, rfl, kC3_rd z, rdl_of_C3⟩
theorem flat_C3 : ∀ (zs : List CC3) (t : Nat), (zs.flatMap encC)[t]? = if t < zs.length * 3 then some ((encC (zs.getD (t / 3) default))[t % 3]!) else none
  | [], t => by simp
  | z :: zs, t => by
    rw [List.flatMap_cons]
    rcases Nat.lt_or_ge t 3 with h | h
    · rw [List.getElem?_append_left (by simpa [encC] using h), if_pos (by simp; omega)]
      have : t / 3 = 0 := by omega
      rw [this, Nat.mod_eq_of_lt h]
      rcases t with _ | _ | _ | t
      · rfl
      · rfl
      · rfl
      · omega
    · obtain ⟨u, rfl⟩ : ∃ u, t = u + 3 := ⟨t - 3, by omega⟩
      rw [List.getElem?_append_right (by simp [encC]), show (u + 3 - (encC z).length) = u by simp [encC], flat_C3 zs u, show (u + 3) / 3 = u / 3 + 1 by omega, show (u + 3) % 3 = u % 3 by omega]
      simp only [List.length_cons, List.getD_cons_succ]
      by_cases h2 : u < zs.length * 3
      · rw [if_pos h2, if_pos (by omega)]
      · rw [if_neg h2, if_neg (by omega)]
theorem flatK_C3 (d : Array CC3) : (flatK encC 3 d).toList = d.toList.flatMap encC := by
  apply List.ext_getElem?
  intro t
  rw [flat_C3]
  by_cases h : t < d.toList.length * 3
  · rw [if_pos h]
    have h' : t < d.size * 3 := by simpa using h
    have h2 := get_flatK encC 3 d t h'
    rw [Array.getElem?_toList, Array.getElem?_eq_getElem (by simpa using h'), ← getElem!_pos (flatK encC 3 d) t (by simpa using h'), h2]
    congr 3
    rw [Array.getElem!_eq_getD, Array.getD_eq_getD_getElem?, List.getD_eq_getElem?_getD, Array.getElem?_toList]
  · rw [if_neg h, Array.getElem?_toList, Array.getElem?_eq_none]
    have : ¬ t < d.size * 3 := by simpa using h
    simp; omega
theorem holdsK_of {w : World} {g : Nat} {cur : Array Value} {E : TypeId} {zs : List CC3} (hb : w.heap[g]? = some (.cells cur E (0, 0))) (ht : cur.toList.take (zs.length * 3) = zs.flatMap encC) : HoldsK encC 3 w g 0 zs.toArray := by
  intro j hj
  have hj' : j < zs.length * 3 := by simpa using hj
  refine ⟨?_, by simp [World.frozen?, hb]⟩
  have h1 : (cur.toList.take (zs.length * 3))[j]? = (flatK encC 3 zs.toArray).toList[j]? := by rw [ht, flatK_C3]
  rw [List.getElem?_take_of_lt hj'] at h1
  simp only [World.cell?, hb, Nat.zero_add]
  simp only [Option.isSome_none, Bool.false_eq_true, if_false]
  rw [← Array.getElem?_toList, h1, Array.getElem?_toList, Array.getElem?_eq_getElem hj, ← getElem!_pos _ j hj]
  rfl
theorem heap_sortK {w : World} {g n : Nat} {os : Array Obj} {F cur : Array Value} {E : TypeId} (hb : w.heap[g]? = some (.cells cur E (0, 0))) : (grow (putRow id (Sort.ahead w n) g 0 F) os).heap[g]? = some (.cells (putCells id 0 F cur) E (0, 0)) := by
  have hlt : g < w.heap.size := (Array.getElem?_eq_some_iff.1 hb).1
  rw [heap_grow_old _ _ (by simpa using hlt)]
  simp [putRow, mapBlock, Sort.ahead, Array.getElem?_modify, hb, onCells]
theorem heap_sortK_ne {w : World} {g n b : Nat} {os : Array Obj} {F : Array Value} (hb : b < w.heap.size) (hne : b ≠ g) : (grow (putRow id (Sort.ahead w n) g 0 F) os).heap[b]? = w.heap[b]? := by
  rw [heap_grow_old _ _ (by simpa using hb)]
  simp [putRow, mapBlock, Sort.ahead, Array.getElem?_modify, Ne.symm hne]
theorem take_sortK {F cur : Array Value} (h : F.size ≤ cur.size) : (putCells id 0 F cur).toList.take F.size = F.toList := by
  apply List.ext_getElem?
  intro j
  rw [List.getElem?_take]
  split
  · rename_i hj
    rw [Array.getElem?_toList, Array.getElem?_toList]
    unfold putCells
    rw [Array.getElem?_mapIdx, Array.getElem?_eq_getElem (show j < cur.size by omega), Array.getElem?_eq_getElem hj]
    simp [hj]
  · rename_i hj
    rw [Array.getElem?_toList, Array.getElem?_eq_none (by omega)]
/-- A world that has kept what was there, and has drawn, is the old one grown. -/
theorem keep_grow {w w' : World} (hk : Keep w FS.no w') (hd : w.drawn ≤ w'.drawn) : ∃ q os', w' = grow (w.drewN q) os' := by
  refine ⟨w'.drawn - w.drawn, w'.heap.extract w.heap.size w'.heap.size, ?_⟩
  obtain ⟨h, tp, dr, os, out⟩ := w'
  have e1 : os = w.os := hk.os
  have e2 : tp = w.tape := hk.tape
  have e3 : out = w.output := hk.output
  have hsz : w.heap.size ≤ h.size := hk.size
  have hb : ∀ b, b < w.heap.size → h[b]? = w.heap[b]? := fun b hb => hk.block b hb (fun h => h)
  subst e1 e2 e3
  have e4 : h = w.heap ++ h.extract w.heap.size h.size := by
    apply Array.ext_getElem?
    intro i
    rw [Array.getElem?_append]
    split
    · rename_i hi; exact hb i hi
    · rename_i hi
      rw [Array.getElem?_extract]
      by_cases h2 : i < h.size
      · rw [if_pos (by omega)]
        congr 1; omega
      · rw [if_neg (by omega), Array.getElem?_eq_none (by omega)]
  unfold grow World.drewN
  show World.mk _ _ _ _ _ = World.mk _ _ _ _ _
  congr 1
  show dr = w.drawn + (dr - w.drawn)
  have : w.drawn ≤ dr := hd
  omega
structure TOrd {α : Type} (cf : α → α → Int) : Prop where
  irr : ∀ x, ¬ cf x x < 0
  tr : ∀ x y z, cf x y < 0 → cf y z < 0 → cf x z < 0
  ntr : ∀ x y z, ¬ cf x y < 0 → ¬ cf y z < 0 → ¬ cf x z < 0
theorem cfC_ord : TOrd cfC := ⟨fun x => by rw [cfC_lt]; unfold celT; omega, fun x y z => by rw [cfC_lt, cfC_lt, cfC_lt]; unfold celT; omega, fun x y z => by rw [cfC_lt, cfC_lt, cfC_lt]; unfold celT; omega⟩
theorem perm_map_val {zs zs' : List CC3} (h : zs.Perm zs') : (zs.map (·.1)).Perm (zs'.map (·.1)) := h.map _
theorem AC.sortC {P : Program} {ρ : Ren} {f g : FuncId} {fn : Func} (L : SlLaysF0.n6 P ρ) (hf : ρ.f 6 = f) (E : TypeId) (aE : ∀ w, (isAgg (ρ.t 24)).run P w = .ok true w) (zE : ∀ w, (Go.sizeOf (ρ.t 24)).run P w = .ok 3 w)
    (cf : Int × Int × Int → Int × Int × Int → Int) (hO : TOrd cf) (hg : ∀ x y, AC P g [.agg kC3 x, .agg kC3 y] [.cel (Kd.int .i64) (cf x y)] []) (xs ys : List (Int × Int × Int)) (hl : xs.length < 4611686018427387904)
    (hu : ∀ zs : List (Int × Int × Int), zs.Perm xs → (zs.Pairwise fun a b => ¬ cf b a < 0) → zs = ys)
    (h1 : P.funcs[f]? = some fn) (h2 : (fn.body.isNone, fn.name == "runtime.NumGoroutine") = (false, false)) : AC P f [.own E kC3 xs, .clo g Kd.unit ()] [] [.own E kC3 ys] := by
  subst hf
  simp only [Prod.mk.injEq] at h2
  refine ⟨?_, fn, h1, h2.1, h2.2⟩
  intro w s args F hfz hgl hsz hh hdj hsn
  obtain ⟨v, u, rfl⟩ : ∃ v u, args = #[v, u] := by
    have : args.size = 2 := hsz
    refine ⟨args[0], args[1], ?_⟩
    apply Array.ext
    · simp [this]
    · intro i h1 h2
      rcases i with _ | _ | i
      · rfl
      · rfl
      · exfalso; rw [this] at h1; omega
  have h0 := hh 0
  simp only [List.getD_cons_zero, As.holds] at h0
  obtain ⟨⟨cells, how, hrd⟩, hz0, hF⟩ := h0
  have hv : (#[v, u] : Array Value).getD 0 undef = v := rfl
  rw [hv] at how hF
  have hu1 := hh 1
  simp only [List.getD_cons_succ, List.getD_cons_zero, As.holds] at hu1
  obtain ⟨⟨cs, hue, hus⟩, hFu⟩ := hu1
  have hu2 : (#[v, u] : Array Value).getD 1 undef = u := rfl
  rw [hu2] at hue
  have hcs : cs = #[] := Array.ext' hus
  subst hcs
  subst hue
  obtain ⟨zs, hzx, hc⟩ := rdl_C3 hrd
  have hzl : zs.length = xs.length := by rw [← hzx, List.length_map]
  have hany : ∀ i, ([] : List As).getD i .any = .any := fun i => by simp
  have hF1 : ∀ i b, F i b → F 0 b := fun i b hb => by
    match i with
    | 0 => exact hb
    | 1 => exact (hFu b hb).elim
    | i + 2 =>
      have h9 := hh (i + 2)
      simp only [List.getD_cons_succ, List.getD_nil, As.holds] at h9
      exact (h9 b hb).elim
  let F9 : Nat → FS := fun i => if i = 0 then F 0 else FS.no
  have hF9 : ∀ i b, F9 i b → i = 0 ∧ F 0 b := fun i b hb => by
    dsimp only [F9] at hb
    split at hb
    · exact ⟨by assumption, hb⟩
    · exact hb.elim
  rcases how.2 with ⟨hvn, hn⟩ | ⟨g0, cap, cur, hvg, _, hgc, hnc, hcm, hcsz, htake⟩
  · obtain rfl : xs = [] := List.eq_nil_of_length_eq_zero hn
    have hys : ys = [] := (hu [] (List.Perm.refl _) List.Pairwise.nil).symm
    subst hvn
    refine (AnyF.slices_SortFunc_none L none 0 _ w).mono ?_
    rintro e w' ⟨rfl, rfl⟩
    refine ⟨.tuple #[], s, F9, fun _ => FS.no, rfl, Hp.le_refl s, fun b o h3 h4 => (by rw [h3] at h4; cases h4), hfz, Keep.refl _ _, .inr ⟨#[], rfl, rfl⟩, fun j => ?_, fun i => ?_, fun i j b hb => hb.elim, fun i j b hb hb' => by rw [(hF9 i b hb).1, (hF9 j b hb').1], fun i j b hb => hb.elim, fun i b hb => hb.elim, fun i b hb => ⟨hsn 0 b (hF9 i b hb).2, .inr ⟨0, (hF9 i b hb).2⟩⟩⟩
    · rw [hany]; exact fun b hb => hb
    · cases i with
      | zero => simp only [List.getD_cons_zero, As.holds]; rw [hys]; exact ⟨⟨cells, how, hrd⟩, hz0, hF⟩
      | succ i => simp only [List.getD_cons_succ, List.getD_nil]; exact fun b hb => by have := (hF9 _ b hb).1; omega
  · subst hvg
    have hgb : g0 < w.heap.size := (Array.getElem?_eq_some_iff.1 hgc).1
    have ht1 : cur.toList.take (zs.length * 3) = zs.flatMap encC := by rw [← hc, ← htake, hzl]; rfl
    have hH := holdsK_of hgc ht1
    have hFg : F 0 g0 := (hF g0).2 rfl
    have hsg : s g0 = none := hsn 0 g0 hFg
    have hFo : ∀ b, F 0 b → b = g0 := fun b hb => by
      have h9 := (hF b).1 hb
      simpa [Value.ownBlock] using h9.symm
    have hfzW : ∀ n (d : Array CC3) os, Fz s (sortWorldK encC 3 w g0 0 n d os) := fun n d os b o hb => by
      have hne : b ≠ g0 := fun e => by rw [e, hsg] at hb; cases hb
      show (grow (putRow id (Sort.ahead w n) g0 0 (flatK encC 3 d)) os).heap[b]? = _
      rw [heap_sortK_ne (Fz.lt hfz hb) hne]
      exact hfz b o hb
    obtain ⟨hac, gn, hg1, hg2, hg3⟩ := hg (0, 0, 0) (0, 0, 0)
    have hcmp : CmpLays P g #[] encC 3 (fun x y => cf x.1 y.1) g0 0 zs.toArray.size w := by
      intro m os dk hs x y
      refine ((hg x.1 y.1).1 (sortWorldK encC 3 w g0 0 m dk os) s #[.agg (encC x).toArray, .agg (encC y).toArray] (fun _ => FS.no) (hfzW m dk os) hgl rfl (fun i => ?_) (fun i j b hb => hb.elim) (fun i b hb => hb.elim)).mono ?_
      · match i with
        | 0 => exact ⟨⟨_, rfl, by simpa using kC3_rd x⟩, fun b hb => hb⟩
        | 1 => exact ⟨⟨_, rfl, by simpa using kC3_rd y⟩, fun b hb => hb⟩
        | i + 2 => simp only [List.getD_cons_succ, List.getD_nil]; exact fun b hb => hb
      · rintro e w' ⟨v', s', F', Fr, rfl, _, _, _, hk, _, hout, _⟩
        have h9 := hout 0
        have hv' : v' = .int .i64 (cf x.1 y.1) := by
          have h10 : (Kd.int .i64).rd s' [resV 1 v' 0] (cf x.1 y.1) := h9.1
          have h11 := h10.1
          simpa [resV] using h11
        refine ⟨by rw [hv'], ?_⟩
        have hk' : Keep (sortWorldK encC 3 w g0 0 m dk os) FS.no w' := ⟨hk.os, hk.tape, hk.output, hk.size, fun b hb _ => hk.block b hb (fun ⟨i, h⟩ => h), hk.drn⟩
        exact keep_grow hk' (hk.drn trivial)
    have hO' : SWO (ltOf fun x y : CC3 => cf x.1 y.1) := ⟨fun x => by simpa [ltOf] using hO.irr x.1, fun x y z h3 h4 => by
        simp only [ltOf, decide_eq_true_eq] at h3 h4 ⊢
        exact hO.tr _ _ _ h3 h4, fun x y z h3 h4 => by
        simp only [ltOf, decide_eq_false_iff_not] at h3 h4 ⊢
        exact hO.ntr _ _ _ h3 h4⟩
    have hsort := AnyQ.slices_SortFunc L 3 aE zE encC (fun _ => rfl) (fun x v hv => by
      simp only [encC, List.mem_cons, List.not_mem_nil, or_false] at hv
      rcases hv with rfl | rfl | rfl <;> rfl) (fun x y => cf x.1 y.1) hO' g #[] g0 0 cap zs.toArray w (fun args w => run_callFunc hg1 hg2 hg3 args w) hcmp hH hgb (by simpa [hzl] using hl)
    have hsz9 : zs.toArray.size = xs.length := by simp [hzl]
    rw [hsz9] at hsort
    refine hsort.mono ?_
    rintro e w' ⟨rfl, d', n, os, hperm, hsrt, rfl⟩
    have hdsz : d'.size = xs.length := by rw [hperm.1, hsz9]
    have hp2 : d'.toList.Perm zs := by
      have h9 := hperm.2.2
      have e1 : d'.extract 0 xs.length = d' := by rw [← hdsz]; simp
      have e2 : zs.toArray.extract 0 xs.length = zs.toArray := by rw [← hsz9]; simp
      rw [e1, e2] at h9
      simpa using h9
    have hys : d'.toList.map (·.1) = ys := by
      refine hu _ (by rw [← hzx]; exact perm_map_val hp2) ?_
      rw [List.pairwise_map, List.pairwise_iff_getElem]
      intro i j hi hj hij
      have h9 := hsrt i j (Nat.zero_le _) hij (by simpa [hdsz] using hj)
      simp only [ltOf, decide_eq_false_iff_not] at h9
      have hi' : i < d'.size := by simpa using hi
      have hj' : j < d'.size := by simpa using hj
      rw [getElem!_pos d' i hi', getElem!_pos d' j hj'] at h9
      simpa using h9
    have hflen : (flatK encC 3 d').size = xs.length * 3 := by rw [size_flatK, hdsz]
    have hcur : (flatK encC 3 d').size ≤ cur.size := by
      rw [hflen, hcsz]
      exact Nat.mul_le_mul_right _ hnc
    refine ⟨.tuple #[], s, F9, fun _ => FS.no, rfl, Hp.le_refl s, fun b o h3 h4 => (by rw [h3] at h4; cases h4), hfzW n d' os, ⟨rfl, rfl, rfl, ?_, fun b hb hnb => ?_, fun _ => Nat.le_add_right _ _⟩, .inr ⟨#[], rfl, rfl⟩, fun j => ?_, fun i => ?_,
      fun i j b hb => hb.elim, fun i j b hb hb' => by rw [(hF9 i b hb).1, (hF9 j b hb').1], fun i j b hb => hb.elim, fun i b hb => hb.elim, fun i b hb => ⟨hsn 0 b (hF9 i b hb).2, .inr ⟨0, (hF9 i b hb).2⟩⟩⟩
    · show w.heap.size ≤ (grow (putRow id (Sort.ahead w n) g0 0 (flatK encC 3 d')) os).heap.size
      rw [size_grow, size_putRow]
      exact Nat.le_add_right _ _
    · exact heap_sortK_ne hb (fun e => hnb ⟨0, by rw [e]; exact hFg⟩)
    · rw [hany]; exact fun b hb => hb
    · cases i with
      | zero =>
        simp only [List.getD_cons_zero, As.holds]
        refine ⟨⟨d'.toList.flatMap encC, ⟨?_, .inr ⟨g0, cap, putCells id 0 (flatK encC 3 d') cur, ?_, Nat.zero_le _, heap_sortK hgc, ?_, hcm, ?_, ?_⟩⟩, by rw [← hys]; exact rdl_of_C3⟩, hz0, hF⟩
        · have h9 : (d'.toList.flatMap encC).length = ys.length * 3 := by
            have h10 := (rdl_of_C3 (s := s) (zs := d'.toList)).len
            rw [hys] at h10; exact h10
          exact h9
        · have : ys.length = xs.length := by rw [← hys, List.length_map, Array.length_toList, hdsz]
          rw [this]; rfl
        · have : ys.length = xs.length := by rw [← hys, List.length_map, Array.length_toList, hdsz]
          rw [this]; exact hnc
        · rw [← hcsz]; simp [putCells]
        · have h9 := take_sortK hcur
          have : ys.length = xs.length := by rw [← hys, List.length_map, Array.length_toList, hdsz]
          rw [hflen, flatK_C3] at h9
          rw [this]; exact h9
      | succ i => simp only [List.getD_cons_succ, List.getD_nil]; exact fun b hb => by have := (hF9 _ b hb).1; omega
theorem AC.any1 {P : Program} {f : FuncId} {ins out : List As} {A : As} (h : AC P f ins out [A]) : AC P f ins out [A, .any] := by
  refine ⟨?_, h.2⟩
  have e : ∀ i, ([A, As.any] : List As).getD i .any = [A].getD i .any := fun i => by
    rcases i with _ | _ | i <;> simp
  have h1 := h.1
  unfold ACall at h1 ⊢
  simp only [e]
  exact h1
end Go.Proofs.YtkgboidjghcegaaGreatDoor.VL
