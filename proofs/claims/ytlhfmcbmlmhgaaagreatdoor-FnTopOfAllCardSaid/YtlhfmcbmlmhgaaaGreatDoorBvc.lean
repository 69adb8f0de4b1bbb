/- Proved here: short rules for what is owned within what is owned. General: over every program. -/
import Derived.Test.YtlhfmcbmlmhgaaaGreatDoorBvb
import Derived.WalkKit
import Derived.ProofKit
import Derived.OpenShut
import Derived.ShutString
import Derived.ChangeOld
import Derived.Below
import Derived.Carry
import Derived.SizedLaws
import Derived.JoinedOf
set_option linter.unusedVariables false
set_option linter.unusedSimpArgs false
namespace Go.Proofs.YtlhfmcbmlmhgaaaGreatDoor.VL
open Go
theorem own_one {α : Type} {E : TypeId} {k : Kd α} {xs : List α} {s w g v F} (h : (As.own E k xs).holds s w g v F) : v.oneCell' = true := by
  obtain ⟨⟨cells, how, _⟩, _⟩ := h
  rcases how.2 with ⟨e, _⟩ | ⟨g, cap, cur, e, _⟩ <;> rw [e] <;> rfl
section
variable {C : Cx} {env : Env} {e : KL} {Q : Exit → Act → World → Prop} {ops : Array Oper} {l : List Oper} {c : Code} {α ρ : Type} {k : Kd α} {E : TypeId} {xs : List α} {v : Value}
theorem keep_two {t g : Nat} {A B : As} : updK (updK (keep e) t A) g B = keep ((g, B) :: (t, A) :: e) := by rw [updK_keep, updK_keep]
theorem Vw.two {ι : Type} {A B : ι → As} (t g : Nat) (hne : t ≠ g) (h : ∀ {s w gg v u F1 F2}, (keep e t).holds s w gg v F1 → (keep e g).holds s w gg u F2 → (∀ b, F1 b → ¬ F2 b) → ∃ i F1' F2', (A i).holds s w gg v F1' ∧ (B i).holds s w gg u F2' ∧ (∀ b, F1' b → ¬ F2' b) ∧ ∀ b, F1' b ∨ F2' b → F1 b ∨ F2 b) :
    Vw C (keep e) fun i => keep ((g, B i) :: (t, A i) :: e) := fun a w hr => by
  obtain ⟨i, h'⟩ := R_two hne h hr
  exact ⟨i, by show C.R (keep ((g, B i) :: (t, A i) :: e)) a w; rw [← keep_two]; exact h'⟩
theorem vmelt (t g : Nat) (h1 : keep e t = .own E k xs) (h2 : keep e g = .any) (hne : t ≠ g) : Vw C (keep e) fun v : Value => keep ((g, .deep (OSh.gh (GP.own E k xs v))) :: (t, .cel Kd.raw v) :: e) :=
  Vw.two t g hne fun {s w gg v u F1 F2} a1 a2 _ => by
    rw [h1] at a1
    exact ⟨v, FS.no, F1, ⟨⟨rfl, own_one a1⟩, fun b hb => hb⟩, a1, fun b hb => hb.elim, fun b hb => hb.elim (fun h => h.elim) .inl⟩
theorem vunmelt (t g : Nat) (h1 : keep e t = .cel Kd.raw v) (h2 : keep e g = .deep (OSh.gh (GP.own E k xs v))) (hne : t ≠ g) : Vw C (keep e) fun _ : Unit => keep ((g, .any) :: (t, .own E k xs) :: e) :=
  Vw.two t g hne fun {s w gg v' u F1 F2} a1 a2 _ => by
    rw [h1] at a1; rw [h2] at a2
    have e1 : v' = v := by have := a1.1.1; simpa using this
    subst e1
    exact ⟨(), F2, FS.no, a2, fun b hb => hb, fun b hb hb' => hb', fun b hb => hb.elim .inr (fun h => h.elim)⟩
variable {d : Inn ρ α} {G H : GP}
theorem vjoin {K : GP} (t g : Nat) (h : (G.sep H).ent K) (h1 : keep e t = .deep (OSh.gh G)) (h2 : keep e g = .deep (OSh.gh H)) (hne : t ≠ g) : Vw C (keep e) fun _ : Unit => keep ((g, .any) :: (t, .deep (OSh.gh K)) :: e) :=
  Vw.two t g hne fun {s w gg v' u F1 F2} a1 a2 hd => by
    rw [h1] at a1; rw [h2] at a2
    exact ⟨(), fun b => F1 b ∨ F2 b, FS.no, h.go ⟨F1, F2, a1, a2, hd, fun b => Iff.rfl⟩, fun b hb => hb, fun b hb hb' => hb', fun b hb => hb.elim id (fun h => h.elim)⟩
end
theorem ROc {C : Cx} {env : Env} {ρ α : Type} {d : Inn ρ α} {r : ρ} {x y : α} {E T : TypeId} {t : Nat} (g : Nat) (hr : t < 10000) {G : GP} (h : env t = .box E d.k r) (hg : env g = .deep (OSh.gh G)) (he : G.ent (d.ho r x)) (hx : x = y) (hT : aggT C.P T = some true) (hz : sizeT C.P T = some d.k.sz) : RO C env (.cell t T) (.deep (OSh.dagg d y)) (some g) :=
  RO.cellG (fun {s F a w} hr' => by
    subst hx
    have h1 := hr'.slot t
    rw [h] at h1
    obtain ⟨b, cs, e, h2, h3, _⟩ := h1
    have h4 := hr'.slot g
    rw [hg] at h4
    rw [gv_lo hr] at e
    have h6 : ∀ j u, cs.toList[j]? = some u → w.cell? ((⟨b, 0, none⟩ : Addr).add j) = some u := fun j u hu => own_cell h2 (by simpa using hu)
    refine ⟨.agg cs.toList.toArray, ?_, cs.toList.toArray, r, rfl, by simpa using h3, he.go h4⟩
    simp only [runRes, e, asAddr, Sem.run_bind, Sem.run_pure, Result.andThen_ok]
    exact run_loadVar_agg hT (by rw [hz, Kd.len _ h3]) h6) rfl
section
variable {C : Cx} {e : KL} {G H : GP}
theorem vnown {α : Type} (E : TypeId) (k : Kd α) (hk : Nat.blt 0 k.sz = true) (t g : Nat) (h1 : keep e t = .any) (h2 : keep e g = .any) (hne : t ≠ g) : Vw C (keep e) fun _ : Unit => keep ((g, .any) :: (t, .deep (OSh.gh (GP.own E k [] (.slice none 0 0)))) :: e) :=
  Vw.two t g hne fun {s w gg v' u F1 F2} a1 a2 hd => by
    rw [h1] at a1; rw [h2] at a2
    refine ⟨(), F1, F2, ⟨⟨[], ⟨by simp, .inl ⟨rfl, rfl⟩⟩, rfl⟩, Nat.le_of_ble_eq_true hk, fun b => ⟨fun h => (a1 b h).elim, fun h => by cases h⟩⟩, a2, hd, fun b hb => hb⟩
end
theorem Kh {env : Env} {t : Nat} {α : Type} {E : TypeId} {k : Kd α} {v : Value} {x y : List α} (h : env t = .deep (OSh.gh (GP.own E k x v))) (hx : x = y) : env t = .deep (OSh.gh (GP.own E k y v)) := hx ▸ h
/-! ### What is owned, lent -/
structure Inn.Reads {ρ α : Type} (d : Inn ρ α) (k : Kd α) : Prop where
  rd : ∀ {s w F sc cs r x}, d.k.rd s cs r → (d.ho r x).ho s w F → Hp.le s sc → (∀ b, F b → sc b = w.heap[b]?) → k.rd sc cs x
  sz : d.k.sz = k.sz
theorem own_shared {α : Type} {E : TypeId} {k : Kd α} {xs : List α} {s w g v F sc} (h4 : (As.own E k xs).holds s w g v F) (hs : Hp.le s sc) (hl : ∀ b, F b → sc b = w.heap[b]?) : (Kd.slice k).rd sc [v] xs := by
  obtain ⟨⟨cells, how, hrd⟩, hz0, hF⟩ := h4
  rcases how.2 with ⟨hv, hn⟩ | ⟨g, cap, cur, hv, _, hg, hnc, hcm, hcs, htake⟩
  · exact ⟨none, 0, by rw [hv, hn], by omega, by omega, fun h => by omega⟩
  · have hFg : F g := (hF g).2 (by rw [hv]; rfl)
    refine ⟨some ⟨g, 0, none⟩, cap, by rw [hv], hnc, by simp only [maxLen] at hcm; omega, fun h => ⟨⟨g, 0, none⟩, cells, rfl, hrd.mono hs, fun j u hu => ?_⟩⟩
    rw [Addr.add_lit, Nat.zero_add]
    unfold Hp.look
    simp only [hl g hFg, hg]
    rw [← htake, List.getElem?_take] at hu
    split at hu
    · simpa using hu
    · cases hu
theorem Inn.Reads.flat {α : Type} (k : Kd α) : (Inn.flat k).Reads k where
  rd h h' hs _ := by obtain ⟨rfl, _⟩ := h'; exact k.mono hs h
  sz := rfl
theorem Inn.Reads.row {α : Type} (E : TypeId) (k : Kd α) : (Inn.row E k).Reads (Kd.slice k) where
  rd h h' hs hl := by obtain ⟨rfl, _⟩ := h; exact own_shared (g := g0) h' hs hl
  sz := rfl
theorem Inn.Reads.pair {ρ σ α β : Type} {d : Inn ρ α} {e : Inn σ β} {k : Kd α} {k' : Kd β} (h : d.Reads k) (h' : e.Reads k') : (Inn.pair d e).Reads (Kd.pair k k') where
  rd hr ho hs hl := by
    obtain ⟨c, c', e1, h1, h2⟩ := hr
    obtain ⟨F1, F2, o1, o2, _, o4⟩ := ho
    exact ⟨c, c', e1, h.rd h1 o1 hs (fun b hb => hl b ((o4 b).2 (.inl hb))), h'.rd h2 o2 hs (fun b hb => hl b ((o4 b).2 (.inr hb)))⟩
  sz := by show d.k.sz + e.k.sz = k.sz + k'.sz; rw [h.sz, h'.sz]
theorem Inn.Reads.all {ρ α : Type} {d : Inn ρ α} {k : Kd α} (h : d.Reads k) {s w sc} (hs : Hp.le s sc) : ∀ {rs : List ρ} {xs : List α} {cs F}, RdL d.k s cs rs → (d.all rs xs).ho s w F → (∀ b, F b → sc b = w.heap[b]?) → RdL k sc cs xs
  | [], [], cs, F, hr, _, _ => hr
  | r :: rs, x :: xs, cs, F, hr, ho, hl => by
    obtain ⟨c, c', e1, h1, h2⟩ := hr
    obtain ⟨F1, F2, o1, o2, _, o4⟩ := ho
    exact ⟨c, c', e1, h.rd h1 o1 hs (fun b hb => hl b ((o4 b).2 (.inl hb))), Inn.Reads.all h hs h2 o2 (fun b hb => hl b ((o4 b).2 (.inr hb)))⟩
  | [], _ :: _, _, _, _, ho, _ => ho.1.elim
  | _ :: _, [], _, _, _, ho, _ => ho.1.elim
/-! ### Results that are owned become shared -/
def Shr (A A' : As) : Prop := ∀ {s w v F sc}, A.holds s w g0 v F → Hp.le s sc → (∀ b, F b → sc b = w.heap[b]?) → A'.holds sc w g0 v FS.no
theorem Shr.frz (A : As) : Shr A A.frz := fun h hs hF => frz_holds h hs hF
theorem Shr.dagg {ρ α : Type} {d : Inn ρ α} {k : Kd α} {x : α} (h : d.Reads k) : Shr (.deep (OSh.dagg d x)) (.agg k x) := fun {s w v F sc} hh hs hl => by
  obtain ⟨cs, r, h1, h2, h3⟩ := hh
  exact ⟨⟨cs, h1, h.rd h2 h3 hs hl⟩, fun b hb => hb⟩
inductive Shrs : List As → List As → Prop
  | nil : Shrs [] []
  | cons {A A' : As} {l l' : List As} (h : Shr A A') (r : Shrs l l') : Shrs (A :: l) (A' :: l')
theorem Shrs.get {l l' : List As} (h : Shrs l l') : l.length = l'.length ∧ ∀ j, Shr (l.getD j .any) (l'.getD j .any) := by
  induction h with
  | nil => exact ⟨rfl, fun j {s w v F sc} _ _ _ => fun b hb => hb⟩
  | cons h r ih =>
    refine ⟨by simp [ih.1], fun j => ?_⟩
    cases j with
    | zero => exact h
    | succ j => exact ih.2 j
theorem AC.shr {P : Program} {f : FuncId} {ins out out' outs : List As} (h : AC P f ins out outs) (ho : Shrs out out') : AC P f ins out' outs := by
  classical
  refine ⟨?_, h.2⟩
  intro w s args F h1 hgl h2 h3 h4 h5
  obtain ⟨hlen, hget⟩ := ho.get
  refine (h.1 w s args F h1 hgl h2 h3 h4 h5).mono ?_
  rintro e w' ⟨v, s', F', Fr, he, hle, hnew, hfz, hk, hsh, hout, houts, hd1, hd2, hd3, hf1, hf2⟩
  let s2 : Hp := fun b => if ∃ j, Fr j b then w'.heap[b]? else s' b
  have hin : ∀ b, (∃ j, Fr j b) → s2 b = w'.heap[b]? := fun b hb => if_pos hb
  have hout2 : ∀ b, (¬ ∃ j, Fr j b) → s2 b = s' b := fun b hb => if_neg hb
  have hle2 : s'.le s2 := fun b o hb => by
    rw [hout2 b (fun ⟨j, hj⟩ => by rw [(hf1 j b hj).1] at hb; cases hb)]; exact hb
  refine ⟨v, s2, F', fun _ => FS.no, he, Hp.le_trans hle hle2, fun b o hb hb0 => ?_, fun b o hb => ?_, hk, by rw [← hlen]; exact hsh, fun j => ?_, fun i => As.holds_mono hle2 (houts i), fun i j b hb => hb.elim, hd2, fun i j b hb => hb.elim, fun i b hb => hb.elim, fun i b hb => ?_⟩
  · by_cases hx : ∃ j, Fr j b
    · obtain ⟨j, hj⟩ := hx; exact (hf1 j b hj).2
    · rw [hout2 b hx] at hb; exact hnew b o hb hb0
  · by_cases hx : ∃ j, Fr j b
    · rw [hin b hx] at hb; exact hb
    · rw [hout2 b hx] at hb; exact hfz b o hb
  · rw [← hlen]
    exact hget j (hout j) hle2 (fun b hb => hin b ⟨j, hb⟩)
  · refine ⟨?_, (hf2 i b hb).2⟩
    rw [hout2 b (fun ⟨j, hj⟩ => hd3 j i b hj hb)]
    exact (hf2 i b hb).1
/-! ### What doesn't hang on what is shared -/
structure Inn.Ind {ρ α : Type} (d : Inn ρ α) : Prop where
  rd : ∀ s s' cs x, d.k.rd s cs x → d.k.rd s' cs x
  ho : ∀ s s' w F r x, (d.ho r x).ho s w F → (d.ho r x).ho s' w F
theorem Inn.Ind.flat {α : Type} {k : Kd α} (hk : ∀ s s' cs x, k.rd s cs x → k.rd s' cs x) : (Inn.flat k).Ind := ⟨hk, fun _ _ _ _ _ _ h => h⟩
theorem Inn.Ind.all {ρ α : Type} {d : Inn ρ α} (h : d.Ind) {s s' w} : ∀ {rs : List ρ} {xs : List α} {F}, (d.all rs xs).ho s w F → (d.all rs xs).ho s' w F
  | [], [], F, hh => hh
  | r :: rs, x :: xs, F, hh => by
    obtain ⟨F1, F2, h1, h2, h3⟩ := hh
    exact ⟨F1, F2, h.ho _ _ _ _ _ _ h1, Inn.Ind.all h h2, h3⟩
  | [], _ :: _, _, hh => hh.1.elim
  | _ :: _, [], _, hh => hh.1.elim
/-! ### A struct whose cells are known -/
def Det {ρ : Type} (k : Kd ρ) : Prop := ∀ s t cs r r', k.rd s cs r → k.rd t cs r' → r = r'
theorem Det.int (k : IntKind) : Det (Kd.int k) := fun s t cs r r' h h' => by
  have := h.1.symm.trans h'.1; simpa using this
theorem Det.u64 : Det Kd.u64 := fun s t cs r r' h h' => by
  have h1 : cs = [.int .u64 (r.toNat : Int)] := h
  have h2 : cs = [.int .u64 (r'.toNat : Int)] := h'
  have := h1.symm.trans h2
  simp only [List.cons.injEq, Value.int.injEq, and_true, true_and] at this
  exact BitVec.eq_of_toNat_eq (by omega)
section
variable {C : Cx} {e : KL} {ρ α : Type} {d : Inn ρ α} {x : α} {r : ρ}
end
/-! ### What owns nothing yet -/
section
variable {C : Cx} {e : KL} {G : GP}
end
end Go.Proofs.YtlhfmcbmlmhgaaaGreatDoor.VL
/- Proved here: values of which a property alone is told. General: over every program. -/
set_option linter.unusedVariables false
set_option linter.unusedSimpArgs false
namespace Go.Proofs.YtlhfmcbmlmhgaaaGreatDoor.VL
open Go
section
variable {C : Cx} {e : KL} {ι : Type} {A : ι → As} {p : ι → Prop}
end
/-! ### Rows of rows stay as they are from here on -/
section
variable {C : Cx} {env : Env} {Q : Exit → Act → World → Prop} {c : Code} {ops : Array Oper} {l : List Oper} {ρ α : Type} {d : Inn ρ α} {k : Kd α} {E : TypeId} {xs : List α} {t : Nat}
end
/-! ### In a region whose order is open: a call that changes what is owned -/
section
variable {C : Cx} {env : Env} {e : KL} {o : Oper} {d t : Nat} {A O : As} {ops : Array Oper}
end
end Go.Proofs.YtlhfmcbmlmhgaaaGreatDoor.VL
/- Proved here: what a law is handed reads as data, and a law's row follows from its contract. With the words of VA..VN. General: over every program. -/
set_option linter.unusedVariables false
set_option linter.unusedSimpArgs false
namespace Go.Proofs.YtlhfmcbmlmhgaaaGreatDoor.VL
open Go Go.ChangeShapes Go.RowKit

def hpOf (w : World) : Hp := fun b => w.heap[b]?
theorem fz_hpOf (w : World) : Fz (hpOf w) w := fun _ _ h => h
theorem look_hpOf {w : World} {a : Addr} {v : Value} (h : w.cell? a = some v) : (hpOf w).look a = some v := by
  unfold World.cell? at h
  unfold Hp.look hpOf
  exact h

abbrev Light {H : Type} (P : Program) (T : TypeId) (d : DataW H) : Prop := (d.weights P T).all (· ≤ reachBytes) = true
def KT {α : Type} (P : Program) (T : TypeId) (k : Kd α) (sm : α → Prop) : Prop :=
  P.cellsOf T = k.sz ∧ ∀ {H : Type} {enc : TypeId × Value → H} {w : World} {sp : Nat → Bool} {fuel : Nat} {cs : List Value} {x : DataW H × List MemPlace},
    DataW.trod enc P w 0 sp true fuel T cs = some x → Light P T x.1 → ∃ z, k.rd (hpOf w) cs z ∧ sm z

section
variable {P : Program} {T E : TypeId} {α β : Type}
theorem KT.int {kk : IntKind} (h : P.underlying T = some (.int kk)) (hz : P.cellsOf T = 1) : KT P T (Kd.int kk) (fun _ => True) := by
  refine ⟨hz, fun {H enc w sp fuel cs x} ht hl => ?_⟩
  obtain ⟨n, rfl, rfl, hw⟩ := DataW.trod_int h ht
  refine ⟨n, ⟨rfl, ?_⟩, trivial⟩
  simpa [Lit.wf, inR] using hw
theorem KT.u64 (h : P.underlying T = some (.int .u64)) (hz : P.cellsOf T = 1) : KT P T Kd.u64 (fun _ => True) := by
  refine ⟨hz, fun {H enc w sp fuel cs x} ht hl => ?_⟩
  obtain ⟨n, rfl, rfl, hw⟩ := DataW.trod_int h ht
  have hw' : 0 ≤ n ∧ n ≤ 18446744073709551615 := by simpa [Lit.wf, IntKind.min, IntKind.max, IntKind.signed, IntKind.bits] using hw
  refine ⟨BitVec.ofInt 64 n, ?_, trivial⟩
  show [Value.int .u64 n] = [.int .u64 _]
  congr 2
  rw [BitVec.toNat_ofInt]
  omega
theorem KT.bool (h : P.underlying T = some .bool) (hz : P.cellsOf T = 1) : KT P T Kd.bool (fun _ => True) := by
  refine ⟨hz, fun {H enc w sp fuel cs x} ht hl => ?_⟩
  obtain ⟨b, rfl, rfl⟩ := DataW.trod_bool h ht
  exact ⟨b, rfl, trivial⟩
theorem KT.str (h : P.underlying T = some .string) (hz : P.cellsOf T = 1) : KT P T Kd.str (fun s => s.size ≤ 140737488351232) := by
  refine ⟨hz, fun {H enc w sp fuel cs x} ht hl => ?_⟩
  obtain ⟨s, rfl, rfl, hm⟩ := DataW.trod_string h ht
  have e : s.data.toList.length = s.size := by rw [Array.length_toList]; rfl
  simp only [Light, DataW.weights, e, List.all_cons, List.all_nil, Bool.and_true, decide_eq_true_eq] at hl
  have hl' : s.size ≤ 140737488351232 := Nat.le_trans hl (Nat.le_of_ble_eq_true rfl)
  exact ⟨s, ⟨rfl, by omega⟩, hl'⟩

theorem mapM_cells {w : World} {a : Addr} {n : Nat} {cs : List Value} (h : w.cells? 0 a n = some cs) : cs.length = n ∧ ∀ j u, cs[j]? = some u → (hpOf w).look (a.add j) = some u := by
  unfold World.cells? at h
  rw [if_pos (Nat.zero_le _)] at h
  have hl := mapM_some_length h
  refine ⟨by simpa using hl, fun j u hu => look_hpOf ?_⟩
  have hj : j < n := by
    have := (List.getElem?_eq_some_iff.1 hu).1
    rw [hl] at this; simpa using this
  have := mapM_some_get h j j (by simp [hj])
  rw [this]; exact hu

theorem weightsAll_mem {H : Type} {P : Program} {e : TypeId} : ∀ {ds : List (DataW H)}, (DataW.weightsAll P e ds).all (· ≤ reachBytes) = true → ∀ d ∈ ds, Light P e d
  | [], _, d, hd => by cases hd
  | d' :: r, h, d, hd => by
    rw [DataW.weightsAll, List.all_append, Bool.and_eq_true] at h
    rcases List.mem_cons.1 hd with rfl | hd
    · exact h.1
    · exact weightsAll_mem h.2 d hd

theorem KT.slice {k : Kd α} {sm : α → Prop} {B : Nat} (h : P.underlying T = some (.slice E)) (hz : P.cellsOf T = 1) (he : KT P E k sm) (hB : P.bytesOf E = B) : KT P T (Kd.slice k) (fun xs => (∀ z ∈ xs, sm z) ∧ xs.length * B ≤ 140737488351232) := by
  refine ⟨hz, fun {H enc w sp fuel cs x} ht hl => ?_⟩
  rcases DataW.trod_slice h ht with ⟨rfl, rfl⟩ | ⟨a, len, cap, elems, rest, n, rfl, rfl, rfl, h1, h2, h3, h4, h5, h6, h7⟩
  · exact ⟨[], ⟨none, 0, rfl, Nat.le_refl _, Nat.zero_le _, fun h => absurd h (Nat.lt_irrefl 0)⟩, (fun z hz => by cases hz), by rw [List.length_nil, Nat.zero_mul]; exact Nat.zero_le _⟩
  · simp only [Light, DataW.weights, h, List.all_cons, List.all_append, Bool.and_eq_true, decide_eq_true_eq] at hl
    obtain ⟨hl1, hl2, hl3⟩ := hl
    have hel := weightsAll_mem hl2
    -- the elements, one by one
    have key : ∀ m, m ≤ len → ∃ xs cells, xs.length = m ∧ RdL k (hpOf w) cells xs ∧ (∀ z ∈ xs, sm z) ∧ ∀ j u, cells[j]? = some u → (hpOf w).look (a.add j) = some u := by
      intro m
      induction m with
      | zero => intro _; exact ⟨[], [], rfl, rfl, (fun z hz => by cases hz), fun j u hu => by cases hu⟩
      | succ m ih =>
        intro hm
        obtain ⟨xs, cells, e1, e2, e3, e4⟩ := ih (by omega)
        have hm5 := h5 m (by omega)
        have hlt : m < elems.length := by omega
        rw [List.getElem?_eq_getElem hlt] at hm5
        obtain ⟨c, hc1, hc2⟩ := Option.bind_eq_some_iff.1 hm5
        obtain ⟨hc3, hc4⟩ := mapM_cells hc1
        obtain ⟨z, hz1, hz2⟩ := he.2 hc2 (hel _ (List.mem_map_of_mem (List.getElem_mem hlt)))
        refine ⟨xs ++ [z], cells ++ c, by simp [e1], e2.app (RdL.single hz1), ?_, ?_⟩
        · intro y hy
          rcases List.mem_append.1 hy with hy | hy
          · exact e3 y hy
          · rw [List.mem_singleton] at hy; subst hy; exact hz2
        · intro j u hu
          have hlen := e2.len
          rw [e1] at hlen
          rw [List.getElem?_append] at hu
          split at hu
          · exact e4 j u hu
          · have := hc4 (j - cells.length) u hu
            rw [add_add, he.1, hlen] at this
            rw [← this]; congr 2; omega
    obtain ⟨xs, cells, e1, e2, e3, e4⟩ := key len (Nat.le_refl _)
    refine ⟨xs, ⟨some a, cap, by rw [e1], by omega, by simp only [maxLen] at h3; omega, fun h0 => ⟨a, cells, rfl, e2, e4⟩⟩, e3, ?_⟩
    rw [hB] at hl1
    simp only [reachBytes, List.length_map] at hl1
    have : xs.length * B ≤ (elems.length + rest.length) * B := Nat.mul_le_mul_right _ (by omega)
    omega

def KTs {α : Type} (P : Program) (fs : List Field) (o : Nat) (k : Kd α) (sm : α → Prop) : Prop :=
  ∀ {H : Type} {enc : TypeId × Value → H} {w : World} {sp : Nat → Bool} {n : Nat} {cs : List Value} {xs : List (DataW H × List MemPlace)},
    (∀ (i : Nat) (f : Field), fs[i]? = some f → DataW.trod enc P w 0 sp true n f.type ((cs.drop f.offset).take (P.cellsOf f.type)) = xs[i]?) → xs.length = fs.length →
    (DataW.weightsEach P (fs.map (·.type)) (xs.map (·.1))).all (· ≤ reachBytes) = true → cs.length = o + k.sz → ∃ z, k.rd (hpOf w) (cs.drop o) z ∧ sm z
theorem KTs.one {k : Kd α} {sm : α → Prop} {f : Field} {o : Nat} (ho : f.offset = o) (h : KT P f.type k sm) : KTs P [f] o k sm := by
  intro H enc w sp n cs xs hx hl hw hc
  match xs, hl with
  | [x], _ =>
    have h0 := hx 0 f rfl
    simp only [List.getElem?_cons_zero] at h0
    rw [ho, List.take_of_length_le (by rw [List.length_drop, h.1]; omega)] at h0
    refine h.2 h0 ?_
    simpa [DataW.weightsEach] using hw
theorem KTs.cons {k : Kd α} {k' : Kd β} {sm : α → Prop} {sm' : β → Prop} {f : Field} {fs : List Field} {o : Nat} (ho : f.offset = o) (h : KT P f.type k sm) (hs : KTs P fs (o + k.sz) k' sm') :
    KTs P (f :: fs) o (Kd.pair k k') (fun z => sm z.1 ∧ sm' z.2) := by
  intro H enc w sp n cs xs hx hl hw hc
  match xs, hl with
  | x :: xs, hl =>
    have hsz : (Kd.pair k k').sz = k.sz + k'.sz := rfl
    have h0 := hx 0 f rfl
    simp only [List.getElem?_cons_zero] at h0
    simp only [List.map_cons, DataW.weightsEach, List.all_append, Bool.and_eq_true] at hw
    obtain ⟨z, hz1, hz2⟩ := h.2 h0 hw.1
    obtain ⟨z', hz1', hz2'⟩ := hs (xs := xs) (cs := cs) (fun i g hg => by simpa using hx (i + 1) g (by simpa using hg)) (by simpa using hl) hw.2 (by omega)
    refine ⟨(z, z'), ⟨_, _, ?_, hz1, hz1'⟩, hz2, hz2'⟩
    rw [ho, h.1, ← List.drop_drop, List.take_append_drop]
theorem KT.struct {k : Kd α} {sm : α → Prop} {fs : Array Field} (h : P.underlying T = some (.struct fs)) (hz : P.cellsOf T = k.sz) (hs : KTs P fs.toList 0 k sm) : KT P T k sm := by
  refine ⟨hz, fun {H enc w sp fuel cs x} ht hl => ?_⟩
  obtain ⟨xs, n, rfl, rfl, h1, h2, h3⟩ := DataW.trod_struct h ht
  simp only [Light, DataW.weights, h] at hl
  obtain ⟨z, hz1, hz2⟩ := hs (xs := xs) (cs := cs) (fun i f hf => h3 i f (by simpa using hf)) (by simpa using h2) hl (by omega)
  exact ⟨z, by simpa using hz1, hz2⟩
theorem trod_array {H : Type} {enc : TypeId × Value → H} {w : World} {sp : Nat → Bool} {held : Bool} {base fuel m : Nat} {cs : List Value} {x : DataW H × List MemPlace} (ht : P.underlying T = some (.array m E)) (h : DataW.trod enc P w base sp held fuel T cs = some x) :
    ∃ (xs : List (DataW H × List MemPlace)) (n : Nat), fuel = n + 1 ∧ x = (.agg (xs.map (·.1)), xs.flatMap (·.2)) ∧ cs.length = P.cellsOf T ∧
      (List.range m).mapM (fun i => DataW.trod enc P w base sp held n E ((cs.drop (i * P.cellsOf E)).take (P.cellsOf E))) = some xs := by
  cases fuel with
  | zero => simp [DataW.trod] at h
  | succ n =>
    unfold DataW.trod at h
    rw [ht] at h
    split at h <;> simp_all
    obtain ⟨hl, xs, hp, hd⟩ := h
    exact ⟨xs, hd.symm, hp⟩
theorem KT.two {k : Kd α} {sm : α → Prop} (h : P.underlying T = some (.array 2 E)) (hz : P.cellsOf T = k.sz + k.sz) (he : KT P E k sm) : KT P T (Kd.pair k k) (fun z => sm z.1 ∧ sm z.2) := by
  refine ⟨hz, fun {H enc w sp fuel cs x} ht hl => ?_⟩
  obtain ⟨xs, n, rfl, rfl, hlen, hxs⟩ := trod_array h ht
  have h1 := mapM_some_length hxs
  simp only [List.length_range] at h1
  match xs, h1 with
  | [y0, y1], _ =>
    have g0 := mapM_some_get hxs 0 0 rfl
    have g1 := mapM_some_get hxs 1 1 rfl
    simp only [List.getElem?_cons_zero, List.getElem?_cons_succ, Nat.zero_mul, List.drop_zero, Nat.one_mul] at g0 g1
    simp only [Light, DataW.weights, h, List.map_cons, List.map_nil, DataW.weightsAll, List.append_nil, List.all_append, Bool.and_eq_true] at hl
    obtain ⟨z0, a1, a2⟩ := he.2 g0 hl.1
    obtain ⟨z1, b1, b2⟩ := he.2 g1 hl.2
    refine ⟨(z0, z1), ⟨_, _, ?_, a1, b1⟩, a2, b2⟩
    rw [he.1, List.take_of_length_le (l := cs.drop k.sz) (by rw [List.length_drop]; omega), List.take_append_drop]

/-! ### A law's arguments -/
theorem okWide_one {w : World} {r : Reach} {base : Nat} {v : Value} (hT : aggT P T = some false) (h : Value.okWide P w r base T v) : v.cells.toList = [v] := by
  unfold aggT at hT
  unfold Value.okWide at h
  split at hT
  · cases hT
  · cases hT
  · rename_i u h1 h2 hu
    rw [hu] at h
    have h' : Cell.okWide P w r base T v := by
      cases u <;> first | exact h | exact (h1 _ rfl).elim | exact (h2 _ _ rfl).elim
    cases v with
    | agg cs => exfalso; cases u <;> simp_all [Cell.okWide, Cell.ok]
    | _ => rfl
  · cases hT
theorem okWide_agg {w : World} {r : Reach} {base : Nat} {v : Value} (hT : aggT P T = some true) (h : Value.okWide P w r base T v) : ∃ cs, v = .agg cs := by
  unfold aggT at hT
  unfold Value.okWide at h
  split at hT
  · rename_i hu; rw [hu] at h; obtain ⟨cs, h, _⟩ := h; exact ⟨cs, h⟩
  · rename_i hu; rw [hu] at h; obtain ⟨cs, h, _⟩ := h; exact ⟨cs, h⟩
  · cases hT
  · cases hT
theorem KT.arg {H : Type} {enc : TypeId × Value → H} {w : World} {r : Reach} {base : Nat} {sp : Nat → Bool} {v : Value} {d : DataW H} {ps : List MemPlace} {k : Kd α} {sm : α → Prop} (h : KT P T k sm) (hT : aggT P T = some false)
    (hok : Value.okWide P w r base T v) (ht : DataW.Trod enc P w 0 sp true T v d ps) (hl : Light P T d) : ∃ x, (As.cel k x).holds (hpOf w) w g0 v FS.no ∧ sm x := by
  obtain ⟨fuel, ht⟩ := ht
  rw [okWide_one hT hok] at ht
  obtain ⟨x, h1, h2⟩ := h.2 ht hl
  exact ⟨x, ⟨h1, fun b hb => hb⟩, h2⟩
theorem KT.argA {H : Type} {enc : TypeId × Value → H} {w : World} {r : Reach} {base : Nat} {sp : Nat → Bool} {v : Value} {d : DataW H} {ps : List MemPlace} {k : Kd α} {sm : α → Prop} (h : KT P T k sm) (hT : aggT P T = some true)
    (hok : Value.okWide P w r base T v) (ht : DataW.Trod enc P w 0 sp true T v d ps) (hl : Light P T d) : ∃ x, (As.agg k x).holds (hpOf w) w g0 v FS.no ∧ sm x := by
  obtain ⟨fuel, ht⟩ := ht
  obtain ⟨cs, rfl⟩ := okWide_agg hT hok
  obtain ⟨x, h1, h2⟩ := h.2 ht hl
  exact ⟨x, ⟨⟨cs, rfl, h1⟩, fun b hb => hb⟩, h2⟩
theorem trodAll_frame {H : Type} {enc : TypeId × Value → H} (hl : laidOutB P = true) {W W' : World} (hb : Below W.heap.size W W') : ∀ {ts : List TypeId} {vs : List Value} {ds : List (DataW H)} {ps : List MemPlace},
    (ts.all fun t => P.readableRec t && decide (t < P.types.size)) = true → DataW.TrodAll enc P W 0 (fun _ => true) true ts vs ds ps → (∀ x ∈ ps, x.block < W.heap.size) →
    DataW.TrodAll enc P W' 0 (fun b => decide (b < W.heap.size)) true ts vs ds ps
  | [], vs, ds, ps, hr, h, hlt => by
    obtain ⟨rfl, rfl, rfl⟩ := trodAll_nil h
    rfl
  | t :: ts, vs, ds, ps, hr, h, hlt => by
    obtain ⟨v, vs, d, ds, p, q, rfl, rfl, rfl, h1, h2⟩ := trodAll_cons h
    simp only [List.all_cons, Bool.and_eq_true, decide_eq_true_eq] at hr
    exact ⟨p, q, Below.trod hl hr.1.1 hr.1.2 h1 hb (fun x hx => hlt x (List.mem_append_left _ hx)), trodAll_frame hl hb hr.2 h2 (fun x hx => hlt x (List.mem_append_right _ hx)), rfl⟩
theorem Keep.below {w w' : World} (h : Keep w (fun b => ∃ i : Nat, FS.no b) w') : Below w.heap.size w w' :=
  ⟨h.os, h.tape, h.output, h.size, fun k hk => h.block k hk (fun ⟨_, e⟩ => e)⟩
theorem law_calls {H : Type} {enc : TypeId × Value → H} {f : FuncId} {fn : Func} {s : ChangeSpec} {W : World} {args : Array Value} {ds gs : List (DataW H)} {before : List MemPlace} {ins : List As} {tb : TypeId}
    (hlay : laidOutB P = true) (hr : (fn.params.toList.all fun t => P.readableRec t && decide (t < P.types.size)) = true) (hv : s.vars = []) (hres : fn.resultTypes = #[tb]) (hb : P.underlying tb = some .bool)
    (hfn : (s.fn H ds).results = [.lit (.bool true)] ∧ (s.fn H ds).args = ds ∧ (s.fn H ds).vars = [])
    (hW : DataW.Whole enc P fn.params.toList s.vars false W args.toList ds gs before) (hc : ACall P f ins [.cel Kd.bool true] []) (hG : Glb P (hpOf W))
    (hsz : args.size = ins.length) (hh : ∀ i, (ins.getD i .any).holds (hpOf W) W g0 (args.getD i undef) FS.no) :
    Calls P f args W fun e W' => ∃ v, e = .returned v ∧ s.post enc P fn false true false false W args v W' := by
  refine (hc W (hpOf W) args (fun _ => FS.no) (fz_hpOf W) hG hsz hh (fun i j b hb => hb.elim) (fun i b hb => hb.elim)).mono fun e W' ⟨v, s', F', Fr, he, _, _, _, hk, _, hr', _⟩ => ?_
  have hbel : Below W.heap.size W W' := hk.below
  have h0 := hr' 0
  simp only [List.getD_cons_zero, As.holds, resV, List.length_cons, List.length_nil, Nat.zero_add, if_true] at h0
  have hvb : v = .bool true := by
    have := h0.1
    simpa [Kd.bool] using this
  have hlt := hW.lt
  have hW0 := hW
  obtain ⟨p, q, hA, hV, rfl, hfz, hnd⟩ := hW
  rw [hv] at hV
  obtain ⟨rfl, rfl⟩ := trodVars_none hV
  refine ⟨v, he, ds, [], _, [], p, [], hW0, ?_, ?_, ?_, hbel.frame _, fun h => by cases h⟩
  · rw [List.append_nil, hfn.1, hres, hvb]
    exact trodAll_mk1 (shut_bool hb _)
  · rw [List.append_nil, hfn.2.1]
    exact trodAll_frame hlay hbel hr hA (fun x hx => hlt x (List.mem_append_left _ hx))
  · rw [List.append_nil, hfn.2.2, hv]
    rfl
end
theorem joinedFacts_of {P : Program} {f : FuncId} {fn : Func} {s : ChangeSpec} {c : OpenClaim}
    (h1 : (c.wf (OpenSpec.ofChange s) && laidOutB P && mapsRowed P && fn.params.all (P.readableRec ·) && namedTie P c.named s.vars && (c.stops == []) && (P.stops == []) && (c.knobs == []) && (P.stopKnobs == [])) = true)
    (h2 : (c.inPlace == P.inPlace f) = true) (h3 : (c.unfollowed == P.unfollowed f) = true) (h4 : (c.recurses == P.recurses f) = true) (h5 : (c.named == P.varsNamed f) = true)
    (h6 : ((c.maps == (fn.params.toList ++ s.plain.varTypes P).any (P.mapsRec ·)) && (c.ifaces == (fn.params.toList ++ s.plain.varTypes P).any (P.ifacesRec ·)) && (c.mapsOut == P.mapsAmong fn.resultTypes.toList) &&
      (c.loops == (fn.params.toList ++ s.plain.varTypes P).any (P.loopsFrom ·)) && (c.wideKeys == (fn.params.toList ++ s.plain.varTypes P ++ fn.resultTypes.toList).any (P.wideKeysFrom ·)) &&
      s.vars.all (P.varReadable ·) && fn.resultTypes.all (fun t => P.readableRec t && decide (t < P.types.size)) && (c.ifacesOut == fn.resultTypes.toList.any (P.ifacesRec ·)) && (c.loopsOut == fn.resultTypes.toList.any (P.loopsFrom ·)) && (c.plainKeys == P.plainKeys) && c.shortTexts.isNone && P.stopsHeard) = true)
    (h7 : P.mayEnter = true) (h8 : (c.lifted == P.liftsFinal) = true) (h9 : (P.make == some c.make) = true)
    (h10 : ((c.kinds == (if c.domain.isEmpty then [] else fn.params.toList.map fun t => match P.underlying t with | some (.int k) => some k | _ => none)) && (c.pinned == c.pinnedBy) &&
      (c.veiled == (fn.params.toList ++ s.plain.varTypes P ++ fn.resultTypes.toList).any (P.veiledRec ·)) && c.veiledFits P fn.params.toList (fn.params.toList ++ s.plain.varTypes P ++ fn.resultTypes.toList)) = true) :
    joinedFacts P f fn s c = true := by
  simp only [Bool.and_eq_true] at h1 h6 h10
  simp only [joinedFacts, Bool.and_eq_true]
  obtain ⟨⟨⟨⟨⟨⟨⟨⟨a1, a2⟩, a3⟩, a4⟩, a5⟩, a6⟩, a7⟩, a8⟩, a9⟩ := h1
  obtain ⟨⟨⟨⟨⟨⟨⟨⟨⟨⟨⟨b1, b2⟩, b3⟩, b4⟩, b5⟩, b6⟩, b7⟩, b8⟩, b9⟩, b10⟩, b11⟩, b12⟩ := h6
  obtain ⟨⟨⟨c1, c2⟩, c3⟩, c4⟩ := h10
  exact ⟨⟨⟨⟨⟨⟨⟨⟨⟨⟨⟨⟨⟨⟨⟨⟨⟨⟨⟨⟨⟨⟨⟨⟨⟨⟨⟨⟨⟨⟨⟨a1, a2⟩, a3⟩, a4⟩, a5⟩, a6⟩, a7⟩, a8⟩, a9⟩, h2⟩, h3⟩, h4⟩, h5⟩, b1⟩, b2⟩, b3⟩, b4⟩, b5⟩, b6⟩, b7⟩, b8⟩, b9⟩, b10⟩, b11⟩, b12⟩, h7⟩, h8⟩, h9⟩, c1⟩, c2⟩, c3⟩, c4⟩
end Go.Proofs.YtlhfmcbmlmhgaaaGreatDoor.VL
