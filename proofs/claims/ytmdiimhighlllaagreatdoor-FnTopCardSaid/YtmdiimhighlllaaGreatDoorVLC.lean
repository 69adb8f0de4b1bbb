/- Proved here: a row of the call's own that is cut at its end; bits of numbers put together. General: over every program. -/
import Derived.Test.YtmdiimhighlllaaGreatDoorBvc
set_option linter.unusedVariables false
set_option linter.unusedSimpArgs false
namespace Go.Proofs.YtmdiimhighlllaaGreatDoor.VL
open Go
section
variable {C : Cx} {env env' : Env} {Q : Exit → Act → World → Prop} {o : Oper} {p q r : Operand} {ops : Array Oper} {l rest : List Oper} {d t : Nat} {T T' S E : TypeId} {α β : Type} {k : Kd α} {A B : As}
theorem OpT.takeV {xs : List α} {i : Nat} (ho : o.op = .assign p ∨ o.op = .move p) (hd : o.dst = some d) (hdN : C.ok d) (hp : Opd C env p (.vw t 0 i k.sz)) (hA : env t = .own E k xs) (hi : i ≤ xs.length) : OpT C o env (upd (upd env t .any) d (.own E k (xs.take i))) := by
  intro Q K a w hr hK
  obtain ⟨s, F, hr'⟩ := hr
  obtain ⟨⟨hpv, htl⟩, _⟩ := hp s F a w hr'
  obtain ⟨F1, h1, h2⟩ := hr'.weaken' (upd_any_to env t)
  have hslot := hr'.slot t
  rw [hA] at hslot
  obtain ⟨⟨cells, how, hrd⟩, hz0, hF⟩ := hslot
  have hrun : (execOp a.eval o).run C.P w = .ok (.value (cutV (gv a.tmps t) 0 i k.sz)) w := by rcases ho with ho | ho <;> simp only [execOp, ho, hpv] <;> rfl
  unfold Oper.wp
  rw [hrun, Oper.upon_value, hd]
  have hnot : ∀ b, ¬ F1 t b := fun b hb => by
    have h3 := h1.slot t
    have h4 : upd env t .any t = .any := by unfold upd; rw [if_pos rfl]
    rw [h4] at h3
    exact h3 b hb
  have hclen : cells.length = xs.length * k.sz := hrd.len
  have hlen : (xs.take i).length = i := by rw [List.length_take]; exact Nat.min_eq_left hi
  have hrd2 : RdL k s (cells.take (i * k.sz)) (xs.take i) := hrd.take i
  have hown : w.ownsRow 0 E k.sz (cutV (gv a.tmps t) 0 i k.sz) i (cells.take (i * k.sz)) ∧ (cutV (gv a.tmps t) 0 i k.sz).ownBlock = (gv a.tmps t).ownBlock := by
    rcases how.2 with ⟨hv, hx0⟩ | ⟨g, cap, cur, hv, hb0, hg, hnc, hcm, hcs, htake⟩
    · obtain rfl : i = 0 := by omega
      rw [hv]
      have hc0 : cells = [] := List.eq_nil_of_length_eq_zero (by rw [hclen, hx0]; simp)
      subst hc0
      exact ⟨⟨by simp, .inl ⟨by simp [cutV], rfl⟩⟩, by simp [cutV]⟩
    · rw [hv]
      have e1 : cutV (.slice (some ⟨g, 0, none⟩) xs.length cap) 0 i k.sz = .slice (some ⟨g, 0, none⟩) i cap := by
        unfold cutV
        simp only [Nat.zero_mul, Nat.sub_zero]
        congr 1
        split <;> simp [Addr.add]
      rw [e1]
      refine ⟨⟨?_, .inr ⟨g, cap, cur, rfl, hb0, hg, by omega, hcm, hcs, ?_⟩⟩, rfl⟩
      · rw [List.length_take, hclen]; exact Nat.min_eq_left (Nat.mul_le_mul_right _ hi)
      · rw [← htake, List.take_take, Nat.min_eq_left (Nat.mul_le_mul_right _ hi)]
  refine hK _ _ ⟨s, _, h1.putG (Fd := F t) hdN.1 (Nat.lt_of_lt_of_le hdN.1 C.hN) hdN.2 ?_ (Hp.le_refl s) (fun b o h1 h2 => by rw [h1] at h2; cases h2) h1.fz h1.keep (fun t' b hne' hof hb => ?_) (fun b hb => hr'.mine t b hb)⟩
  · refine ⟨⟨_, ?_, hrd2⟩, hz0, fun b => by rw [hown.2]; exact hF b⟩
    rw [hlen]; exact hown.1
  · have h3 := h2 t' b hb
    refine ⟨rfl, (h1.mine t' b hb).1, fun hFb => ?_⟩
    have := hr'.disj t' t b h3.1 hFb
    subst this
    exact hnot b hb
theorem OpT.ior {x y : Nat} (hH : Hd C o (.binOp .or T p q T') d) (hp : Opd C env p (.cel (Kd.int .i64) (x : Int))) (hq : Opd C env q (.cel (Kd.int .i64) (y : Int))) : OpT C o env (upd env d (.cel (Kd.int .i64) ((x ||| y : Nat) : Int))) :=
  OpT.pure hH.2.1 hH.2.2 fun s F a w hr => by
    have hx := inR_i64.1 (hp.geti hr).2
    have hy := inR_i64.1 (hq.geti hr).2
    have hle : x ||| y < 2 ^ 63 := Nat.or_lt_two_pow (by omega) (by omega)
    obtain ⟨X, rfl⟩ : ∃ X : BitVec 64, X.toNat = x := ⟨BitVec.ofNat 64 x, by rw [BitVec.toNat_ofNat]; omega⟩
    obtain ⟨Y, rfl⟩ : ∃ Y : BitVec 64, Y.toNat = y := ⟨BitVec.ofNat 64 y, by rw [BitVec.toNat_ofNat]; omega⟩
    refine ⟨.int .i64 ((X.toNat ||| Y.toNat : Nat) : Int), ?_, ⟨⟨rfl, inR_i64.2 (by omega)⟩, fun b hb => hb⟩⟩
    have h2 : IntKind.i64.wrap ((X ||| Y).toNat : Int) = ((X.toNat ||| Y.toNat : Nat) : Int) := by
      rw [BitVec.toNat_or]; exact wrap_i64 (by omega)
    simp only [execOp, hH.1, (hp.geti hr).1, (hq.geti hr).1, binOp, eqGuard, Op.intBits, IntKind.bits, ofInt_toNat]
    exact (show _ = Result.ok (Next.value (Value.int .i64 (IntKind.i64.wrap ((X ||| Y).toNat : Int)))) w from rfl).trans (by rw [h2])
theorem upd_congr {e1 e2 : Env} {v : Nat} {A : As} (h : e1 v = e2 v) : upd e1 d A v = upd e2 d A v := by unfold upd; rw [h]
/-- The same slot's memory, in other words. -/
theorem R_as {A B : As} (h : env t = A) {a : Act} {w : World} (hr : C.R env a w) (hc : ∀ s F, A.holds s w (gv a.tmps) (gv a.tmps t) F → B.holds s w (gv a.tmps) (gv a.tmps t) F) : C.R (updK env t B) a w := by
  obtain ⟨s, F, hr'⟩ := hr
  have hs := hr'.slot t
  rw [h] at hs
  refine hr'.turn (s' := s) (Fd := F t) (hc s _ hs) (Hp.le_refl s) (fun b o h1 h2 => by rw [h1] at h2; cases h2) hr'.fz hr'.keep (fun t' b hne hb => ⟨rfl, (hr'.mine t' b hb).1, fun hb' => hne (hr'.disj t' t b hb hb')⟩) (fun b hb => hr'.mine t b hb)
/-- Some row of which a property alone is told is appended. -/
theorem OpT.appX {ι : Type} {xs : List α} {f : ι → List α} {P : ι → Prop} {z : Value} {by_ u : Nat} (hH : Hd C o (.call { callee := .builtin .append, args := #[.tmp t, .tmp u], argTypes := #[T, T] }) d) (ht : t < 10000) (hu : u < 10000) (hA : env t = .own E k xs) (hB : env u = .deep (OSh.ex (fun i => .cel (Kd.slice k) (f i)) P)) (hne : t ≠ d)
    (hT : elT C.P T = some E) (hz : zeroT C.P E = some z) (hzl : (Value.cl z).length = k.sz) (hsz : sizeT C.P E = some k.sz) (hby : bytesT C.P E = some by_) (hb0 : 0 < by_) (hn : ∀ i, P i → (xs.length + (f i).length) * by_ ≤ 140737488355328) :
    OpT C o env (upd (upd env t .any) d (.deep (OSh.ex (fun i => .own E k (xs ++ f i)) P))) := by
  intro Q K a w hr hK
  have htu : t ≠ u := fun e => by rw [e, hB] at hA; cases hA
  obtain ⟨s, F, hr'⟩ := hr
  have hsu := hr'.slot u
  rw [hB] at hsu
  obtain ⟨i, hi, hcu⟩ := hsu
  have hr1 : C.R (updK env u (.cel (Kd.slice k) (f i))) a w := by
    refine hr'.turn (s' := s) (Fd := F u) (As.holds_free hcu rfl) (Hp.le_refl s) (fun b o h1 h2 => by rw [h1] at h2; cases h2) hr'.fz hr'.keep (fun t' b hne hb => ⟨rfl, (hr'.mine t' b hb).1, fun hb' => hne (hr'.disj t' u b hb hb')⟩) (fun b hb => hr'.mine u b hb)
  have e1 : updK env u (.cel (Kd.slice k) (f i)) t = .own E k xs := by unfold updK; rw [if_neg htu]; exact hA
  have e2 : updK env u (.cel (Kd.slice k) (f i)) u = .cel (Kd.slice k) (f i) := by unfold updK; rw [if_pos rfl]
  have hop := OpT.append (ys := f i) hH (Root.self ht) e1 (Src.shared (Opd.tmp e2 hu rfl)) hne hT hz hzl hsz hby hb0 (hn i hi)
  refine hop Q K a w hr1 fun a' w' hr2 => hK a' w' ?_
  have hd1 : upd (upd (updK env u (.cel (Kd.slice k) (f i))) t .any) d (.own E k (xs ++ f i)) d = .own E k (xs ++ f i) := by unfold upd; rw [if_pos rfl]
  have hr3 := R_as (B := .deep (OSh.ex (fun i => .own E k (xs ++ f i)) P)) hd1 hr2 (fun s F h => ⟨i, hi, As.holds_free h rfl⟩)
  have hother : ∀ v, v ≠ u → upd (upd env t .any) d (.deep (OSh.ex (fun i => .own E k (xs ++ f i)) P)) v = updK (upd (upd (updK env u (.cel (Kd.slice k) (f i))) t .any) d (.own E k (xs ++ f i))) d (.deep (OSh.ex (fun i => .own E k (xs ++ f i)) P)) v := fun v hv => by
    have h1 : updK env u (.cel (Kd.slice k) (f i)) v = env v := if_neg hv
    have h2 : upd (updK env u (.cel (Kd.slice k) (f i))) t .any v = upd env t .any v := upd_congr h1
    by_cases hd : v = d
    · subst hd
      unfold updK upd
      rw [if_pos rfl, if_pos rfl]
    · have h3 : ∀ e A B, upd e d A v = upd e d B v := fun e A B => by unfold upd; rw [if_neg hd, if_neg hd]
      show _ = if v = d then _ else _
      rw [if_neg hd, upd_congr (e2 := upd env t .any) h2]
      exact h3 _ _ _
  have hcase : upd (upd env t .any) d (.deep (OSh.ex (fun i => .own E k (xs ++ f i)) P)) u = .any ∨ u = d ∨ (upd (upd env t .any) d (.deep (OSh.ex (fun i => .own E k (xs ++ f i)) P)) u = env u ∧ updK (upd (upd (updK env u (.cel (Kd.slice k) (f i))) t .any) d (.own E k (xs ++ f i))) d (.deep (OSh.ex (fun i => .own E k (xs ++ f i)) P)) u = .cel (Kd.slice k) (f i)) := by
    by_cases hud : u = d
    · exact .inr (.inl hud)
    · by_cases h1 : ofSlot d u = true
      · left; unfold upd; rw [if_neg hud, if_pos h1]
      · by_cases h2 : ofSlot t u = true
        · left
          have : upd env t .any u = .any := by unfold upd; rw [if_neg (fun e => htu e.symm), if_pos h2]
          show (if u = d then _ else if ofSlot d u = true then As.any else if (upd env t .any u).dep d = true then As.any else upd env t .any u) = _
          rw [if_neg hud, if_neg h1, this]
          split <;> rfl
        · right; right
          have h3 : upd env t .any u = env u := by
            unfold upd
            rw [if_neg (fun e => htu e.symm), if_neg h2, hB, if_neg (by exact Bool.false_ne_true)]
          have h4 : upd (updK env u (.cel (Kd.slice k) (f i))) t .any u = .cel (Kd.slice k) (f i) := by
            unfold upd
            rw [if_neg (fun e => htu e.symm), if_neg h2, e2, if_neg (by exact Bool.false_ne_true)]
          constructor
          · show (if u = d then _ else if ofSlot d u = true then As.any else if (upd env t .any u).dep d = true then As.any else upd env t .any u) = _
            rw [if_neg hud, if_neg h1, h3, hB, if_neg (by exact Bool.false_ne_true)]
          · show (if u = d then _ else if u = d then _ else if ofSlot d u = true then As.any else if (upd (updK env u (.cel (Kd.slice k) (f i))) t .any u).dep d = true then As.any else upd (updK env u (.cel (Kd.slice k) (f i))) t .any u) = _
            rw [if_neg hud, if_neg hud, if_neg h1, h4, if_neg (by exact Bool.false_ne_true)]
  rcases hcase with hc | hc | ⟨hc, hc2⟩
  · refine hr3.to fun v => ?_
    by_cases hv : v = u
    · subst hv; exact .inl hc
    · exact .inr (hother v hv)
  · refine hr3.to fun v => ?_
    by_cases hv : v = u
    · right
      have hvd : v = d := hv.trans hc
      subst hvd
      unfold updK upd
      rw [if_pos rfl, if_pos rfl]
    · exact .inr (hother v hv)
  · have hr4 := R_as (B := .deep (OSh.ex (fun i => .cel (Kd.slice k) (f i)) P)) hc2 hr3 (fun s F h => ⟨i, hi, As.holds_free h rfl⟩)
    refine hr4.to fun v => ?_
    by_cases hv : v = u
    · subst hv
      right
      rw [hc, hB]
      show _ = if v = v then _ else _
      rw [if_pos rfl]
    · right
      rw [hother v hv]
      show _ = if v = u then _ else _
      rw [if_neg hv]
end
end Go.Proofs.YtmdiimhighlllaaGreatDoor.VL
