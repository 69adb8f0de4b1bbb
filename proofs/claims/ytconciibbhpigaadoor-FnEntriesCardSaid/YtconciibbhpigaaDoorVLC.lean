/- Proved here: a row of the call's own that is cut at its end; bits of numbers put together. General: over every program. -/
import Derived.Test.YtconciibbhpigaaDoorBvb
set_option linter.unusedVariables false
set_option linter.unusedSimpArgs false
namespace Go.Proofs.YtconciibbhpigaaDoor.VL
open Go
section
variable {C : Cx} {env env' : Env} {Q : Exit → Act → World → Prop} {o : Oper} {p q r : Operand} {ops : Array Oper} {l rest : List Oper} {d t : Nat} {T T' S E : TypeId} {α β : Type} {k : Kd α} {A B : As}
theorem OpT.takeV {xs : List α} {i : Nat} (ho : o.op = .assign p ∨ o.op = .move p) (hd : o.dst = some d) (hdN : C.ok d) (hp : Opd C env p (.vw t 0 i k.sz)) (hA : env t = .own E k xs) (hi : i ≤ xs.length) : OpT C o env (upd (upd env t .any) d (.own E k (xs.take i))) := by
  intro Q K a w hr hK
  obtain ⟨s, F, hr'⟩ := hr
  obtain ⟨⟨hpv, htl⟩, _⟩ := hp s F a w hr'
  obtain ⟨F1, h1, h2⟩ := hr'.weaken' (upd_any_to env t)
  have hslot := hr'.slot t
  rw [hA] at hslot
  obtain ⟨⟨cells, how, hrd⟩, hz0, hF⟩ := hslot
  have hrun : (execOp a.eval o).run C.P w = .ok (.value (cutV (gv a.tmps t) 0 i k.sz)) w := by rcases ho with ho | ho <;> simp only [execOp, ho, hpv] <;> rfl
  unfold Oper.wp
  rw [hrun, Oper.upon_value, hd]
  have hnot : ∀ b, ¬ F1 t b := fun b hb => by
    have h3 := h1.slot t
    have h4 : upd env t .any t = .any := by unfold upd; rw [if_pos rfl]
    rw [h4] at h3
    exact h3 b hb
  have hclen : cells.length = xs.length * k.sz := hrd.len
  have hlen : (xs.take i).length = i := by rw [List.length_take]; exact Nat.min_eq_left hi
  have hrd2 : RdL k s (cells.take (i * k.sz)) (xs.take i) := hrd.take i
  have hown : w.ownsRow 0 E k.sz (cutV (gv a.tmps t) 0 i k.sz) i (cells.take (i * k.sz)) ∧ (cutV (gv a.tmps t) 0 i k.sz).ownBlock = (gv a.tmps t).ownBlock := by
    rcases how.2 with ⟨hv, hx0⟩ | ⟨g, cap, cur, hv, hb0, hg, hnc, hcm, hcs, htake⟩
    · obtain rfl : i = 0 := by omega
      rw [hv]
      have hc0 : cells = [] := List.eq_nil_of_length_eq_zero (by rw [hclen, hx0]; simp)
      subst hc0
      exact ⟨⟨by simp, .inl ⟨by simp [cutV], rfl⟩⟩, by simp [cutV]⟩
    · rw [hv]
      have e1 : cutV (.slice (some ⟨g, 0, none⟩) xs.length cap) 0 i k.sz = .slice (some ⟨g, 0, none⟩) i cap := by
        unfold cutV
        simp only [Nat.zero_mul, Nat.sub_zero]
        congr 1
        split <;> simp [Addr.add]
      rw [e1]
      refine ⟨⟨?_, .inr ⟨g, cap, cur, rfl, hb0, hg, by omega, hcm, hcs, ?_⟩⟩, rfl⟩
      · rw [List.length_take, hclen]; exact Nat.min_eq_left (Nat.mul_le_mul_right _ hi)
      · rw [← htake, List.take_take, Nat.min_eq_left (Nat.mul_le_mul_right _ hi)]
  refine hK _ _ ⟨s, _, h1.putG (Fd := F t) hdN.1 (Nat.lt_of_lt_of_le hdN.1 C.hN) hdN.2 ?_ (Hp.le_refl s) (fun b o h1 h2 => by rw [h1] at h2; cases h2) h1.fz h1.keep (fun t' b hne' hof hb => ?_) (fun b hb => hr'.mine t b hb)⟩
  · refine ⟨⟨_, ?_, hrd2⟩, hz0, fun b => by rw [hown.2]; exact hF b⟩
    rw [hlen]; exact hown.1
  · have h3 := h2 t' b hb
    refine ⟨rfl, (h1.mine t' b hb).1, fun hFb => ?_⟩
    have := hr'.disj t' t b h3.1 hFb
    subst this
    exact hnot b hb
end
end Go.Proofs.YtconciibbhpigaaDoor.VL
