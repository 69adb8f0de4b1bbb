/- Proved here: results that a call owns, and rows that are lent to a call. General: over every program. -/
import Derived.Test.YtfnkphllkbkfaaaDoorVS
set_option linter.unusedVariables false
set_option linter.unusedSimpArgs false
namespace Go.Proofs.YtfnkphllkbkfaaaDoor.VL
open Go
/-- What is owned goes over into what stays as it is. -/
theorem frz_holds {s s' : Hp} {w : World} {v : Value} {F : FS} {A : As} (h : A.holds s w g0 v F) (hs : s.le s') (hF : ∀ b, F b → s' b = w.heap[b]?) : A.frz.holds s' w g0 v FS.no := by
  cases A with
  | own E k xs =>
    obtain ⟨⟨cells, how, hrd⟩, hz0, hFb⟩ := h
    refine ⟨?_, fun b hb => hb⟩
    rcases how.2 with ⟨hv, hn⟩ | ⟨g, cap, cur, hv, _, hg, hnc, hcm, hcs, htake⟩
    · exact ⟨none, 0, by rw [hv, hn], by omega, by omega, fun h => by omega⟩
    · have hsg : s' g = some (.cells cur E (0, 0)) := by rw [hF g ((hFb g).2 (by rw [hv]; rfl))]; exact hg
      refine ⟨some ⟨g, 0, none⟩, cap, by rw [hv], hnc, by simp only [maxLen] at hcm; omega, fun h => ⟨⟨g, 0, none⟩, cells, rfl, hrd.mono hs, fun j u hu => ?_⟩⟩
      rw [Addr.add_lit, Nat.zero_add]
      unfold Hp.look
      simp only [hsg]
      rw [← htake, List.getElem?_take] at hu
      split at hu
      · simpa using hu
      · cases hu
  | box E k x =>
    obtain ⟨g, cs, hv, hg, hrd, hFb⟩ := h
    have hsg : s' g = some (.cells cs E (0, 0)) := by rw [hF g ((hFb g).2 rfl)]; exact hg
    refine ⟨⟨⟨g, 0, none⟩, cs.toList, by rw [hv], k.mono hs hrd, fun j u hu => ?_⟩, fun b hb => hb⟩
    rw [Addr.add_lit, Nat.zero_add]
    unfold Hp.look
    simp only [hsg]
    simpa using hu
  | any => exact fun b hb => hb
  | val u => exact ⟨h.1, fun b hb => hb⟩
  | cel k x => exact ⟨k.mono hs h.1, fun b hb => hb⟩
  | agg k x => obtain ⟨⟨cs, e, h1⟩, _⟩ := h; exact ⟨⟨cs, e, k.mono hs h1⟩, fun b hb => hb⟩
  | ali t => exact ⟨h.1, fun b hb => hb⟩
  | pel t i k o k' f h' => exact ⟨h.1, fun b hb => hb⟩
  | clo f k x => obtain ⟨⟨cs, e, h1⟩, _⟩ := h; exact ⟨⟨cs, e, k.mono hs h1⟩, fun b hb => hb⟩
  | cap f ts => exact ⟨h.1, fun b hb => hb⟩
  | vw t lo hi z => exact ⟨h.1, fun b hb => hb⟩
  | deep O => exact fun b hb => hb
theorem ACall.frz {P : Program} {f : FuncId} {ins out outs : List As} (h : ACall P f ins out outs) : ACall P f ins (out.map As.frz) outs := by
  classical
  intro w s args F h1 h2 h3 h4 h5
  refine (h w s args F h1 h2 h3 h4 h5).mono ?_
  rintro e w' ⟨v, s', F', Fr, he, hle, hnew, hfz, hk, hsh, hout, houts, hd1, hd2, hd3, hf1, hf2⟩
  let s2 : Hp := fun b => if ∃ j, Fr j b then w'.heap[b]? else s' b
  have hin : ∀ b, (∃ j, Fr j b) → s2 b = w'.heap[b]? := fun b hb => if_pos hb
  have hout2 : ∀ b, (¬ ∃ j, Fr j b) → s2 b = s' b := fun b hb => if_neg hb
  have hle2 : s'.le s2 := fun b o hb => by
    rw [hout2 b (fun ⟨j, hj⟩ => by rw [(hf1 j b hj).1] at hb; cases hb)]; exact hb
  refine ⟨v, s2, F', fun _ => FS.no, he, Hp.le_trans hle hle2, fun b o hb hb0 => ?_, fun b o hb => ?_, hk, by simpa using hsh, fun j => ?_, fun i => As.holds_mono hle2 (houts i), fun i j b hb => hb.elim, hd2, fun i j b hb => hb.elim, fun i b hb => hb.elim, fun i b hb => ?_⟩
  · by_cases hx : ∃ j, Fr j b
    · obtain ⟨j, hj⟩ := hx; exact (hf1 j b hj).2
    · rw [hout2 b hx] at hb; exact hnew b o hb hb0
  · by_cases hx : ∃ j, Fr j b
    · rw [hin b hx] at hb; exact hb
    · rw [hout2 b hx] at hb; exact hfz b o hb
  · have e1 : (out.map As.frz).getD j .any = (out.getD j .any).frz := by
      rw [List.getD_eq_getElem?_getD, List.getD_eq_getElem?_getD, List.getElem?_map]
      cases out[j]? <;> rfl
    rw [e1, List.length_map]
    exact frz_holds (hout j) hle2 (fun b hb => hin b ⟨j, hb⟩)
  · refine ⟨?_, (hf2 i b hb).2⟩
    rw [hout2 b (fun ⟨j, hj⟩ => hd3 j i b hj hb)]
    exact (hf2 i b hb).1
theorem AC.frz {P : Program} {f : FuncId} {ins out out' outs : List As} (h : AC P f ins out outs) (ho : out.map As.frz = out') : AC P f ins out' outs := ⟨ho ▸ h.1.frz, h.2⟩
theorem indO {E : TypeId} {α : Type} {k : Kd α} {xs : List α} (hk : ∀ s s' cs x, k.rd s cs x → k.rd s' cs x) : (As.own E k xs).indep := by
  have hl : ∀ (s s' : Hp) (ys : List α) (cs : List Value), RdL k s cs ys → RdL k s' cs ys := by
    intro s s' ys
    induction ys with
    | nil => intro cs h; exact h
    | cons y ys ih =>
      intro cs h
      obtain ⟨c, d, e, h1, h2⟩ := h
      exact ⟨c, d, e, hk _ _ _ _ h1, ih d h2⟩
  rintro s s' w v F ⟨⟨cells, h1, h2⟩, h3⟩
  exact ⟨⟨cells, h1, hl _ _ _ _ h2⟩, h3⟩
theorem indC {α : Type} {k : Kd α} {x : α} (hk : ∀ s s' cs x, k.rd s cs x → k.rd s' cs x) : (As.cel k x).indep := fun s s' w v F h => ⟨hk _ _ _ _ h.1, h.2⟩
section
variable {C : Cx} {env env' : Env} {e e' : KL} {Q : Exit → Act → World → Prop} {o : Oper} {p q r : Operand} {ops : Array Oper} {rest : List Oper} {d t : Nat} {T T' S E : TypeId} {α β γ : Type} {k : Kd α} {A B : As}
/-- A call to which rows are lent. -/
theorem cb1 {f : FuncId} {ins outs : List As} {xs : List Operand} {ms : List Mode} {ts : Array TypeId} (hc : AC C.P f ins [A] []) (hH : Hd C o (.call { callee := .value (.func f), args := xs.toArray, argTypes := ts }) d)
    (ha : Args C env xs ins outs ms) (hz : (outs.all As.isAny, rootsOf ms, A.free) = (true, [], true)) (hi : A.indep) : OpT C o env (upd env d A) := by
  simp only [Prod.mk.injEq] at hz
  obtain ⟨h1, h2, h3⟩ := hz
  have := OpT.crn hc hH ha h1 (by unfold msOK; rw [h2]; rfl) (.inr ⟨ind1 hi, ind_anys h1⟩) (by simp [h3])
  rwa [updRoots_none (outs := outs) h2, updRes_one] at this
theorem cb2 {f : FuncId} {ins outs : List As} {xs : List Operand} {ms : List Mode} {ts : Array TypeId} (hc : AC C.P f ins [A, B] []) (hH : Hd C o (.call { callee := .value (.func f), args := xs.toArray, argTypes := ts }) d)
    (ha : Args C env xs ins outs ms) (hz : (outs.all As.isAny, rootsOf ms, A.free, B.free) = (true, [], true, true)) (hi : A.indep) (hi' : B.indep) : OpT C o env (updRes env d [A, B]) := by
  simp only [Prod.mk.injEq] at hz
  obtain ⟨h1, h2, h3, h4⟩ := hz
  have := OpT.crn hc hH ha h1 (by unfold msOK; rw [h2]; rfl) (.inr ⟨ind2 hi hi', ind_anys h1⟩) (by simp [h3, h4])
  rwa [updRoots_none (outs := outs) h2] at this
/-- Several results. -/
def parts (d : Nat) : Nat → List As → KL
  | _, [] => []
  | j, A :: l => (d + 10000 * (j + 1), A) :: parts d (j + 1) l
/-- A part of a tuple that lies in another slot: it goes over. -/
theorem OpT.extractVO {j m u : Nat} (hH : Hd C o (.extract (.tmp u) j) d) (hu : env u = .ali t) (hul : Nat.blt u 10000 = true) (ht : Nat.blt t 10000 = true) (hm : m = t + 10000 * (j + 1)) (hA : env m = A) (hs : A.solid = true) :
    OpT C o env (upd (updK env m .any) d A) := by
  intro Q K a w hr hK
  obtain ⟨s, F, hr'⟩ := hr
  have ht' : t < 10000 := Nat.le_of_ble_eq_true ht
  have he : a.eval (.tmp u) = a.eval (.tmp t) := by
    have := (Opd.tmp (C := C) hu (Nat.le_of_ble_eq_true hul) rfl s F a w hr').1.1
    rw [this, gv_lo ht']; rfl
  have hrun : (execOp a.eval o).run C.P w = .ok (.value (gv a.tmps m)) w := by
    subst hm
    simp only [execOp, hH.1, he, Sem.run_bind]; rw [run_extract ht' hA hs hr']; rfl
  clear hm
  have hslot := hr'.slot m
  rw [hA] at hslot
  obtain ⟨F1, h1, h2⟩ := hr'.weaken' (env' := updK env m .any) (updK_any_to env _)
  unfold Oper.wp
  rw [hrun, Oper.upon_value, hH.2.1]
  have hnot : ∀ b, ¬ F1 m b := fun b hb => by
    have h3 := h1.slot m
    rw [updK_self env m .any] at h3
    exact h3 b hb
  refine hK _ _ ⟨s, _, h1.putG (Fd := F m) hH.2.2.1 (Nat.lt_of_lt_of_le hH.2.2.1 C.hN) hH.2.2.2 (As.holds_free hslot (solid_free hs)) (Hp.le_refl s) (fun b o h1 h2 => by rw [h1] at h2; cases h2) h1.fz h1.keep (fun t' b hne' hof hb => ?_) (fun b hb => hr'.mine _ b hb)⟩
  have h3 := h2 t' b hb
  refine ⟨rfl, (h1.mine t' b hb).1, fun hFb => ?_⟩
  have := hr'.disj t' m b h3.1 hFb
  subst this
  exact hnot b hb
/-- A row without elements. -/
theorem nilO (k : Kd α) (hz : Nat.blt 0 k.sz = true) (h : (o.op, o.dst, Nat.blt d C.N, C.pn d) = (.assign (.const (.slice none 0 0)), some d, true, none) ∨ (o.op, o.dst, Nat.blt d C.N, C.pn d) = (.move (.const (.slice none 0 0)), some d, true, none)) : OpT C o env (upd env d (.own E k [])) := by
  have h' : (o.op = .assign (.const (.slice none 0 0)) ∨ o.op = .move (.const (.slice none 0 0))) ∧ o.dst = some d ∧ C.ok d := by
    rcases h with h | h <;> simp only [Prod.mk.injEq] at h
    · exact ⟨.inl h.1, h.2.1, okd h.2.2.1 h.2.2.2⟩
    · exact ⟨.inr h.1, h.2.1, okd h.2.2.1 h.2.2.2⟩
  obtain ⟨ho, hd, hdN⟩ := h'
  refine OpT.pure hd hdN fun s F a w hr => ⟨.slice none 0 0, ?_, ?_⟩
  · rcases ho with ho | ho <;> simp only [execOp, ho] <;> rfl
  · refine ⟨⟨[], ⟨by simp, .inl ⟨rfl, rfl⟩⟩, rfl⟩, Nat.le_of_ble_eq_true hz, fun b => ⟨fun h => h.elim, fun h => ?_⟩⟩
    cases h
end
end Go.Proofs.YtfnkphllkbkfaaaDoor.VL
