/- Proved here: regions whose order is open, in which an operation reads what another may have written already, and reads the same. General: over every program. -/
import Derived.Test.YtkgboidjghcegaaGreatDoorVLN
set_option linter.unusedVariables false
set_option linter.unusedSimpArgs false
namespace Go.Proofs.YtkgboidjghcegaaGreatDoor.VL
open Go
section
variable {C : Cx} {env env' env0 : Env} {e e' : KL} {Q : Exit → Act → World → Prop} {o : Oper} {c : Code} {ops : Array Oper} {l : List Oper} {d t : Nat} {A B : As}
def DStA (C : Cx) (ops : Array Oper) (env : Env) (o : Oper) (i : DJ) : Prop :=
  (∃ j want t d A, o.guard = some (j, want) ∧ (ops[j]?).bind (·.dst) = some t ∧ (env t = .cel Kd.bool (!want) ∨ env t = .val undef) ∧ t < 10000 ∧ i.ps = [.res d [A]] ∧ (A = .any ∨ A = .val undef) ∧ o.dst = some d ∧ C.ok d) ∨
  ((o.guard = none ∨ (∃ j want t b, o.guard = some (j, want) ∧ (ops[j]?).bind (·.dst) = some t ∧ env t = .cel Kd.bool b ∧ t < 10000 ∧ b = want)) ∧ OpT C o env (i.upd env))
theorem DSt.at {i : DJ} {env1 : Env} (h : DSt C ops env o i) (he : ∀ t ∈ i.nd, env1 t = env t) : DStA C ops env1 o i := by
  rcases h with ⟨j, want, t, d, A, h1, h2, h3, h4, h5⟩ | ⟨h1, h2⟩
  · exact .inl ⟨j, want, t, d, A, h1, h2, by rw [he t h3]; exact h4, h5⟩
  · refine .inr ⟨?_, h2 env1 he⟩
    rcases h1 with h1 | ⟨j, want, t, b, h3, h4, h5, h6, h7⟩
    · exact .inl h1
    · exact .inr ⟨j, want, t, b, h3, h4, by rw [he t h5]; exact h6, h7⟩
theorem draws_go {e0 : List (Nat × As)} {I : List DJ} (hg : DGj l I) (hcl : cleanj e0 I = true) (hst : ∀ j o i, l[j]? = some o → I[j]? = some i → ∀ D : Nat → Prop, ¬ D j → (∀ x ∈ (ancs l []).getD j [], D x) → (∀ x, D x → ∀ y ∈ (ancs l []).getD x [], D y) → DStA C l.toArray (envJ (keep e0) I D) o i)
    (k : AX C .normal (envTj (keep e0) I) Q) : ∀ (fuel : Nat) (listed : Array Bool) (a : Act) (w : World), listed.size = l.length →
      ((List.range l.length).filter fun i => !listed.getD i true).length ≤ fuel →
      (∀ i, listed.getD i false = true → ∀ x ∈ (ancs l []).getD i [], listed.getD x false = true) →
      C.R (envJ (keep e0) I (fun x => listed.getD x false = true)) a w → wpAny C.P .any l.toArray Q fuel listed a w := by
  have hfin : ∀ (listed : Array Bool), (∀ j, j < l.length → listed.getD j false = true) → envJ (keep e0) I (fun x => listed.getD x false = true) = envTj (keep e0) I := by
    intro listed hall
    have h1 := envTj_take (env0 := keep e0) hg l.length (Nat.le_refl _)
    rw [hg.len, List.take_length] at h1
    rw [h1]
    funext t
    have : ∀ (J : List DJ) (k : Nat) (B : As), k + J.length ≤ l.length → valJ J k (fun x => listed.getD x false = true) t B = valJ J k (fun x => x < I.length) t B := by
      intro J
      induction J with
      | nil => intro k B _; rfl
      | cons i J ih =>
        intro k B hk
        simp only [List.length_cons] at hk
        unfold valJ
        rw [if_pos (hall k (by omega)), if_pos (by rw [← hg.len]; omega)]
        exact ih _ _ (by omega)
    exact this I 0 _ (by rw [hg.len]; omega)
  intro fuel
  induction fuel with
  | zero =>
    intro listed a w hsz hcnt hclo hr
    have hall0 : ∀ j, j < l.length → listed.getD j true = true := by
      intro j hj
      cases hb : listed.getD j true with
      | true => rfl
      | false =>
        have : j ∈ (List.range l.length).filter fun i => !listed.getD i true := List.mem_filter.2 ⟨List.mem_range.2 hj, by rw [hb]; rfl⟩
        rw [List.eq_nil_of_length_eq_zero (Nat.le_zero.1 hcnt)] at this
        cases this
    have hall : ∀ j, j < l.length → listed.getD j false = true := fun j hj => by
      have := hall0 j hj
      rw [Array.getD_eq_getD_getElem?, Array.getElem?_eq_getElem (by omega)] at this ⊢
      simpa using this
    have hnil : Region.ready .any l.toArray listed = [] := by
      rw [List.eq_nil_iff_forall_not_mem]
      intro j hj
      obtain ⟨h1, o, ho, _⟩ := mem_ready.1 hj
      have hj' : j < l.length := by
        have := (Array.getElem?_eq_some_iff.1 ho).1
        simpa using this
      rw [hall0 j hj'] at h1
      cases h1
    exact ⟨hnil, k a w (by rw [← hfin listed hall]; exact hr)⟩
  | succ fuel ih =>
    intro listed a w hsz hcnt hclo hr
    refine ⟨fun hnil => ?_, fun j hj => ?_⟩
    · have hall : ∀ j, j < l.length → listed.getD j false = true := by
        intro j
        induction j using Nat.strongRecOn with
        | _ j ihj =>
          intro hjl
          cases hb : listed.getD j false with
          | true => rfl
          | false =>
            exfalso
            have hmem : j ∈ Region.ready .any l.toArray listed := by
              refine mem_ready.2 ⟨?_, l[j], by simp [hjl], fun e he hbd => ?_⟩
              · rw [Array.getD_eq_getD_getElem?, Array.getElem?_eq_getElem (by omega)] at hb ⊢
                simpa using hb
              · have := hg.edge j l[j] (List.getElem?_eq_getElem hjl) e he hbd
                exact ihj e.on this (by omega)
            rw [hnil] at hmem
            cases hmem
      exact k a w (by rw [← hfin listed hall]; exact hr)
    · obtain ⟨hun, o, ho', hedges⟩ := mem_ready.1 hj
      have ho : l[j]? = some o := by simpa using ho'
      have hjl : j < l.length := (List.getElem?_eq_some_iff.1 ho).1
      have hjI : j < I.length := by rw [← hg.len]; exact hjl
      have hi : I[j]? = some I[j] := List.getElem?_eq_getElem hjI
      generalize hii : I[j] = i at hi
      have hunf : ¬ listed.getD j false = true := by
        rw [Array.getD_eq_getD_getElem?, Array.getElem?_eq_getElem (by omega)] at hun ⊢
        simpa using hun
      have hset : ∀ x, (listed.setIfInBounds j true).getD x false = true ↔ x = j ∨ listed.getD x false = true := by
        intro x
        by_cases hxj : x = j
        · subst hxj
          simp [Array.getD_eq_getD_getElem?, show x < listed.size by omega]
        · rw [getD_set_ne false (Ne.symm hxj)]
          simp [hxj]
      have hanc : ∀ x ∈ (ancs l []).getD j [], listed.getD x false = true := by
        intro x hx
        have h1 := ancs_at l [] j o ho
        simp only [List.length_nil, Nat.zero_add] at h1
        rw [h1] at hx
        obtain ⟨e, he, hb, hx⟩ := mem_ancOf.1 hx
        have hej := hg.edge j o ho e he hb
        have h2 := hedges e he hb
        rcases hx with rfl | hx
        · exact h2
        · have h3 : ((ancs l []).take j).getD e.on [] = (ancs l []).getD e.on [] := by
            rw [List.getD_eq_getElem?_getD, List.getD_eq_getElem?_getD, List.getElem?_take, if_pos hej]
          rw [h3] at hx
          exact hclo e.on h2 x hx
      have hstep := hst j o i ho hi (fun x => listed.getD x false = true) hunf hanc hclo
      have hnext := envJ_next (env0 := keep e0) hg hi (D := fun x => listed.getD x false = true) (D' := fun x => (listed.setIfInBounds j true).getD x false = true) hunf hset hclo
      have hgo : ∀ a' w', C.R (i.upd (envJ (keep e0) I (fun x => listed.getD x false = true))) a' w' → wpAny C.P .any l.toArray Q fuel (listed.setIfInBounds j true) a' w' := by
        intro a' w' hr'
        refine ih (listed.setIfInBounds j true) a' w' (by simp [hsz]) ?_ ?_ (by rw [← hnext]; exact hr')
        · have hsub : ((List.range l.length).filter fun x => !(listed.setIfInBounds j true).getD x true).length < ((List.range l.length).filter fun x => !listed.getD x true).length := by
            have e1 : ((List.range l.length).filter fun x => !(listed.setIfInBounds j true).getD x true) = ((List.range l.length).filter fun x => !listed.getD x true).filter fun x => !(x == j) := by
              rw [List.filter_filter]
              apply List.filter_congr
              intro x hx
              by_cases hxj : x = j
              · subst hxj
                simp [Array.getD_eq_getD_getElem?, show x < listed.size by omega]
              · rw [getD_set_ne true (Ne.symm hxj)]
                simp [hxj]
            rw [e1]
            refine List.length_filter_lt_length_iff_exists.2 ⟨j, List.mem_filter.2 ⟨List.mem_range.2 hjl, by rw [hun]; rfl⟩, by simp⟩
          omega
        · intro x hx y hy
          rcases (hset x).1 hx with rfl | h
          · exact (hset y).2 (.inr (hanc y hy))
          · exact (hset y).2 (.inr (hclo x h y hy))
      unfold wpOp
      simp only [ho']
      rcases hstep with ⟨jg, want, tg, dg, Ag, hgd, hgt, hgb, hgl, hps, hout, hdst, hok⟩ | ⟨hgd, hstep⟩
      · have h1 : Region.wanted o (yielded l.toArray a.tmps) = false := by
          rcases hgb with hgb | hgb
          · rw [wanted_of (C := C) (ops := l.toArray) hgd hgt hgb hgl hr]; cases want <;> rfl
          · exact wanted_no (C := C) (ops := l.toArray) hgd hgt hgb hgl hr
        rw [if_neg (by rw [h1]; simp)]
        rw [hdst]
        obtain ⟨s, F, hr'⟩ := hr
        refine hgo _ _ ?_
        have hup : ∀ env : Env, i.upd env = upd env dg Ag := fun env => by
          unfold DJ.upd DJ.at
          rw [hps, ← updRes_one]
          rfl
        rw [hup]
        rcases hout with rfl | rfl
        · exact hr'.put0 hok.1 (Nat.lt_of_lt_of_le hok.1 C.hN) hok.2 (fun b hb => hb)
        · exact hr'.put0 hok.1 (Nat.lt_of_lt_of_le hok.1 C.hN) hok.2 ⟨rfl, fun b hb => hb⟩
      · have hw : Region.wanted o (yielded l.toArray a.tmps) = true := by
          rcases hgd with hgd | ⟨jg, want, tg, b, hgd, hgt, hgb, hgl, hbw⟩
          · simp [Region.wanted, hgd]
          · have h1 := wanted_of (C := C) (ops := l.toArray) hgd hgt hgb hgl hr
            rw [h1, hbw]; simp
        rw [if_pos hw]
        exact .inl (hstep Q _ a w hr hgo)
theorem AW.draws {id : Nat} {e0 : List (Nat × As)} {I : List DJ} (hm : C.P.follows .mixedOrders = true) (hst : ∀ j o i, l[j]? = some o → I[j]? = some i → ∀ D : Nat → Prop, ¬ D j → (∀ x ∈ (ancs l []).getD j [], D x) → (∀ x, D x → ∀ y ∈ (ancs l []).getD x [], D y) → DStA C l.toArray (envJ (keep e0) I D) o i) (hok : DGj l I) (hcl : cleanj e0 I = true) (k : AX C .normal (envTj (keep e0) I) Q) :
    AW C (.region id l.toArray true) (keep e0) Q := by
  intro a w hr
  refine wp_region_any hm ?_
  obtain ⟨s, F, hr'⟩ := hr
  refine draws_go hok hcl hst k l.toArray.size (Array.replicate l.toArray.size false) a { w with drawn := w.drawn + 1 } (by simp) ?_ ?_ ?_
  · exact Nat.le_trans (List.length_filter_le _ _) (by simp)
  · intro i hi
    exfalso
    rw [Array.getD_eq_getD_getElem?, Array.getElem?_replicate] at hi
    split at hi <;> simp at hi
  · have he : envJ (keep e0) I (fun x => (Array.replicate l.toArray.size false).getD x false = true) = keep e0 := by
      funext t
      have hno : ∀ x, ¬ (Array.replicate l.toArray.size false).getD x false = true := fun x hi => by
        rw [Array.getD_eq_getD_getElem?, Array.getElem?_replicate] at hi
        split at hi <;> simp at hi
      have : ∀ (J : List DJ) (k : Nat) (B : As), valJ J k (fun x => (Array.replicate l.toArray.size false).getD x false = true) t B = B := by
        intro J
        induction J with
        | nil => intro k B; rfl
        | cons i J ih => intro k B; unfold valJ; rw [if_neg (hno k)]; exact ih _ _
      exact this I 0 _
    rw [he]
    exact ⟨s, F, hr'.dfr, hr'.size, fun t => As.holds_frame (hr'.slot t) (fun b _ => rfl), hr'.disj, hr'.mine, hr'.fz, ⟨hr'.keep.os, hr'.keep.tape, hr'.keep.output, hr'.keep.size, hr'.keep.block, fun hon => Nat.le_trans (hr'.keep.drn hon) (Nat.le_add_right _ _)⟩, hr'.pin, hr'.ext, hr'.new⟩
theorem valJ_two {O1 O2 : OSh} {D : Nat → Prop} (ht : t < 10000) : ∀ (I : List DJ) (k : Nat) (B : As), (B = .deep O1 ∨ B = .deep O2) → (∀ x y, I[x]? = some y → D (k + x) → (∀ p ∈ y.ps, p.slot < 10000) ∧ (y.has t = false ∨ ∀ B, y.at t B = .deep O2)) → (valJ I k D t B = .deep O1 ∨ valJ I k D t B = .deep O2)
  | [], _, _, h, _ => h
  | i :: I, k, B, h, hI => by
    unfold valJ
    refine valJ_two ht I (k + 1) _ ?_ (fun x y hy hd => hI (x + 1) y (by simpa using hy) (by rw [show k + (x + 1) = k + 1 + x by omega]; exact hd))
    by_cases hd : D k
    · rw [if_pos hd]
      obtain ⟨h1, h2⟩ := hI 0 i rfl hd
      rcases h2 with h2 | h2
      · rw [i.at_same h1 (by rw [Nat.mod_eq_of_lt ht]; exact h2) (fun s _ => by rcases h with rfl | rfl <;> rfl)]
        exact h
      · exact .inr (h2 B)
    · rw [if_neg hd]; exact h
theorem envTj_app (e0 : Env) (I1 I2 : List DJ) : envTj e0 (I1 ++ I2) = envTj (envTj e0 I1) I2 := by unfold envTj; rw [List.foldl_append]
def softB (an : List Nat) (t n m : Nat) (I : List DJ) : Bool := I.zipIdx.all fun y => !(y.1.has t) || Nat.beq y.2 m || Nat.testBit (an.getD y.2 0) n
theorem dhs {id : Nat} (n t m : Nat) (an : List Nat) (dps : List (Nat × Nat)) {o0 : Oper} {O1 O2 : OSh} (hm : C.P.follows .mixedOrders = true) (ho : l[n]? = some o0) (ht0 : keep e t = .deep O1) (htl : t < 10000)
    (h : DH C l.toArray e (l.take n) (fun e1 I1 => ∃ d A nds, (o0.guard.isNone && nd d e1) = true ∧ (∀ env', (∀ u ∈ nds, env' u = keep e1 u) → (env' t = .deep O1 ∨ env' t = .deep O2) → OpT C o0 env' (upd env' d A)) ∧
      DH C l.toArray ((d, A) :: e1) (l.drop (n + 1)) (fun e' I2 => (dOKm an dps l (I1 ++ (⟨[.res d [A]], nds⟩ : DJ) :: I2) = true ∧ cleanj e (I1 ++ (⟨[.res d [A]], nds⟩ : DJ) :: I2) = true ∧ softB an t n m (I1 ++ (⟨[.res d [A]], nds⟩ : DJ) :: I2) = true) ∧
        (∃ y, (I1 ++ (⟨[.res d [A]], nds⟩ : DJ) :: I2)[m]? = some y ∧ ∀ B, y.at t B = .deep O2) ∧ AX C .normal (keep e') Q))) : AW C (.region id l.toArray true) (keep e) Q := by
  obtain ⟨I1, e1, h1, d, A, nds, hgn, hop, I2, e', h2, ⟨hd, hcl, hs⟩, ⟨y0, hy0, hyB⟩, hk⟩ := h
  rw [Bool.and_eq_true] at hgn
  obtain ⟨g1, g2, g3⟩ := h1.get
  obtain ⟨k1, k2, k3⟩ := h2.get
  have hg := dOKm_good hd
  have hnl : n < l.length := (List.getElem?_eq_some_iff.1 ho).1
  have hI1 : I1.length = n := by rw [← g2, List.length_take]; omega
  have hl : l = l.take n ++ o0 :: l.drop (n + 1) := by
    have := List.getElem?_eq_some_iff.1 ho
    obtain ⟨h3, h4⟩ := this
    rw [← h4, ← List.drop_eq_getElem_cons h3, List.take_append_drop]
  generalize hi0 : (⟨[.res d [A]], nds⟩ : DJ) = i0 at *
  have hupd : ∀ env : Env, i0.upd env = upd env d A := fun env => by rw [← hi0]; exact upd_res1 ..
  have hend : keep e' = envTj (keep e) (I1 ++ i0 :: I2) := by
    rw [envTj_app, k1]
    show envTj (keep ((d, A) :: e1)) I2 = envTj (i0.upd (envTj (keep e) I1)) I2
    rw [← g1, hupd, upd_nd hgn.2]
  have hchk : chkE an 0 l = true := by
    have h9 := hd
    unfold dOKm at h9
    simp only [Bool.and_eq_true] at h9
    exact h9.1.1.1.2
  rw [hend] at hk
  refine AW.draws hm ?_ hg hcl hk
  intro j o i hoj hij D hDj hanc hclo
  have hun : ∀ x, D x → j ∉ (ancs l []).getD x [] := fun x hx h => hDj (hclo x hx j h)
  have hneed : ∀ u ∈ i.nd, envJ (keep e) (I1 ++ i0 :: I2) D u = envTj (keep e) ((I1 ++ i0 :: I2).take j) u := by
    intro u hu
    have hjl : j < l.length := (List.getElem?_eq_some_iff.1 hoj).1
    rw [envTj_take hg j (by omega), envJ_need hg hcl hij hu hDj hanc hun]
    refine (envJ_need hg hcl hij hu (D := fun x => x < j) (Nat.lt_irrefl j) (fun x hx => anc_ltj hg j o hoj x hx) (fun x hx h => ?_)).symm
    have h1 := anc_ltj hg x l[x] (List.getElem?_eq_getElem (by omega)) j h
    omega
  rcases Nat.lt_trichotomy j n with hj | hj | hj
  · have e1 : (I1 ++ i0 :: I2).take j = I1.take j := by rw [List.take_append_of_le_length (by omega)]
    rw [e1] at hneed
    refine (g3 j o i ?_ ?_).at hneed
    · rw [List.getElem?_take_of_lt hj]; exact hoj
    · rw [List.getElem?_append_left (by omega)] at hij; exact hij
  · subst hj
    rw [ho] at hoj
    obtain rfl := Option.some.inj hoj
    rw [List.getElem?_append_right (by omega), hI1, Nat.sub_self] at hij
    obtain rfl : i0 = i := by simpa using hij
    have e1' : (I1 ++ i0 :: I2).take j = I1 := by rw [← hI1]; simp
    rw [e1', ← g1] at hneed
    refine .inr ⟨.inl (by simpa using hgn.1), ?_⟩
    rw [hupd]
    have hnd : i0.nd = nds := by rw [← hi0]
    refine hop _ (fun u hu => hneed u (by rw [hnd]; exact hu)) ?_
    refine valJ_two htl _ 0 _ (.inl ht0) (fun x y hy hdx => ⟨hg.lt y (List.mem_of_getElem? hy), ?_⟩)
    rw [Nat.zero_add] at hdx
    unfold softB at hs
    have h9 := List.all_eq_true.1 hs (y, x) (mem_zip hy)
    simp only [Bool.or_eq_true, Bool.not_eq_true'] at h9
    rcases h9 with (h9 | h9) | h9
    · exact .inl h9
    · have := Nat.eq_of_beq_eq_true h9
      subst this
      rw [hy] at hy0
      rw [Option.some.inj hy0]
      exact .inr hyB
    · exfalso
      have hxl : x < l.length := by rw [hg.len]; exact (List.getElem?_eq_some_iff.1 hy).1
      exact hun x hdx ((anc_bit hchk x l[x] (List.getElem?_eq_getElem hxl) _).1 h9)
  · obtain ⟨q, rfl⟩ : ∃ q, j = n + 1 + q := ⟨j - (n + 1), by omega⟩
    have e2 : (I1 ++ i0 :: I2).take (n + 1 + q) = I1 ++ i0 :: I2.take q := by
      rw [List.take_append, List.take_of_length_le (by omega), hI1, show n + 1 + q - n = q + 1 by omega, List.take_succ_cons]
    have e3 : envTj (keep e) (I1 ++ i0 :: I2.take q) = envTj (keep ((d, A) :: e1)) (I2.take q) := by
      rw [envTj_app]
      show envTj (i0.upd (envTj (keep e) I1)) (I2.take q) = _
      rw [← g1, hupd, upd_nd hgn.2]
    rw [e2, e3] at hneed
    refine (k3 q o i ?_ ?_).at hneed
    · rw [List.getElem?_drop]; exact hoj
    · rw [List.getElem?_append_right (by omega), hI1, show n + 1 + q - n = q + 1 by omega] at hij
      simpa using hij
end
section
variable {C : Cx} {env env' : Env} {o : Oper} {p q : Operand} {d t : Nat} {T K V E : TypeId} {l : List DPar} {k : Int × Int}
theorem findP_app : ∀ {l : List DPar}, findP l k = none → ∀ r, findP (l ++ r) k = (findP r k).map fun q => (l.length + q.1, q.2)
  | [], _, r => by
    show findP r k = _
    cases findP r k with
    | none => rfl
    | some q => simp
  | p :: l, h, r => by
    rw [findP] at h
    split at h
    · cases h
    · rename_i hn
      have h' : findP l k = none := by
        cases hl : findP l k with
        | none => rfl
        | some q => rw [hl] at h; cases h
      rw [List.cons_append, findP, if_neg hn, findP_app h' r, Option.map_map]
      congr 1
      funext q
      simp; omega
theorem gtP_ent (l : List DPar) (k : Int × Int) : (gtP (entP l k) k).getD 0 = (gtP l k).getD 0 := by
  unfold entP
  cases h : findP l k with
  | some q => rfl
  | none => simp [gtP, h, findP_app h, findP]
theorem OpT.pGet2 (hH : Hd C o (.lookup T p q false) d) (hp : Root C env p t) (hq : Opd C env q (.agg kPP k)) (hk : PKey C.P T K V E) (ht : env t = .deep (OSh.pmap l) ∨ env t = .deep (OSh.pmap (entP l k))) :
    OpT C o env (upd env d (.cel (Kd.int .i64) ((gtP l k).getD 0))) := by
  rcases ht with ht | ht
  · exact OpT.pGet hH hp ht hq hk
  · rw [← gtP_ent]
    exact OpT.pGet hH hp ht hq hk
end
end Go.Proofs.YtkgboidjghcegaaGreatDoor.VL
