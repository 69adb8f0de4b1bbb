/- Proved here: what some functions of the program take and give: walks with the words of VA..VQ. Printed by program. -/
import Derived.Test.YtkgboidjghcegaaGreatDoorWT
import Derived.Test.YtkgboidjghcegaaGreatDoorBpa
import Derived.Test.YtkgboidjghcegaaGreatDoorWK
import Derived.Test.YtkgboidjghcegaaGreatDoorWD
set_option linter.unusedVariables false
set_option linter.unusedSimpArgs false
set_option maxRecDepth 4000
namespace Go.Proofs.YtkgboidjghcegaaGreatDoor.VL
open Go
/-- impl.Card] -/
theorem c_slices_IndexFunc_impl_Card_impl_Card {γ : Type} {g : FuncId} {kg : Kd γ} {y : γ} {cs : List As} (q : (ByteArray × (BitVec 64 × BitVec 64)) → Bool) (hcs : CloArgs kg y cs) (hg : ∀ a, AC Tryz.prog g ([.agg kCard a] ++ cs) [.cel Kd.bool (q a)] []) (x : List (ByteArray × (BitVec 64 × BitVec 64))) : AC Tryz.prog 117 [.cel (Kd.slice kCard) x, .clo g kg y] [.cel (Kd.int .i64) (idxQ q x)] [] := by
 refine acI (N := 19) Tryz.func117 (Nat.le_of_ble_eq_true rfl) rfl fun w0 hd s0 ar => ?_
 refine AW.to (kc 0 rfl <| Kc 1 (.clo _ _ _) rfl <| Kn) ?_
 refine AW.fact (fun a w hr => (ok_slice (R_ok (t := 0) rfl hr)).2) (fun hl0 => ?_)
 refine sr ?_
 refine st (asI rfl) rfl ?_
 refine ng ?_
 refine AW.seq ?_
 refine sr ?_
 refine st (mvT rfl) rfl ?_
 refine st (OpT.len (H rfl) (T1 rfl) el31) rfl ?_
 refine st (mvI rfl) rfl ?_
 refine ng ?_
 refine AW.block ?_
 refine AW.loop (fun z : Nat => z ≤ x.length ∧ ∀ i, i < z → nI q x i) (fun z : Nat => keep [(0, .cel (Kd.slice kCard) x), (1, .clo g kg y), (7, .cel (Kd.int .i64) ((x.length : Nat) : Int)), (8, .cel (Kd.int .i64) (z : Int))]) (fun z : Nat => x.length - z) (0) ⟨Nat.zero_le _, all_none⟩ (Kc 0 _ (Kv rfl rfl) <| Kc 1 _ (rfl) <| Kc 7 _ (Kv rfl rfl) <| Kc 8 _ (Kv rfl rfl) <| Kn) ?_
 intro z hI
 refine sr ?_
 refine st (OpT.lss (H rfl) (T1 rfl) (T1 rfl)) rfl ?_
 refine ng ?_
 refine AW.seq ?_
 refine cd rfl (fun hc1 => ?_) fun hc1 => ?_
 ·
  replace hc1 := oT hc1
  obtain ⟨a, ha⟩ := getI (x := x) (z := z) (by omega)
  refine AW.skip ?_
  refine AX.go ?_
  refine AW.seq ?_
  refine AW.block ?_
  refine sr ?_
  refine st (mvT rfl) rfl ?_
  refine st (asT rfl) rfl ?_
  refine ng ?_
  refine sr ?_
  refine st (OpT.move (A := .clo _ _ _) (.inl rfl) rfl (ok' rfl) (T1 rfl) rfl) rfl ?_
  refine st (mvT rfl) rfl ?_
  refine st (mvT rfl) rfl ?_
  refine st (OpT.indexAddr (H rfl) (T1 rfl) (T1 rfl) el31 sz86 (by omega) (by assumption)) rfl ?_
  refine st (OpT.loadA (H rfl) (T1 rfl) ag86 sz86) rfl ?_
  refine st (OpT.vg (ms := [.flat]) (T1 rfl) hcs ((hg _)) (H rfl) (Af (T1 rfl) rfl rfl <| An) rfl rfl) rfl ?_
  refine ng ?_
  refine cd rfl (fun hc2 => ?_) fun hc2 => ?_
  ·
   replace hc2 := oT hc2
   refine sr ?_
   refine st (mvT rfl) rfl ?_
   refine st (asT rfl) rfl ?_
   refine ng ?_
   refine AW.ret ?_
   refine rK <| rT <| rT <| rK <| rT ?_
   exact rt1 rfl (.inl rfl) (by first | exact idxQ_at hI.2 ha hc2 | exact idxQ_end hI.2 (by omega))
  ·
   replace hc2 := oF hc2
   refine AW.skip ?_
   refine AX.normal_block ?_
   refine AX.go ?_
   refine AW.region ?_
   refine st (OpT.add (H rfl) (T1 rfl) (I rfl) (nw (by omega))) rfl ?_
   refine st (mvT rfl) rfl ?_
   refine nn ?_
   exact AX.again (z + 1) ⟨by omega, all_step hI.2 ((nI_iff ha).2 (by simpa using hc2))⟩ (by omega) (Kc 0 _ (Kv rfl rfl) <| Kc 1 _ (rfl) <| Kc 7 _ (Kv rfl rfl) <| Kc 8 _ (Kv rfl (by omega)) <| Kn)
 ·
  replace hc1 := oF hc1
  refine AW.exit ?_
  refine xT <| xT <| AX.exit_hit ?_
  refine AX.go ?_
  refine sr ?_
  refine st (asI rfl) rfl ?_
  refine ng ?_
  refine AW.ret ?_
  exact rt1 rfl (.inl rfl) (by first | exact idxQ_at hI.2 ha hc2 | exact idxQ_end hI.2 (by omega))

/-- impl.Card] -/
theorem c_slices_ContainsFunc_impl_Card_impl_Card {γ : Type} {g : FuncId} {kg : Kd γ} {y : γ} {cs : List As} (q : (ByteArray × (BitVec 64 × BitVec 64)) → Bool) (hcs : CloArgs kg y cs) (hg : ∀ a, AC Tryz.prog g ([.agg kCard a] ++ cs) [.cel Kd.bool (q a)] []) (x : List (ByteArray × (BitVec 64 × BitVec 64))) : AC Tryz.prog 88 [.cel (Kd.slice kCard) x, .clo g kg y] [.cel Kd.bool (x.any q)] [] := by
 refine acI (N := 9) Tryz.func88 (Nat.le_of_ble_eq_true rfl) rfl fun w0 hd s0 ar => ?_
 refine AW.to (kc 0 rfl <| Kc 1 (.clo _ _ _) rfl <| Kn) ?_
 refine sr ?_
 refine st (asB rfl) rfl ?_
 refine ng ?_
 refine sr ?_
 refine st (mvT rfl) rfl ?_
 refine st (OpT.move (A := .clo _ _ _) (.inl rfl) rfl (ok' rfl) (T1 rfl) rfl) rfl ?_
 refine st (OpT.c1 (ms := [.flat, .flat]) (c_slices_IndexFunc_impl_Card_impl_Card q hcs hg x) (H rfl) (Af (T1 rfl) rfl rfl <| Af (T1 rfl) rfl rfl <| An) rfl rfl) rfl ?_
 refine st (OpT.geq (H rfl) (T1 rfl) (I rfl)) rfl ?_
 refine st (asT rfl) rfl ?_
 refine ng ?_
 refine AW.ret ?_
 exact rt1 rfl (.inl rfl) idxQ_any

end Go.Proofs.YtkgboidjghcegaaGreatDoor.VL
