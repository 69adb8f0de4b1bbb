/- Proved here: what some functions of the program take and give: walks with the words of VA..VQ. Printed by program. -/
import Derived.Test.YtlhfmcbmlmhgaaaGreatDoorWT
import Derived.Test.YtlhfmcbmlmhgaaaGreatDoorPZV
import Derived.Test.YtlhfmcbmlmhgaaaGreatDoorWPS
import Derived.Test.YtlhfmcbmlmhgaaaGreatDoorWTM
import Derived.Test.YtlhfmcbmlmhgaaaGreatDoorWLH
import Derived.Test.YtlhfmcbmlmhgaaaGreatDoorWPA
import Derived.Test.YtlhfmcbmlmhgaaaGreatDoorWLT
import Derived.Test.YtlhfmcbmlmhgaaaGreatDoorWL
import Derived.Test.YtlhfmcbmlmhgaaaGreatDoorWMA
import Derived.Test.YtlhfmcbmlmhgaaaGreatDoorWD
import Derived.Test.YtlhfmcbmlmhgaaaGreatDoorWN
import Derived.Test.YtlhfmcbmlmhgaaaGreatDoorWZ
import Derived.Test.YtlhfmcbmlmhgaaaGreatDoorWY
set_option linter.unusedVariables false
set_option linter.unusedSimpArgs false
set_option maxRecDepth 4000
namespace Go.Proofs.YtlhfmcbmlmhgaaaGreatDoor.VL
open Go
set_option maxHeartbeats 40000000 in
theorem c_laws_FnTopOfAll (s : List DField) (n : ByteArray) (vs : List Int) (x : List DCard) (f : DField) (v : Int) (o : List DCard) : AC Tryz.prog 3 [.cel (Kd.slice kField) s, .cel Kd.str n, .cel (Kd.slice (Kd.int .i64)) vs, .cel (Kd.slice kCard) x, .agg kField f, .cel (Kd.int .i64) v, .cel (Kd.slice kCard) o] [.cel Kd.bool true] [] := by
 refine acI (N := 432) Tryz.func3 (Nat.le_of_ble_eq_true rfl) rfl fun w0 hd s0 ar => ?_
 refine AW.to (kc4 0 1 2 3 rfl <| ka 4 rfl <| kc2 5 6 rfl <| Kn) ?_
 refine AW.fact (fun a w hr => (ok_slice (R_ok (t := 0) rfl hr)).2) (fun hl0 => ?_)
 refine AW.fact (fun a w hr => (ok_slice (R_ok (t := 2) rfl hr)).2) (fun hl2 => ?_)
 refine AW.fact (fun a w hr => (ok_slice (R_ok (t := 3) rfl hr)).2) (fun hl3 => ?_)
 refine AW.fact (fun a w hr => (ok_slice (R_ok (t := 6) rfl hr)).2) (fun hl6 => ?_)
 refine sr ?_
 refine st (OpT.frz (OpT.boxA (E := 28) (H rfl) (T1 rfl))) rfl ?_
 refine st (asB rfl) rfl ?_
 refine ng ?_
 refine sr ?_
 refine st (mvT rfl) rfl ?_
 refine st (mvT rfl) rfl ?_
 refine st (mvT rfl) rfl ?_
 refine s2 (OpT.c2 (ms := [.flat, .flat, .flat]) (c_impl_MakeCard _ _ _) (H rfl) (Af (T1 rfl) rfl rfl <| Af (T1 rfl) rfl rfl <| Af (T1 rfl) rfl rfl <| An) rfl rfl rfl) rfl ?_
 refine st (OpT.alias (H rfl) (by decide) (by decide)) rfl ?_
 refine st (OpT.extractV (m := 10076) (H rfl) rfl rfl rfl rfl rfl rfl rfl) rfl ?_
 refine st (OpT.extractV (m := 20076) (H rfl) rfl rfl rfl rfl rfl rfl rfl) rfl ?_
 refine st (OpT.alloc (H rfl) zr33 zk33) rfl ?_
 refine sk (OpT.storeBA rfl rfl (Opd.whole (Root.self (t := 15) (by decide)) rfl) rfl sz33 (by decide) (T1 rfl)) rfl ?_
 refine st (asT rfl) rfl ?_
 refine ng ?_
 refine AW.seq ?_
 refine sr ?_
 refine st (mvT rfl) rfl ?_
 refine st (mvT rfl) rfl ?_
 refine st (mvT rfl) rfl ?_
 refine s2 (OpT.c2 (ms := [.flat, .flat, .flat]) (c_spec_MakeCard _ _ _) (H rfl) (Af (T1 rfl) rfl rfl <| Af (T1 rfl) rfl rfl <| Af (T1 rfl) rfl rfl <| An) rfl rfl rfl) rfl ?_
 refine st (OpT.alias (H rfl) (by decide) (by decide)) rfl ?_
 refine st (OpT.extractV (m := 10083) (H rfl) rfl rfl rfl rfl rfl rfl rfl) rfl ?_
 refine st (OpT.extractV (m := 20083) (H rfl) rfl rfl rfl rfl rfl rfl rfl) rfl ?_
 refine st (OpT.alloc (H rfl) zr33 zk33) rfl ?_
 refine sk (OpT.storeBA rfl rfl (Opd.whole (Root.self (t := 17) (by decide)) rfl) rfl sz33 (by decide) (T1 rfl)) rfl ?_
 refine st (asT rfl) rfl ?_
 refine AWl.to (kc 18 rfl <| kb 17 rfl <| kc 16 rfl <| kb 15 rfl <| kc4 14 11 0 2 rfl <| kc3 3 5 6 rfl <| Kn) ?_
 refine ng ?_
 refine sr ?_
 refine st (mvT rfl) rfl ?_
 refine st (mvT rfl) rfl ?_
 refine st (OpT.neq (H rfl) (T1 rfl) (T1 rfl)) rfl ?_
 refine st (mvT rfl) rfl ?_
 apply AWl.or (d := 97) (t := 89) rfl
 ·
  intro hb1 Q1 k1
  have hb1' := lF hb1
  refine rs hb1 (mvT rfl) rfl ?_
  refine rs hb1 (OpT.eql (H rfl) (T1 rfl) (I rfl)) rfl ?_
  refine rs hb1 (mvT rfl) rfl ?_
  apply AWl.and (d := 96) (t := 92) rfl
  ·
   intro hb2 Q1 k1
   have hb2' := lT hb2
   refine rs hb2 (OpT.loadB (H rfl) (Root.self (t := 15) (by decide)) rfl ag33 sz33) rfl ?_
   refine rs hb2 (OpT.loadB (H rfl) (Root.self (t := 17) (by decide)) rfl ag33 sz33) rfl ?_
   refine rs hb2 (OpT.neA (H rfl) (T1 rfl) (T1 rfl) eq33 ag33 rfl eg33) rfl ?_
   refine rs hb1 (OpT.pickT (A := .cel _ _) (H rfl) (T1 rfl) hb2 (T1 rfl) rfl) rfl ?_
   exact AWl.to (junk 3 rfl) k1
  ·
   intro hb2 Q1 k1
   refine ps hb2 rfl ?_
   refine ps hb2 rfl ?_
   refine ps hb2 rfl ?_
   refine rs hb1 (OpT.pickF (A := .cel _ _) (H rfl) (T1 rfl) hb2 Opd.bool rfl) rfl ?_
   exact k1
  refine st (OpT.pickF (A := .cel _ _) (H rfl) (T1 rfl) hb1 (T1 rfl) rfl) rfl ?_
  exact AWl.to (junk 4 rfl) k1
 ·
  intro hb1 Q1 k1
  refine ps hb1 rfl ?_
  refine ps hb1 rfl ?_
  refine AWl.pasv rfl rfl rfl rfl hb1 rfl (ok' rfl) rfl ?_
  refine AWl.pasu rfl rfl rfl rfl rfl (ok' rfl) rfl ?_
  refine AWl.pasu rfl rfl rfl rfl rfl (ok' rfl) rfl ?_
  refine AWl.pasu rfl rfl rfl rfl rfl (ok' rfl) rfl ?_
  refine ps hb1 rfl ?_
  refine st (OpT.pickT (A := .cel _ _) (H rfl) (T1 rfl) hb1 Opd.bool rfl) rfl ?_
  exact AWl.to (junk 4 rfl) k1
 refine ng ?_
 refine cd rfl (fun hc1 => ?_) fun hc1 => ?_
 ·
  obtain ⟨hc1, hc1'⟩ := pT hc1
  exact (show False from (by simp [eqv_self] at hc1)).elim
 ·
  obtain ⟨hc1, hc1'⟩ := pF hc1
  refine AW.skip ?_
  refine AX.go ?_
  refine AW.seqJ (e := [(3, .cel (Kd.slice kCard) x), (5, .cel (Kd.int .i64) v), (6, .cel (Kd.slice kCard) o), (11, .cel (Kd.ptr kField) f)]) ?_ ?_
  ·
   refine sr ?_
   refine st (mvT rfl) rfl ?_
   refine st (OpT.eql (H rfl) (T1 rfl) (I rfl)) rfl ?_
   refine ng ?_
   refine cd rfl (fun hc2 => ?_) fun hc2 => ?_
   ·
    obtain ⟨hc2, hc2'⟩ := pT hc2
    have hmz : (makeS s n vs).2 = 0 := by simpa using hc2
    have hmv := (make_vals hmz).1
    refine sr ?_
    refine st (mvT rfl) rfl ?_
    refine st (OpT.loadB (H rfl) (Root.self (t := 15) (by decide)) rfl ag33 sz33) rfl ?_
    refine s2 (OpT.c2 (ms := [.flat, .flat]) (c_impl_ValuesOf _ _) (H rfl) (Af (T1 rfl) rfl rfl <| Af (T1 rfl) rfl rfl <| An) rfl rfl rfl) rfl ?_
    refine st (OpT.alias (H rfl) (by decide) (by decide)) rfl ?_
    refine st (OpT.extractV (m := 10103) (H rfl) rfl rfl rfl rfl rfl rfl rfl) rfl ?_
    refine st (OpT.extractV (m := 20103) (H rfl) rfl rfl rfl rfl rfl rfl rfl) rfl ?_
    refine st (asT rfl) rfl ?_
    refine st (asT rfl) rfl ?_
    refine AWl.to (kc4 20 19 14 11 rfl <| kc4 2 3 5 6 rfl <| Kn) ?_
    refine ng ?_
    refine sr ?_
    refine st (mvT rfl) rfl ?_
    refine st (OpT.neq (H rfl) (T1 rfl) (I rfl)) rfl ?_
    refine st (mvT rfl) rfl ?_
    apply AWl.or (d := 113) (t := 108) rfl
    ·
     intro hb3 Q1 k1
     have hb3' := lF hb3
     refine rs hb3 (mvT rfl) rfl ?_
     refine rs hb3 (mvT rfl) rfl ?_
     refine rs hb3 (OpT.c1 (ms := [.flat, .flat]) (c_spec_A2Same _ _) (H rfl) (Af (T1 rfl) rfl rfl <| Af (T1 rfl) rfl rfl <| An) rfl rfl) rfl ?_
     refine rs hb3 (OpT.not (H rfl) (T1 rfl)) rfl ?_
     refine st (OpT.pickF (A := .cel _ _) (H rfl) (T1 rfl) hb3 (T1 rfl) rfl) rfl ?_
     exact AWl.to (junk 4 rfl) k1
    ·
     intro hb3 Q1 k1
     refine ps hb3 rfl ?_
     refine ps hb3 rfl ?_
     refine ps hb3 rfl ?_
     refine ps hb3 rfl ?_
     refine st (OpT.pickT (A := .cel _ _) (H rfl) (T1 rfl) hb3 Opd.bool rfl) rfl ?_
     exact k1
    refine ng ?_
    refine cd rfl (fun hc3 => ?_) fun hc3 => ?_
    ·
     obtain ⟨hc3, hc3'⟩ := pT hc3
     exact (show False from (by simp [hmv, eqv_self] at hc3)).elim
    ·
     obtain ⟨hc3, hc3'⟩ := pF hc3
     refine AW.skip ?_
     exact AX.join (kc4 3 5 6 11 rfl <| Kn)
   ·
    obtain ⟨hc2, hc2'⟩ := pF hc2
    refine AW.skip ?_
    exact AX.join (kc4 3 5 6 11 rfl <| Kn)
  ·
   refine sr ?_
   refine st (mvT rfl) rfl ?_
   refine st (OpT.loadA (H rfl) (T1 rfl) ag28 sz28) rfl ?_
   refine s2 (OpT.c2 (ms := [.flat, .flat]) (c_impl_SortDeck _ _) (H rfl) (Af (T1 rfl) rfl rfl <| Af (T1 rfl) rfl rfl <| An) rfl rfl rfl) rfl ?_
   refine st (OpT.alias (H rfl) (by decide) (by decide)) rfl ?_
   refine st (OpT.extractV (m := 10117) (H rfl) rfl rfl rfl rfl rfl rfl rfl) rfl ?_
   refine st (OpT.extractV (m := 20117) (H rfl) rfl rfl rfl rfl rfl rfl rfl) rfl ?_
   refine st (asT rfl) rfl ?_
   refine st (asT rfl) rfl ?_
   refine ng ?_
   refine sr ?_
   refine st (mvT rfl) rfl ?_
   refine st (OpT.loadA (H rfl) (T1 rfl) ag28 sz28) rfl ?_
   refine s2 (OpT.c2 (ms := [.flat, .flat]) (c_spec_SortDeck _ _) (H rfl) (Af (T1 rfl) rfl rfl <| Af (T1 rfl) rfl rfl <| An) rfl rfl rfl) rfl ?_
   refine st (OpT.alias (H rfl) (by decide) (by decide)) rfl ?_
   refine st (OpT.extractV (m := 10123) (H rfl) rfl rfl rfl rfl rfl rfl rfl) rfl ?_
   refine st (OpT.extractV (m := 20123) (H rfl) rfl rfl rfl rfl rfl rfl rfl) rfl ?_
   refine st (asT rfl) rfl ?_
   refine st (asT rfl) rfl ?_
   refine AWl.to (kc4 24 23 22 21 rfl <| kc4 3 5 6 11 rfl <| Kn) ?_
   refine ng ?_
   refine AW.seq ?_
   refine sr ?_
   refine st (mvT rfl) rfl ?_
   refine st (mvT rfl) rfl ?_
   refine st (OpT.neq (H rfl) (T1 rfl) (T1 rfl)) rfl ?_
   refine st (mvT rfl) rfl ?_
   apply AWl.or (d := 134) (t := 129) rfl
   ·
    intro hb4 Q1 k1
    have hb4' := lF hb4
    refine rs hb4 (mvT rfl) rfl ?_
    refine rs hb4 (mvT rfl) rfl ?_
    refine rs hb4 (OpT.c1 (ms := [.flat, .flat]) (c_spec_SameDeck _ _) (H rfl) (Af (T1 rfl) rfl rfl <| Af (T1 rfl) rfl rfl <| An) rfl rfl) rfl ?_
    refine rs hb4 (OpT.not (H rfl) (T1 rfl)) rfl ?_
    refine st (OpT.pickF (A := .cel _ _) (H rfl) (T1 rfl) hb4 (T1 rfl) rfl) rfl ?_
    exact AWl.to (junk 4 rfl) k1
   ·
    intro hb4 Q1 k1
    refine ps hb4 rfl ?_
    refine ps hb4 rfl ?_
    refine ps hb4 rfl ?_
    refine ps hb4 rfl ?_
    refine st (OpT.pickT (A := .cel _ _) (H rfl) (T1 rfl) hb4 Opd.bool rfl) rfl ?_
    exact k1
   refine ng ?_
   refine cd rfl (fun hc4 => ?_) fun hc4 => ?_
   ·
    obtain ⟨hc4, hc4'⟩ := pT hc4
    exact (show False from (by simp [eqv_self] at hc4)).elim
   ·
    obtain ⟨hc4, hc4'⟩ := pF hc4
    refine AW.skip ?_
    refine AX.go ?_
    refine AW.seqJ (e := [(3, .cel (Kd.slice kCard) x), (5, .cel (Kd.int .i64) v), (6, .cel (Kd.slice kCard) o), (11, .cel (Kd.ptr kField) f)]) ?_ ?_
    ·
     refine sr ?_
     refine st (mvT rfl) rfl ?_
     refine st (OpT.eql (H rfl) (T1 rfl) (I rfl)) rfl ?_
     refine ng ?_
     refine cd rfl (fun hc5 => ?_) fun hc5 => ?_
     ·
      obtain ⟨hc5, hc5'⟩ := pT hc5
      have hsz : (sortS x f).2 = 0 := by simpa using hc5
      obtain ⟨hxo, hfo, hso⟩ := sort_zero hsz
      obtain ⟨q1, q2, q3, q4⟩ := sort_law hxo hfo
      refine sr ?_
      refine st (mvT rfl) rfl ?_
      refine st (OpT.loadA (H rfl) (T1 rfl) ag28 sz28) rfl ?_
      refine s2 (OpT.c2 (ms := [.flat, .flat]) (c_impl_IsSorted _ _) (H rfl) (Af (T1 rfl) rfl rfl <| Af (T1 rfl) rfl rfl <| An) rfl rfl rfl) rfl ?_
      refine st (OpT.alias (H rfl) (by decide) (by decide)) rfl ?_
      refine st (OpT.extractV (m := 10140) (H rfl) rfl rfl rfl rfl rfl rfl rfl) rfl ?_
      refine st (OpT.extractV (m := 20140) (H rfl) rfl rfl rfl rfl rfl rfl rfl) rfl ?_
      refine st (asT rfl) rfl ?_
      refine st (asT rfl) rfl ?_
      refine AWl.to (kc4 26 25 21 3 rfl <| kc3 5 6 11 rfl <| Kn) ?_
      refine ng ?_
      refine sr ?_
      refine st (mvT rfl) rfl ?_
      refine st (mvT rfl) rfl ?_
      refine s2 (OpT.c2 (ms := [.flat, .flat]) (c_impl_SameCards _ _) (H rfl) (Af (T1 rfl) rfl rfl <| Af (T1 rfl) rfl rfl <| An) rfl rfl rfl) rfl ?_
      refine st (OpT.alias (H rfl) (by decide) (by decide)) rfl ?_
      refine st (OpT.extractV (m := 10146) (H rfl) rfl rfl rfl rfl rfl rfl rfl) rfl ?_
      refine st (OpT.extractV (m := 20146) (H rfl) rfl rfl rfl rfl rfl rfl rfl) rfl ?_
      refine st (asT rfl) rfl ?_
      refine st (asT rfl) rfl ?_
      refine ng ?_
      refine AW.seq ?_
      refine sr ?_
      refine st (mvT rfl) rfl ?_
      refine st (OpT.neq (H rfl) (T1 rfl) (I rfl)) rfl ?_
      refine st (mvT rfl) rfl ?_
      apply AWl.or (d := 154) (t := 151) rfl
      ·
       intro hb5 Q1 k1
       have hb5' := lF hb5
       refine rs hb5 (mvT rfl) rfl ?_
       refine rs hb5 (OpT.not (H rfl) (T1 rfl)) rfl ?_
       refine st (OpT.pickF (A := .cel _ _) (H rfl) (T1 rfl) hb5 (T1 rfl) rfl) rfl ?_
       exact AWl.to (junk 2 rfl) k1
      ·
       intro hb5 Q1 k1
       refine ps hb5 rfl ?_
       refine ps hb5 rfl ?_
       refine st (OpT.pickT (A := .cel _ _) (H rfl) (T1 rfl) hb5 Opd.bool rfl) rfl ?_
       exact k1
      refine st (mvT rfl) rfl ?_
      apply AWl.or (d := 158) (t := 155) rfl
      ·
       intro hb6 Q1 k1
       have hb6' := lF hb6
       refine rs hb6 (mvT rfl) rfl ?_
       refine rs hb6 (OpT.neq (H rfl) (T1 rfl) (I rfl)) rfl ?_
       refine st (OpT.pickF (A := .cel _ _) (H rfl) (T1 rfl) hb6 (T1 rfl) rfl) rfl ?_
       exact AWl.to (junk 2 rfl) k1
      ·
       intro hb6 Q1 k1
       refine ps hb6 rfl ?_
       refine ps hb6 rfl ?_
       refine st (OpT.pickT (A := .cel _ _) (H rfl) (T1 rfl) hb6 Opd.bool rfl) rfl ?_
       exact k1
      refine st (mvT rfl) rfl ?_
      apply AWl.or (d := 162) (t := 159) rfl
      ·
       intro hb7 Q1 k1
       have hb7' := lF hb7
       refine rs hb7 (mvT rfl) rfl ?_
       refine rs hb7 (OpT.not (H rfl) (T1 rfl)) rfl ?_
       refine st (OpT.pickF (A := .cel _ _) (H rfl) (T1 rfl) hb7 (T1 rfl) rfl) rfl ?_
       exact AWl.to (junk 2 rfl) k1
      ·
       intro hb7 Q1 k1
       refine ps hb7 rfl ?_
       refine ps hb7 rfl ?_
       refine st (OpT.pickT (A := .cel _ _) (H rfl) (T1 rfl) hb7 Opd.bool rfl) rfl ?_
       exact k1
      refine AWl.to (kc4 162 21 3 5 rfl <| kc2 6 11 rfl <| Kn) ?_
      refine ng ?_
      refine cd rfl (fun hc6 => ?_) fun hc6 => ?_
      ·
       obtain ⟨hc6, hc6'⟩ := pT hc6
       exact (show False from (by simp [hso, q1, q2] at hc6)).elim
      ·
       obtain ⟨hc6, hc6'⟩ := pF hc6
       refine AW.skip ?_
       refine AX.go ?_
       refine sr ?_
       refine st (asI rfl) rfl ?_
       refine ng ?_
       refine AW.block ?_
       refine AW.loop (fun i : Nat => 1 ≤ i ∧ True) (fun i : Nat => keep [(3, .cel (Kd.slice kCard) x), (5, .cel (Kd.int .i64) v), (6, .cel (Kd.slice kCard) o), (11, .cel (Kd.ptr kField) f), (21, .cel (Kd.slice kCard) (sortS x f).1), (29, .cel (Kd.int .i64) (i : Int))]) (fun i : Nat => (sortS x f).1.length - i) (1) ⟨Nat.le_refl _, trivial⟩ (Kc 3 _ (Kv rfl rfl) <| Kc 5 _ (Kv rfl rfl) <| Kc 6 _ (Kv rfl rfl) <| Kc 11 _ (Kv rfl rfl) <| Kc 21 _ (Kv rfl rfl) <| Kc 29 _ (Kv rfl (by omega)) <| Kn) ?_
       intro i hI
       have hsl : (sortS x f).1.length ≤ 80 := by (have h70 := hxo.1; rw [hso]; show (manyP x (sortH f)).length ≤ 80; omega)
       refine AW.seq ?_
       refine sr ?_
       refine st (mvT rfl) rfl ?_
       refine st (mvT rfl) rfl ?_
       refine st (OpT.len (H rfl) (T1 rfl) el24) rfl ?_
       refine st (OpT.lss (H rfl) (T1 rfl) (T1 rfl)) rfl ?_
       refine ng ?_
       refine cd rfl (fun hc7 => ?_) fun hc7 => ?_
       ·
        obtain ⟨hc7, hc7'⟩ := pT hc7
        obtain ⟨cb, hcb⟩ := getI (x := (sortS x f).1) (z := i) (by omega)
        obtain ⟨ca, hca⟩ : ∃ c, (sortS x f).1[Int.toNat ((i : Int) - 1)]? = some c := ⟨_, List.getElem?_eq_getElem (by omega)⟩
        obtain ⟨m1, m2, m3, m4, m5⟩ := sort_pair hxo hfo hI.1 (by rw [hso] at hca; exact hca) (by rw [hso] at hcb; exact hcb)
        refine AW.skip ?_
        refine AX.go ?_
        refine AW.seq ?_
        refine AW.block ?_
        refine AW.seq ?_
        refine dh fomo ?_
        refine d1 [11] (fun ve h => OpT.loadA (H rfl) (D1 h rfl) ag28 sz28) rfl ?_
        refine d1 [21] (fun ve h => OpT.move (A := .cel _ _) (.inl rfl) rfl (ok' rfl) (D1 h rfl) rfl) rfl ?_
        refine d1 [29] (fun ve h => OpT.move (A := .cel _ _) (.inl rfl) rfl (ok' rfl) (D1 h rfl) rfl) rfl ?_
        refine d1 [172] (fun ve h => OpT.sub (H rfl) (D1 h rfl) (I rfl) (nw (by omega))) rfl ?_
        refine d1 [171, 173] (fun ve h => OpT.indexAddr (H rfl) (D1 h rfl) (D1 h rfl) el24 sz33 (by omega) hca) rfl ?_
        refine d1 [174] (fun ve h => OpT.fieldAddr (H rfl) (D1 h rfl) fd33_1 sz31 (by decide) sb33_1) rfl ?_
        refine d1 [175] (fun ve h => OpT.loadA (H rfl) (D1 h rfl) ag31 sz31) rfl ?_
        refine d2 [170, 176] (fun ve h => OpT.c2 (ms := [.flat, .flat]) (c_impl_KeyOf _ _) (H rfl) (Af (D1 h rfl) rfl rfl <| Af (D1 h rfl) rfl rfl <| An) rfl rfl rfl) rfl ?_
        refine d1 [] (fun ve h => OpT.alias (H rfl) (by decide) (by decide)) rfl ?_
        refine d1 [169, 10177] (fun ve h => OpT.extractV (m := 10177) (H rfl) ((h _ (List.elem_iff.1 rfl)).trans rfl) rfl rfl rfl ((h _ (List.elem_iff.1 rfl)).trans rfl) rfl rfl) rfl ?_
        refine d1 [169, 20177] (fun ve h => OpT.extractV (m := 20177) (H rfl) ((h _ (List.elem_iff.1 rfl)).trans rfl) rfl rfl rfl ((h _ (List.elem_iff.1 rfl)).trans rfl) rfl rfl) rfl ?_
        refine d1 [178] (fun ve h => OpT.move (A := .cel _ _) (.inr rfl) rfl (ok' rfl) (D1 h rfl) rfl) rfl ?_
        refine d1 [179] (fun ve h => OpT.move (A := .cel _ _) (.inr rfl) rfl (ok' rfl) (D1 h rfl) rfl) rfl ?_
        refine dn ⟨by kernel_rfl, by kernel_rfl, ?_⟩
        refine AX.go ?_
        refine AW.seq ?_
        refine dh fomo ?_
        refine d1 [11] (fun ve h => OpT.loadA (H rfl) (D1 h rfl) ag28 sz28) rfl ?_
        refine d1 [21] (fun ve h => OpT.move (A := .cel _ _) (.inl rfl) rfl (ok' rfl) (D1 h rfl) rfl) rfl ?_
        refine d1 [29] (fun ve h => OpT.move (A := .cel _ _) (.inl rfl) rfl (ok' rfl) (D1 h rfl) rfl) rfl ?_
        refine d1 [182, 183] (fun ve h => OpT.indexAddr (H rfl) (D1 h rfl) (D1 h rfl) el24 sz33 (by omega) hcb) rfl ?_
        refine d1 [184] (fun ve h => OpT.fieldAddr (H rfl) (D1 h rfl) fd33_1 sz31 (by decide) sb33_1) rfl ?_
        refine d1 [185] (fun ve h => OpT.loadA (H rfl) (D1 h rfl) ag31 sz31) rfl ?_
        refine d2 [181, 186] (fun ve h => OpT.c2 (ms := [.flat, .flat]) (c_impl_KeyOf _ _) (H rfl) (Af (D1 h rfl) rfl rfl <| Af (D1 h rfl) rfl rfl <| An) rfl rfl rfl) rfl ?_
        refine d1 [] (fun ve h => OpT.alias (H rfl) (by decide) (by decide)) rfl ?_
        refine d1 [180, 10187] (fun ve h => OpT.extractV (m := 10187) (H rfl) ((h _ (List.elem_iff.1 rfl)).trans rfl) rfl rfl rfl ((h _ (List.elem_iff.1 rfl)).trans rfl) rfl rfl) rfl ?_
        refine d1 [180, 20187] (fun ve h => OpT.extractV (m := 20187) (H rfl) ((h _ (List.elem_iff.1 rfl)).trans rfl) rfl rfl rfl ((h _ (List.elem_iff.1 rfl)).trans rfl) rfl rfl) rfl ?_
        refine d1 [188] (fun ve h => OpT.move (A := .cel _ _) (.inr rfl) rfl (ok' rfl) (D1 h rfl) rfl) rfl ?_
        refine d1 [189] (fun ve h => OpT.move (A := .cel _ _) (.inr rfl) rfl (ok' rfl) (D1 h rfl) rfl) rfl ?_
        refine dn ⟨by kernel_rfl, by kernel_rfl, ?_⟩
        refine AX.go ?_
        refine sr ?_
        refine st (mvT rfl) rfl ?_
        refine st (mvT rfl) rfl ?_
        refine st (mvT rfl) rfl ?_
        refine st (OpT.sub (H rfl) (T1 rfl) (I rfl) (nw (by omega))) rfl ?_
        refine st (OpT.indexAddr (H rfl) (T1 rfl) (T1 rfl) el24 sz33 (by omega) hca) rfl ?_
        refine st (OpT.fieldAddr (H rfl) (T1 rfl) fd33_0 sz9 (by decide) sb33_0) rfl ?_
        refine st (OpT.load (H rfl) (T1 rfl) ag9 rfl) rfl ?_
        refine s2 (OpT.c2 (ms := [.flat, .flat]) (c_impl_FindCard _ _) (H rfl) (Af (T1 rfl) rfl rfl <| Af (T1 rfl) rfl rfl <| An) rfl rfl rfl) rfl ?_
        refine st (OpT.alias (H rfl) (by decide) (by decide)) rfl ?_
        refine st (OpT.extractV (m := 10198) (H rfl) rfl rfl rfl rfl rfl rfl rfl) rfl ?_
        refine st (OpT.extractV (m := 20198) (H rfl) rfl rfl rfl rfl rfl rfl rfl) rfl ?_
        refine st (asT rfl) rfl ?_
        refine st (asT rfl) rfl ?_
        refine ng ?_
        refine sr ?_
        refine st (mvT rfl) rfl ?_
        refine st (mvT rfl) rfl ?_
        refine st (mvT rfl) rfl ?_
        refine st (OpT.indexAddr (H rfl) (T1 rfl) (T1 rfl) el24 sz33 (by omega) hcb) rfl ?_
        refine st (OpT.fieldAddr (H rfl) (T1 rfl) fd33_0 sz9 (by decide) sb33_0) rfl ?_
        refine st (OpT.load (H rfl) (T1 rfl) ag9 rfl) rfl ?_
        refine s2 (OpT.c2 (ms := [.flat, .flat]) (c_impl_FindCard _ _) (H rfl) (Af (T1 rfl) rfl rfl <| Af (T1 rfl) rfl rfl <| An) rfl rfl rfl) rfl ?_
        refine st (OpT.alias (H rfl) (by decide) (by decide)) rfl ?_
        refine st (OpT.extractV (m := 10208) (H rfl) rfl rfl rfl rfl rfl rfl rfl) rfl ?_
        refine st (OpT.extractV (m := 20208) (H rfl) rfl rfl rfl rfl rfl rfl rfl) rfl ?_
        refine st (asT rfl) rfl ?_
        refine st (asT rfl) rfl ?_
        refine ng ?_
        refine sr ?_
        refine st (mvT rfl) rfl ?_
        refine st (OpT.neq (H rfl) (T1 rfl) (I rfl)) rfl ?_
        refine st (mvT rfl) rfl ?_
        apply AWl.or (d := 216) (t := 213) rfl
        ·
         intro hb8 Q1 k1
         have hb8' := lF hb8
         refine rs hb8 (mvT rfl) rfl ?_
         refine rs hb8 (OpT.neq (H rfl) (T1 rfl) (I rfl)) rfl ?_
         refine st (OpT.pickF (A := .cel _ _) (H rfl) (T1 rfl) hb8 (T1 rfl) rfl) rfl ?_
         exact AWl.to (junk 2 rfl) k1
        ·
         intro hb8 Q1 k1
         refine ps hb8 rfl ?_
         refine ps hb8 rfl ?_
         refine st (OpT.pickT (A := .cel _ _) (H rfl) (T1 rfl) hb8 Opd.bool rfl) rfl ?_
         exact k1
        refine st (mvT rfl) rfl ?_
        apply AWl.or (d := 220) (t := 217) rfl
        ·
         intro hb9 Q1 k1
         have hb9' := lF hb9
         refine rs hb9 (mvT rfl) rfl ?_
         refine rs hb9 (OpT.neq (H rfl) (T1 rfl) (I rfl)) rfl ?_
         refine st (OpT.pickF (A := .cel _ _) (H rfl) (T1 rfl) hb9 (T1 rfl) rfl) rfl ?_
         exact AWl.to (junk 2 rfl) k1
        ·
         intro hb9 Q1 k1
         refine ps hb9 rfl ?_
         refine ps hb9 rfl ?_
         refine st (OpT.pickT (A := .cel _ _) (H rfl) (T1 rfl) hb9 Opd.bool rfl) rfl ?_
         exact k1
        refine st (mvT rfl) rfl ?_
        apply AWl.or (d := 224) (t := 221) rfl
        ·
         intro hb10 Q1 k1
         have hb10' := lF hb10
         refine rs hb10 (mvT rfl) rfl ?_
         refine rs hb10 (OpT.neq (H rfl) (T1 rfl) (I rfl)) rfl ?_
         refine st (OpT.pickF (A := .cel _ _) (H rfl) (T1 rfl) hb10 (T1 rfl) rfl) rfl ?_
         exact AWl.to (junk 2 rfl) k1
        ·
         intro hb10 Q1 k1
         refine ps hb10 rfl ?_
         refine ps hb10 rfl ?_
         refine st (OpT.pickT (A := .cel _ _) (H rfl) (T1 rfl) hb10 Opd.bool rfl) rfl ?_
         exact k1
        refine st (mvT rfl) rfl ?_
        apply AWl.or (d := 229) (t := 225) rfl
        ·
         intro hb11 Q1 k1
         have hb11' := lF hb11
         refine rs hb11 (mvT rfl) rfl ?_
         refine rs hb11 (mvT rfl) rfl ?_
         refine rs hb11 (OpT.gtr (H rfl) (T1 rfl) (T1 rfl)) rfl ?_
         refine st (OpT.pickF (A := .cel _ _) (H rfl) (T1 rfl) hb11 (T1 rfl) rfl) rfl ?_
         exact AWl.to (junk 3 rfl) k1
        ·
         intro hb11 Q1 k1
         refine ps hb11 rfl ?_
         refine ps hb11 rfl ?_
         refine ps hb11 rfl ?_
         refine st (OpT.pickT (A := .cel _ _) (H rfl) (T1 rfl) hb11 Opd.bool rfl) rfl ?_
         exact k1
        refine st (mvT rfl) rfl ?_
        apply AWl.or (d := 239) (t := 230) rfl
        ·
         intro hb12 Q1 k1
         have hb12' := lF hb12
         refine rs hb12 (mvT rfl) rfl ?_
         refine rs hb12 (mvT rfl) rfl ?_
         refine rs hb12 (OpT.eql (H rfl) (T1 rfl) (T1 rfl)) rfl ?_
         refine rs hb12 (mvT rfl) rfl ?_
         apply AWl.and (d := 238) (t := 234) rfl
         ·
          intro hb13 Q1 k1
          have hb13' := lT hb13
          refine rs hb13 (mvT rfl) rfl ?_
          refine rs hb13 (mvT rfl) rfl ?_
          refine rs hb13 (OpT.geq (H rfl) (T1 rfl) (T1 rfl)) rfl ?_
          refine rs hb12 (OpT.pickT (A := .cel _ _) (H rfl) (T1 rfl) hb13 (T1 rfl) rfl) rfl ?_
          exact AWl.to (junk 3 rfl) k1
         ·
          intro hb13 Q1 k1
          refine ps hb13 rfl ?_
          refine ps hb13 rfl ?_
          refine ps hb13 rfl ?_
          refine rs hb12 (OpT.pickF (A := .cel _ _) (H rfl) (T1 rfl) hb13 Opd.bool rfl) rfl ?_
          exact k1
         refine st (OpT.pickF (A := .cel _ _) (H rfl) (T1 rfl) hb12 (T1 rfl) rfl) rfl ?_
         exact AWl.to (junk 5 rfl) k1
        ·
         intro hb12 Q1 k1
         refine ps hb12 rfl ?_
         refine ps hb12 rfl ?_
         refine ps hb12 rfl ?_
         refine AWl.pasv rfl rfl rfl rfl hb12 rfl (ok' rfl) rfl ?_
         refine AWl.pasu rfl rfl rfl rfl rfl (ok' rfl) rfl ?_
         refine AWl.pasu rfl rfl rfl rfl rfl (ok' rfl) rfl ?_
         refine AWl.pasu rfl rfl rfl rfl rfl (ok' rfl) rfl ?_
         refine ps hb12 rfl ?_
         refine st (OpT.pickT (A := .cel _ _) (H rfl) (T1 rfl) hb12 Opd.bool rfl) rfl ?_
         exact AWl.to (junk 4 rfl) k1
        refine ng ?_
        refine cd rfl (fun hc8 => ?_) fun hc8 => ?_
        ·
         obtain ⟨hc8, hc8'⟩ := pT hc8
         exact (show False from (by simp only [m1, m2, m3, m4] at hc8; simp only [bne_self_eq_false, Bool.false_or] at hc8; rw [m5] at hc8; cases hc8)).elim
        ·
         obtain ⟨hc8, hc8'⟩ := pF hc8
         refine AW.skip ?_
         refine AX.normal_block ?_
         refine AX.go ?_
         refine AW.region ?_
         refine st (mvT rfl) rfl ?_
         refine st (OpT.add (H rfl) (T1 rfl) (I rfl) (nw (by omega))) rfl ?_
         refine st (asT rfl) rfl ?_
         refine nn ?_
         exact AX.again (i + 1) ⟨by omega, trivial⟩ (by omega) (Kc 3 _ (Kv rfl rfl) <| Kc 5 _ (Kv rfl rfl) <| Kc 6 _ (Kv rfl rfl) <| Kc 11 _ (Kv rfl rfl) <| Kc 21 _ (Kv rfl rfl) <| Kc 29 _ (Kv rfl (by omega)) <| Kn)
       ·
        obtain ⟨hc7, hc7'⟩ := pF hc7
        refine AW.exit ?_
        refine xT <| xT <| AX.exit_hit ?_
        exact AX.join (kc4 3 5 6 11 rfl <| Kn)
     ·
      obtain ⟨hc5, hc5'⟩ := pF hc5
      refine AW.skip ?_
      exact AX.join (kc4 3 5 6 11 rfl <| Kn)
    ·
     refine sr ?_
     refine st (OpT.loadA (H rfl) (T1 rfl) ag28 sz28) rfl ?_
     refine st (mvT rfl) rfl ?_
     refine s2 (OpT.c2 (ms := [.flat, .flat]) (c_impl_QueryFor _ _) (H rfl) (Af (T1 rfl) rfl rfl <| Af (T1 rfl) rfl rfl <| An) rfl rfl rfl) rfl ?_
     refine st (OpT.alias (H rfl) (by decide) (by decide)) rfl ?_
     refine st (OpT.extractV (m := 10243) (H rfl) rfl rfl rfl rfl rfl rfl rfl) rfl ?_
     refine st (OpT.extractV (m := 20243) (H rfl) rfl rfl rfl rfl rfl rfl rfl) rfl ?_
     refine st (OpT.alloc (H rfl) zr49 zk49) rfl ?_
     refine sk (OpT.storeBA rfl rfl (Opd.whole (Root.self (t := 38) (by decide)) rfl) rfl sz49 (by decide) (T1 rfl)) rfl ?_
     refine st (asT rfl) rfl ?_
     refine ng ?_
     refine AW.seq ?_
     refine sr ?_
     refine st (OpT.loadA (H rfl) (T1 rfl) ag28 sz28) rfl ?_
     refine st (mvT rfl) rfl ?_
     refine s2 (OpT.c2 (ms := [.flat, .flat]) (c_spec_QueryFor _ _) (H rfl) (Af (T1 rfl) rfl rfl <| Af (T1 rfl) rfl rfl <| An) rfl rfl rfl) rfl ?_
     refine st (OpT.alias (H rfl) (by decide) (by decide)) rfl ?_
     refine st (OpT.extractV (m := 10249) (H rfl) rfl rfl rfl rfl rfl rfl rfl) rfl ?_
     refine st (OpT.extractV (m := 20249) (H rfl) rfl rfl rfl rfl rfl rfl rfl) rfl ?_
     refine st (OpT.alloc (H rfl) zr49 zk49) rfl ?_
     refine sk (OpT.storeBA rfl rfl (Opd.whole (Root.self (t := 40) (by decide)) rfl) rfl sz49 (by decide) (T1 rfl)) rfl ?_
     refine st (asT rfl) rfl ?_
     refine AWl.to (kc 41 rfl <| kb 40 rfl <| kc 39 rfl <| kb 38 rfl <| kc2 3 6 rfl <| Kn) ?_
     refine ng ?_
     refine sr ?_
     refine st (mvT rfl) rfl ?_
     refine st (mvT rfl) rfl ?_
     refine st (OpT.neq (H rfl) (T1 rfl) (T1 rfl)) rfl ?_
     refine st (mvT rfl) rfl ?_
     apply AWl.or (d := 263) (t := 255) rfl
     ·
      intro hb14 Q1 k1
      have hb14' := lF hb14
      refine rs hb14 (mvT rfl) rfl ?_
      refine rs hb14 (OpT.eql (H rfl) (T1 rfl) (I rfl)) rfl ?_
      refine rs hb14 (mvT rfl) rfl ?_
      apply AWl.and (d := 262) (t := 258) rfl
      ·
       intro hb15 Q1 k1
       have hb15' := lT hb15
       refine rs hb15 (OpT.loadB (H rfl) (Root.self (t := 38) (by decide)) rfl ag49 sz49) rfl ?_
       refine rs hb15 (OpT.loadB (H rfl) (Root.self (t := 40) (by decide)) rfl ag49 sz49) rfl ?_
       refine rs hb15 (OpT.neA (H rfl) (T1 rfl) (T1 rfl) eq49 ag49 rfl eg49) rfl ?_
       refine rs hb14 (OpT.pickT (A := .cel _ _) (H rfl) (T1 rfl) hb15 (T1 rfl) rfl) rfl ?_
       exact AWl.to (junk 3 rfl) k1
      ·
       intro hb15 Q1 k1
       refine ps hb15 rfl ?_
       refine ps hb15 rfl ?_
       refine ps hb15 rfl ?_
       refine rs hb14 (OpT.pickF (A := .cel _ _) (H rfl) (T1 rfl) hb15 Opd.bool rfl) rfl ?_
       exact k1
      refine st (OpT.pickF (A := .cel _ _) (H rfl) (T1 rfl) hb14 (T1 rfl) rfl) rfl ?_
      exact AWl.to (junk 4 rfl) k1
     ·
      intro hb14 Q1 k1
      refine ps hb14 rfl ?_
      refine ps hb14 rfl ?_
      refine AWl.pasv rfl rfl rfl rfl hb14 rfl (ok' rfl) rfl ?_
      refine AWl.pasu rfl rfl rfl rfl rfl (ok' rfl) rfl ?_
      refine AWl.pasu rfl rfl rfl rfl rfl (ok' rfl) rfl ?_
      refine AWl.pasu rfl rfl rfl rfl rfl (ok' rfl) rfl ?_
      refine ps hb14 rfl ?_
      refine st (OpT.pickT (A := .cel _ _) (H rfl) (T1 rfl) hb14 Opd.bool rfl) rfl ?_
      exact AWl.to (junk 4 rfl) k1
     refine ng ?_
     refine cd rfl (fun hc9 => ?_) fun hc9 => ?_
     ·
      obtain ⟨hc9, hc9'⟩ := pT hc9
      exact (show False from (by simp [eqv_self] at hc9)).elim
     ·
      obtain ⟨hc9, hc9'⟩ := pF hc9
      refine AW.skip ?_
      refine AX.go ?_
      refine AW.seqJ (e := [(3, .cel (Kd.slice kCard) x), (6, .cel (Kd.slice kCard) o)]) ?_ ?_
      ·
       refine sr ?_
       refine st (mvT rfl) rfl ?_
       refine st (OpT.eql (H rfl) (T1 rfl) (I rfl)) rfl ?_
       refine ng ?_
       refine cd rfl (fun hc10 => ?_) fun hc10 => ?_
       ·
        obtain ⟨hc10, hc10'⟩ := pT hc10
        refine sr ?_
        refine st (mvT rfl) rfl ?_
        refine st (OpT.loadB (H rfl) (Root.self (t := 38) (by decide)) rfl ag49 sz49) rfl ?_
        refine s2 (OpT.c2 (ms := [.flat, .flat]) (c_impl_MakeAnswer _ _) (H rfl) (Af (T1 rfl) rfl rfl <| Af (T1 rfl) rfl rfl <| An) rfl rfl rfl) rfl ?_
        refine st (OpT.alias (H rfl) (by decide) (by decide)) rfl ?_
        refine st (OpT.extractV (m := 10269) (H rfl) rfl rfl rfl rfl rfl rfl rfl) rfl ?_
        refine st (OpT.extractV (m := 20269) (H rfl) rfl rfl rfl rfl rfl rfl rfl) rfl ?_
        refine st (OpT.alloc (H rfl) zr54 zk54) rfl ?_
        refine sk (OpT.storeBA rfl rfl (Opd.whole (Root.self (t := 42) (by decide)) rfl) rfl sz54 (by decide) (T1 rfl)) rfl ?_
        refine st (asT rfl) rfl ?_
        refine AWl.to (kc 43 rfl <| kb 42 rfl <| kb 38 rfl <| kc2 3 6 rfl <| Kn) ?_
        refine ng ?_
        refine sr ?_
        refine st (mvT rfl) rfl ?_
        refine st (OpT.loadB (H rfl) (Root.self (t := 38) (by decide)) rfl ag49 sz49) rfl ?_
        refine s2 (OpT.c2 (ms := [.flat, .flat]) (c_spec_MakeAnswer _ _) (H rfl) (Af (T1 rfl) rfl rfl <| Af (T1 rfl) rfl rfl <| An) rfl rfl rfl) rfl ?_
        refine st (OpT.alias (H rfl) (by decide) (by decide)) rfl ?_
        refine st (OpT.extractV (m := 10275) (H rfl) rfl rfl rfl rfl rfl rfl rfl) rfl ?_
        refine st (OpT.extractV (m := 20275) (H rfl) rfl rfl rfl rfl rfl rfl rfl) rfl ?_
        refine st (OpT.alloc (H rfl) zr54 zk54) rfl ?_
        refine sk (OpT.storeBA rfl rfl (Opd.whole (Root.self (t := 44) (by decide)) rfl) rfl sz54 (by decide) (T1 rfl)) rfl ?_
        refine st (asT rfl) rfl ?_
        refine ng ?_
        refine AW.seq ?_
        refine sr ?_
        refine st (mvT rfl) rfl ?_
        refine st (mvT rfl) rfl ?_
        refine st (OpT.neq (H rfl) (T1 rfl) (T1 rfl)) rfl ?_
        refine st (mvT rfl) rfl ?_
        apply AWl.or (d := 286) (t := 281) rfl
        ·
         intro hb16 Q1 k1
         have hb16' := lF hb16
         refine rs hb16 (OpT.loadB (H rfl) (Root.self (t := 42) (by decide)) rfl ag54 sz54) rfl ?_
         refine rs hb16 (OpT.loadB (H rfl) (Root.self (t := 44) (by decide)) rfl ag54 sz54) rfl ?_
         refine rs hb16 (OpT.c1 (ms := [.flat, .flat]) (c_spec_SameAnswer _ _) (H rfl) (Af (T1 rfl) rfl rfl <| Af (T1 rfl) rfl rfl <| An) rfl rfl) rfl ?_
         refine rs hb16 (OpT.not (H rfl) (T1 rfl)) rfl ?_
         refine st (OpT.pickF (A := .cel _ _) (H rfl) (T1 rfl) hb16 (T1 rfl) rfl) rfl ?_
         exact AWl.to (junk 4 rfl) k1
        ·
         intro hb16 Q1 k1
         refine ps hb16 rfl ?_
         refine ps hb16 rfl ?_
         refine ps hb16 rfl ?_
         refine ps hb16 rfl ?_
         refine st (OpT.pickT (A := .cel _ _) (H rfl) (T1 rfl) hb16 Opd.bool rfl) rfl ?_
         exact k1
        refine AWl.to (kc2 286 43 rfl <| kb 42 rfl <| kc2 3 6 rfl <| Kn) ?_
        refine ng ?_
        refine cd rfl (fun hc11 => ?_) fun hc11 => ?_
        ·
         obtain ⟨hc11, hc11'⟩ := pT hc11
         exact (show False from (by simp [eqv_self] at hc11)).elim
        ·
         obtain ⟨hc11, hc11'⟩ := pF hc11
         refine AW.skip ?_
         refine AX.go ?_
         refine sr ?_
         refine st (mvT rfl) rfl ?_
         refine st (OpT.eql (H rfl) (T1 rfl) (I rfl)) rfl ?_
         refine ng ?_
         refine cd rfl (fun hc12 => ?_) fun hc12 => ?_
         ·
          obtain ⟨hc12, hc12'⟩ := pT hc12
          have hmk : (mkA x (qfS f v).1).2 = 0 := by simpa using hc12
          have hml := mk_law hmk
          refine sr ?_
          refine st (mvT rfl) rfl ?_
          refine st (OpT.loadB (H rfl) (Root.self (t := 42) (by decide)) rfl ag54 sz54) rfl ?_
          refine s2 (OpT.c2 (ms := [.flat, .flat]) (c_impl_CheckAnswer _ _ (mkA_small _ _)) (H rfl) (Af (T1 rfl) rfl rfl <| Af (T1 rfl) rfl rfl <| An) rfl rfl rfl) rfl ?_
          refine st (OpT.alias (H rfl) (by decide) (by decide)) rfl ?_
          refine st (OpT.extractV (m := 10292) (H rfl) rfl rfl rfl rfl rfl rfl rfl) rfl ?_
          refine st (OpT.extractV (m := 20292) (H rfl) rfl rfl rfl rfl rfl rfl rfl) rfl ?_
          refine st (asT rfl) rfl ?_
          refine st (asT rfl) rfl ?_
          refine AWl.to (kc4 47 46 3 6 rfl <| Kn) ?_
          refine ng ?_
          refine sr ?_
          refine st (mvT rfl) rfl ?_
          refine st (OpT.neq (H rfl) (T1 rfl) (I rfl)) rfl ?_
          refine st (mvT rfl) rfl ?_
          apply AWl.or (d := 300) (t := 297) rfl
          ·
           intro hb17 Q1 k1
           have hb17' := lF hb17
           refine rs hb17 (mvT rfl) rfl ?_
           refine rs hb17 (OpT.not (H rfl) (T1 rfl)) rfl ?_
           refine st (OpT.pickF (A := .cel _ _) (H rfl) (T1 rfl) hb17 (T1 rfl) rfl) rfl ?_
           exact AWl.to (junk 2 rfl) k1
          ·
           intro hb17 Q1 k1
           refine ps hb17 rfl ?_
           refine ps hb17 rfl ?_
           refine st (OpT.pickT (A := .cel _ _) (H rfl) (T1 rfl) hb17 Opd.bool rfl) rfl ?_
           exact k1
          refine ng ?_
          refine cd rfl (fun hc13 => ?_) fun hc13 => ?_
          ·
           obtain ⟨hc13, hc13'⟩ := pT hc13
           exact (show False from (by simp [hml] at hc13)).elim
          ·
           obtain ⟨hc13, hc13'⟩ := pF hc13
           refine AW.skip ?_
           exact AX.join (kc2 3 6 rfl <| Kn)
         ·
          obtain ⟨hc12, hc12'⟩ := pF hc12
          refine AW.skip ?_
          exact AX.join (kc2 3 6 rfl <| Kn)
       ·
        obtain ⟨hc10, hc10'⟩ := pF hc10
        refine AW.skip ?_
        exact AX.join (kc2 3 6 rfl <| Kn)
      ·
       refine sr ?_
       refine st (mvT rfl) rfl ?_
       refine st (mvT rfl) rfl ?_
       refine s2 (OpT.c2 (ms := [.flat, .flat]) (c_impl_EditsBetween _ _) (H rfl) (Af (T1 rfl) rfl rfl <| Af (T1 rfl) rfl rfl <| An) rfl rfl rfl) rfl ?_
       refine st (OpT.alias (H rfl) (by decide) (by decide)) rfl ?_
       refine st (OpT.extractV (m := 10304) (H rfl) rfl rfl rfl rfl rfl rfl rfl) rfl ?_
       refine st (OpT.extractV (m := 20304) (H rfl) rfl rfl rfl rfl rfl rfl rfl) rfl ?_
       refine st (asT rfl) rfl ?_
       refine st (asT rfl) rfl ?_
       refine ng ?_
       refine sr ?_
       refine st (mvT rfl) rfl ?_
       refine st (mvT rfl) rfl ?_
       refine s2 (OpT.c2 (ms := [.flat, .flat]) (c_spec_EditsBetween _ _) (H rfl) (Af (T1 rfl) rfl rfl <| Af (T1 rfl) rfl rfl <| An) rfl rfl rfl) rfl ?_
       refine st (OpT.alias (H rfl) (by decide) (by decide)) rfl ?_
       refine st (OpT.extractV (m := 10310) (H rfl) rfl rfl rfl rfl rfl rfl rfl) rfl ?_
       refine st (OpT.extractV (m := 20310) (H rfl) rfl rfl rfl rfl rfl rfl rfl) rfl ?_
       refine st (asT rfl) rfl ?_
       refine st (asT rfl) rfl ?_
       refine AWl.to (kc4 24 50 49 48 rfl <| kc2 3 6 rfl <| Kn) ?_
       refine ng ?_
       refine AW.seq ?_
       refine sr ?_
       refine st (mvT rfl) rfl ?_
       refine st (mvT rfl) rfl ?_
       refine st (OpT.neq (H rfl) (T1 rfl) (T1 rfl)) rfl ?_
       refine st (mvT rfl) rfl ?_
       apply AWl.or (d := 322) (t := 316) rfl
       ·
        intro hb18 Q1 k1
        have hb18' := lF hb18
        refine rs hb18 (mvT rfl) rfl ?_
        refine rs hb18 (OpT.len (H rfl) (T1 rfl) el59) rfl ?_
        refine rs hb18 (mvT rfl) rfl ?_
        refine rs hb18 (OpT.len (H rfl) (T1 rfl) el59) rfl ?_
        refine rs hb18 (OpT.neq (H rfl) (T1 rfl) (T1 rfl)) rfl ?_
        refine st (OpT.pickF (A := .cel _ _) (H rfl) (T1 rfl) hb18 (T1 rfl) rfl) rfl ?_
        exact AWl.to (junk 5 rfl) k1
       ·
        intro hb18 Q1 k1
        refine ps hb18 rfl ?_
        refine ps hb18 rfl ?_
        refine ps hb18 rfl ?_
        refine ps hb18 rfl ?_
        refine ps hb18 rfl ?_
        refine st (OpT.pickT (A := .cel _ _) (H rfl) (T1 rfl) hb18 Opd.bool rfl) rfl ?_
        exact k1
       refine ng ?_
       refine cd rfl (fun hc14 => ?_) fun hc14 => ?_
       ·
        obtain ⟨hc14, hc14'⟩ := pT hc14
        exact (show False from (by simp at hc14)).elim
       ·
        obtain ⟨hc14, hc14'⟩ := pF hc14
        refine AW.skip ?_
        refine AX.go ?_
        refine AW.seq ?_
        refine sr ?_
        refine st (asI rfl) rfl ?_
        refine ng ?_
        refine AW.block ?_
        refine AW.loop (fun k : Nat => k ≤ (btwS x o).1.length) (fun k : Nat => keep [(3, .cel (Kd.slice kCard) x), (6, .cel (Kd.slice kCard) o), (48, .cel (Kd.slice kEdit) (btwS x o).1), (49, .cel (Kd.int .i64) (btwS x o).2), (50, .cel (Kd.slice kEdit) (btwS x o).1), (51, .cel (Kd.int .i64) (k : Int))]) (fun k : Nat => (btwS x o).1.length - k) (0) (Nat.zero_le _) (Kc 3 _ (Kv rfl rfl) <| Kc 6 _ (Kv rfl rfl) <| Kc 48 _ (Kv rfl rfl) <| Kc 49 _ (Kv rfl rfl) <| Kc 50 _ (Kv rfl rfl) <| Kc 51 _ (Kv rfl rfl) <| Kn) ?_
        intro k hI
        have hbw := btw_len x o
        refine AW.seq ?_
        refine sr ?_
        refine st (mvT rfl) rfl ?_
        refine st (mvT rfl) rfl ?_
        refine st (OpT.len (H rfl) (T1 rfl) el59) rfl ?_
        refine st (OpT.lss (H rfl) (T1 rfl) (T1 rfl)) rfl ?_
        refine ng ?_
        refine cd rfl (fun hc15 => ?_) fun hc15 => ?_
        ·
         obtain ⟨hc15, hc15'⟩ := pT hc15
         obtain ⟨e1, he1⟩ := getI (x := (btwS x o).1) (z := k) (by omega)
         refine AW.skip ?_
         refine AX.go ?_
         refine AW.seq ?_
         refine AW.block ?_
         refine AW.seq ?_
         refine dh fomo ?_
         refine d1 [48] (fun ve h => OpT.move (A := .cel _ _) (.inl rfl) rfl (ok' rfl) (D1 h rfl) rfl) rfl ?_
         refine d1 [51] (fun ve h => OpT.move (A := .cel _ _) (.inl rfl) rfl (ok' rfl) (D1 h rfl) rfl) rfl ?_
         refine d1 [329, 330] (fun ve h => OpT.indexAddr (H rfl) (D1 h rfl) (D1 h rfl) el59 sz63 (by omega) he1) rfl ?_
         refine d1 [331] (fun ve h => OpT.loadA (H rfl) (D1 h rfl) ag63 sz63) rfl ?_
         refine d1 [50] (fun ve h => OpT.move (A := .cel _ _) (.inl rfl) rfl (ok' rfl) (D1 h rfl) rfl) rfl ?_
         refine d1 [51] (fun ve h => OpT.move (A := .cel _ _) (.inl rfl) rfl (ok' rfl) (D1 h rfl) rfl) rfl ?_
         refine d1 [333, 334] (fun ve h => OpT.indexAddr (H rfl) (D1 h rfl) (D1 h rfl) el59 sz63 (by omega) he1) rfl ?_
         refine d1 [335] (fun ve h => OpT.loadA (H rfl) (D1 h rfl) ag63 sz63) rfl ?_
         refine d1 [332, 336] (fun ve h => OpT.neA (H rfl) (D1 h rfl) (D1 h rfl) eq63 ag63 rfl eg63) rfl ?_
         refine dn ⟨by kernel_rfl, by kernel_rfl, ?_⟩
         refine AX.go ?_
         refine cd rfl (fun hc16 => ?_) fun hc16 => ?_
         ·
          obtain ⟨hc16, hc16'⟩ := pT hc16
          exact (show False from (by simp [eqv_self] at hc16)).elim
         ·
          obtain ⟨hc16, hc16'⟩ := pF hc16
          refine AW.skip ?_
          refine AX.normal_block ?_
          refine AX.go ?_
          refine AW.region ?_
          refine st (mvT rfl) rfl ?_
          refine st (OpT.add (H rfl) (T1 rfl) (I rfl) (nw (by omega))) rfl ?_
          refine st (asT rfl) rfl ?_
          refine nn ?_
          exact AX.again (k + 1) (by omega) (by omega) (Kc 3 _ (Kv rfl rfl) <| Kc 6 _ (Kv rfl rfl) <| Kc 48 _ (Kv rfl rfl) <| Kc 49 _ (Kv rfl rfl) <| Kc 50 _ (Kv rfl rfl) <| Kc 51 _ (Kv rfl (by omega)) <| Kn)
        ·
         obtain ⟨hc15, hc15'⟩ := pF hc15
         refine AW.exit ?_
         refine xT <| xT <| AX.exit_hit ?_
         refine AX.go ?_
         refine AW.seq ?_
         refine sr ?_
         refine st (mvT rfl) rfl ?_
         refine st (OpT.neq (H rfl) (T1 rfl) (I rfl)) rfl ?_
         refine ng ?_
         refine cd rfl (fun hc17 => ?_) fun hc17 => ?_
         ·
          obtain ⟨hc17, hc17'⟩ := pT hc17
          refine sr ?_
          refine st (asB rfl) rfl ?_
          refine ng ?_
          refine AW.ret ?_
          refine rT ?_
          exact rt1 rfl (.inl rfl) (by first | rfl | (simp only [hb1, l2, l5, l6, l7, l8] at *; first | rfl | simp | simp_all))
         ·
          obtain ⟨hc17, hc17'⟩ := pF hc17
          have hbz : (btwS x o).2 = 0 := by simpa using hc17
          obtain ⟨hbx, hbo, hbl, hbe⟩ := btw_zero hbz
          obtain ⟨_, l2, l3, l4, l5, l6, l7, l8⟩ := edits_law hbx hbo hbl
          have hb1 : (btwS x o).1 = betw x o := by rw [hbe]
          refine AW.skip ?_
          refine AX.go ?_
          refine sr ?_
          refine st (mvT rfl) rfl ?_
          refine st (mvT rfl) rfl ?_
          refine s3 (cN (ms := [.flat, .flat]) (c_impl_ApplyEdits _ _) (H rfl) (Af (T1 rfl) rfl rfl <| Af (T1 rfl) rfl rfl <| An) rfl (.inl rfl)) rfl ?_
          refine st (OpT.alias (H rfl) (by decide) (by decide)) rfl ?_
          refine st (OpT.extractV (m := 10343) (H rfl) rfl rfl rfl rfl rfl rfl rfl) rfl ?_
          refine st (OpT.extractV (m := 20343) (H rfl) rfl rfl rfl rfl rfl rfl rfl) rfl ?_
          refine st (OpT.extractV (m := 30343) (H rfl) rfl rfl rfl rfl rfl rfl rfl) rfl ?_
          refine st (asT rfl) rfl ?_
          refine st (asT rfl) rfl ?_
          refine st (asT rfl) rfl ?_
          refine AWl.to (kc4 16 52 3 6 rfl <| kc 48 rfl <| Kn) ?_
          refine ng ?_
          refine sr ?_
          refine st (mvT rfl) rfl ?_
          refine st (mvT rfl) rfl ?_
          refine s2 (OpT.c2 (ms := [.flat, .flat]) (c_impl_SameCards _ _) (H rfl) (Af (T1 rfl) rfl rfl <| Af (T1 rfl) rfl rfl <| An) rfl rfl rfl) rfl ?_
          refine st (OpT.alias (H rfl) (by decide) (by decide)) rfl ?_
          refine st (OpT.extractV (m := 10350) (H rfl) rfl rfl rfl rfl rfl rfl rfl) rfl ?_
          refine st (OpT.extractV (m := 20350) (H rfl) rfl rfl rfl rfl rfl rfl rfl) rfl ?_
          refine st (asT rfl) rfl ?_
          refine st (asT rfl) rfl ?_
          refine ng ?_
          refine sr ?_
          refine st (mvT rfl) rfl ?_
          refine s2 (OpT.c2 (ms := [.flat]) (c_impl_UndoEdits _) (H rfl) (Af (T1 rfl) rfl rfl <| An) rfl rfl rfl) rfl ?_
          refine st (OpT.alias (H rfl) (by decide) (by decide)) rfl ?_
          refine st (OpT.extractV (m := 10355) (H rfl) rfl rfl rfl rfl rfl rfl rfl) rfl ?_
          refine st (OpT.extractV (m := 20355) (H rfl) rfl rfl rfl rfl rfl rfl rfl) rfl ?_
          refine st (asT rfl) rfl ?_
          refine st (asT rfl) rfl ?_
          refine AWl.to (kc4 22 56 55 54 rfl <| kc4 16 52 3 6 rfl <| kc 48 rfl <| Kn) ?_
          refine ng ?_
          refine sr ?_
          refine st (mvT rfl) rfl ?_
          refine st (mvT rfl) rfl ?_
          refine s3 (cN (ms := [.flat, .flat]) (c_spec_ApplyEdits _ _) (H rfl) (Af (T1 rfl) rfl rfl <| Af (T1 rfl) rfl rfl <| An) rfl (.inl rfl)) rfl ?_
          refine st (OpT.alias (H rfl) (by decide) (by decide)) rfl ?_
          refine st (OpT.extractV (m := 10361) (H rfl) rfl rfl rfl rfl rfl rfl rfl) rfl ?_
          refine st (OpT.extractV (m := 20361) (H rfl) rfl rfl rfl rfl rfl rfl rfl) rfl ?_
          refine st (OpT.extractV (m := 30361) (H rfl) rfl rfl rfl rfl rfl rfl rfl) rfl ?_
          refine st (asT rfl) rfl ?_
          refine st (asT rfl) rfl ?_
          refine st (asT rfl) rfl ?_
          refine AWl.to (kc4 59 57 22 56 rfl <| kc4 55 54 16 52 rfl <| kc2 3 6 rfl <| Kn) ?_
          refine ng ?_
          refine sr ?_
          refine st (mvT rfl) rfl ?_
          refine st (mvT rfl) rfl ?_
          refine s2 (OpT.c2 (ms := [.flat, .flat]) (c_spec_SameCards _ _) (H rfl) (Af (T1 rfl) rfl rfl <| Af (T1 rfl) rfl rfl <| An) rfl rfl rfl) rfl ?_
          refine st (OpT.alias (H rfl) (by decide) (by decide)) rfl ?_
          refine st (OpT.extractV (m := 10368) (H rfl) rfl rfl rfl rfl rfl rfl rfl) rfl ?_
          refine st (OpT.extractV (m := 20368) (H rfl) rfl rfl rfl rfl rfl rfl rfl) rfl ?_
          refine st (asT rfl) rfl ?_
          refine st (asT rfl) rfl ?_
          refine ng ?_
          refine sr ?_
          refine st (mvT rfl) rfl ?_
          refine st (mvT rfl) rfl ?_
          refine s3 (cN (ms := [.flat, .flat]) (c_spec_ApplyEdits _ _) (H rfl) (Af (T1 rfl) rfl rfl <| Af (T1 rfl) rfl rfl <| An) rfl (.inl rfl)) rfl ?_
          refine st (OpT.alias (H rfl) (by decide) (by decide)) rfl ?_
          refine st (OpT.extractV (m := 10374) (H rfl) rfl rfl rfl rfl rfl rfl rfl) rfl ?_
          refine st (OpT.extractV (m := 20374) (H rfl) rfl rfl rfl rfl rfl rfl rfl) rfl ?_
          refine st (OpT.extractV (m := 30374) (H rfl) rfl rfl rfl rfl rfl rfl rfl) rfl ?_
          refine st (asT rfl) rfl ?_
          refine st (asT rfl) rfl ?_
          refine st (asT rfl) rfl ?_
          refine AWl.to (kc4 62 60 59 22 rfl <| kc4 56 55 54 16 rfl <| kc2 52 3 rfl <| Kn) ?_
          refine ng ?_
          refine sr ?_
          refine st (mvT rfl) rfl ?_
          refine st (mvT rfl) rfl ?_
          refine s2 (OpT.c2 (ms := [.flat, .flat]) (c_spec_SameCards _ _) (H rfl) (Af (T1 rfl) rfl rfl <| Af (T1 rfl) rfl rfl <| An) rfl rfl rfl) rfl ?_
          refine st (OpT.alias (H rfl) (by decide) (by decide)) rfl ?_
          refine st (OpT.extractV (m := 10381) (H rfl) rfl rfl rfl rfl rfl rfl rfl) rfl ?_
          refine st (OpT.extractV (m := 20381) (H rfl) rfl rfl rfl rfl rfl rfl rfl) rfl ?_
          refine st (asT rfl) rfl ?_
          refine st (asT rfl) rfl ?_
          refine ng ?_
          refine AW.seq ?_
          refine sr ?_
          refine st (mvT rfl) rfl ?_
          refine st (OpT.neq (H rfl) (T1 rfl) (I rfl)) rfl ?_
          refine st (mvT rfl) rfl ?_
          apply AWl.or (d := 389) (t := 386) rfl
          ·
           intro hb19 Q1 k1
           have hb19' := lF hb19
           refine rs hb19 (mvT rfl) rfl ?_
           refine rs hb19 (OpT.neq (H rfl) (T1 rfl) (I rfl)) rfl ?_
           refine st (OpT.pickF (A := .cel _ _) (H rfl) (T1 rfl) hb19 (T1 rfl) rfl) rfl ?_
           exact AWl.to (junk 2 rfl) k1
          ·
           intro hb19 Q1 k1
           refine ps hb19 rfl ?_
           refine ps hb19 rfl ?_
           refine st (OpT.pickT (A := .cel _ _) (H rfl) (T1 rfl) hb19 Opd.bool rfl) rfl ?_
           exact k1
          refine st (mvT rfl) rfl ?_
          apply AWl.or (d := 393) (t := 390) rfl
          ·
           intro hb20 Q1 k1
           have hb20' := lF hb20
           refine rs hb20 (mvT rfl) rfl ?_
           refine rs hb20 (OpT.not (H rfl) (T1 rfl)) rfl ?_
           refine st (OpT.pickF (A := .cel _ _) (H rfl) (T1 rfl) hb20 (T1 rfl) rfl) rfl ?_
           exact AWl.to (junk 2 rfl) k1
          ·
           intro hb20 Q1 k1
           refine ps hb20 rfl ?_
           refine ps hb20 rfl ?_
           refine st (OpT.pickT (A := .cel _ _) (H rfl) (T1 rfl) hb20 Opd.bool rfl) rfl ?_
           exact k1
          refine st (mvT rfl) rfl ?_
          apply AWl.or (d := 397) (t := 394) rfl
          ·
           intro hb21 Q1 k1
           have hb21' := lF hb21
           refine rs hb21 (mvT rfl) rfl ?_
           refine rs hb21 (OpT.neq (H rfl) (T1 rfl) (I rfl)) rfl ?_
           refine st (OpT.pickF (A := .cel _ _) (H rfl) (T1 rfl) hb21 (T1 rfl) rfl) rfl ?_
           exact AWl.to (junk 2 rfl) k1
          ·
           intro hb21 Q1 k1
           refine ps hb21 rfl ?_
           refine ps hb21 rfl ?_
           refine st (OpT.pickT (A := .cel _ _) (H rfl) (T1 rfl) hb21 Opd.bool rfl) rfl ?_
           exact k1
          refine st (mvT rfl) rfl ?_
          apply AWl.or (d := 401) (t := 398) rfl
          ·
           intro hb22 Q1 k1
           have hb22' := lF hb22
           refine rs hb22 (mvT rfl) rfl ?_
           refine rs hb22 (OpT.neq (H rfl) (T1 rfl) (I rfl)) rfl ?_
           refine st (OpT.pickF (A := .cel _ _) (H rfl) (T1 rfl) hb22 (T1 rfl) rfl) rfl ?_
           exact AWl.to (junk 2 rfl) k1
          ·
           intro hb22 Q1 k1
           refine ps hb22 rfl ?_
           refine ps hb22 rfl ?_
           refine st (OpT.pickT (A := .cel _ _) (H rfl) (T1 rfl) hb22 Opd.bool rfl) rfl ?_
           exact k1
          refine st (mvT rfl) rfl ?_
          apply AWl.or (d := 405) (t := 402) rfl
          ·
           intro hb23 Q1 k1
           have hb23' := lF hb23
           refine rs hb23 (mvT rfl) rfl ?_
           refine rs hb23 (OpT.not (H rfl) (T1 rfl)) rfl ?_
           refine st (OpT.pickF (A := .cel _ _) (H rfl) (T1 rfl) hb23 (T1 rfl) rfl) rfl ?_
           exact AWl.to (junk 2 rfl) k1
          ·
           intro hb23 Q1 k1
           refine ps hb23 rfl ?_
           refine ps hb23 rfl ?_
           refine st (OpT.pickT (A := .cel _ _) (H rfl) (T1 rfl) hb23 Opd.bool rfl) rfl ?_
           exact k1
          refine st (mvT rfl) rfl ?_
          apply AWl.or (d := 409) (t := 406) rfl
          ·
           intro hb24 Q1 k1
           have hb24' := lF hb24
           refine rs hb24 (mvT rfl) rfl ?_
           refine rs hb24 (OpT.not (H rfl) (T1 rfl)) rfl ?_
           refine st (OpT.pickF (A := .cel _ _) (H rfl) (T1 rfl) hb24 (T1 rfl) rfl) rfl ?_
           exact AWl.to (junk 2 rfl) k1
          ·
           intro hb24 Q1 k1
           refine ps hb24 rfl ?_
           refine ps hb24 rfl ?_
           refine st (OpT.pickT (A := .cel _ _) (H rfl) (T1 rfl) hb24 Opd.bool rfl) rfl ?_
           exact k1
          refine AWl.to (kc4 409 56 52 3 rfl <| Kn) ?_
          refine ng ?_
          refine cd rfl (fun hc18 => ?_) fun hc18 => ?_
          ·
           obtain ⟨hc18, hc18'⟩ := pT hc18
           exact (show False from (by simp only [hb1, l2, l5, l6, l8] at hc18; simp at hc18)).elim
          ·
           obtain ⟨hc18, hc18'⟩ := pF hc18
           refine AW.skip ?_
           refine AX.go ?_
           refine sr ?_
           refine st (mvT rfl) rfl ?_
           refine st (mvT rfl) rfl ?_
           refine s3 (cN (ms := [.flat, .flat]) (c_impl_ApplyEdits _ _) (H rfl) (Af (T1 rfl) rfl rfl <| Af (T1 rfl) rfl rfl <| An) rfl (.inl rfl)) rfl ?_
           refine st (OpT.alias (H rfl) (by decide) (by decide)) rfl ?_
           refine st (OpT.extractV (m := 10413) (H rfl) rfl rfl rfl rfl rfl rfl rfl) rfl ?_
           refine st (OpT.extractV (m := 20413) (H rfl) rfl rfl rfl rfl rfl rfl rfl) rfl ?_
           refine st (OpT.extractV (m := 30413) (H rfl) rfl rfl rfl rfl rfl rfl rfl) rfl ?_
           refine st (asT rfl) rfl ?_
           refine st (asT rfl) rfl ?_
           refine st (asT rfl) rfl ?_
           refine AWl.to (kc3 69 67 3 rfl <| Kn) ?_
           refine ng ?_
           refine sr ?_
           refine st (mvT rfl) rfl ?_
           refine st (mvT rfl) rfl ?_
           refine s2 (OpT.c2 (ms := [.flat, .flat]) (c_impl_SameCards _ _) (H rfl) (Af (T1 rfl) rfl rfl <| Af (T1 rfl) rfl rfl <| An) rfl rfl rfl) rfl ?_
           refine st (OpT.alias (H rfl) (by decide) (by decide)) rfl ?_
           refine st (OpT.extractV (m := 10420) (H rfl) rfl rfl rfl rfl rfl rfl rfl) rfl ?_
           refine st (OpT.extractV (m := 20420) (H rfl) rfl rfl rfl rfl rfl rfl rfl) rfl ?_
           refine st (asT rfl) rfl ?_
           refine st (asT rfl) rfl ?_
           refine ng ?_
           refine sr ?_
           refine st (mvT rfl) rfl ?_
           refine st (OpT.eql (H rfl) (T1 rfl) (I rfl)) rfl ?_
           refine st (mvT rfl) rfl ?_
           apply AWl.and (d := 428) (t := 425) rfl
           ·
            intro hb25 Q1 k1
            have hb25' := lT hb25
            refine rs hb25 (mvT rfl) rfl ?_
            refine rs hb25 (OpT.eql (H rfl) (T1 rfl) (I rfl)) rfl ?_
            refine st (OpT.pickT (A := .cel _ _) (H rfl) (T1 rfl) hb25 (T1 rfl) rfl) rfl ?_
            exact AWl.to (junk 2 rfl) k1
           ·
            intro hb25 Q1 k1
            refine ps hb25 rfl ?_
            refine ps hb25 rfl ?_
            refine st (OpT.pickF (A := .cel _ _) (H rfl) (T1 rfl) hb25 Opd.bool rfl) rfl ?_
            exact k1
           refine st (mvT rfl) rfl ?_
           apply AWl.and (d := 431) (t := 429) rfl
           ·
            intro hb26 Q1 k1
            have hb26' := lT hb26
            refine rs hb26 (mvT rfl) rfl ?_
            refine st (OpT.pickT (A := .cel _ _) (H rfl) (T1 rfl) hb26 (T1 rfl) rfl) rfl ?_
            exact AWl.to (junk 1 rfl) k1
           ·
            intro hb26 Q1 k1
            refine ps hb26 rfl ?_
            refine st (OpT.pickF (A := .cel _ _) (H rfl) (T1 rfl) hb26 Opd.bool rfl) rfl ?_
            exact k1
           refine st (asT rfl) rfl ?_
           refine AWl.to (kc 14 rfl <| Kn) ?_
           refine ng ?_
           refine AW.ret ?_
           exact rt1 rfl (.inl rfl) (by first | rfl | (simp only [hb1, l2, l5, l6, l7, l8] at *; first | rfl | simp | simp_all))
end Go.Proofs.YtlhfmcbmlmhgaaaGreatDoor.VL
