/- Proved here: what some functions of the program take and give: walks with the words of VA..VQ. Printed by program. -/
import Derived.Test.YtkgboidjghcegaaGreatDoorWT
import Derived.Test.YtkgboidjghcegaaGreatDoorPXJ
import Derived.Test.YtkgboidjghcegaaGreatDoorWFO
import Derived.Test.YtkgboidjghcegaaGreatDoorWCO
import Derived.Test.YtkgboidjghcegaaGreatDoorWSM
import Derived.Test.YtkgboidjghcegaaGreatDoorWSN
import Derived.Test.YtkgboidjghcegaaGreatDoorWTA
import Derived.Test.YtkgboidjghcegaaGreatDoorWSH
import Derived.Test.YtkgboidjghcegaaGreatDoorWC
set_option linter.unusedVariables false
set_option linter.unusedSimpArgs false
set_option maxRecDepth 4000
namespace Go.Proofs.YtkgboidjghcegaaGreatDoor.VL
open Go
set_option maxHeartbeats 4000000 in
/-- laws.FnCounts -/
theorem c_laws_FnCounts (x y : List Int) : AC Tryz.prog 4 [.cel (Kd.slice (Kd.int .u8)) x, .cel (Kd.slice (Kd.int .u8)) y] [.cel Kd.bool true] [] := by
 refine acI (N := 365) Tryz.func4 (Nat.le_of_ble_eq_true rfl) rfl fun w0 hd s0 ar => ?_
 refine AW.to (kc2 0 1 rfl <| Kn) ?_
 refine AW.fact (fun a w hr => ok_slice (R_ok (t := 0) rfl hr)) (fun hb0 => ?_)
 refine AW.fact (fun a w hr => ok_slice (R_ok (t := 1) rfl hr)) (fun hb1 => ?_)
 have hu0 : ∀ b ∈ x, 0 ≤ b ∧ b ≤ 255 := fun b hb => ok_u8 (hb0.1 b hb)
 have hu1 : ∀ b ∈ y, 0 ≤ b ∧ b ≤ 255 := fun b hb => ok_u8 (hb1.1 b hb)
 refine sr ?_
 refine st (asB rfl) rfl ?_
 refine ng ?_
 refine AW.seq ?_
 refine sr ?_
 refine st (mvT rfl) rfl ?_
 refine st (OpT.c1 (ms := [.flat]) (c_laws_f6big _) (H rfl) (Af (T1 rfl) rfl rfl <| An) rfl rfl) rfl ?_
 refine st (mvT rfl) rfl ?_
 apply AWl.or (d := 49) (t := 46) rfl
 ·
  intro hb1 Q1 k1
  have hb1' := lF hb1
  refine rs hb1 (mvT rfl) rfl ?_
  refine rs hb1 (OpT.c1 (ms := [.flat]) (c_laws_f6big _) (H rfl) (Af (T1 rfl) rfl rfl <| An) rfl rfl) rfl ?_
  refine st (OpT.pickF (A := .cel _ _) (H rfl) (T1 rfl) hb1 (T1 rfl) rfl) rfl ?_
  exact AWl.to (junk 2 rfl) k1
 ·
  intro hb1 Q1 k1
  refine ps hb1 rfl ?_
  refine ps hb1 rfl ?_
  refine st (OpT.pickT (A := .cel _ _) (H rfl) (T1 rfl) hb1 Opd.bool rfl) rfl ?_
  exact k1
 refine ng ?_
 refine cd rfl (fun hc1 => ?_) fun hc1 => ?_
 ·
  obtain ⟨hc1, hc1'⟩ := pT hc1
  refine sr ?_
  refine st (asB rfl) rfl ?_
  refine ng ?_
  refine AW.ret ?_
  refine rT ?_
  exact rt1 rfl (.inl rfl) (by first | rfl | (rw [cmn_none hz1 (by omega)]; rfl) | (rw [hCm]; first | exact (beq_iff_eq.2 (most_val (fun t h9 => (ht60 t h9).1) ht hI.2 hte)).symm | exact (beq_iff_eq.2 (most_val (fun t h9 => (ht60 t h9).1) ht hI.2 hte))))
 ·
  obtain ⟨hc1, hc1'⟩ := pF hc1
  refine AW.skip ?_
  refine AX.go ?_
  refine sr ?_
  refine st (mvT rfl) rfl ?_
  refine s2 (OpT.c2 (ms := [.flat]) (c_spec_P6Table _ ⟨hu0, by omega⟩) (H rfl) (Af (T1 rfl) rfl rfl <| An) rfl rfl rfl) rfl ?_
  refine AWl.vw (vex 10052 9097 rfl rfl (by decide) (fun _ => rfl)) fun xh => ?_
  obtain ⟨s, hs⟩ := xh
  refine AWl.to (kc 10052 rfl <| Kc 20052 (.deep _) rfl <| kc4 51 49 46 45 rfl <| kc4 44 4 0 1 rfl <| Kn) ?_
  refine AWl.vw (vex 20052 9097 rfl rfl (by decide) (fun _ => rfl)) fun xh => ?_
  obtain ⟨d, hD⟩ := xh
  refine AWl.to (kc4 20052 10052 51 49 rfl <| kc4 46 45 44 4 rfl <| kc2 0 1 rfl <| Kn) ?_
  have hu2 : ∀ b ∈ [1] ++ y, 0 ≤ b ∧ b ≤ 255 := fun b hb => by rcases List.mem_append.1 hb with h9 | h9; (rw [List.mem_singleton.1 h9]; omega); exact hu1 b h9
  have hs1 : srcI 0 (y, 0, 0#64) := ⟨hu1, (by show y.length ≤ 1000000; omega), Int.le_refl 0, Int.le_refl 0⟩
  have hs2 : srcI 0 ([1] ++ y, 0, 0#64) := ⟨hu2, (by show ([1] ++ y).length ≤ 1000000; simp only [List.length_append, List.length_cons, List.length_nil]; omega), Int.le_refl 0, Int.le_refl 0⟩
  have hpi := pick_in hs1 (s.length : Int)
  have hpj := pick_in hs2 (s.length : Int)
  have hi9 : 0 ≤ (pick (y, 0, 0#64) (s.length : Int)).1 ∧ (pick (y, 0, 0#64) (s.length : Int)).1 < s.length := ⟨hpi.1, hpi.2.1 (by omega)⟩
  have hj9 : 0 ≤ (pick ([1] ++ y, 0, 0#64) (s.length : Int)).1 ∧ (pick ([1] ++ y, 0, 0#64) (s.length : Int)).1 < s.length := ⟨hpj.1, hpj.2.1 (by omega)⟩
  have hz := cnt_tab hs.1 hD.1 (by omega) hi9 hj9
  have hz1 : tabF s d [(pick (y, 0, 0#64) (s.length : Int)).1] = 0 := by rw [← tabF_same]; exact cnt_tab hs.1 hD.1 (by omega) hi9 hi9
  have hzE := (tabF_ok hz).1
  have hfi := fldA_get hi9
  have hT := tlyS_yes hz1 hfi
  have hC := crs_yes hz
  have hF := flw_yes hz
  have hSp := splS_yes hz1 hfi
  have hti := tly_in (fldA s (pick (y, 0, 0#64) (s.length : Int)).1) d
  have hci := crs_in (fldA s (pick (y, 0, 0#64) (s.length : Int)).1) (fldA s (pick ([1] ++ y, 0, 0#64) (s.length : Int)).1) (d.map (·.2))
  rw [List.length_map] at hci
  have ht60 : ∀ t ∈ (tly (fldA s (pick (y, 0, 0#64) (s.length : Int)).1) d), 1 ≤ t.2 ∧ t.2 ≤ ((60 : Nat) : Int) := fun t h9 => by have := hti.2 t h9; omega
  have hbl := bst_law (x := d) (s := s) s.length (by omega) (Nat.le_refl _)
  refine st (OpT.alias (H rfl) (by decide) (by decide)) rfl ?_
  refine st (OpT.extractV (m := 10052) (H rfl) rfl rfl rfl rfl rfl rfl rfl) rfl ?_
  refine st (OpT.extractV (m := 20052) (H rfl) rfl rfl rfl rfl rfl rfl rfl) rfl ?_
  refine st (asT rfl) rfl ?_
  refine st (asT rfl) rfl ?_
  refine AWl.to (kc4 6 5 4 1 rfl <| Kn) ?_
  refine ng ?_
  refine sr ?_
  refine st (mvT rfl) rfl ?_
  refine st (OpT.len (H rfl) (T1 rfl) el29) rfl ?_
  refine st (asT rfl) rfl ?_
  refine ng ?_
  refine sr ?_
  refine st (mvT rfl) rfl ?_
  refine st (mvT rfl) rfl ?_
  refine st (OpT.c1 (ms := [.flat, .flat]) (c_spec_P6Pick _ _ ⟨hu1, by omega⟩) (H rfl) (Af (T1 rfl) rfl rfl <| Af (T1 rfl) rfl rfl <| An) rfl rfl) rfl ?_
  refine st (asT rfl) rfl ?_
  refine ng ?_
  refine sr ?_
  refine st (OpT.buildSlice (H rfl) el40 zr5 sz5 rfl (by decide) zk5 (by decide) (Built.cel (I rfl) rfl rfl (sub_arr (by decide) (0 : Int)) (Built.nil _))) rfl ?_
  refine st (mvT rfl) rfl ?_
  refine sg (OpT.append (H rfl) (Root.self (t := 60) (by decide)) rfl (Src.shared (T1 rfl)) (by decide) el40 zr5 rfl sz5 by5 (by decide) (by simp only [List.length_append, List.length_cons, List.length_nil, List.length_set, List.length_replicate]; omega)) (ko 62 rfl <| kc4 61 8 59 58 rfl <| kc4 57 7 56 55 rfl <| kc4 6 5 4 1 rfl <| Kn) rfl ?_
  refine AWl.to (Kc 62 _ (Ko rfl rfl) <| (kc4 61 8 59 58 rfl <| kc4 57 7 56 55 rfl <| kc4 6 5 4 1 rfl <| Kn)) ?_
  refine st (mvT rfl) rfl ?_
  refine st (cb1 (ms := [.bor 62, .flat]) (c_spec_P6Pick _ _ ⟨hu2, by simp only [List.length_append, List.length_cons, List.length_nil]; omega⟩) (H rfl) (Ab (Root.self (t := 62) (by decide)) rfl <| Af (T1 rfl) rfl rfl <| An) rfl (indC fun _ _ _ _ h => h)) rfl ?_
  refine st (asT rfl) rfl ?_
  refine ng ?_
  refine sr ?_
  refine st (mvT rfl) rfl ?_
  refine st (mvT rfl) rfl ?_
  refine st (mvT rfl) rfl ?_
  refine s2 (OpT.c2 (ms := [.flat, .flat, .flat]) (c_impl_TallyOf _ _ _) (H rfl) (Af (T1 rfl) rfl rfl <| Af (T1 rfl) rfl rfl <| Af (T1 rfl) rfl rfl <| An) rfl rfl rfl) rfl ?_
  refine st (OpT.alias (H rfl) (by decide) (by decide)) rfl ?_
  refine st (OpT.extractV (m := 10069) (H rfl) rfl rfl rfl rfl rfl rfl rfl) rfl ?_
  refine st (OpT.extractV (m := 20069) (H rfl) rfl rfl rfl rfl rfl rfl rfl) rfl ?_
  refine st (asT rfl) rfl ?_
  refine AWl.to (Kc 10 _ (Kv rfl (show _ = (tly (fldA s (pick (y, 0, 0#64) (s.length : Int)).1) d) from by rw [hT])) <| (kc2 71 70 rfl <| Kc 65 (.ali _) rfl <| kc4 10069 20069 68 67 rfl <| kc4 66 9 64 63 rfl <| ko 62 rfl <| kc4 61 8 59 58 rfl <| kc4 57 7 56 55 rfl <| kc4 6 5 4 1 rfl <| Kn)) ?_
  refine st (asT rfl) rfl ?_
  refine AWl.to (Kc 11 _ (Kv rfl (show _ = (0 : Int) from by rw [hT])) <| (kc3 10 71 70 rfl <| Kc 65 (.ali _) rfl <| kc4 10069 20069 68 67 rfl <| kc4 66 9 64 63 rfl <| ko 62 rfl <| kc4 61 8 59 58 rfl <| kc4 57 7 56 55 rfl <| kc4 6 5 4 1 rfl <| Kn)) ?_
  refine AWl.to (kc4 11 10 9 8 rfl <| kc4 7 6 5 4 rfl <| Kn) ?_
  refine ng ?_
  refine sr ?_
  refine st (mvT rfl) rfl ?_
  refine st (mvT rfl) rfl ?_
  refine st (mvT rfl) rfl ?_
  refine s2 (OpT.c2 (ms := [.flat, .flat, .flat]) (c_spec_TallyOf _ _ _) (H rfl) (Af (T1 rfl) rfl rfl <| Af (T1 rfl) rfl rfl <| Af (T1 rfl) rfl rfl <| An) rfl rfl rfl) rfl ?_
  refine st (OpT.alias (H rfl) (by decide) (by decide)) rfl ?_
  refine st (OpT.extractV (m := 10076) (H rfl) rfl rfl rfl rfl rfl rfl rfl) rfl ?_
  refine st (OpT.extractV (m := 20076) (H rfl) rfl rfl rfl rfl rfl rfl rfl) rfl ?_
  refine st (asT rfl) rfl ?_
  refine AWl.to (Kc 12 _ (Kv rfl (show _ = (tly (fldA s (pick (y, 0, 0#64) (s.length : Int)).1) d) from by rw [hT])) <| (kc2 78 77 rfl <| Kc 72 (.ali _) rfl <| kc4 10076 20076 75 74 rfl <| kc4 73 11 10 9 rfl <| kc4 8 7 6 5 rfl <| kc 4 rfl <| Kn)) ?_
  refine st (asT rfl) rfl ?_
  refine AWl.to (Kc 13 _ (Kv rfl (show _ = (0 : Int) from by rw [hT])) <| (kc3 12 78 77 rfl <| Kc 72 (.ali _) rfl <| kc4 10076 20076 75 74 rfl <| kc4 73 11 10 9 rfl <| kc4 8 7 6 5 rfl <| kc 4 rfl <| Kn)) ?_
  refine ng ?_
  refine sr ?_
  refine st (mvT rfl) rfl ?_
  refine st (mvT rfl) rfl ?_
  refine st (mvT rfl) rfl ?_
  refine st (mvT rfl) rfl ?_
  refine s2 (OpT.c2 (ms := [.flat, .flat, .flat, .flat]) (c_impl_CrossOf _ _ _ _) (H rfl) (Af (T1 rfl) rfl rfl <| Af (T1 rfl) rfl rfl <| Af (T1 rfl) rfl rfl <| Af (T1 rfl) rfl rfl <| An) rfl rfl rfl) rfl ?_
  refine st (OpT.alias (H rfl) (by decide) (by decide)) rfl ?_
  refine st (OpT.extractV (m := 10084) (H rfl) rfl rfl rfl rfl rfl rfl rfl) rfl ?_
  refine st (OpT.extractV (m := 20084) (H rfl) rfl rfl rfl rfl rfl rfl rfl) rfl ?_
  refine st (asT rfl) rfl ?_
  refine AWl.to (Kc 14 _ (Kv rfl (show _ = (crs (fldA s (pick (y, 0, 0#64) (s.length : Int)).1) (fldA s (pick ([1] ++ y, 0, 0#64) (s.length : Int)).1) (d.map (·.2))) from by rw [hC])) <| (kc2 86 85 rfl <| Kc 79 (.ali _) rfl <| kc4 10084 20084 83 82 rfl <| kc4 81 80 13 12 rfl <| kc2 78 77 rfl <| Kc 72 (.ali _) rfl <| kc4 10076 20076 75 74 rfl <| kc4 73 11 10 9 rfl <| kc4 8 7 6 5 rfl <| kc 4 rfl <| Kn)) ?_
  refine st (asT rfl) rfl ?_
  refine AWl.to (Kc 15 _ (Kv rfl (show _ = (0 : Int) from by rw [hC])) <| (kc3 14 86 85 rfl <| Kc 79 (.ali _) rfl <| kc4 10084 20084 83 82 rfl <| kc4 81 80 13 12 rfl <| kc2 78 77 rfl <| Kc 72 (.ali _) rfl <| kc4 10076 20076 75 74 rfl <| kc4 73 11 10 9 rfl <| kc4 8 7 6 5 rfl <| kc 4 rfl <| Kn)) ?_
  refine AWl.to (kc4 15 14 13 12 rfl <| kc4 11 10 9 8 rfl <| kc4 7 6 5 4 rfl <| Kn) ?_
  refine ng ?_
  refine sr ?_
  refine st (mvT rfl) rfl ?_
  refine st (mvT rfl) rfl ?_
  refine st (mvT rfl) rfl ?_
  refine st (mvT rfl) rfl ?_
  refine s2 (OpT.c2 (ms := [.flat, .flat, .flat, .flat]) (c_spec_CrossOf _ _ _ _) (H rfl) (Af (T1 rfl) rfl rfl <| Af (T1 rfl) rfl rfl <| Af (T1 rfl) rfl rfl <| Af (T1 rfl) rfl rfl <| An) rfl rfl rfl) rfl ?_
  refine st (OpT.alias (H rfl) (by decide) (by decide)) rfl ?_
  refine st (OpT.extractV (m := 10092) (H rfl) rfl rfl rfl rfl rfl rfl rfl) rfl ?_
  refine st (OpT.extractV (m := 20092) (H rfl) rfl rfl rfl rfl rfl rfl rfl) rfl ?_
  refine st (asT rfl) rfl ?_
  refine AWl.to (Kc 16 _ (Kv rfl (show _ = (crs (fldA s (pick (y, 0, 0#64) (s.length : Int)).1) (fldA s (pick ([1] ++ y, 0, 0#64) (s.length : Int)).1) (d.map (·.2))) from by rw [hC])) <| (kc2 94 93 rfl <| Kc 87 (.ali _) rfl <| kc4 10092 20092 91 90 rfl <| kc4 89 88 15 14 rfl <| kc4 13 12 11 10 rfl <| kc4 9 8 7 6 rfl <| kc2 5 4 rfl <| Kn)) ?_
  refine st (asT rfl) rfl ?_
  refine AWl.to (Kc 17 _ (Kv rfl (show _ = (0 : Int) from by rw [hC])) <| (kc3 16 94 93 rfl <| Kc 87 (.ali _) rfl <| kc4 10092 20092 91 90 rfl <| kc4 89 88 15 14 rfl <| kc4 13 12 11 10 rfl <| kc4 9 8 7 6 rfl <| kc2 5 4 rfl <| Kn)) ?_
  refine ng ?_
  refine sr ?_
  refine st (mvT rfl) rfl ?_
  refine st (mvT rfl) rfl ?_
  refine st (mvT rfl) rfl ?_
  refine st (mvT rfl) rfl ?_
  refine s2 (OpT.c2 (ms := [.flat, .flat, .flat, .flat]) (c_impl_FollowsFrom _ _ _ _) (H rfl) (Af (T1 rfl) rfl rfl <| Af (T1 rfl) rfl rfl <| Af (T1 rfl) rfl rfl <| Af (T1 rfl) rfl rfl <| An) rfl rfl rfl) rfl ?_
  refine st (OpT.alias (H rfl) (by decide) (by decide)) rfl ?_
  refine st (OpT.extractV (m := 10100) (H rfl) rfl rfl rfl rfl rfl rfl rfl) rfl ?_
  refine st (OpT.extractV (m := 20100) (H rfl) rfl rfl rfl rfl rfl rfl rfl) rfl ?_
  refine st (asT rfl) rfl ?_
  refine AWl.to (Kc 18 _ (Kv rfl (show _ = (tt (fnC (fldA s (pick (y, 0, 0#64) (s.length : Int)).1) (fldA s (pick ([1] ++ y, 0, 0#64) (s.length : Int)).1) (d.map (·.2)))) from by rw [hF])) <| (kc2 102 101 rfl <| Kc 95 (.ali _) rfl <| kc4 10100 20100 99 98 rfl <| kc4 97 96 17 16 rfl <| kc2 94 93 rfl <| Kc 87 (.ali _) rfl <| kc4 10092 20092 91 90 rfl <| kc4 89 88 15 14 rfl <| kc4 13 12 11 10 rfl <| kc4 9 8 7 6 rfl <| kc2 5 4 rfl <| Kn)) ?_
  refine st (asT rfl) rfl ?_
  refine AWl.to (Kc 19 _ (Kv rfl (show _ = (0 : Int) from by rw [hF])) <| (kc3 18 102 101 rfl <| Kc 95 (.ali _) rfl <| kc4 10100 20100 99 98 rfl <| kc4 97 96 17 16 rfl <| kc2 94 93 rfl <| Kc 87 (.ali _) rfl <| kc4 10092 20092 91 90 rfl <| kc4 89 88 15 14 rfl <| kc4 13 12 11 10 rfl <| kc4 9 8 7 6 rfl <| kc2 5 4 rfl <| Kn)) ?_
  refine AWl.to (kc4 19 18 17 16 rfl <| kc4 15 14 13 12 rfl <| kc4 11 10 8 7 rfl <| kc3 6 5 4 rfl <| Kn) ?_
  refine ng ?_
  refine AW.seq ?_
  refine sr ?_
  refine st (mvT rfl) rfl ?_
  refine st (mvT rfl) rfl ?_
  refine st (OpT.neq (H rfl) (T1 rfl) (T1 rfl)) rfl ?_
  refine st (mvT rfl) rfl ?_
  apply AWl.or (d := 109) (t := 106) rfl
  ·
   intro hb2 Q1 k1
   have hb2' := lF hb2
   refine rs hb2 (mvT rfl) rfl ?_
   refine rs hb2 (OpT.neq (H rfl) (T1 rfl) (I rfl)) rfl ?_
   refine st (OpT.pickF (A := .cel _ _) (H rfl) (T1 rfl) hb2 (T1 rfl) rfl) rfl ?_
   exact AWl.to (junk 2 rfl) k1
  ·
   intro hb2 Q1 k1
   refine ps hb2 rfl ?_
   refine ps hb2 rfl ?_
   refine st (OpT.pickT (A := .cel _ _) (H rfl) (T1 rfl) hb2 Opd.bool rfl) rfl ?_
   exact k1
  refine st (mvT rfl) rfl ?_
  apply AWl.or (d := 115) (t := 110) rfl
  ·
   intro hb3 Q1 k1
   have hb3' := lF hb3
   refine rs hb3 (mvT rfl) rfl ?_
   refine rs hb3 (mvT rfl) rfl ?_
   refine rs hb3 (OpT.c1 (ms := [.flat, .flat]) (c_spec_SameTallies _ _) (H rfl) (Af (T1 rfl) rfl rfl <| Af (T1 rfl) rfl rfl <| An) rfl rfl) rfl ?_
   refine rs hb3 (OpT.not (H rfl) (T1 rfl)) rfl ?_
   refine st (OpT.pickF (A := .cel _ _) (H rfl) (T1 rfl) hb3 (T1 rfl) rfl) rfl ?_
   exact AWl.to (junk 4 rfl) k1
  ·
   intro hb3 Q1 k1
   refine ps hb3 rfl ?_
   refine ps hb3 rfl ?_
   refine ps hb3 rfl ?_
   refine ps hb3 rfl ?_
   refine st (OpT.pickT (A := .cel _ _) (H rfl) (T1 rfl) hb3 Opd.bool rfl) rfl ?_
   exact k1
  refine st (mvT rfl) rfl ?_
  apply AWl.or (d := 120) (t := 116) rfl
  ·
   intro hb4 Q1 k1
   have hb4' := lF hb4
   refine rs hb4 (mvT rfl) rfl ?_
   refine rs hb4 (mvT rfl) rfl ?_
   refine rs hb4 (OpT.neq (H rfl) (T1 rfl) (T1 rfl)) rfl ?_
   refine st (OpT.pickF (A := .cel _ _) (H rfl) (T1 rfl) hb4 (T1 rfl) rfl) rfl ?_
   exact AWl.to (junk 3 rfl) k1
  ·
   intro hb4 Q1 k1
   refine ps hb4 rfl ?_
   refine ps hb4 rfl ?_
   refine ps hb4 rfl ?_
   refine st (OpT.pickT (A := .cel _ _) (H rfl) (T1 rfl) hb4 Opd.bool rfl) rfl ?_
   exact k1
  refine st (mvT rfl) rfl ?_
  apply AWl.or (d := 124) (t := 121) rfl
  ·
   intro hb5 Q1 k1
   have hb5' := lF hb5
   refine rs hb5 (mvT rfl) rfl ?_
   refine rs hb5 (OpT.neq (H rfl) (T1 rfl) (I rfl)) rfl ?_
   refine st (OpT.pickF (A := .cel _ _) (H rfl) (T1 rfl) hb5 (T1 rfl) rfl) rfl ?_
   exact AWl.to (junk 2 rfl) k1
  ·
   intro hb5 Q1 k1
   refine ps hb5 rfl ?_
   refine ps hb5 rfl ?_
   refine st (OpT.pickT (A := .cel _ _) (H rfl) (T1 rfl) hb5 Opd.bool rfl) rfl ?_
   exact k1
  refine st (mvT rfl) rfl ?_
  apply AWl.or (d := 130) (t := 125) rfl
  ·
   intro hb6 Q1 k1
   have hb6' := lF hb6
   refine rs hb6 (mvT rfl) rfl ?_
   refine rs hb6 (mvT rfl) rfl ?_
   refine rs hb6 (OpT.c1 (ms := [.flat, .flat]) (c_spec_SameCells _ _) (H rfl) (Af (T1 rfl) rfl rfl <| Af (T1 rfl) rfl rfl <| An) rfl rfl) rfl ?_
   refine rs hb6 (OpT.not (H rfl) (T1 rfl)) rfl ?_
   refine st (OpT.pickF (A := .cel _ _) (H rfl) (T1 rfl) hb6 (T1 rfl) rfl) rfl ?_
   exact AWl.to (junk 4 rfl) k1
  ·
   intro hb6 Q1 k1
   refine ps hb6 rfl ?_
   refine ps hb6 rfl ?_
   refine ps hb6 rfl ?_
   refine ps hb6 rfl ?_
   refine st (OpT.pickT (A := .cel _ _) (H rfl) (T1 rfl) hb6 Opd.bool rfl) rfl ?_
   exact k1
  refine st (mvT rfl) rfl ?_
  apply AWl.or (d := 134) (t := 131) rfl
  ·
   intro hb7 Q1 k1
   have hb7' := lF hb7
   refine rs hb7 (mvT rfl) rfl ?_
   refine rs hb7 (OpT.neq (H rfl) (T1 rfl) (I rfl)) rfl ?_
   refine st (OpT.pickF (A := .cel _ _) (H rfl) (T1 rfl) hb7 (T1 rfl) rfl) rfl ?_
   exact AWl.to (junk 2 rfl) k1
  ·
   intro hb7 Q1 k1
   refine ps hb7 rfl ?_
   refine ps hb7 rfl ?_
   refine st (OpT.pickT (A := .cel _ _) (H rfl) (T1 rfl) hb7 Opd.bool rfl) rfl ?_
   exact k1
  refine AWl.to (kc4 134 18 16 12 rfl <| kc4 8 7 6 5 rfl <| kc 4 rfl <| Kn) ?_
  refine ng ?_
  refine cd rfl (fun hc2 => ?_) fun hc2 => ?_
  ·
   obtain ⟨hc2, hc2'⟩ := pT hc2
   exact (show False from (by simp [eqv_self] at hc2)).elim
  ·
   obtain ⟨hc2, hc2'⟩ := pF hc2
   refine AW.skip ?_
   refine AX.go ?_
   refine sr ?_
   refine st (asI rfl) rfl ?_
   refine ng ?_
   refine sr ?_
   refine st (asI rfl) rfl ?_
   refine ng ?_
   refine sr ?_
   refine st (asI rfl) rfl ?_
   refine ng ?_
   refine sr ?_
   refine st (asB rfl) rfl ?_
   refine ng ?_
   refine AW.seq ?_
   refine sr ?_
   refine st (asI rfl) rfl ?_
   refine ng ?_
   refine AW.block ?_
   refine AW.loop (fun z : Nat => z ≤ (tly (fldA s (pick (y, 0, 0#64) (s.length : Int)).1) d).length) (fun z : Nat => keep [(5, .cel (Kd.slice kField) s), (6, .cel (Kd.slice kCard) d), (7, .cel (Kd.int .i64) (s.length : Int)), (8, .cel (Kd.int .i64) (pick (y, 0, 0#64) (s.length : Int)).1), (12, .cel (Kd.slice kShare) (tly (fldA s (pick (y, 0, 0#64) (s.length : Int)).1) d)), (16, .cel (Kd.slice (Kd.pair (Kd.int .i64) (Kd.pair (Kd.int .i64) (Kd.int .i64)))) (crs (fldA s (pick (y, 0, 0#64) (s.length : Int)).1) (fldA s (pick ([1] ++ y, 0, 0#64) (s.length : Int)).1) (d.map (·.2)))), (18, .cel Kd.bool (tt (fnC (fldA s (pick (y, 0, 0#64) (s.length : Int)).1) (fldA s (pick ([1] ++ y, 0, 0#64) (s.length : Int)).1) (d.map (·.2))))), (20, .cel (Kd.int .i64) (smT ((tly (fldA s (pick (y, 0, 0#64) (s.length : Int)).1) d).take z))), (21, .cel (Kd.int .i64) (spl ((tly (fldA s (pick (y, 0, 0#64) (s.length : Int)).1) d).take z))), (22, .cel (Kd.int .i64) (mxT ((tly (fldA s (pick (y, 0, 0#64) (s.length : Int)).1) d).take z))), (23, .cel Kd.bool (tt (∀ u ∈ (tly (fldA s (pick (y, 0, 0#64) (s.length : Int)).1) d).take z, rowN u.1 (crs (fldA s (pick (y, 0, 0#64) (s.length : Int)).1) (fldA s (pick ([1] ++ y, 0, 0#64) (s.length : Int)).1) (d.map (·.2))) = 1))), (24, .cel (Kd.int .i64) (z : Int))]) (fun z : Nat => (tly (fldA s (pick (y, 0, 0#64) (s.length : Int)).1) d).length - z) (0) (Nat.zero_le _) (Kc 5 _ (Kv rfl rfl) <| Kc 6 _ (Kv rfl rfl) <| Kc 7 _ (Kv rfl rfl) <| Kc 8 _ (Kv rfl rfl) <| Kc 12 _ (Kv rfl rfl) <| Kc 16 _ (Kv rfl rfl) <| Kc 18 _ (Kv rfl rfl) <| Kc 20 _ (Kv rfl rfl) <| Kc 21 _ (Kv rfl rfl) <| Kc 22 _ (Kv rfl rfl) <| Kc 23 _ (Kv rfl (tt_yes (fun u hu => by cases hu))) <| Kc 24 _ (Kv rfl rfl) <| Kn) ?_
   intro z hI
   refine AW.seq ?_
   refine sr ?_
   refine st (mvT rfl) rfl ?_
   refine st (mvT rfl) rfl ?_
   refine st (OpT.len (H rfl) (T1 rfl) el45) rfl ?_
   refine st (OpT.lss (H rfl) (T1 rfl) (T1 rfl)) rfl ?_
   refine ng ?_
   refine cd rfl (fun hc3 => ?_) fun hc3 => ?_
   ·
    obtain ⟨hc3, hc3'⟩ := pT hc3
    obtain ⟨t, ht⟩ := getI (x := (tly (fldA s (pick (y, 0, 0#64) (s.length : Int)).1) d)) (z := z) (by omega)
    have htm := List.mem_of_getElem? ht
    have htb := hti.2 t htm
    have hpt := part_tly (g := (fldA s (pick ([1] ++ y, 0, 0#64) (s.length : Int)).1)) htm
    have hsm := smT_in ht60 z
    have hsp := spl_in (l := (tly (fldA s (pick (y, 0, 0#64) (s.length : Int)).1) d)) (n := d.length) ⟨hti.1, hti.2⟩ (by omega) z
    have hsq := sq_in htb (by omega)
    refine AW.skip ?_
    refine AX.go ?_
    refine AW.seq ?_
    refine AW.block ?_
    refine sr ?_
    refine st (asI rfl) rfl ?_
    refine ng ?_
    refine sr ?_
    refine st (asI rfl) rfl ?_
    refine ng ?_
    refine AW.seq ?_
    refine sr ?_
    refine st (asI rfl) rfl ?_
    refine ng ?_
    refine AW.block ?_
    refine AW.loop (fun q : Nat => q ≤ (crs (fldA s (pick (y, 0, 0#64) (s.length : Int)).1) (fldA s (pick ([1] ++ y, 0, 0#64) (s.length : Int)).1) (d.map (·.2))).length ∧ z < (tly (fldA s (pick (y, 0, 0#64) (s.length : Int)).1) d).length) (fun q : Nat => keep [(5, .cel (Kd.slice kField) s), (6, .cel (Kd.slice kCard) d), (7, .cel (Kd.int .i64) (s.length : Int)), (8, .cel (Kd.int .i64) (pick (y, 0, 0#64) (s.length : Int)).1), (12, .cel (Kd.slice kShare) (tly (fldA s (pick (y, 0, 0#64) (s.length : Int)).1) d)), (16, .cel (Kd.slice (Kd.pair (Kd.int .i64) (Kd.pair (Kd.int .i64) (Kd.int .i64)))) (crs (fldA s (pick (y, 0, 0#64) (s.length : Int)).1) (fldA s (pick ([1] ++ y, 0, 0#64) (s.length : Int)).1) (d.map (·.2)))), (18, .cel Kd.bool (tt (fnC (fldA s (pick (y, 0, 0#64) (s.length : Int)).1) (fldA s (pick ([1] ++ y, 0, 0#64) (s.length : Int)).1) (d.map (·.2))))), (20, .cel (Kd.int .i64) (smT ((tly (fldA s (pick (y, 0, 0#64) (s.length : Int)).1) d).take z))), (21, .cel (Kd.int .i64) (spl ((tly (fldA s (pick (y, 0, 0#64) (s.length : Int)).1) d).take z))), (22, .cel (Kd.int .i64) (mxT ((tly (fldA s (pick (y, 0, 0#64) (s.length : Int)).1) d).take z))), (23, .cel Kd.bool (tt (∀ u ∈ (tly (fldA s (pick (y, 0, 0#64) (s.length : Int)).1) d).take z, rowN u.1 (crs (fldA s (pick (y, 0, 0#64) (s.length : Int)).1) (fldA s (pick ([1] ++ y, 0, 0#64) (s.length : Int)).1) (d.map (·.2))) = 1))), (24, .cel (Kd.int .i64) (z : Int)), (25, .cel (Kd.int .i64) (rowS t.1 ((crs (fldA s (pick (y, 0, 0#64) (s.length : Int)).1) (fldA s (pick ([1] ++ y, 0, 0#64) (s.length : Int)).1) (d.map (·.2))).take q))), (26, .cel (Kd.int .i64) (rowN t.1 ((crs (fldA s (pick (y, 0, 0#64) (s.length : Int)).1) (fldA s (pick ([1] ++ y, 0, 0#64) (s.length : Int)).1) (d.map (·.2))).take q) : Int)), (27, .cel (Kd.int .i64) (q : Int))]) (fun q : Nat => (crs (fldA s (pick (y, 0, 0#64) (s.length : Int)).1) (fldA s (pick ([1] ++ y, 0, 0#64) (s.length : Int)).1) (d.map (·.2))).length - q) (0) (by omega) (Kc 5 _ (Kv rfl rfl) <| Kc 6 _ (Kv rfl rfl) <| Kc 7 _ (Kv rfl rfl) <| Kc 8 _ (Kv rfl rfl) <| Kc 12 _ (Kv rfl rfl) <| Kc 16 _ (Kv rfl rfl) <| Kc 18 _ (Kv rfl rfl) <| Kc 20 _ (Kv rfl rfl) <| Kc 21 _ (Kv rfl rfl) <| Kc 22 _ (Kv rfl rfl) <| Kc 23 _ (Kv rfl rfl) <| Kc 24 _ (Kv rfl rfl) <| Kc 25 _ (Kv rfl rfl) <| Kc 26 _ (Kv rfl rfl) <| Kc 27 _ (Kv rfl rfl) <| Kn) ?_
    intro q hI
    refine AW.seq ?_
    refine sr ?_
    refine st (mvT rfl) rfl ?_
    refine st (mvT rfl) rfl ?_
    refine st (OpT.len (H rfl) (T1 rfl) el26) rfl ?_
    refine st (OpT.lss (H rfl) (T1 rfl) (T1 rfl)) rfl ?_
    refine ng ?_
    refine cd rfl (fun hc4 => ?_) fun hc4 => ?_
    ·
     obtain ⟨hc4, hc4'⟩ := pT hc4
     obtain ⟨c, hcq⟩ := getI (x := (crs (fldA s (pick (y, 0, 0#64) (s.length : Int)).1) (fldA s (pick ([1] ++ y, 0, 0#64) (s.length : Int)).1) (d.map (·.2)))) (z := q) (by omega)
     have hcb := hci.2 c (List.mem_of_getElem? hcq)
     have hrs := rowS_in (v := t.1) (n := d.length) (l := (crs (fldA s (pick (y, 0, 0#64) (s.length : Int)).1) (fldA s (pick ([1] ++ y, 0, 0#64) (s.length : Int)).1) (d.map (·.2))).take q) (fun c h9 => hci.2 c (List.mem_of_mem_take h9))
     have hrn := rowN_le t.1 ((crs (fldA s (pick (y, 0, 0#64) (s.length : Int)).1) (fldA s (pick ([1] ++ y, 0, 0#64) (s.length : Int)).1) (d.map (·.2))).take q)
     rw [List.length_take] at hrs hrn
     have hrq := Int.le_trans hrs.2 (Int.mul_le_mul (by omega : ((min q (crs (fldA s (pick (y, 0, 0#64) (s.length : Int)).1) (fldA s (pick ([1] ++ y, 0, 0#64) (s.length : Int)).1) (d.map (·.2))).length : Nat) : Int) ≤ 10) (by omega : (d.length : Int) ≤ 10) (by omega) (by omega))
     refine AW.skip ?_
     refine AX.go ?_
     refine AW.seq ?_
     refine AW.block ?_
     refine AW.seq ?_
     refine dh fomo ?_
     refine d1 [16] (fun ve h => OpT.move (A := .cel _ _) (.inl rfl) rfl (ok' rfl) (D1 h rfl) rfl) rfl ?_
     refine d1 [27] (fun ve h => OpT.move (A := .cel _ _) (.inl rfl) rfl (ok' rfl) (D1 h rfl) rfl) rfl ?_
     refine d1 [147, 148] (fun ve h => OpT.indexAddr (H rfl) (D1 h rfl) (D1 h rfl) el26 sz52 (by omega) hcq) rfl ?_
     refine d1 [149] (fun ve h => OpT.fieldAddr (H rfl) (D1 h rfl) fd52_0 sz2 (by decide) sb52_0) rfl ?_
     refine d1 [150] (fun ve h => OpT.load (H rfl) (D1 h rfl) ag2 rfl) rfl ?_
     refine d1 [12] (fun ve h => OpT.move (A := .cel _ _) (.inl rfl) rfl (ok' rfl) (D1 h rfl) rfl) rfl ?_
     refine d1 [24] (fun ve h => OpT.move (A := .cel _ _) (.inl rfl) rfl (ok' rfl) (D1 h rfl) rfl) rfl ?_
     refine d1 [152, 153] (fun ve h => OpT.indexAddr (H rfl) (D1 h rfl) (D1 h rfl) el45 sz54 (by omega) ht) rfl ?_
     refine d1 [154] (fun ve h => OpT.fieldAddr (H rfl) (D1 h rfl) fd54_0 sz2 (by decide) sb54_0) rfl ?_
     refine d1 [155] (fun ve h => OpT.load (H rfl) (D1 h rfl) ag2 rfl) rfl ?_
     refine d1 [151, 156] (fun ve h => OpT.eql (H rfl) (D1 h rfl) (D1 h rfl)) rfl ?_
     refine dn ⟨by kernel_rfl, by kernel_rfl, ?_⟩
     refine AX.go ?_
     refine cd rfl (fun hc5 => ?_) fun hc5 => ?_
     ·
      obtain ⟨hc5, hc5'⟩ := pT hc5
      have hce : c.1 = t.1 := by simpa using hc5
      refine sr ?_
      refine st (mvT rfl) rfl ?_
      refine st (mvT rfl) rfl ?_
      refine st (mvT rfl) rfl ?_
      refine st (OpT.indexAddr (H rfl) (T1 rfl) (T1 rfl) el26 sz52 (by omega) hcq) rfl ?_
      refine st (OpT.fieldAddr (H rfl) (T1 rfl) fd52_2 sz2 (by decide) sb52_2) rfl ?_
      refine st (OpT.load (H rfl) (T1 rfl) ag2 rfl) rfl ?_
      refine st (OpT.add (H rfl) (T1 rfl) (T1 rfl) (nw (by omega))) rfl ?_
      refine st (asT rfl) rfl ?_
      refine ng ?_
      refine AW.region ?_
      refine st (mvT rfl) rfl ?_
      refine st (OpT.add (H rfl) (T1 rfl) (I rfl) (nw (by omega))) rfl ?_
      refine st (asT rfl) rfl ?_
      refine nn ?_
      refine AX.normal_block ?_
      refine AX.go ?_
      refine AW.region ?_
      refine st (mvT rfl) rfl ?_
      refine st (OpT.add (H rfl) (T1 rfl) (I rfl) (nw (by omega))) rfl ?_
      refine st (asT rfl) rfl ?_
      refine nn ?_
      exact AX.again (q + 1) (by omega) (by omega) (Kc 5 _ (Kv rfl rfl) <| Kc 6 _ (Kv rfl rfl) <| Kc 7 _ (Kv rfl rfl) <| Kc 8 _ (Kv rfl rfl) <| Kc 12 _ (Kv rfl rfl) <| Kc 16 _ (Kv rfl rfl) <| Kc 18 _ (Kv rfl rfl) <| Kc 20 _ (Kv rfl rfl) <| Kc 21 _ (Kv rfl rfl) <| Kc 22 _ (Kv rfl rfl) <| Kc 23 _ (Kv rfl rfl) <| Kc 24 _ (Kv rfl rfl) <| Kc 25 _ (Kv rfl (by rw [rowS_next hcq]; first | rw [if_pos hce] | (rw [if_neg hcn]; omega))) <| Kc 26 _ (Kv rfl (by rw [rowN_next hcq]; first | (rw [if_pos hce]; omega) | (rw [if_neg hcn]; omega))) <| Kc 27 _ (Kv rfl (by omega)) <| Kn)
     ·
      obtain ⟨hc5, hc5'⟩ := pF hc5
      have hcn : ¬ c.1 = t.1 := by simpa using hc5
      refine AW.skip ?_
      refine AX.normal_block ?_
      refine AX.go ?_
      refine AW.region ?_
      refine st (mvT rfl) rfl ?_
      refine st (OpT.add (H rfl) (T1 rfl) (I rfl) (nw (by omega))) rfl ?_
      refine st (asT rfl) rfl ?_
      refine nn ?_
      exact AX.again (q + 1) (by omega) (by omega) (Kc 5 _ (Kv rfl rfl) <| Kc 6 _ (Kv rfl rfl) <| Kc 7 _ (Kv rfl rfl) <| Kc 8 _ (Kv rfl rfl) <| Kc 12 _ (Kv rfl rfl) <| Kc 16 _ (Kv rfl rfl) <| Kc 18 _ (Kv rfl rfl) <| Kc 20 _ (Kv rfl rfl) <| Kc 21 _ (Kv rfl rfl) <| Kc 22 _ (Kv rfl rfl) <| Kc 23 _ (Kv rfl rfl) <| Kc 24 _ (Kv rfl rfl) <| Kc 25 _ (Kv rfl (by rw [rowS_next hcq]; first | rw [if_pos hce] | (rw [if_neg hcn]; omega))) <| Kc 26 _ (Kv rfl (by rw [rowN_next hcq]; first | (rw [if_pos hce]; omega) | (rw [if_neg hcn]; omega))) <| Kc 27 _ (Kv rfl (by omega)) <| Kn)
    ·
     obtain ⟨hc4, hc4'⟩ := pF hc4
     have hq9 : q = (crs (fldA s (pick (y, 0, 0#64) (s.length : Int)).1) (fldA s (pick ([1] ++ y, 0, 0#64) (s.length : Int)).1) (d.map (·.2))).length := by omega
     have hpq : rowS t.1 ((crs (fldA s (pick (y, 0, 0#64) (s.length : Int)).1) (fldA s (pick ([1] ++ y, 0, 0#64) (s.length : Int)).1) (d.map (·.2))).take q) = t.2 := by rw [hq9, List.take_length]; exact hpt
     have hnq : rowN t.1 ((crs (fldA s (pick (y, 0, 0#64) (s.length : Int)).1) (fldA s (pick ([1] ++ y, 0, 0#64) (s.length : Int)).1) (d.map (·.2))).take q) = rowN t.1 (crs (fldA s (pick (y, 0, 0#64) (s.length : Int)).1) (fldA s (pick ([1] ++ y, 0, 0#64) (s.length : Int)).1) (d.map (·.2))) := by rw [hq9, List.take_length]
     refine AW.exit ?_
     refine xT <| xT <| AX.exit_hit ?_
     refine AX.go ?_
     refine AW.seq ?_
     refine AW.seq ?_
     have hd1 : ((rowS t.1 ((crs (fldA s (pick (y, 0, 0#64) (s.length : Int)).1) (fldA s (pick ([1] ++ y, 0, 0#64) (s.length : Int)).1) (d.map (·.2))).take q)) != t.2) = false := (by rw [hpq]; simp)
     have hd2 : (decide (t.2 < (1 : Int))) = false := (by simp; omega)
     rcases Bool.eq_false_or_eq_true (decide ((z : Int) > (0 : Int))) with hd3 | hd3
     ·
      have hd3' := lT hd3
      obtain ⟨u, hu⟩ : ∃ u, (tly (fldA s (pick (y, 0, 0#64) (s.length : Int)).1) d)[Int.toNat ((z : Int) - 1)]? = some u := ⟨_, List.getElem?_eq_getElem (by omega)⟩
      have hau : u.1 < t.1 := tly_asc' (by omega) hu ht
      refine dhm [0, 0, 0, 6, 14, 30, 63, 127, 255, 255, 1023, 2047, 4095, 8191, 16383, 32767, 65535, 131071, 262143, 524287, 524287, 2097151, 4194303, 8388607, 524287, 524287, 34078719, 117964799, 252182527, 520617983, 1073741823, 2147483647, 4294967295] [] fomo ?_
      refine d1 [25] (fun ve h => OpT.move (A := .cel _ _) (.inl rfl) rfl (ok' rfl) (D1 h rfl) rfl) rfl ?_
      refine d1 [12] (fun ve h => OpT.move (A := .cel _ _) (.inl rfl) rfl (ok' rfl) (D1 h rfl) rfl) rfl ?_
      refine d1 [24] (fun ve h => OpT.move (A := .cel _ _) (.inl rfl) rfl (ok' rfl) (D1 h rfl) rfl) rfl ?_
      refine d1 [168, 169] (fun ve h => OpT.indexAddr (H rfl) (D1 h rfl) (D1 h rfl) el45 sz54 (by omega) ht) rfl ?_
      refine d1 [170] (fun ve h => OpT.fieldAddr (H rfl) (D1 h rfl) fd54_1 sz2 (by decide) sb54_1) rfl ?_
      refine d1 [171] (fun ve h => OpT.load (H rfl) (D1 h rfl) ag2 rfl) rfl ?_
      refine d1 [167, 172] (fun ve h => OpT.neq (H rfl) (D1 h rfl) (D1 h rfl)) rfl ?_
      refine d1 [173] (fun ve h => OpT.move (A := .cel _ _) (.inl rfl) rfl (ok' rfl) (D1 h rfl) rfl) rfl ?_
      refine dr [12, 174] hd1 (fun ve h => OpT.move (A := .cel _ _) (.inl rfl) rfl (ok' rfl) (D1 h rfl) rfl) rfl ?_
      refine dr [24, 174] hd1 (fun ve h => OpT.move (A := .cel _ _) (.inl rfl) rfl (ok' rfl) (D1 h rfl) rfl) rfl ?_
      refine dr [174, 175, 176] hd1 (fun ve h => OpT.indexAddr (H rfl) (D1 h rfl) (D1 h rfl) el45 sz54 (by omega) ht) rfl ?_
      refine dr [174, 177] hd1 (fun ve h => OpT.fieldAddr (H rfl) (D1 h rfl) fd54_1 sz2 (by decide) sb54_1) rfl ?_
      refine dr [174, 178] hd1 (fun ve h => OpT.load (H rfl) (D1 h rfl) ag2 rfl) rfl ?_
      refine dr [174, 179] hd1 (fun ve h => OpT.lss (H rfl) (D1 h rfl) (I rfl)) rfl ?_
      refine d1 [174, 180] (fun ve h => OpT.pickF (A := .cel _ _) (H rfl) (D1 h rfl) hd1 (D1 h rfl) rfl) rfl ?_
      refine d1 [181] (fun ve h => OpT.move (A := .cel _ _) (.inl rfl) rfl (ok' rfl) (D1 h rfl) rfl) rfl ?_
      refine dr [24, 182] hd2 (fun ve h => OpT.move (A := .cel _ _) (.inl rfl) rfl (ok' rfl) (D1 h rfl) rfl) rfl ?_
      refine dr [182, 183] hd2 (fun ve h => OpT.gtr (H rfl) (D1 h rfl) (I rfl)) rfl ?_
      refine dr [182, 184] hd2 (fun ve h => OpT.move (A := .cel _ _) (.inl rfl) rfl (ok' rfl) (D1 h rfl) rfl) rfl ?_
      refine dr [12, 185] hd3 (fun ve h => OpT.move (A := .cel _ _) (.inl rfl) rfl (ok' rfl) (D1 h rfl) rfl) rfl ?_
      refine dr [24, 185] hd3 (fun ve h => OpT.move (A := .cel _ _) (.inl rfl) rfl (ok' rfl) (D1 h rfl) rfl) rfl ?_
      refine dr [185, 186, 187] hd3 (fun ve h => OpT.indexAddr (H rfl) (D1 h rfl) (D1 h rfl) el45 sz54 (by omega) ht) rfl ?_
      refine dr [185, 188] hd3 (fun ve h => OpT.fieldAddr (H rfl) (D1 h rfl) fd54_0 sz2 (by decide) sb54_0) rfl ?_
      refine dr [185, 189] hd3 (fun ve h => OpT.load (H rfl) (D1 h rfl) ag2 rfl) rfl ?_
      refine dr [12, 185] hd3 (fun ve h => OpT.move (A := .cel _ _) (.inl rfl) rfl (ok' rfl) (D1 h rfl) rfl) rfl ?_
      refine dr [24, 185] hd3 (fun ve h => OpT.move (A := .cel _ _) (.inl rfl) rfl (ok' rfl) (D1 h rfl) rfl) rfl ?_
      refine dr [185, 192] hd3 (fun ve h => OpT.sub (H rfl) (D1 h rfl) (I rfl) (nw (by omega))) rfl ?_
      refine dr [185, 191, 193] hd3 (fun ve h => OpT.indexAddr (H rfl) (D1 h rfl) (D1 h rfl) el45 sz54 (by omega) hu) rfl ?_
      refine dr [185, 194] hd3 (fun ve h => OpT.fieldAddr (H rfl) (D1 h rfl) fd54_0 sz2 (by decide) sb54_0) rfl ?_
      refine dr [185, 195] hd3 (fun ve h => OpT.load (H rfl) (D1 h rfl) ag2 rfl) rfl ?_
      refine dr [185, 190, 196] hd3 (fun ve h => OpT.leq (H rfl) (D1 h rfl) (D1 h rfl)) rfl ?_
      refine dr [182, 185, 197] hd2 (fun ve h => OpT.pickT (A := .cel _ _) (H rfl) (D1 h rfl) hd3 (D1 h rfl) rfl) rfl ?_
      refine d1 [182, 198] (fun ve h => OpT.pickF (A := .cel _ _) (H rfl) (D1 h rfl) hd2 (D1 h rfl) rfl) rfl ?_
      refine dn ⟨by kernel_rfl, by kernel_rfl, ?_⟩
      refine AX.go ?_
      refine cd rfl (fun hc6 => ?_) fun hc6 => ?_
      ·
       obtain ⟨hc6, hc6'⟩ := pT hc6
       exact (show False from (by first | omega | (simp at hc6; done) | (simp at hc6; omega))).elim
      ·
       obtain ⟨hc6, hc6'⟩ := pF hc6
       refine AW.skip ?_
       refine AX.go ?_
       refine sr ?_
       refine st (mvT rfl) rfl ?_
       refine st (mvT rfl) rfl ?_
       refine st (OpT.add (H rfl) (T1 rfl) (T1 rfl) (nw (by omega))) rfl ?_
       refine st (asT rfl) rfl ?_
       refine ng ?_
       refine sr ?_
       refine st (mvT rfl) rfl ?_
       refine st (mvT rfl) rfl ?_
       refine st (mvT rfl) rfl ?_
       refine st (OpT.mul (H rfl) (T1 rfl) (T1 rfl) (nw (by rw [hpq]; omega))) rfl ?_
       refine st (OpT.add (H rfl) (T1 rfl) (T1 rfl) (nw (by rw [hpq]; omega))) rfl ?_
       refine st (asT rfl) rfl ?_
       refine ng ?_
       refine sr ?_
       refine st (mvT rfl) rfl ?_
       refine st (mvT rfl) rfl ?_
       refine st (OpT.imax (H rfl) (T1 rfl) (T1 rfl)) rfl ?_
       refine st (asT rfl) rfl ?_
       refine ng ?_
       refine AW.region ?_
       refine st (mvT rfl) rfl ?_
       refine st (mvT rfl) rfl ?_
       apply AWl.and (d := 215) (t := 212) rfl
       ·
        intro hb8 Q1 k1
        have hb8' := lT hb8
        refine rs hb8 (mvT rfl) rfl ?_
        refine rs hb8 (OpT.eql (H rfl) (T1 rfl) (I rfl)) rfl ?_
        refine st (OpT.pickT (A := .cel _ _) (H rfl) (T1 rfl) hb8 (T1 rfl) rfl) rfl ?_
        exact AWl.to (junk 2 rfl) k1
       ·
        intro hb8 Q1 k1
        refine ps hb8 rfl ?_
        refine ps hb8 rfl ?_
        refine st (OpT.pickF (A := .cel _ _) (H rfl) (T1 rfl) hb8 Opd.bool rfl) rfl ?_
        exact k1
       refine st (asT rfl) rfl ?_
       refine nn ?_
       refine AX.normal_block ?_
       refine AX.go ?_
       refine AW.region ?_
       refine st (mvT rfl) rfl ?_
       refine st (OpT.add (H rfl) (T1 rfl) (I rfl) (nw (by omega))) rfl ?_
       refine st (asT rfl) rfl ?_
       refine nn ?_
       exact AX.again (z + 1) (by omega) (by omega) (Kc 5 _ (Kv rfl rfl) <| Kc 6 _ (Kv rfl rfl) <| Kc 7 _ (Kv rfl rfl) <| Kc 8 _ (Kv rfl rfl) <| Kc 12 _ (Kv rfl rfl) <| Kc 16 _ (Kv rfl rfl) <| Kc 18 _ (Kv rfl rfl) <| Kc 20 _ (Kv rfl (by rw [hpq]; exact smT_next ht)) <| Kc 21 _ (Kv rfl (by rw [hpq]; exact spl_next ht)) <| Kc 22 _ (Kv rfl (by rw [hpq]; exact mxT_next ht)) <| Kc 23 _ (Kv rfl (by rw [hnq]; exact alone_and (n := fun v => rowN v (crs (fldA s (pick (y, 0, 0#64) (s.length : Int)).1) (fldA s (pick ([1] ++ y, 0, 0#64) (s.length : Int)).1) (d.map (·.2)))) ht)) <| Kc 24 _ (Kv rfl (by omega)) <| Kn)
     ·
      have hd3' := lF hd3
      refine dhm [0, 0, 0, 6, 14, 30, 63, 127, 255, 255, 1023, 2047, 4095, 8191, 16383, 32767, 65535, 131071, 262143, 524287, 524287, 2097151, 4194303, 8388607, 524287, 524287, 34078719, 117964799, 252182527, 520617983, 1073741823, 2147483647, 4294967295] [] fomo ?_
      refine d1 [25] (fun ve h => OpT.move (A := .cel _ _) (.inl rfl) rfl (ok' rfl) (D1 h rfl) rfl) rfl ?_
      refine d1 [12] (fun ve h => OpT.move (A := .cel _ _) (.inl rfl) rfl (ok' rfl) (D1 h rfl) rfl) rfl ?_
      refine d1 [24] (fun ve h => OpT.move (A := .cel _ _) (.inl rfl) rfl (ok' rfl) (D1 h rfl) rfl) rfl ?_
      refine d1 [168, 169] (fun ve h => OpT.indexAddr (H rfl) (D1 h rfl) (D1 h rfl) el45 sz54 (by omega) ht) rfl ?_
      refine d1 [170] (fun ve h => OpT.fieldAddr (H rfl) (D1 h rfl) fd54_1 sz2 (by decide) sb54_1) rfl ?_
      refine d1 [171] (fun ve h => OpT.load (H rfl) (D1 h rfl) ag2 rfl) rfl ?_
      refine d1 [167, 172] (fun ve h => OpT.neq (H rfl) (D1 h rfl) (D1 h rfl)) rfl ?_
      refine d1 [173] (fun ve h => OpT.move (A := .cel _ _) (.inl rfl) rfl (ok' rfl) (D1 h rfl) rfl) rfl ?_
      refine dr [12, 174] hd1 (fun ve h => OpT.move (A := .cel _ _) (.inl rfl) rfl (ok' rfl) (D1 h rfl) rfl) rfl ?_
      refine dr [24, 174] hd1 (fun ve h => OpT.move (A := .cel _ _) (.inl rfl) rfl (ok' rfl) (D1 h rfl) rfl) rfl ?_
      refine dr [174, 175, 176] hd1 (fun ve h => OpT.indexAddr (H rfl) (D1 h rfl) (D1 h rfl) el45 sz54 (by omega) ht) rfl ?_
      refine dr [174, 177] hd1 (fun ve h => OpT.fieldAddr (H rfl) (D1 h rfl) fd54_1 sz2 (by decide) sb54_1) rfl ?_
      refine dr [174, 178] hd1 (fun ve h => OpT.load (H rfl) (D1 h rfl) ag2 rfl) rfl ?_
      refine dr [174, 179] hd1 (fun ve h => OpT.lss (H rfl) (D1 h rfl) (I rfl)) rfl ?_
      refine d1 [174, 180] (fun ve h => OpT.pickF (A := .cel _ _) (H rfl) (D1 h rfl) hd1 (D1 h rfl) rfl) rfl ?_
      refine d1 [181] (fun ve h => OpT.move (A := .cel _ _) (.inl rfl) rfl (ok' rfl) (D1 h rfl) rfl) rfl ?_
      refine dr [24, 182] hd2 (fun ve h => OpT.move (A := .cel _ _) (.inl rfl) rfl (ok' rfl) (D1 h rfl) rfl) rfl ?_
      refine dr [182, 183] hd2 (fun ve h => OpT.gtr (H rfl) (D1 h rfl) (I rfl)) rfl ?_
      refine dr [182, 184] hd2 (fun ve h => OpT.move (A := .cel _ _) (.inl rfl) rfl (ok' rfl) (D1 h rfl) rfl) rfl ?_
      refine dp hd3 rfl ?_
      refine dp hd3 rfl ?_
      refine dp hd3 rfl ?_
      refine dp hd3 rfl ?_
      refine dp hd3 rfl ?_
      refine dp hd3 rfl ?_
      refine dp hd3 rfl ?_
      refine dp hd3 rfl ?_
      refine dp hd3 rfl ?_
      refine dp hd3 rfl ?_
      refine dp hd3 rfl ?_
      refine dp hd3 rfl ?_
      refine dr [182, 185] hd2 (fun ve h => OpT.pickF (A := .cel _ _) (H rfl) (D1 h rfl) hd3 Opd.bool rfl) rfl ?_
      refine d1 [182, 198] (fun ve h => OpT.pickF (A := .cel _ _) (H rfl) (D1 h rfl) hd2 (D1 h rfl) rfl) rfl ?_
      refine dn ⟨by kernel_rfl, by kernel_rfl, ?_⟩
      refine AX.go ?_
      refine cd rfl (fun hc7 => ?_) fun hc7 => ?_
      ·
       obtain ⟨hc7, hc7'⟩ := pT hc7
       exact absurd hc7 (by decide)
      ·
       obtain ⟨hc7, hc7'⟩ := pF hc7
       refine AW.skip ?_
       refine AX.go ?_
       refine sr ?_
       refine st (mvT rfl) rfl ?_
       refine st (mvT rfl) rfl ?_
       refine st (OpT.add (H rfl) (T1 rfl) (T1 rfl) (nw (by omega))) rfl ?_
       refine st (asT rfl) rfl ?_
       refine ng ?_
       refine sr ?_
       refine st (mvT rfl) rfl ?_
       refine st (mvT rfl) rfl ?_
       refine st (mvT rfl) rfl ?_
       refine st (OpT.mul (H rfl) (T1 rfl) (T1 rfl) (nw (by rw [hpq]; omega))) rfl ?_
       refine st (OpT.add (H rfl) (T1 rfl) (T1 rfl) (nw (by rw [hpq]; omega))) rfl ?_
       refine st (asT rfl) rfl ?_
       refine ng ?_
       refine sr ?_
       refine st (mvT rfl) rfl ?_
       refine st (mvT rfl) rfl ?_
       refine st (OpT.imax (H rfl) (T1 rfl) (T1 rfl)) rfl ?_
       refine st (asT rfl) rfl ?_
       refine ng ?_
       refine AW.region ?_
       refine st (mvT rfl) rfl ?_
       refine st (mvT rfl) rfl ?_
       apply AWl.and (d := 215) (t := 212) rfl
       ·
        intro hb9 Q1 k1
        have hb9' := lT hb9
        refine rs hb9 (mvT rfl) rfl ?_
        refine rs hb9 (OpT.eql (H rfl) (T1 rfl) (I rfl)) rfl ?_
        refine st (OpT.pickT (A := .cel _ _) (H rfl) (T1 rfl) hb9 (T1 rfl) rfl) rfl ?_
        exact AWl.to (junk 2 rfl) k1
       ·
        intro hb9 Q1 k1
        refine ps hb9 rfl ?_
        refine ps hb9 rfl ?_
        refine st (OpT.pickF (A := .cel _ _) (H rfl) (T1 rfl) hb9 Opd.bool rfl) rfl ?_
        exact k1
       refine st (asT rfl) rfl ?_
       refine nn ?_
       refine AX.normal_block ?_
       refine AX.go ?_
       refine AW.region ?_
       refine st (mvT rfl) rfl ?_
       refine st (OpT.add (H rfl) (T1 rfl) (I rfl) (nw (by omega))) rfl ?_
       refine st (asT rfl) rfl ?_
       refine nn ?_
       exact AX.again (z + 1) (by omega) (by omega) (Kc 5 _ (Kv rfl rfl) <| Kc 6 _ (Kv rfl rfl) <| Kc 7 _ (Kv rfl rfl) <| Kc 8 _ (Kv rfl rfl) <| Kc 12 _ (Kv rfl rfl) <| Kc 16 _ (Kv rfl rfl) <| Kc 18 _ (Kv rfl rfl) <| Kc 20 _ (Kv rfl (by rw [hpq]; exact smT_next ht)) <| Kc 21 _ (Kv rfl (by rw [hpq]; exact spl_next ht)) <| Kc 22 _ (Kv rfl (by rw [hpq]; exact mxT_next ht)) <| Kc 23 _ (Kv rfl (by rw [hnq]; exact alone_and (n := fun v => rowN v (crs (fldA s (pick (y, 0, 0#64) (s.length : Int)).1) (fldA s (pick ([1] ++ y, 0, 0#64) (s.length : Int)).1) (d.map (·.2)))) ht)) <| Kc 24 _ (Kv rfl (by omega)) <| Kn)
   ·
    obtain ⟨hc3, hc3'⟩ := pF hc3
    have hz9 : z = (tly (fldA s (pick (y, 0, 0#64) (s.length : Int)).1) d).length := by omega
    have hBs := best_yes (s := s) (x := d) hzE (by omega)
    refine AW.exit ?_
    refine xT <| xT <| AX.exit_hit ?_
    refine AX.go ?_
    refine sr ?_
    refine AWl.to (Kc 20 _ (Kv rfl (show _ = (d.length : Int) from by rw [hz9, List.take_length]; exact sm_tly _ _)) <| (kc4 138 137 136 135 rfl <| kc4 5 6 7 8 rfl <| kc4 12 16 18 21 rfl <| kc3 22 23 24 rfl <| Kn)) ?_
    refine AWl.to (Kc 21 _ (Kv rfl (show _ = (spl (tly (fldA s (pick (y, 0, 0#64) (s.length : Int)).1) d)) from by rw [hz9, List.take_length])) <| (kc4 20 138 137 136 rfl <| kc4 135 5 6 7 rfl <| kc4 8 12 16 18 rfl <| kc3 22 23 24 rfl <| Kn)) ?_
    refine AWl.to (Kc 22 _ (Kv rfl (show _ = (mxT (tly (fldA s (pick (y, 0, 0#64) (s.length : Int)).1) d)) from by rw [hz9, List.take_length])) <| (kc4 21 20 138 137 rfl <| kc4 136 135 5 6 rfl <| kc4 7 8 12 16 rfl <| kc3 18 23 24 rfl <| Kn)) ?_
    refine AWl.to (Kc 23 _ (Kv rfl (show _ = (tt (fnC (fldA s (pick (y, 0, 0#64) (s.length : Int)).1) (fldA s (pick ([1] ++ y, 0, 0#64) (s.length : Int)).1) (d.map (·.2)))) from by rw [hz9, List.take_length]; exact congrArg tt (propext alone_fn))) <| (kc4 22 21 20 138 rfl <| kc4 137 136 135 5 rfl <| kc4 6 7 8 12 rfl <| kc3 16 18 24 rfl <| Kn)) ?_
    refine st (mvT rfl) rfl ?_
    refine st (mvT rfl) rfl ?_
    refine st (mvT rfl) rfl ?_
    refine s2 (OpT.c2 (ms := [.flat, .flat, .flat]) (c_impl_SplitOf _ _ _) (H rfl) (Af (T1 rfl) rfl rfl <| Af (T1 rfl) rfl rfl <| Af (T1 rfl) rfl rfl <| An) rfl rfl rfl) rfl ?_
    refine st (OpT.alias (H rfl) (by decide) (by decide)) rfl ?_
    refine st (OpT.extractV (m := 10220) (H rfl) rfl rfl rfl rfl rfl rfl rfl) rfl ?_
    refine st (OpT.extractV (m := 20220) (H rfl) rfl rfl rfl rfl rfl rfl rfl) rfl ?_
    refine st (asT rfl) rfl ?_
    refine AWl.to (Kc 28 _ (Kv rfl (show _ = (spl (tly (fldA s (pick (y, 0, 0#64) (s.length : Int)).1) d)) from by rw [hSp])) <| (kc2 222 221 rfl <| Kc 216 (.ali _) rfl <| kc4 10220 20220 219 218 rfl <| kc4 217 23 22 21 rfl <| kc4 20 138 137 136 rfl <| kc4 135 5 6 7 rfl <| kc4 8 12 16 18 rfl <| kc 24 rfl <| Kn)) ?_
    refine st (asT rfl) rfl ?_
    refine AWl.to (Kc 29 _ (Kv rfl (show _ = (0 : Int) from by rw [hSp])) <| (kc3 28 222 221 rfl <| Kc 216 (.ali _) rfl <| kc4 10220 20220 219 218 rfl <| kc4 217 23 22 21 rfl <| kc4 20 138 137 136 rfl <| kc4 135 5 6 7 rfl <| kc4 8 12 16 18 rfl <| kc 24 rfl <| Kn)) ?_
    refine AWl.to (kc4 29 28 23 22 rfl <| kc4 21 20 5 6 rfl <| kc4 7 8 12 18 rfl <| Kn) ?_
    refine ng ?_
    refine sr ?_
    refine st (mvT rfl) rfl ?_
    refine st (mvT rfl) rfl ?_
    refine s3 (cN (ms := [.flat, .flat]) (c_impl_BestField _ _) (H rfl) (Af (T1 rfl) rfl rfl <| Af (T1 rfl) rfl rfl <| An) rfl (.inl rfl)) rfl ?_
    refine st (OpT.alias (H rfl) (by decide) (by decide)) rfl ?_
    refine st (OpT.extractV (m := 10226) (H rfl) rfl rfl rfl rfl rfl rfl rfl) rfl ?_
    refine st (OpT.extractV (m := 20226) (H rfl) rfl rfl rfl rfl rfl rfl rfl) rfl ?_
    refine st (OpT.extractV (m := 30226) (H rfl) rfl rfl rfl rfl rfl rfl rfl) rfl ?_
    refine st (asT rfl) rfl ?_
    refine AWl.to (Kc 30 _ (Kv rfl (show _ = (bst s d s.length).1 from by rw [hBs])) <| (kc3 229 228 227 rfl <| Kc 223 (.ali _) rfl <| kc4 10226 20226 30226 225 rfl <| kc4 224 29 28 23 rfl <| kc4 22 21 20 5 rfl <| kc4 6 7 8 12 rfl <| kc 18 rfl <| Kn)) ?_
    refine st (asT rfl) rfl ?_
    refine AWl.to (Kc 31 _ (Kv rfl (show _ = (bst s d s.length).2 from by rw [hBs])) <| (kc4 30 229 228 227 rfl <| Kc 223 (.ali _) rfl <| kc4 10226 20226 30226 225 rfl <| kc4 224 29 28 23 rfl <| kc4 22 21 20 5 rfl <| kc4 6 7 8 12 rfl <| kc 18 rfl <| Kn)) ?_
    refine st (asT rfl) rfl ?_
    refine AWl.to (Kc 32 _ (Kv rfl (show _ = (0 : Int) from by rw [hBs])) <| (kc4 31 30 229 228 rfl <| kc 227 rfl <| Kc 223 (.ali _) rfl <| kc4 10226 20226 30226 225 rfl <| kc4 224 29 28 23 rfl <| kc4 22 21 20 5 rfl <| kc4 6 7 8 12 rfl <| kc 18 rfl <| Kn)) ?_
    refine ng ?_
    refine AW.seq ?_
    refine sr ?_
    refine st (mvT rfl) rfl ?_
    refine st (mvT rfl) rfl ?_
    refine st (OpT.len (H rfl) (T1 rfl) el31) rfl ?_
    refine st (OpT.neq (H rfl) (T1 rfl) (T1 rfl)) rfl ?_
    refine st (mvT rfl) rfl ?_
    apply AWl.or (d := 237) (t := 234) rfl
    ·
     intro hb10 Q1 k1
     have hb10' := lF hb10
     refine rs hb10 (mvT rfl) rfl ?_
     refine rs hb10 (OpT.neq (H rfl) (T1 rfl) (I rfl)) rfl ?_
     refine st (OpT.pickF (A := .cel _ _) (H rfl) (T1 rfl) hb10 (T1 rfl) rfl) rfl ?_
     exact AWl.to (junk 2 rfl) k1
    ·
     intro hb10 Q1 k1
     refine ps hb10 rfl ?_
     refine ps hb10 rfl ?_
     refine st (OpT.pickT (A := .cel _ _) (H rfl) (T1 rfl) hb10 Opd.bool rfl) rfl ?_
     exact k1
    refine st (mvT rfl) rfl ?_
    apply AWl.or (d := 242) (t := 238) rfl
    ·
     intro hb11 Q1 k1
     have hb11' := lF hb11
     refine rs hb11 (mvT rfl) rfl ?_
     refine rs hb11 (mvT rfl) rfl ?_
     refine rs hb11 (OpT.neq (H rfl) (T1 rfl) (T1 rfl)) rfl ?_
     refine st (OpT.pickF (A := .cel _ _) (H rfl) (T1 rfl) hb11 (T1 rfl) rfl) rfl ?_
     exact AWl.to (junk 3 rfl) k1
    ·
     intro hb11 Q1 k1
     refine ps hb11 rfl ?_
     refine ps hb11 rfl ?_
     refine ps hb11 rfl ?_
     refine st (OpT.pickT (A := .cel _ _) (H rfl) (T1 rfl) hb11 Opd.bool rfl) rfl ?_
     exact k1
    refine st (mvT rfl) rfl ?_
    apply AWl.or (d := 247) (t := 243) rfl
    ·
     intro hb12 Q1 k1
     have hb12' := lF hb12
     refine rs hb12 (mvT rfl) rfl ?_
     refine rs hb12 (mvT rfl) rfl ?_
     refine rs hb12 (OpT.bneq (H rfl) Tryz.underlying4 (T1 rfl) (T1 rfl)) rfl ?_
     refine st (OpT.pickF (A := .cel _ _) (H rfl) (T1 rfl) hb12 (T1 rfl) rfl) rfl ?_
     exact AWl.to (junk 3 rfl) k1
    ·
     intro hb12 Q1 k1
     refine ps hb12 rfl ?_
     refine ps hb12 rfl ?_
     refine ps hb12 rfl ?_
     refine st (OpT.pickT (A := .cel _ _) (H rfl) (T1 rfl) hb12 Opd.bool rfl) rfl ?_
     exact k1
    refine st (mvT rfl) rfl ?_
    apply AWl.or (d := 251) (t := 248) rfl
    ·
     intro hb13 Q1 k1
     have hb13' := lF hb13
     refine rs hb13 (mvT rfl) rfl ?_
     refine rs hb13 (OpT.neq (H rfl) (T1 rfl) (I rfl)) rfl ?_
     refine st (OpT.pickF (A := .cel _ _) (H rfl) (T1 rfl) hb13 (T1 rfl) rfl) rfl ?_
     exact AWl.to (junk 2 rfl) k1
    ·
     intro hb13 Q1 k1
     refine ps hb13 rfl ?_
     refine ps hb13 rfl ?_
     refine st (OpT.pickT (A := .cel _ _) (H rfl) (T1 rfl) hb13 Opd.bool rfl) rfl ?_
     exact k1
    refine st (mvT rfl) rfl ?_
    apply AWl.or (d := 255) (t := 252) rfl
    ·
     intro hb14 Q1 k1
     have hb14' := lF hb14
     refine rs hb14 (mvT rfl) rfl ?_
     refine rs hb14 (OpT.lss (H rfl) (T1 rfl) (I rfl)) rfl ?_
     refine st (OpT.pickF (A := .cel _ _) (H rfl) (T1 rfl) hb14 (T1 rfl) rfl) rfl ?_
     exact AWl.to (junk 2 rfl) k1
    ·
     intro hb14 Q1 k1
     refine ps hb14 rfl ?_
     refine ps hb14 rfl ?_
     refine st (OpT.pickT (A := .cel _ _) (H rfl) (T1 rfl) hb14 Opd.bool rfl) rfl ?_
     exact k1
    refine st (mvT rfl) rfl ?_
    apply AWl.or (d := 260) (t := 256) rfl
    ·
     intro hb15 Q1 k1
     have hb15' := lF hb15
     refine rs hb15 (mvT rfl) rfl ?_
     refine rs hb15 (mvT rfl) rfl ?_
     refine rs hb15 (OpT.geq (H rfl) (T1 rfl) (T1 rfl)) rfl ?_
     refine st (OpT.pickF (A := .cel _ _) (H rfl) (T1 rfl) hb15 (T1 rfl) rfl) rfl ?_
     exact AWl.to (junk 3 rfl) k1
    ·
     intro hb15 Q1 k1
     refine ps hb15 rfl ?_
     refine ps hb15 rfl ?_
     refine ps hb15 rfl ?_
     refine st (OpT.pickT (A := .cel _ _) (H rfl) (T1 rfl) hb15 Opd.bool rfl) rfl ?_
     exact k1
    refine AWl.to (kc4 260 31 30 22 rfl <| kc4 5 6 7 8 rfl <| kc 12 rfl <| Kn) ?_
    refine ng ?_
    refine cd rfl (fun hc8 => ?_) fun hc8 => ?_
    ·
     obtain ⟨hc8, hc8'⟩ := pT hc8
     exact (show False from (by obtain ⟨b, hb9, h1, h2, h3, h4⟩ := hbl; rw [h1] at hc8; simp at hc8; omega)).elim
    ·
     obtain ⟨hc8, hc8'⟩ := pF hc8
     refine AW.skip ?_
     refine AX.go ?_
     refine AW.seq ?_
     refine sr ?_
     refine st (asI rfl) rfl ?_
     refine ng ?_
     refine AW.block ?_
     refine AW.loop (fun k : Nat => k ≤ s.length) (fun k : Nat => keep [(5, .cel (Kd.slice kField) s), (6, .cel (Kd.slice kCard) d), (7, .cel (Kd.int .i64) (s.length : Int)), (8, .cel (Kd.int .i64) (pick (y, 0, 0#64) (s.length : Int)).1), (12, .cel (Kd.slice kShare) (tly (fldA s (pick (y, 0, 0#64) (s.length : Int)).1) d)), (22, .cel (Kd.int .i64) (mxT (tly (fldA s (pick (y, 0, 0#64) (s.length : Int)).1) d))), (30, .cel (Kd.int .i64) (bst s d s.length).1), (31, .cel (Kd.int .i64) (bst s d s.length).2), (33, .cel (Kd.int .i64) (k : Int))]) (fun k : Nat => s.length - k) (0) (Nat.zero_le _) (Kc 5 _ (Kv rfl rfl) <| Kc 6 _ (Kv rfl rfl) <| Kc 7 _ (Kv rfl rfl) <| Kc 8 _ (Kv rfl rfl) <| Kc 12 _ (Kv rfl rfl) <| Kc 22 _ (Kv rfl rfl) <| Kc 30 _ (Kv rfl rfl) <| Kc 31 _ (Kv rfl rfl) <| Kc 33 _ (Kv rfl rfl) <| Kn) ?_
     intro k hI
     refine AW.seq ?_
     refine sr ?_
     refine st (mvT rfl) rfl ?_
     refine st (mvT rfl) rfl ?_
     refine st (OpT.lss (H rfl) (T1 rfl) (T1 rfl)) rfl ?_
     refine ng ?_
     refine cd rfl (fun hc9 => ?_) fun hc9 => ?_
     ·
      obtain ⟨hc9, hc9'⟩ := pT hc9
      have hk9 : 0 ≤ (k : Int) ∧ (k : Int) < s.length := by omega
      have hzk : tabF s d [(k : Int)] = 0 := by rw [← tabF_same]; exact cnt_tab hs.1 hD.1 (by omega) hk9 hk9
      have hSk := splS_yes hzk (fldA_get hk9)
      refine AW.skip ?_
      refine AX.go ?_
      refine AW.seq ?_
      refine AW.block ?_
      refine sr ?_
      refine st (mvT rfl) rfl ?_
      refine st (mvT rfl) rfl ?_
      refine st (mvT rfl) rfl ?_
      refine s2 (OpT.c2 (ms := [.flat, .flat, .flat]) (c_impl_SplitOf _ _ _) (H rfl) (Af (T1 rfl) rfl rfl <| Af (T1 rfl) rfl rfl <| Af (T1 rfl) rfl rfl <| An) rfl rfl rfl) rfl ?_
      refine st (OpT.alias (H rfl) (by decide) (by decide)) rfl ?_
      refine st (OpT.extractV (m := 10270) (H rfl) rfl rfl rfl rfl rfl rfl rfl) rfl ?_
      refine st (OpT.extractV (m := 20270) (H rfl) rfl rfl rfl rfl rfl rfl rfl) rfl ?_
      refine st (asT rfl) rfl ?_
      refine AWl.to (Kc 34 _ (Kv rfl (show _ = (spl (tly (fldA s (k : Int)) d)) from by rw [hSk])) <| (kc2 272 271 rfl <| Kc 266 (.ali _) rfl <| kc4 10270 20270 269 268 rfl <| kc4 267 263 262 261 rfl <| kc4 5 6 7 8 rfl <| kc4 12 22 30 31 rfl <| kc 33 rfl <| Kn)) ?_
      refine st (asT rfl) rfl ?_
      refine AWl.to (Kc 35 _ (Kv rfl (show _ = (0 : Int) from by rw [hSk])) <| (kc3 34 272 271 rfl <| Kc 266 (.ali _) rfl <| kc4 10270 20270 269 268 rfl <| kc4 267 263 262 261 rfl <| kc4 5 6 7 8 rfl <| kc4 12 22 30 31 rfl <| kc 33 rfl <| Kn)) ?_
      refine ng ?_
      refine sr ?_
      refine st (mvT rfl) rfl ?_
      refine st (OpT.neq (H rfl) (T1 rfl) (I rfl)) rfl ?_
      refine st (mvT rfl) rfl ?_
      apply AWl.or (d := 279) (t := 275) rfl
      ·
       intro hb16 Q1 k1
       have hb16' := lF hb16
       refine rs hb16 (mvT rfl) rfl ?_
       refine rs hb16 (mvT rfl) rfl ?_
       refine rs hb16 (OpT.lss (H rfl) (T1 rfl) (T1 rfl)) rfl ?_
       refine st (OpT.pickF (A := .cel _ _) (H rfl) (T1 rfl) hb16 (T1 rfl) rfl) rfl ?_
       exact AWl.to (junk 3 rfl) k1
      ·
       intro hb16 Q1 k1
       refine ps hb16 rfl ?_
       refine ps hb16 rfl ?_
       refine ps hb16 rfl ?_
       refine st (OpT.pickT (A := .cel _ _) (H rfl) (T1 rfl) hb16 Opd.bool rfl) rfl ?_
       exact k1
      refine st (mvT rfl) rfl ?_
      apply AWl.or (d := 289) (t := 280) rfl
      ·
       intro hb17 Q1 k1
       have hb17' := lF hb17
       refine rs hb17 (mvT rfl) rfl ?_
       refine rs hb17 (mvT rfl) rfl ?_
       refine rs hb17 (OpT.lss (H rfl) (T1 rfl) (T1 rfl)) rfl ?_
       refine rs hb17 (mvT rfl) rfl ?_
       apply AWl.and (d := 288) (t := 284) rfl
       ·
        intro hb18 Q1 k1
        have hb18' := lT hb18
        refine rs hb18 (mvT rfl) rfl ?_
        refine rs hb18 (mvT rfl) rfl ?_
        refine rs hb18 (OpT.eql (H rfl) (T1 rfl) (T1 rfl)) rfl ?_
        refine rs hb17 (OpT.pickT (A := .cel _ _) (H rfl) (T1 rfl) hb18 (T1 rfl) rfl) rfl ?_
        exact AWl.to (junk 3 rfl) k1
       ·
        intro hb18 Q1 k1
        refine ps hb18 rfl ?_
        refine ps hb18 rfl ?_
        refine ps hb18 rfl ?_
        refine rs hb17 (OpT.pickF (A := .cel _ _) (H rfl) (T1 rfl) hb18 Opd.bool rfl) rfl ?_
        exact k1
       refine st (OpT.pickF (A := .cel _ _) (H rfl) (T1 rfl) hb17 (T1 rfl) rfl) rfl ?_
       exact AWl.to (junk 5 rfl) k1
      ·
       intro hb17 Q1 k1
       refine ps hb17 rfl ?_
       refine ps hb17 rfl ?_
       refine ps hb17 rfl ?_
       refine AWl.pasv rfl rfl rfl rfl hb17 rfl (ok' rfl) rfl ?_
       refine AWl.pasu rfl rfl rfl rfl rfl (ok' rfl) rfl ?_
       refine AWl.pasu rfl rfl rfl rfl rfl (ok' rfl) rfl ?_
       refine AWl.pasu rfl rfl rfl rfl rfl (ok' rfl) rfl ?_
       refine ps hb17 rfl ?_
       refine st (OpT.pickT (A := .cel _ _) (H rfl) (T1 rfl) hb17 Opd.bool rfl) rfl ?_
       exact AWl.to (junk 4 rfl) k1
      refine st (mvT rfl) rfl ?_
      apply AWl.or (d := 299) (t := 290) rfl
      ·
       intro hb19 Q1 k1
       have hb19' := lF hb19
       refine rs hb19 (mvT rfl) rfl ?_
       refine rs hb19 (mvT rfl) rfl ?_
       refine rs hb19 (OpT.eql (H rfl) (T1 rfl) (T1 rfl)) rfl ?_
       refine rs hb19 (mvT rfl) rfl ?_
       apply AWl.and (d := 298) (t := 294) rfl
       ·
        intro hb20 Q1 k1
        have hb20' := lT hb20
        refine rs hb20 (mvT rfl) rfl ?_
        refine rs hb20 (mvT rfl) rfl ?_
        refine rs hb20 (OpT.neq (H rfl) (T1 rfl) (T1 rfl)) rfl ?_
        refine rs hb19 (OpT.pickT (A := .cel _ _) (H rfl) (T1 rfl) hb20 (T1 rfl) rfl) rfl ?_
        exact AWl.to (junk 3 rfl) k1
       ·
        intro hb20 Q1 k1
        refine ps hb20 rfl ?_
        refine ps hb20 rfl ?_
        refine ps hb20 rfl ?_
        refine rs hb19 (OpT.pickF (A := .cel _ _) (H rfl) (T1 rfl) hb20 Opd.bool rfl) rfl ?_
        exact k1
       refine st (OpT.pickF (A := .cel _ _) (H rfl) (T1 rfl) hb19 (T1 rfl) rfl) rfl ?_
       exact AWl.to (junk 5 rfl) k1
      ·
       intro hb19 Q1 k1
       refine ps hb19 rfl ?_
       refine ps hb19 rfl ?_
       refine ps hb19 rfl ?_
       refine AWl.pasv rfl rfl rfl rfl hb19 rfl (ok' rfl) rfl ?_
       refine AWl.pasu rfl rfl rfl rfl rfl (ok' rfl) rfl ?_
       refine AWl.pasu rfl rfl rfl rfl rfl (ok' rfl) rfl ?_
       refine AWl.pasu rfl rfl rfl rfl rfl (ok' rfl) rfl ?_
       refine ps hb19 rfl ?_
       refine st (OpT.pickT (A := .cel _ _) (H rfl) (T1 rfl) hb19 Opd.bool rfl) rfl ?_
       exact AWl.to (junk 4 rfl) k1
      refine ng ?_
      refine cd rfl (fun hc10 => ?_) fun hc10 => ?_
      ·
       obtain ⟨hc10, hc10'⟩ := pT hc10
       exact (show False from (by obtain ⟨b, hb9, h1, h2, h3, h4⟩ := hbl; have h5 := h3 k (by omega); have h6 := h4 k; rw [h1, h2] at hc10; rcases Nat.lt_trichotomy k b with h7 | h7 | h7; (simp at hc10; omega); (subst h7; simp at hc10); (simp at hc10; omega))).elim
      ·
       obtain ⟨hc10, hc10'⟩ := pF hc10
       refine AW.skip ?_
       refine AX.normal_block ?_
       refine AX.go ?_
       refine AW.region ?_
       refine st (mvT rfl) rfl ?_
       refine st (OpT.add (H rfl) (T1 rfl) (I rfl) (nw (by omega))) rfl ?_
       refine st (asT rfl) rfl ?_
       refine nn ?_
       exact AX.again (k + 1) (by omega) (by omega) (Kc 5 _ (Kv rfl rfl) <| Kc 6 _ (Kv rfl rfl) <| Kc 7 _ (Kv rfl rfl) <| Kc 8 _ (Kv rfl rfl) <| Kc 12 _ (Kv rfl rfl) <| Kc 22 _ (Kv rfl rfl) <| Kc 30 _ (Kv rfl rfl) <| Kc 31 _ (Kv rfl rfl) <| Kc 33 _ (Kv rfl (by omega)) <| Kn)
     ·
      obtain ⟨hc9, hc9'⟩ := pF hc9
      refine AW.exit ?_
      refine xT <| xT <| AX.exit_hit ?_
      refine AX.go ?_
      refine sr ?_
      refine st (mvT rfl) rfl ?_
      refine st (mvT rfl) rfl ?_
      refine st (mvT rfl) rfl ?_
      refine s3 (cN (ms := [.flat, .flat, .flat]) (c_impl_CommonValue _ _ _) (H rfl) (Af (T1 rfl) rfl rfl <| Af (T1 rfl) rfl rfl <| Af (T1 rfl) rfl rfl <| An) rfl (.inl rfl)) rfl ?_
      refine st (OpT.alias (H rfl) (by decide) (by decide)) rfl ?_
      refine st (OpT.extractV (m := 10304) (H rfl) rfl rfl rfl rfl rfl rfl rfl) rfl ?_
      refine st (OpT.extractV (m := 20304) (H rfl) rfl rfl rfl rfl rfl rfl rfl) rfl ?_
      refine st (OpT.extractV (m := 30304) (H rfl) rfl rfl rfl rfl rfl rfl rfl) rfl ?_
      refine st (OpT.alloc (H rfl) zr60 zk60) rfl ?_
      refine st (asT rfl) rfl ?_
      refine sk (OpT.storeBA rfl rfl (Opd.whole (Root.self (t := 37) (by decide)) rfl) rfl sz60 (by decide) (T1 rfl)) rfl ?_
      refine st (asT rfl) rfl ?_
      refine AWl.to (kc 38 rfl <| kb 37 rfl <| kc4 36 6 12 22 rfl <| Kn) ?_
      refine ng ?_
      refine AW.seq ?_
      refine sr ?_
      refine st (mvT rfl) rfl ?_
      refine st (OpT.len (H rfl) (T1 rfl) el31) rfl ?_
      refine st (OpT.eql (H rfl) (T1 rfl) (I rfl)) rfl ?_
      refine ng ?_
      refine cd rfl (fun hc11 => ?_) fun hc11 => ?_
      ·
       obtain ⟨hc11, hc11'⟩ := pT hc11
       refine sr ?_
       refine st (mvT rfl) rfl ?_
       refine st (OpT.eql (H rfl) (T1 rfl) (I rfl)) rfl ?_
       refine st (asT rfl) rfl ?_
       refine ng ?_
       refine AW.ret ?_
       refine rT ?_
       exact rt1 rfl (.inl rfl) (by first | rfl | (rw [cmn_none hz1 (by omega)]; rfl) | (rw [hCm]; first | exact (beq_iff_eq.2 (most_val (fun t h9 => (ht60 t h9).1) ht hI.2 hte)).symm | exact (beq_iff_eq.2 (most_val (fun t h9 => (ht60 t h9).1) ht hI.2 hte))))
      ·
       obtain ⟨hc11, hc11'⟩ := pF hc11
       have hd0 : d.length ≠ 0 := by omega
       have hT0 : (tly (fldA s (pick (y, 0, 0#64) (s.length : Int)).1) d).length ≠ 0 := fun h9 => hd0 ((tly_len0 _ _).1 h9)
       have hmx := cmx_mx (tly (fldA s (pick (y, 0, 0#64) (s.length : Int)).1) d) (tly (fldA s (pick (y, 0, 0#64) (s.length : Int)).1) d).length
       rw [List.take_length] at hmx
       have hcxi := cmx_in (l := (tly (fldA s (pick (y, 0, 0#64) (s.length : Int)).1) d)) (n := d.length) hti.2 (tly (fldA s (pick (y, 0, 0#64) (s.length : Int)).1) d).length (Nat.le_refl _)
       have hCm := cmn_yes hz1 hd0 hfi
       rw [hmx] at hCm hcxi
       have hmo := most_some (fun t h9 => (ht60 t h9).1) hT0
       have hm1 : 1 ≤ mxT (tly (fldA s (pick (y, 0, 0#64) (s.length : Int)).1) d) := by obtain ⟨k, u, h1, h2⟩ := hmo; have := ht60 u (List.mem_of_getElem? h1); omega
       have hSh := sho_yes (p := mxT (tly (fldA s (pick (y, 0, 0#64) (s.length : Int)).1) d)) (q := (d.length : Int)) (by omega)
       have hcp := cmp_same (told_shr (p := mxT (tly (fldA s (pick (y, 0, 0#64) (s.length : Int)).1) d)) (q := (d.length : Int)) (by omega) (by omega) (by omega))
       refine AW.skip ?_
       refine AX.go ?_
       refine sr ?_
       refine st (mvT rfl) rfl ?_
       refine st (mvT rfl) rfl ?_
       refine st (OpT.len (H rfl) (T1 rfl) el31) rfl ?_
       refine s2 (OpT.c2 (ms := [.flat, .flat]) (c_impl_ShareOf _ _) (H rfl) (Af (T1 rfl) rfl rfl <| Af (T1 rfl) rfl rfl <| An) rfl rfl rfl) rfl ?_
       refine st (OpT.alias (H rfl) (by decide) (by decide)) rfl ?_
       refine st (OpT.extractV (m := 10317) (H rfl) rfl rfl rfl rfl rfl rfl rfl) rfl ?_
       refine st (OpT.extractV (m := 20317) (H rfl) rfl rfl rfl rfl rfl rfl rfl) rfl ?_
       refine st (OpT.alloc (H rfl) zr60 zk60) rfl ?_
       refine sk (OpT.storeBA rfl rfl (Opd.whole (Root.self (t := 39) (by decide)) rfl) rfl sz60 (by decide) (T1 rfl)) rfl ?_
       refine st (asT rfl) rfl ?_
       refine AWl.to (kc 40 rfl <| kb 39 rfl <| kc 38 rfl <| kb 37 rfl <| kc3 36 12 22 rfl <| Kn) ?_
       refine ng ?_
       refine sr ?_
       refine st (OpT.loadB (H rfl) (Root.self (t := 37) (by decide)) rfl ag60 sz60) rfl ?_
       refine st (OpT.loadB (H rfl) (Root.self (t := 39) (by decide)) rfl ag60 sz60) rfl ?_
       refine s2 (OpT.c2 (ms := [.flat, .flat]) (c_impl_CompareShares _ _) (H rfl) (Af (T1 rfl) rfl rfl <| Af (T1 rfl) rfl rfl <| An) rfl rfl rfl) rfl ?_
       refine st (OpT.alias (H rfl) (by decide) (by decide)) rfl ?_
       refine st (OpT.extractV (m := 10323) (H rfl) rfl rfl rfl rfl rfl rfl rfl) rfl ?_
       refine st (OpT.extractV (m := 20323) (H rfl) rfl rfl rfl rfl rfl rfl rfl) rfl ?_
       refine st (asT rfl) rfl ?_
       refine st (asT rfl) rfl ?_
       refine ng ?_
       refine AW.seq ?_
       refine sr ?_
       refine st (mvT rfl) rfl ?_
       refine st (OpT.neq (H rfl) (T1 rfl) (I rfl)) rfl ?_
       refine st (mvT rfl) rfl ?_
       apply AWl.or (d := 331) (t := 328) rfl
       ·
        intro hb21 Q1 k1
        have hb21' := lF hb21
        refine rs hb21 (mvT rfl) rfl ?_
        refine rs hb21 (OpT.neq (H rfl) (T1 rfl) (I rfl)) rfl ?_
        refine st (OpT.pickF (A := .cel _ _) (H rfl) (T1 rfl) hb21 (T1 rfl) rfl) rfl ?_
        exact AWl.to (junk 2 rfl) k1
       ·
        intro hb21 Q1 k1
        refine ps hb21 rfl ?_
        refine ps hb21 rfl ?_
        refine st (OpT.pickT (A := .cel _ _) (H rfl) (T1 rfl) hb21 Opd.bool rfl) rfl ?_
        exact k1
       refine st (mvT rfl) rfl ?_
       apply AWl.or (d := 336) (t := 332) rfl
       ·
        intro hb22 Q1 k1
        have hb22' := lF hb22
        refine rs hb22 (OpT.loadB (H rfl) (Root.self (t := 37) (by decide)) rfl ag60 sz60) rfl ?_
        refine rs hb22 (OpT.loadB (H rfl) (Root.self (t := 39) (by decide)) rfl ag60 sz60) rfl ?_
        refine rs hb22 (OpT.neA (H rfl) (T1 rfl) (T1 rfl) eq60 ag60 rfl eg60) rfl ?_
        refine st (OpT.pickF (A := .cel _ _) (H rfl) (T1 rfl) hb22 (T1 rfl) rfl) rfl ?_
        exact AWl.to (junk 3 rfl) k1
       ·
        intro hb22 Q1 k1
        refine ps hb22 rfl ?_
        refine ps hb22 rfl ?_
        refine ps hb22 rfl ?_
        refine st (OpT.pickT (A := .cel _ _) (H rfl) (T1 rfl) hb22 Opd.bool rfl) rfl ?_
        exact k1
       refine st (mvT rfl) rfl ?_
       apply AWl.or (d := 340) (t := 337) rfl
       ·
        intro hb23 Q1 k1
        have hb23' := lF hb23
        refine rs hb23 (mvT rfl) rfl ?_
        refine rs hb23 (OpT.neq (H rfl) (T1 rfl) (I rfl)) rfl ?_
        refine st (OpT.pickF (A := .cel _ _) (H rfl) (T1 rfl) hb23 (T1 rfl) rfl) rfl ?_
        exact AWl.to (junk 2 rfl) k1
       ·
        intro hb23 Q1 k1
        refine ps hb23 rfl ?_
        refine ps hb23 rfl ?_
        refine st (OpT.pickT (A := .cel _ _) (H rfl) (T1 rfl) hb23 Opd.bool rfl) rfl ?_
        exact k1
       refine st (mvT rfl) rfl ?_
       apply AWl.or (d := 344) (t := 341) rfl
       ·
        intro hb24 Q1 k1
        have hb24' := lF hb24
        refine rs hb24 (mvT rfl) rfl ?_
        refine rs hb24 (OpT.neq (H rfl) (T1 rfl) (I rfl)) rfl ?_
        refine st (OpT.pickF (A := .cel _ _) (H rfl) (T1 rfl) hb24 (T1 rfl) rfl) rfl ?_
        exact AWl.to (junk 2 rfl) k1
       ·
        intro hb24 Q1 k1
        refine ps hb24 rfl ?_
        refine ps hb24 rfl ?_
        refine st (OpT.pickT (A := .cel _ _) (H rfl) (T1 rfl) hb24 Opd.bool rfl) rfl ?_
        exact k1
       refine AWl.to (kc4 344 36 12 22 rfl <| Kn) ?_
       refine ng ?_
       refine cd rfl (fun hc12 => ?_) fun hc12 => ?_
       ·
        obtain ⟨hc12, hc12'⟩ := pT hc12
        exact (show False from (by simp only [hCm, hSh, hcp] at hc12; simp [eqv_self] at hc12)).elim
       ·
        obtain ⟨hc12, hc12'⟩ := pF hc12
        refine AW.skip ?_
        refine AX.go ?_
        refine AW.seq ?_
        refine sr ?_
        refine st (asI rfl) rfl ?_
        refine ng ?_
        refine AW.block ?_
        refine AW.loop (fun w : Nat => w ≤ (tly (fldA s (pick (y, 0, 0#64) (s.length : Int)).1) d).length ∧ ∀ k u, k < w → (tly (fldA s (pick (y, 0, 0#64) (s.length : Int)).1) d)[k]? = some u → u.2 ≠ mxT (tly (fldA s (pick (y, 0, 0#64) (s.length : Int)).1) d)) (fun w : Nat => keep [(12, .cel (Kd.slice kShare) (tly (fldA s (pick (y, 0, 0#64) (s.length : Int)).1) d)), (22, .cel (Kd.int .i64) (mxT (tly (fldA s (pick (y, 0, 0#64) (s.length : Int)).1) d))), (36, .cel (Kd.int .i64) (cmnS s d (pick (y, 0, 0#64) (s.length : Int)).1).1), (43, .cel (Kd.int .i64) (w : Int))]) (fun w : Nat => (tly (fldA s (pick (y, 0, 0#64) (s.length : Int)).1) d).length - w) (0) ⟨Nat.zero_le _, fun k u hk => by omega⟩ (Kc 12 _ (Kv rfl rfl) <| Kc 22 _ (Kv rfl rfl) <| Kc 36 _ (Kv rfl rfl) <| Kc 43 _ (Kv rfl rfl) <| Kn) ?_
        intro w hI
        refine AW.seq ?_
        refine sr ?_
        refine st (mvT rfl) rfl ?_
        refine st (mvT rfl) rfl ?_
        refine st (OpT.len (H rfl) (T1 rfl) el45) rfl ?_
        refine st (OpT.lss (H rfl) (T1 rfl) (T1 rfl)) rfl ?_
        refine ng ?_
        refine cd rfl (fun hc13 => ?_) fun hc13 => ?_
        ·
         obtain ⟨hc13, hc13'⟩ := pT hc13
         obtain ⟨t, ht⟩ := getI (x := (tly (fldA s (pick (y, 0, 0#64) (s.length : Int)).1) d)) (z := w) (by omega)
         refine AW.skip ?_
         refine AX.go ?_
         refine AW.seq ?_
         refine AW.block ?_
         refine sr ?_
         refine st (mvT rfl) rfl ?_
         refine st (mvT rfl) rfl ?_
         refine st (OpT.indexAddr (H rfl) (T1 rfl) (T1 rfl) el45 sz54 (by omega) ht) rfl ?_
         refine st (OpT.fieldAddr (H rfl) (T1 rfl) fd54_1 sz2 (by decide) sb54_1) rfl ?_
         refine st (OpT.load (H rfl) (T1 rfl) ag2 rfl) rfl ?_
         refine st (mvT rfl) rfl ?_
         refine st (OpT.eql (H rfl) (T1 rfl) (T1 rfl)) rfl ?_
         refine ng ?_
         refine cd rfl (fun hc14 => ?_) fun hc14 => ?_
         ·
          obtain ⟨hc14, hc14'⟩ := pT hc14
          have hte : t.2 = mxT (tly (fldA s (pick (y, 0, 0#64) (s.length : Int)).1) d) := by simpa using hc14
          refine sr ?_
          refine st (mvT rfl) rfl ?_
          refine st (mvT rfl) rfl ?_
          refine st (OpT.indexAddr (H rfl) (T1 rfl) (T1 rfl) el45 sz54 (by omega) ht) rfl ?_
          refine st (OpT.fieldAddr (H rfl) (T1 rfl) fd54_0 sz2 (by decide) sb54_0) rfl ?_
          refine st (OpT.load (H rfl) (T1 rfl) ag2 rfl) rfl ?_
          refine st (mvT rfl) rfl ?_
          refine st (OpT.eql (H rfl) (T1 rfl) (T1 rfl)) rfl ?_
          refine st (asT rfl) rfl ?_
          refine ng ?_
          refine AW.ret ?_
          refine rK <| rT <| rT <| rK <| rT ?_
          exact rt1 rfl (.inl rfl) (by first | rfl | (rw [cmn_none hz1 (by omega)]; rfl) | (rw [hCm]; first | exact (beq_iff_eq.2 (most_val (fun t h9 => (ht60 t h9).1) ht hI.2 hte)).symm | exact (beq_iff_eq.2 (most_val (fun t h9 => (ht60 t h9).1) ht hI.2 hte))))
         ·
          obtain ⟨hc14, hc14'⟩ := pF hc14
          have htn : t.2 ≠ mxT (tly (fldA s (pick (y, 0, 0#64) (s.length : Int)).1) d) := by simpa using hc14
          refine AW.skip ?_
          refine AX.normal_block ?_
          refine AX.go ?_
          refine AW.region ?_
          refine st (mvT rfl) rfl ?_
          refine st (OpT.add (H rfl) (T1 rfl) (I rfl) (nw (by omega))) rfl ?_
          refine st (asT rfl) rfl ?_
          refine nn ?_
          exact AX.again (w + 1) ⟨by omega, fun k u hk hu => by (rcases Nat.lt_or_ge k w with h9 | h9; exact hI.2 k u h9 hu; obtain rfl : k = w := (by omega); rw [toN] at ht; rw [ht] at hu; rw [← Option.some.inj hu]; exact htn)⟩ (by omega) (Kc 12 _ (Kv rfl rfl) <| Kc 22 _ (Kv rfl rfl) <| Kc 36 _ (Kv rfl rfl) <| Kc 43 _ (Kv rfl (by omega)) <| Kn)
        ·
         obtain ⟨hc13, hc13'⟩ := pF hc13
         exact (show False from (by obtain ⟨k, u, h1, h2⟩ := most_some (fun t h9 => (ht60 t h9).1) hT0; exact hI.2 k u (by have := (List.getElem?_eq_some_iff.1 h1).1; omega) h1 h2)).elim
end Go.Proofs.YtkgboidjghcegaaGreatDoor.VL
