/- Proved here: what some functions of the program take and give: walks with the words of VA..VQ. Printed by program. -/
import Derived.Test.YtconciibbhpigaaDoorWT
import Derived.Test.YtconciibbhpigaaDoorPXF
import Derived.Test.YtconciibbhpigaaDoorVLF
import Derived.Test.YtconciibbhpigaaDoorVLE
import Derived.Test.YtconciibbhpigaaDoorLSP
import Derived.Test.YtconciibbhpigaaDoorWSP
import Derived.Test.YtconciibbhpigaaDoorWK
import Derived.Test.YtconciibbhpigaaDoorWSL
import Derived.Test.YtconciibbhpigaaDoorWA
set_option linter.unusedVariables false
set_option linter.unusedSimpArgs false
set_option maxRecDepth 4000
namespace Go.Proofs.YtconciibbhpigaaDoor.VL
open Go

/-- impl.isEntryName -/
theorem c_impl_isEntryName (x : ByteArray) : AC Tryd.prog 50 [.cel Kd.str x] [.cel Kd.bool (tt (enOK x))] [] := by
 refine acI (N := 28) Tryd.func50 (Nat.le_of_ble_eq_true rfl) rfl fun w0 hd s0 ar => ?_
 refine AW.to (kc 0 rfl <| Kn) ?_
 refine AW.fact (fun a w hr => ok_str (R_ok (t := 0) rfl hr)) (fun hs0 => ?_)
 have hsl := splB_len 32 x
 have hcn := cnB_le 32 x
 refine sr ?_
 refine st (asB rfl) rfl ?_
 refine ng ?_
 refine AW.seq ?_
 refine sr ?_
 refine st (mvT rfl) rfl ?_
 refine st (OpT.lenS (H rfl) (T1 rfl) Tryd.underlying9) rfl ?_
 refine st (OpT.lss (H rfl) (T1 rfl) (I rfl)) rfl ?_
 refine st (mvT rfl) rfl ?_
 apply AWl.or (d := 12) (t := 8) rfl
 ·
  intro hb1 Q1 k1
  have hb1' := lF hb1
  refine rs hb1 (mvT rfl) rfl ?_
  refine rs hb1 (OpT.lenS (H rfl) (T1 rfl) Tryd.underlying9) rfl ?_
  refine rs hb1 (OpT.gtr (H rfl) (T1 rfl) (I rfl)) rfl ?_
  refine st (OpT.pickF (A := .cel _ _) (H rfl) (T1 rfl) hb1 (T1 rfl) rfl) rfl ?_
  exact AWl.to (junk 3 rfl) k1
 ·
  intro hb1 Q1 k1
  refine ps hb1 rfl ?_
  refine ps hb1 rfl ?_
  refine ps hb1 rfl ?_
  refine st (OpT.pickT (A := .cel _ _) (H rfl) (T1 rfl) hb1 Opd.bool rfl) rfl ?_
  exact k1
 refine ng ?_
 refine cd rfl (fun hc1 => ?_) fun hc1 => ?_
 ·
  obtain ⟨hc1, hc1'⟩ := pT hc1
  have hsz := hc1'
  refine sr ?_
  refine st (asB rfl) rfl ?_
  refine ng ?_
  refine AW.ret ?_
  refine rT ?_
  exact rt1 rfl (.inl rfl) (by first | exact en_size (by omega) | exact en_bad hw hbad | exact en_yes (by omega) (by omega) hI.2 (by omega))
 ·
  obtain ⟨hc1, hc1'⟩ := pF hc1
  have hsz := hc1'
  refine AW.skip ?_
  refine AX.go ?_
  refine AW.seq ?_
  refine sr ?_
  refine st (mvT rfl) rfl ?_
  refine st (OpT.c1 (ms := [.flat, .flat]) (c_strings_Split x 32 (by omega)) (H rfl) (Af (T1 rfl) rfl rfl <| Af (Opd.str (by decide)) rfl rfl <| An) rfl rfl) rfl ?_
  refine st (OpT.len (H rfl) (T1 rfl) el47) rfl ?_
  refine st (mvI rfl) rfl ?_
  refine ng ?_
  refine AW.block ?_
  refine AW.loop (fun z : Nat => z ≤ (splB 32 x).length ∧ ∀ w ∈ (splB 32 x).take z, enW w) (fun z : Nat => keep [(14, .cel (Kd.slice Kd.str) (splB 32 x)), (15, .cel (Kd.int .i64) ((splB 32 x).length : Int)), (16, .cel (Kd.int .i64) (z : Int))]) (fun z : Nat => (splB 32 x).length - z) (0) ⟨Nat.zero_le _, by simp⟩ (Kc 14 _ (Kv rfl rfl) <| Kc 15 _ (Kv rfl rfl) <| Kc 16 _ (Kv rfl rfl) <| Kn) ?_
  intro z hI
  refine sr ?_
  refine st (OpT.lss (H rfl) (T1 rfl) (T1 rfl)) rfl ?_
  refine ng ?_
  refine AW.seq ?_
  refine cd rfl (fun hc2 => ?_) fun hc2 => ?_
  ·
   obtain ⟨hc2, hc2'⟩ := pT hc2
   obtain ⟨w, hw⟩ := getI (x := splB 32 x) (z := z) (by omega)
   refine AW.skip ?_
   refine AX.go ?_
   refine AW.seq ?_
   refine AW.block ?_
   refine sr ?_
   refine st (OpT.indexAddr (H rfl) (T1 rfl) (T1 rfl) el47 sz9 (by omega) hw) rfl ?_
   refine st (OpT.load (H rfl) (T1 rfl) ag9 rfl) rfl ?_
   refine st (asT rfl) rfl ?_
   refine ng ?_
   refine sr ?_
   refine st (mvT rfl) rfl ?_
   refine st (OpT.seqv (H rfl) (T1 rfl) (Opd.str (by decide))) rfl ?_
   refine st (mvT rfl) rfl ?_
   apply AWl.or (d := 26) (t := 22) rfl
   ·
    intro hb2 Q1 k1
    have hb2' := lF hb2
    refine rs hb2 (mvT rfl) rfl ?_
    refine rs hb2 (OpT.c1 (ms := [.flat, .flat]) (c_strings_Trim w alnB alnT cut_aln) (H rfl) (Af (T1 rfl) rfl rfl <| Af (Opd.str (by decide)) rfl rfl <| An) rfl rfl) rfl ?_
    refine rs hb2 (OpT.snev (H rfl) (T1 rfl) (Opd.str (by decide))) rfl ?_
    refine st (OpT.pickF (A := .cel _ _) (H rfl) (T1 rfl) hb2 (T1 rfl) rfl) rfl ?_
    exact AWl.to (junk 3 rfl) k1
   ·
    intro hb2 Q1 k1
    refine ps hb2 rfl ?_
    refine ps hb2 rfl ?_
    refine ps hb2 rfl ?_
    refine st (OpT.pickT (A := .cel _ _) (H rfl) (T1 rfl) hb2 Opd.bool rfl) rfl ?_
    exact k1
   refine ng ?_
   refine cd rfl (fun hc3 => ?_) fun hc3 => ?_
   ·
    obtain ⟨hc3, hc3'⟩ := pT hc3
    have hbad : ¬ enW w := fun h9 => by (have h8 := enW_trim.2 h9; rw [show _ = true from hc3] at h8; cases h8)
    refine sr ?_
    refine st (asB rfl) rfl ?_
    refine ng ?_
    refine AW.ret ?_
    refine rK <| rT <| rT <| rK <| rT ?_
    exact rt1 rfl (.inl rfl) (by first | exact en_size (by omega) | exact en_bad hw hbad | exact en_yes (by omega) (by omega) hI.2 (by omega))
   ·
    obtain ⟨hc3, hc3'⟩ := pF hc3
    have hgd : enW w := enW_trim.1 hc3
    refine AW.skip ?_
    refine AX.normal_block ?_
    refine AX.go ?_
    refine AW.region ?_
    refine st (OpT.add (H rfl) (T1 rfl) (I rfl) (nw (by omega))) rfl ?_
    refine st (mvT rfl) rfl ?_
    refine nn ?_
    exact AX.again (z + 1) ⟨by omega, en_more hw hI.2 hgd⟩ (by omega) (Kc 14 _ (Kv rfl rfl) <| Kc 15 _ (Kv rfl rfl) <| Kc 16 _ (Kv rfl (by omega)) <| Kn)
  ·
   obtain ⟨hc2, hc2'⟩ := pF hc2
   refine AW.exit ?_
   refine xT <| xT <| AX.exit_hit ?_
   refine AX.go ?_
   refine sr ?_
   refine st (asB rfl) rfl ?_
   refine ng ?_
   refine AW.ret ?_
   exact rt1 rfl (.inl rfl) (by first | exact en_size (by omega) | exact en_bad hw hbad | exact en_yes (by omega) (by omega) hI.2 (by omega))

/-- spec.l05Plain -/
theorem c_spec_l05Plain (k : Int) : AC Tryd.prog 79 [.cel (Kd.int .u8) k] [.cel Kd.bool (plB k)] [] := by
 refine acI (N := 17) Tryd.func79 (Nat.le_of_ble_eq_true rfl) rfl fun w0 hd s0 ar => ?_
 refine AW.to (kc 0 rfl <| Kn) ?_
 refine sr ?_
 refine st (asB rfl) rfl ?_
 refine ng ?_
 refine sr ?_
 refine st (mvT rfl) rfl ?_
 refine st (OpT.geq (H rfl) (T1 rfl) (I rfl)) rfl ?_
 refine st (mvT rfl) rfl ?_
 apply AWl.and (d := 8) (t := 5) rfl
 ·
  intro hb1 Q1 k1
  refine rs hb1 (mvT rfl) rfl ?_
  refine rs hb1 (OpT.leq (H rfl) (T1 rfl) (I rfl)) rfl ?_
  refine st (OpT.pickT (A := .cel _ _) (H rfl) (T1 rfl) hb1 (T1 rfl) rfl) rfl ?_
  exact AWl.to (junk 2 rfl) k1
 ·
  intro hb1 Q1 k1
  refine ps hb1 rfl ?_
  refine ps hb1 rfl ?_
  refine st (OpT.pickF (A := .cel _ _) (H rfl) (T1 rfl) hb1 Opd.bool rfl) rfl ?_
  exact k1
 refine st (mvT rfl) rfl ?_
 apply AWl.or (d := 16) (t := 9) rfl
 ·
  intro hb2 Q1 k1
  refine rs hb2 (mvT rfl) rfl ?_
  refine rs hb2 (OpT.geq (H rfl) (T1 rfl) (I rfl)) rfl ?_
  refine rs hb2 (mvT rfl) rfl ?_
  apply AWl.and (d := 15) (t := 12) rfl
  ·
   intro hb3 Q1 k1
   refine rs hb3 (mvT rfl) rfl ?_
   refine rs hb3 (OpT.leq (H rfl) (T1 rfl) (I rfl)) rfl ?_
   refine rs hb2 (OpT.pickT (A := .cel _ _) (H rfl) (T1 rfl) hb3 (T1 rfl) rfl) rfl ?_
   exact AWl.to (junk 2 rfl) k1
  ·
   intro hb3 Q1 k1
   refine ps hb3 rfl ?_
   refine ps hb3 rfl ?_
   refine rs hb2 (OpT.pickF (A := .cel _ _) (H rfl) (T1 rfl) hb3 Opd.bool rfl) rfl ?_
   exact k1
  refine st (OpT.pickF (A := .cel _ _) (H rfl) (T1 rfl) hb2 (T1 rfl) rfl) rfl ?_
  exact AWl.to (junk 4 rfl) k1
 ·
  intro hb2 Q1 k1
  refine ps hb2 rfl ?_
  refine ps hb2 rfl ?_
  refine AWl.pasv rfl rfl rfl rfl hb2 rfl (ok' rfl) rfl ?_
  refine AWl.pasu rfl rfl rfl rfl rfl (ok' rfl) rfl ?_
  refine AWl.pasu rfl rfl rfl rfl rfl (ok' rfl) rfl ?_
  refine ps hb2 rfl ?_
  refine st (OpT.pickT (A := .cel _ _) (H rfl) (T1 rfl) hb2 Opd.bool rfl) rfl ?_
  exact AWl.to (junk 3 rfl) k1
 refine st (asT rfl) rfl ?_
 refine ng ?_
 refine AW.ret ?_
 exact rt1 rfl (.inl rfl) rfl

/-- spec.l05Name -/
theorem c_spec_l05Name (x : ByteArray) : AC Tryd.prog 61 [.cel Kd.str x] [.cel Kd.bool (tt (enOK x))] [] := by
 refine acI (N := 40) Tryd.func61 (Nat.le_of_ble_eq_true rfl) rfl fun w0 hd s0 ar => ?_
 refine AW.to (kc 0 rfl <| Kn) ?_
 refine AW.fact (fun a w hr => ok_str (R_ok (t := 0) rfl hr)) (fun hs0 => ?_)
 have hsl := splB_len 32 x
 have hcn := cnB_le 32 x
 refine sr ?_
 refine st (asB rfl) rfl ?_
 refine ng ?_
 refine AW.seq ?_
 refine sr ?_
 refine st (mvT rfl) rfl ?_
 refine st (OpT.lenS (H rfl) (T1 rfl) Tryd.underlying9) rfl ?_
 refine st (OpT.c1 (ms := [.flat, .flat, .flat]) (c_spec_l00In _ _ _) (H rfl) (Af (T1 rfl) rfl rfl <| Af (I rfl) rfl rfl <| Af (I rfl) rfl rfl <| An) rfl rfl) rfl ?_
 refine st (OpT.not (H rfl) (T1 rfl)) rfl ?_
 refine ng ?_
 refine cd rfl (fun hc1 => ?_) fun hc1 => ?_
 ·
  obtain ⟨hc1, hc1'⟩ := pT hc1
  have hsz : inb (x.size : Int) 1 24 = false := by simpa using hc1
  have hs2 : x.size < 1 ∨ x.size > 24 := by (simp only [inb, Bool.and_eq_false_iff, decide_eq_false_iff_not] at hsz; omega)
  refine sr ?_
  refine st (asB rfl) rfl ?_
  refine ng ?_
  refine AW.ret ?_
  refine rT ?_
  exact rt1 rfl (.inl rfl) (by first | exact en_size hs2 | exact en_bad hw hbad | exact en_byte hw hkz hnp | exact en_yes (by omega) (by omega) hI.2 (by omega))
 ·
  obtain ⟨hc1, hc1'⟩ := pF hc1
  have hsz : inb (x.size : Int) 1 24 = true := by simpa using hc1
  have hs2 := inb_all.1 hsz
  refine AW.skip ?_
  refine AX.go ?_
  refine sr ?_
  refine st (mvT rfl) rfl ?_
  refine st (OpT.c1 (ms := [.flat, .flat]) (c_spec_l01Split x 32 32 (by omega) rfl) (H rfl) (Af (T1 rfl) rfl rfl <| Af (I rfl) rfl rfl <| An) rfl rfl) rfl ?_
  refine st (asT rfl) rfl ?_
  refine ng ?_
  refine AW.seq ?_
  refine sr ?_
  refine st (asI rfl) rfl ?_
  refine ng ?_
  refine AW.block ?_
  refine AW.loop (fun z : Nat => z ≤ (splB 32 x).length ∧ ∀ w ∈ (splB 32 x).take z, enW w) (fun z : Nat => keep [(3, .cel (Kd.slice Kd.str) (splB 32 x)), (4, .cel (Kd.int .i64) (z : Int))]) (fun z : Nat => (splB 32 x).length - z) (0) ⟨Nat.zero_le _, by simp⟩ (Kc 3 _ (Kv rfl rfl) <| Kc 4 _ (Kv rfl rfl) <| Kn) ?_
  intro z hI
  have hIz := hI
  refine AW.seq ?_
  refine sr ?_
  refine st (mvT rfl) rfl ?_
  refine st (mvT rfl) rfl ?_
  refine st (OpT.len (H rfl) (T1 rfl) el47) rfl ?_
  refine st (OpT.lss (H rfl) (T1 rfl) (T1 rfl)) rfl ?_
  refine ng ?_
  refine cd rfl (fun hc2 => ?_) fun hc2 => ?_
  ·
   obtain ⟨hc2, hc2'⟩ := pT hc2
   obtain ⟨w, hw⟩ := getI (x := splB 32 x) (z := z) (by omega)
   have hws := splB_size (mem_getI hw)
   refine AW.skip ?_
   refine AX.go ?_
   refine AW.seq ?_
   refine AW.block ?_
   refine AW.seq ?_
   refine sr ?_
   refine st (mvT rfl) rfl ?_
   refine st (mvT rfl) rfl ?_
   refine st (OpT.indexAddr (H rfl) (T1 rfl) (T1 rfl) el47 sz9 (by omega) hw) rfl ?_
   refine st (OpT.load (H rfl) (T1 rfl) ag9 rfl) rfl ?_
   refine st (OpT.seqv (H rfl) (T1 rfl) (Opd.str (by decide))) rfl ?_
   refine ng ?_
   refine cd rfl (fun hc3 => ?_) fun hc3 => ?_
   ·
    obtain ⟨hc3, hc3'⟩ := pT hc3
    have hbad : ¬ enW w := fun h9 => h9.1 (eqv_iff.1 hc3)
    refine sr ?_
    refine st (asB rfl) rfl ?_
    refine ng ?_
    refine AW.ret ?_
    refine rT <| rK <| rT <| rT <| rK <| rT ?_
    exact rt1 rfl (.inl rfl) (by first | exact en_size hs2 | exact en_bad hw hbad | exact en_byte hw hkz hnp | exact en_yes (by omega) (by omega) hI.2 (by omega))
   ·
    obtain ⟨hc3, hc3'⟩ := pF hc3
    have hne : w ≠ .empty := eqv_false_iff.1 hc3
    refine AW.skip ?_
    refine AX.go ?_
    refine sr ?_
    refine st (asI rfl) rfl ?_
    refine ng ?_
    refine AW.block ?_
    refine AW.loop (fun k : Nat => k ≤ w.size ∧ ∀ i, i < k → inT alnT w i) (fun k : Nat => keep [(3, .cel (Kd.slice Kd.str) (splB 32 x)), (4, .cel (Kd.int .i64) (z : Int)), (5, .cel (Kd.int .i64) (k : Int))]) (fun k : Nat => w.size - k) (0) ⟨Nat.zero_le _, all_none⟩ (Kc 3 _ (Kv rfl rfl) <| Kc 4 _ (Kv rfl rfl) <| Kc 5 _ (Kv rfl rfl) <| Kn) ?_
    intro k hI
    refine AW.seq ?_
    refine sr ?_
    refine st (mvT rfl) rfl ?_
    refine st (mvT rfl) rfl ?_
    refine st (mvT rfl) rfl ?_
    refine st (OpT.indexAddr (H rfl) (T1 rfl) (T1 rfl) el47 sz9 (by omega) hw) rfl ?_
    refine st (OpT.load (H rfl) (T1 rfl) ag9 rfl) rfl ?_
    refine st (OpT.lenS (H rfl) (T1 rfl) Tryd.underlying9) rfl ?_
    refine st (OpT.lss (H rfl) (T1 rfl) (T1 rfl)) rfl ?_
    refine ng ?_
    refine cd rfl (fun hc4 => ?_) fun hc4 => ?_
    ·
     obtain ⟨hc4, hc4'⟩ := pT hc4
     have hkz : k < w.size := by omega
     have hbk := bt_get hkz
     refine AW.skip ?_
     refine AX.go ?_
     refine AW.seq ?_
     refine AW.block ?_
     refine sr ?_
     refine st (mvT rfl) rfl ?_
     refine st (mvT rfl) rfl ?_
     refine st (OpT.indexAddr (H rfl) (T1 rfl) (T1 rfl) el47 sz9 (by omega) hw) rfl ?_
     refine st (OpT.load (H rfl) (T1 rfl) ag9 rfl) rfl ?_
     refine st (mvT rfl) rfl ?_
     refine st (OpT.indexS (H rfl) (T1 rfl) (T1 rfl) Tryd.underlying9 (by omega) (bt_get (z := k) (by omega))) rfl ?_
     refine st (OpT.c1 (ms := [.flat]) (c_spec_l05Plain _) (H rfl) (Af (T1 rfl) rfl rfl <| An) rfl rfl) rfl ?_
     refine st (OpT.not (H rfl) (T1 rfl)) rfl ?_
     refine ng ?_
     refine cd rfl (fun hc5 => ?_) fun hc5 => ?_
     ·
      obtain ⟨hc5, hc5'⟩ := pT hc5
      have hnp : ¬ inT alnT w k := fun h9 => by (have h8 := (plB_iff hbk).2 h9; simp [h8] at hc5)
      refine sr ?_
      refine st (asB rfl) rfl ?_
      refine ng ?_
      refine AW.ret ?_
      refine rK <| rT <| rT <| rK <| rK <| rT <| rT <| rK <| rT ?_
      exact rt1 rfl (.inl rfl) (by first | exact en_size hs2 | exact en_bad hw hbad | exact en_byte hw hkz hnp | exact en_yes (by omega) (by omega) hI.2 (by omega))
     ·
      obtain ⟨hc5, hc5'⟩ := pF hc5
      have hyp : inT alnT w k := (plB_iff hbk).1 (by simpa using hc5)
      refine AW.skip ?_
      refine AX.normal_block ?_
      refine AX.go ?_
      refine AW.region ?_
      refine st (mvT rfl) rfl ?_
      refine st (OpT.add (H rfl) (T1 rfl) (I rfl) (nw (by omega))) rfl ?_
      refine st (asT rfl) rfl ?_
      refine nn ?_
      exact AX.again (k + 1) ⟨by omega, all_step hI.2 hyp⟩ (by omega) (Kc 3 _ (Kv rfl rfl) <| Kc 4 _ (Kv rfl rfl) <| Kc 5 _ (Kv rfl (by omega)) <| Kn)
    ·
     obtain ⟨hc4, hc4'⟩ := pF hc4
     have hgd : enW w := ⟨hne, fun i hi => hI.2 i (by omega)⟩
     refine AW.exit ?_
     refine xT <| xT <| AX.exit_hit ?_
     refine AX.normal_block ?_
     refine AX.go ?_
     refine AW.region ?_
     refine st (mvT rfl) rfl ?_
     refine st (OpT.add (H rfl) (T1 rfl) (I rfl) (nw (by omega))) rfl ?_
     refine st (asT rfl) rfl ?_
     refine nn ?_
     exact AX.again (z + 1) ⟨by omega, en_more hw hIz.2 hgd⟩ (by omega) (Kc 3 _ (Kv rfl rfl) <| Kc 4 _ (Kv rfl (by omega)) <| Kn)
  ·
   obtain ⟨hc2, hc2'⟩ := pF hc2
   refine AW.exit ?_
   refine xT <| xT <| AX.exit_hit ?_
   refine AX.go ?_
   refine sr ?_
   refine st (asB rfl) rfl ?_
   refine ng ?_
   refine AW.ret ?_
   exact rt1 rfl (.inl rfl) (by first | exact en_size hs2 | exact en_bad hw hbad | exact en_byte hw hkz hnp | exact en_yes (by omega) (by omega) hI.2 (by omega))
end Go.Proofs.YtconciibbhpigaaDoor.VL
