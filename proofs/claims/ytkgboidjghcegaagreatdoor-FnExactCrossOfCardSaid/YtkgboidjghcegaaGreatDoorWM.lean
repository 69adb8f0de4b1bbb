/- Proved here: what some functions of the program take and give: walks with the words of VA..VQ. Printed by program. -/
import Derived.Test.YtkgboidjghcegaaGreatDoorWT
import Derived.Test.YtkgboidjghcegaaGreatDoorBpa
set_option linter.unusedVariables false
set_option linter.unusedSimpArgs false
set_option maxRecDepth 4000
namespace Go.Proofs.YtkgboidjghcegaaGreatDoor.VL
open Go
/-- laws.markText -/
theorem c_laws_markText (k : Int) (h : k ≤ 4611686018427387904) : AC Tryz.prog 47 [.cel (Kd.int .i64) k] [.cel Kd.str (mtx k)] [] := by
 refine acI (N := 20) Tryz.func47 (Nat.le_of_ble_eq_true rfl) rfl fun w0 hd s0 ar => ?_
 refine AW.to (kc 0 rfl <| Kn) ?_
 refine AW.fact (fun a w hr => ok_i64 (R_ok (t := 0) rfl hr)) (fun hk => ?_)
 refine sr ?_
 refine st (OpT.move (A := .cel _ _) (.inr rfl) rfl (ok' rfl) (Opd.str (by decide)) rfl) rfl ?_
 refine ng ?_
 refine AW.seq ?_
 refine sr ?_
 refine st (mvT rfl) rfl ?_
 refine st (OpT.leq (H rfl) (T1 rfl) (I rfl)) rfl ?_
 refine ng ?_
 refine cd rfl (fun hc1 => ?_) fun hc1 => ?_
 ·
  obtain ⟨hc1, hc1'⟩ := pT hc1
  refine sr ?_
  refine st (OpT.move (A := .cel _ _) (.inr rfl) rfl (ok' rfl) (Opd.str (by decide)) rfl) rfl ?_
  refine ng ?_
  refine AW.ret ?_
  refine rT ?_
  exact rt1 rfl (.inl rfl) (by first | (unfold mtx; rw [if_pos (by omega)]; done) | (unfold mtx; rw [if_neg (by omega), ← hI.2, show p.1 = 0 by omega, mtd_zero]))
 ·
  obtain ⟨hc1, hc1'⟩ := pF hc1
  refine AW.skip ?_
  refine AX.go ?_
  refine sr ?_
  refine st (OpT.move (A := .cel _ _) (.inr rfl) rfl (ok' rfl) (Opd.str (by decide)) rfl) rfl ?_
  refine ng ?_
  refine AW.seq ?_
  refine AW.block ?_
  refine AW.loop (fun p : Nat × ByteArray => p.2.size + p.1 ≤ Int.toNat k ∧ mtd p.1 p.2 = mtd (Int.toNat k) .empty) (fun p : Nat × ByteArray => keep [(0, .cel (Kd.int .i64) (p.1 : Int)), (3, .cel Kd.str p.2)]) (fun p : Nat × ByteArray => p.1) ((Int.toNat k, .empty)) ⟨by show 0 + Int.toNat k ≤ Int.toNat k; omega, rfl⟩ (Kc 0 _ (Kv rfl (by (try simp only []); omega)) <| Kc 3 _ (Kv rfl rfl) <| Kn) ?_
  intro p hI
  have hm := tmod10 p.1
  have hq := tdiv10 p.1
  refine AW.seq ?_
  refine sr ?_
  refine st (mvT rfl) rfl ?_
  refine st (OpT.gtr (H rfl) (T1 rfl) (I rfl)) rfl ?_
  refine ng ?_
  refine cd rfl (fun hc2 => ?_) fun hc2 => ?_
  ·
   obtain ⟨hc2, hc2'⟩ := pT hc2
   refine AW.skip ?_
   refine AX.go ?_
   refine AW.block ?_
   refine sr ?_
   refine st (mvT rfl) rfl ?_
   refine st (OpT.rem (H rfl) (T1 rfl) (I rfl) (by omega)) rfl ?_
   refine st (OpT.add (H rfl) (I rfl) (T1 rfl) (nw (by omega))) rfl ?_
   refine st (OpT.conv (H rfl) us3 Tryz.underlying5 (T1 rfl) (wrap_id (by first | (simp only [inR, IntKind.min, IntKind.max, IntKind.signed, IntKind.bits]; omega)))) rfl ?_
   refine st (OpT.buildSlice (H rfl) el40 zr5 sz5 rfl (by decide) zk5 (by decide) (Built.cel (T1 rfl) rfl rfl (sub_arr (by decide) (0 : Int)) (Built.nil _))) rfl ?_
   refine st (OpT.convBS (H rfl) el40 Tryz.underlying5 Tryz.underlying9 (Src.own (Root.self (t := 12) (by decide)) rfl) (by simp)) rfl ?_
   refine st (mvT rfl) rfl ?_
   refine st (OpT.sadd (H rfl) (T1 rfl) (T1 rfl) (by simp [bOf_size]; omega)) rfl ?_
   refine st (asT rfl) rfl ?_
   refine ng ?_
   refine AW.region ?_
   refine st (mvT rfl) rfl ?_
   refine st (OpT.quo (H rfl) (T1 rfl) (I rfl) (by omega) (nw (by omega))) rfl ?_
   refine st (asT rfl) rfl ?_
   refine nn ?_
   refine AX.normal_block ?_
   exact AX.again ((p.1 / 10, bOf [48 + (p.1 : Int).tmod 10] ++ p.2)) ⟨by (try simp only []); rw [bOf_one]; omega, (mtd_more (by omega) _).symm.trans hI.2⟩ (by (try simp only []); omega) (Kc 0 _ (Kv rfl (tdiv10 p.1)) <| Kc 3 _ (Kv rfl rfl) <| Kn)
  ·
   obtain ⟨hc2, hc2'⟩ := pF hc2
   refine AW.exit ?_
   refine xT <| xT <| AX.exit_hit ?_
   refine AX.go ?_
   refine sr ?_
   refine st (mvT rfl) rfl ?_
   refine st (OpT.sadd (H rfl) (Opd.str (by decide)) (T1 rfl) (by show 1 + _ ≤ _; omega)) rfl ?_
   refine st (asT rfl) rfl ?_
   refine ng ?_
   refine AW.ret ?_
   exact rt1 rfl (.inl rfl) (by first | (unfold mtx; rw [if_pos (by omega)]; done) | (unfold mtx; rw [if_neg (by omega), ← hI.2, show p.1 = 0 by omega, mtd_zero]))

/-- laws.markCardS -/
theorem c_laws_markCardS (x : List (ByteArray × (BitVec 64 × BitVec 64))) (k : Int) (h : 0 ≤ k ∧ k ≤ 1152921504606846976 ∧ x.length ≤ 115292150460684697) : AC Tryz.prog 15 [.own 86 kCard x, .cel (Kd.int .i64) k] [.cel (Kd.int .i64) (k + 3 * (x.length : Int))] [.own 86 kCard (mkL fC 3 x.length k), .any] := by
 refine acI (N := 36) Tryz.func15 (Nat.le_of_ble_eq_true rfl) rfl fun w0 hd s0 ar => ?_
 refine AW.to (ko 0 rfl <| kc 1 rfl <| Kn) ?_
 refine sr ?_
 refine st (asI rfl) rfl ?_
 refine ng ?_
 refine AW.seq ?_
 refine sr ?_
 refine st (asI rfl) rfl ?_
 refine ng ?_
 refine AW.block ?_
 refine AW.loop (fun z : Nat => z ≤ x.length) (fun z : Nat => keep [(0, .own 86 kCard (mkR fC 3 x z k)), (1, .cel (Kd.int .i64) (k + 3 * (z : Int))), (5, .cel (Kd.int .i64) (z : Int))]) (fun z : Nat => x.length - z) (0) (Nat.zero_le _) (Kc 0 _ (Ko rfl mkR_zero) <| Kc 1 _ (Kv rfl (by omega)) <| Kc 5 _ (Kv rfl rfl) <| Kn) ?_
 intro z hI
 refine AW.seq ?_
 refine sr ?_
 refine st (mvT rfl) rfl ?_
 refine st (OpT.alias (H rfl) (by decide) (by decide)) rfl ?_
 refine st (OpT.lenO (H rfl) (Root.ali rfl (by decide) (by decide)) rfl el31) rfl ?_
 refine st (OpT.lss (H rfl) (T1 rfl) (T1 rfl)) rfl ?_
 refine ng ?_
 refine cd rfl (fun hc1 => ?_) fun hc1 => ?_
 ·
  obtain ⟨hc1, hc1'⟩ := pT hc1
  rw [mkR_len hI] at hc1'
  obtain ⟨a, ha⟩ := getI (x := (mkR fC 3 x z k)) (z := z) (by rw [mkR_len (by omega)]; omega)
  have hln := mkR_len (f := fC) (w := 3) (x := x) (z := z) (k := k) (by omega)
  have hs0 := set_get (l := (mkR fC 3 x z k)) (z := z) (by simp only [set_len, hln]; omega) ((mtx (k + 3 * (z : Int)), a.2) : ByteArray × (BitVec 64 × BitVec 64))
  refine AW.skip ?_
  refine AX.go ?_
  refine AW.seq ?_
  refine AW.block ?_
  refine sr ?_
  refine st (OpT.alias (H rfl) (by decide) (by decide)) rfl ?_
  refine st (mvT rfl) rfl ?_
  refine st (mvT rfl) rfl ?_
  refine st (OpT.c1 (ms := [.flat]) (c_laws_markText _ (by omega)) (H rfl) (Af (T1 rfl) rfl rfl <| An) rfl rfl) rfl ?_
  refine st (OpT.indexAddrO (H rfl) (Root.ali rfl (by decide) (by decide)) rfl (by decide) (T1 rfl) el31 sz86 (by omega) (by assumption)) rfl ?_
  refine st (OpT.fieldAddrE (H rfl) (T1 rfl) (.inr ⟨_, _, rfl, (by assumption)⟩) (by decide) fd86_0 sz9 (by decide) sb86_0 (by decide)) rfl ?_
  refine sk (OpT.storeO rfl rfl (T1 rfl) rfl (by assumption) sz9 rfl (T1 rfl)) rfl ?_
  refine ng ?_
  refine sr ?_
  refine st (mvT rfl) rfl ?_
  refine st (OpT.add (H rfl) (T1 rfl) (I rfl) (nw (by omega))) rfl ?_
  refine st (asT rfl) rfl ?_
  refine ng ?_
  refine sr ?_
  refine st (asI rfl) rfl ?_
  refine ng ?_
  refine AW.block ?_
  refine AW.loop (fun y : Nat => y ≤ 2 ∧ z < x.length) (fun y : Nat => keep [(0, .own 86 kCard (List.set (mkR fC 3 x z k) (Int.toNat (z : Int)) (mtx (k + 3 * (z : Int)), mj a.2 (k + 3 * (z : Int) + 1) y))), (1, .cel (Kd.int .i64) (k + 3 * (z : Int) + 1 + (y : Int))), (5, .cel (Kd.int .i64) (z : Int)), (6, .cel (Kd.int .i64) (y : Int))]) (fun y : Nat => 2 - y) (0) (by omega) (Kc 0 _ (Ko rfl (by (try simp only [List.set_set]); rfl)) <| Kc 1 _ (Kv rfl (by omega)) <| Kc 5 _ (Kv rfl rfl) <| Kc 6 _ (Kv rfl rfl) <| Kn) ?_
  intro y hI
  have hb := set_get (l := (mkR fC 3 x z k)) (z := z) (by rw [hln]; omega) ((mtx (k + 3 * (z : Int)), mj a.2 (k + 3 * (z : Int) + 1) y) : ByteArray × (BitVec 64 × BitVec 64))
  refine AW.seq ?_
  refine sr ?_
  refine st (mvT rfl) rfl ?_
  refine st (OpT.lss (H rfl) (T1 rfl) (I rfl)) rfl ?_
  refine ng ?_
  refine cd rfl (fun hc2 => ?_) fun hc2 => ?_
  ·
   obtain ⟨hc2, hc2'⟩ := pT hc2
   refine AW.skip ?_
   refine AX.go ?_
   refine AW.seq ?_
   refine AW.block ?_
   refine sr ?_
   refine st (OpT.alias (H rfl) (by decide) (by decide)) rfl ?_
   refine st (mvT rfl) rfl ?_
   refine st (mvT rfl) rfl ?_
   refine st (mvT rfl) rfl ?_
   refine st (OpT.convu (H rfl) us3 Tryz.underlying73 (T1 rfl)) rfl ?_
   refine st (OpT.indexAddrO (H rfl) (Root.ali rfl (by decide) (by decide)) rfl (by decide) (T1 rfl) el31 sz86 (by omega) (by assumption)) rfl ?_
   refine st (OpT.fieldAddrE (H rfl) (T1 rfl) (.inr ⟨_, _, rfl, (by assumption)⟩) (by decide) fd86_1 sz84 (by decide) sb86_1 (by decide)) rfl ?_
   refine st (OpT.indexAddrE (H rfl) (T1 rfl) (.inr ⟨_, _, rfl, (by assumption)⟩) (by decide) (T1 rfl) ar84 sz73 (by omega) (Sub.two (by omega) rfl) (by decide)) rfl ?_
   refine sk (OpT.storeO rfl rfl (T1 rfl) rfl (by assumption) sz73 rfl (T1 rfl)) rfl ?_
   refine ng ?_
   refine AW.region ?_
   refine st (mvT rfl) rfl ?_
   refine st (OpT.add (H rfl) (T1 rfl) (I rfl) (nw (by omega))) rfl ?_
   refine st (asT rfl) rfl ?_
   refine nn ?_
   refine AX.normal_block ?_
   refine AX.go ?_
   refine AW.region ?_
   refine st (mvT rfl) rfl ?_
   refine st (OpT.add (H rfl) (T1 rfl) (I rfl) (nw (by omega))) rfl ?_
   refine st (asT rfl) rfl ?_
   refine nn ?_
   exact AX.again (y + 1) (by omega) (by omega) (Kc 0 _ (Ko rfl (by rw [List.set_set, ← mj_step (by omega)])) <| Kc 1 _ (Kv rfl (by omega)) <| Kc 5 _ (Kv rfl rfl) <| Kc 6 _ (Kv rfl (by omega)) <| Kn)
  ·
   obtain ⟨hc2, hc2'⟩ := pF hc2
   refine AW.exit ?_
   refine xT <| xT <| AX.exit_hit ?_
   refine AX.normal_block ?_
   refine AX.go ?_
   refine AW.region ?_
   refine st (mvT rfl) rfl ?_
   refine st (OpT.add (H rfl) (T1 rfl) (I rfl) (nw (by omega))) rfl ?_
   refine st (asT rfl) rfl ?_
   refine nn ?_
   exact AX.again (z + 1) (by omega) (by omega) (Kc 0 _ (Ko rfl (by rw [show y = 2 by omega]; exact mkR_step (by omega))) <| Kc 1 _ (Kv rfl (by omega)) <| Kc 5 _ (Kv rfl (by omega)) <| Kn)
 ·
  obtain ⟨hc1, hc1'⟩ := pF hc1
  rw [mkR_len hI] at hc1'
  refine AW.exit ?_
  refine xT <| xT <| AX.exit_hit ?_
  refine AX.go ?_
  refine sr ?_
  refine st (mvT rfl) rfl ?_
  refine st (asT rfl) rfl ?_
  refine ng ?_
  refine AW.ret ?_
  exact AX.rt (rs := [.tmp 4]) (ts := [some 4]) (.inl rfl) rfl (ROs.cons (RO.tmp (At.self (by decide)) (Kv rfl (by omega)) rfl) <| ROs.nil) (by decide) (fun i => match i with | 0 => .inr ⟨rfl, Ko rfl (mkR_end (by omega) hI), rfl, by decide⟩ | 1 => .inl rfl | _ + 2 => .inl rfl)
end Go.Proofs.YtkgboidjghcegaaGreatDoor.VL
