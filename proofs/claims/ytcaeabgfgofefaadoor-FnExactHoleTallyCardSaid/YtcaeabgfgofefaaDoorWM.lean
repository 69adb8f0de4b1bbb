/- Proved here: what some functions of the program take and give: walks with the words of VA..VQ. Printed by program. -/
import Derived.Test.YtcaeabgfgofefaaDoorWT
import Derived.Test.YtcaeabgfgofefaaDoorPM
import Derived.Test.YtcaeabgfgofefaaDoorWN
import Derived.Test.YtcaeabgfgofefaaDoorWP
import Derived.Test.YtcaeabgfgofefaaDoorWD
import Derived.Test.YtcaeabgfgofefaaDoorWL
import Derived.Test.YtcaeabgfgofefaaDoorWQ
set_option linter.unusedVariables false
set_option linter.unusedSimpArgs false
set_option maxRecDepth 4000
namespace Go.Proofs.YtcaeabgfgofefaaDoor.VL
open Go
/-- laws.markText -/
theorem c_laws_markText (k : Int) (h : k ≤ 4611686018427387904) : AC Tryd.prog 113 [.cel (Kd.int .i64) k] [.cel Kd.str (mtx k)] [] := by
 refine acI (N := 20) Tryd.func113 (Nat.le_of_ble_eq_true rfl) rfl fun w0 hd s0 ar => ?_
 refine AW.to (kc 0 rfl <| Kn) ?_
 refine AW.fact (fun a w hr => ok_i64 (R_ok (t := 0) rfl hr)) (fun hk => ?_)
 refine sr ?_
 refine st (OpT.move (A := .cel _ _) (.inr rfl) rfl (ok' rfl) (Opd.str (by decide)) rfl) rfl ?_
 refine ng ?_
 refine AW.seq ?_
 refine sr ?_
 refine st (mvT rfl) rfl ?_
 refine st (OpT.leq (H rfl) (T1 rfl) (I rfl)) rfl ?_
 refine ng ?_
 refine cd rfl (fun hc1 => ?_) fun hc1 => ?_
 ·
  obtain ⟨hc1, hc1'⟩ := pT hc1
  refine sr ?_
  refine st (OpT.move (A := .cel _ _) (.inr rfl) rfl (ok' rfl) (Opd.str (by decide)) rfl) rfl ?_
  refine ng ?_
  refine AW.ret ?_
  refine rT ?_
  exact rt1 rfl (.inl rfl) (by first | (unfold mtx; rw [if_pos (by omega)]; done) | (unfold mtx; rw [if_neg (by omega), ← hI.2, show p.1 = 0 by omega, mtd_zero]))
 ·
  obtain ⟨hc1, hc1'⟩ := pF hc1
  refine AW.skip ?_
  refine AX.go ?_
  refine sr ?_
  refine st (OpT.move (A := .cel _ _) (.inr rfl) rfl (ok' rfl) (Opd.str (by decide)) rfl) rfl ?_
  refine ng ?_
  refine AW.seq ?_
  refine AW.block ?_
  refine AW.loop (fun p : Nat × ByteArray => p.2.size + p.1 ≤ Int.toNat k ∧ mtd p.1 p.2 = mtd (Int.toNat k) .empty) (fun p : Nat × ByteArray => keep [(0, .cel (Kd.int .i64) (p.1 : Int)), (3, .cel Kd.str p.2)]) (fun p : Nat × ByteArray => p.1) ((Int.toNat k, .empty)) ⟨by show 0 + Int.toNat k ≤ Int.toNat k; omega, rfl⟩ (Kc 0 _ (Kv rfl (by (try simp only []); omega)) <| Kc 3 _ (Kv rfl rfl) <| Kn) ?_
  intro p hI
  have hm := tmod10 p.1
  have hq := tdiv10 p.1
  refine AW.seq ?_
  refine sr ?_
  refine st (mvT rfl) rfl ?_
  refine st (OpT.gtr (H rfl) (T1 rfl) (I rfl)) rfl ?_
  refine ng ?_
  refine cd rfl (fun hc2 => ?_) fun hc2 => ?_
  ·
   obtain ⟨hc2, hc2'⟩ := pT hc2
   refine AW.skip ?_
   refine AX.go ?_
   refine AW.block ?_
   refine sr ?_
   refine st (mvT rfl) rfl ?_
   refine st (OpT.rem (H rfl) (T1 rfl) (I rfl) (by omega)) rfl ?_
   refine st (OpT.add (H rfl) (I rfl) (T1 rfl) (nw (by omega))) rfl ?_
   refine st (OpT.conv (H rfl) us3 Tryd.underlying5 (T1 rfl) (wrap_id (by first | (simp only [inR, IntKind.min, IntKind.max, IntKind.signed, IntKind.bits]; omega)))) rfl ?_
   refine st (OpT.buildSlice (H rfl) el191 zr5 sz5 rfl (by decide) zk5 (by decide) (Built.cel (T1 rfl) rfl rfl (sub_arr (by decide) (0 : Int)) (Built.nil _))) rfl ?_
   refine st (OpT.convBS (H rfl) el191 Tryd.underlying5 Tryd.underlying9 (Src.own (Root.self (t := 12) (by decide)) rfl) (by simp)) rfl ?_
   refine st (mvT rfl) rfl ?_
   refine st (OpT.sadd (H rfl) (T1 rfl) (T1 rfl) (by simp [bOf_size]; omega)) rfl ?_
   refine st (asT rfl) rfl ?_
   refine ng ?_
   refine AW.region ?_
   refine st (mvT rfl) rfl ?_
   refine st (OpT.quo (H rfl) (T1 rfl) (I rfl) (by omega) (nw (by omega))) rfl ?_
   refine st (asT rfl) rfl ?_
   refine nn ?_
   refine AX.normal_block ?_
   exact AX.again ((p.1 / 10, bOf [48 + (p.1 : Int).tmod 10] ++ p.2)) ⟨by (try simp only []); rw [bOf_one]; omega, (mtd_more (by omega) _).symm.trans hI.2⟩ (by (try simp only []); omega) (Kc 0 _ (Kv rfl (tdiv10 p.1)) <| Kc 3 _ (Kv rfl rfl) <| Kn)
  ·
   obtain ⟨hc2, hc2'⟩ := pF hc2
   refine AW.exit ?_
   refine xT <| xT <| AX.exit_hit ?_
   refine AX.go ?_
   refine sr ?_
   refine st (mvT rfl) rfl ?_
   refine st (OpT.sadd (H rfl) (Opd.str (by decide)) (T1 rfl) (by show 1 + _ ≤ _; omega)) rfl ?_
   refine st (asT rfl) rfl ?_
   refine ng ?_
   refine AW.ret ?_
   exact rt1 rfl (.inl rfl) (by first | (unfold mtx; rw [if_pos (by omega)]; done) | (unfold mtx; rw [if_neg (by omega), ← hI.2, show p.1 = 0 by omega, mtd_zero]))

/-- laws.markInt64S -/
theorem c_laws_markInt64S (x : List Int) (k : Int) (h : 0 ≤ k ∧ k ≤ 1152921504606846976 ∧ x.length ≤ 1152921504606846976) : AC Tryd.prog 53 [.own 2 (Kd.int .i64) x, .cel (Kd.int .i64) k] [.cel (Kd.int .i64) (k + (x.length : Int))] [.own 2 (Kd.int .i64) (mrk x.length k), .any] := by
 refine acI (N := 19) Tryd.func53 (Nat.le_of_ble_eq_true rfl) rfl fun w0 hd s0 ar => ?_
 refine AW.to (ko 0 rfl <| kc 1 rfl <| Kn) ?_
 refine sr ?_
 refine st (asI rfl) rfl ?_
 refine ng ?_
 refine AW.seq ?_
 refine sr ?_
 refine st (asI rfl) rfl ?_
 refine ng ?_
 refine AW.block ?_
 refine AW.loop (fun z : Nat => z ≤ x.length) (fun z : Nat => keep [(0, .own 2 (Kd.int .i64) (markI x z k)), (1, .cel (Kd.int .i64) (k + (z : Int))), (5, .cel (Kd.int .i64) (z : Int))]) (fun z : Nat => x.length - z) (0) (Nat.zero_le _) (Kc 0 _ (Ko rfl (by simp [markI, mrk])) <| Kc 1 _ (Kv rfl (by omega)) <| Kc 5 _ (Kv rfl rfl) <| Kn) ?_
 intro z hI
 refine AW.seq ?_
 refine sr ?_
 refine st (mvT rfl) rfl ?_
 refine st (OpT.alias (H rfl) (by decide) (by decide)) rfl ?_
 refine st (OpT.lenO (H rfl) (Root.ali rfl (by decide) (by decide)) rfl el61) rfl ?_
 refine st (OpT.lss (H rfl) (T1 rfl) (T1 rfl)) rfl ?_
 refine ng ?_
 refine cd rfl (fun hc1 => ?_) fun hc1 => ?_
 ·
  obtain ⟨hc1, hc1'⟩ := pT hc1
  rw [markI_len hI] at hc1'
  obtain ⟨a, ha⟩ := getI (x := markI x z k) (z := z) (by rw [markI_len hI]; omega)
  refine AW.skip ?_
  refine AX.go ?_
  refine AW.seq ?_
  refine AW.block ?_
  refine sr ?_
  refine st (OpT.alias (H rfl) (by decide) (by decide)) rfl ?_
  refine st (mvT rfl) rfl ?_
  refine st (mvT rfl) rfl ?_
  refine st (OpT.indexAddrO (H rfl) (Root.ali rfl (by decide) (by decide)) rfl (by decide) (T1 rfl) el61 sz2 (by omega) (by assumption)) rfl ?_
  refine sk (OpT.storeO rfl rfl (T1 rfl) rfl (by assumption) sz2 rfl (T1 rfl)) rfl ?_
  refine ng ?_
  refine AW.region ?_
  refine st (mvT rfl) rfl ?_
  refine st (OpT.add (H rfl) (T1 rfl) (I rfl) (nw (by omega))) rfl ?_
  refine st (asT rfl) rfl ?_
  refine nn ?_
  refine AX.normal_block ?_
  refine AX.go ?_
  refine AW.region ?_
  refine st (mvT rfl) rfl ?_
  refine st (OpT.add (H rfl) (T1 rfl) (I rfl) (nw (by omega))) rfl ?_
  refine st (asT rfl) rfl ?_
  refine nn ?_
  exact AX.again (z + 1) (by omega) (by omega) (Kc 0 _ (Ko rfl (markI_step (by omega))) <| Kc 1 _ (Kv rfl (by omega)) <| Kc 5 _ (Kv rfl (by omega)) <| Kn)
 ·
  obtain ⟨hc1, hc1'⟩ := pF hc1
  rw [markI_len hI] at hc1'
  refine AW.exit ?_
  refine xT <| xT <| AX.exit_hit ?_
  refine AX.go ?_
  refine sr ?_
  refine st (mvT rfl) rfl ?_
  refine st (asT rfl) rfl ?_
  refine ng ?_
  refine AW.ret ?_
  exact AX.rt (rs := [.tmp 4]) (ts := [some 4]) (.inl rfl) rfl (ROs.cons (RO.tmp (At.self (by decide)) (Kv rfl (by omega)) rfl) <| ROs.nil) (by decide) (fun i => match i with | 0 => .inr ⟨rfl, Ko rfl (markI_end (by omega) hI), rfl, by decide⟩ | 1 => .inl rfl | _ + 2 => .inl rfl)

/-- laws.heldInt64S -/
theorem c_laws_heldInt64S (n : Nat) (k : Int) (h : 0 ≤ k ∧ k ≤ 1152921504606846976 ∧ n ≤ 1152921504606846976) : AC Tryd.prog 54 [.cel (Kd.slice (Kd.int .i64)) (mrk n k), .cel (Kd.int .i64) k] [.cel (Kd.int .i64) (k + (n : Int))] [] := by
 refine acI (N := 21) Tryd.func54 (Nat.le_of_ble_eq_true rfl) rfl fun w0 hd s0 ar => ?_
 refine AW.to (kc2 0 1 rfl <| Kn) ?_
 refine sr ?_
 refine st (asI rfl) rfl ?_
 refine ng ?_
 refine AW.seq ?_
 refine sr ?_
 refine st (asI rfl) rfl ?_
 refine ng ?_
 refine AW.block ?_
 refine AW.loop (fun z : Nat => z ≤ n) (fun z : Nat => keep [(0, .cel (Kd.slice (Kd.int .i64)) (mrk n k)), (1, .cel (Kd.int .i64) (k + (z : Int))), (5, .cel (Kd.int .i64) (z : Int))]) (fun z : Nat => n - z) (0) (Nat.zero_le _) (Kc 0 _ (Kv rfl rfl) <| Kc 1 _ (Kv rfl (by omega)) <| Kc 5 _ (Kv rfl rfl) <| Kn) ?_
 intro z hI
 refine AW.seq ?_
 refine sr ?_
 refine st (mvT rfl) rfl ?_
 refine st (mvT rfl) rfl ?_
 refine st (OpT.len (H rfl) (T1 rfl) el61) rfl ?_
 refine st (OpT.lss (H rfl) (T1 rfl) (T1 rfl)) rfl ?_
 refine ng ?_
 refine cd rfl (fun hc1 => ?_) fun hc1 => ?_
 ·
  obtain ⟨hc1, hc1'⟩ := pT hc1
  rw [mrk_len] at hc1'
  have hv := mrk_get (k := k) (n := n) (z := z) (by omega)
  refine AW.skip ?_
  refine AX.go ?_
  refine AW.seq ?_
  refine AW.block ?_
  refine AW.seq ?_
  refine sr ?_
  refine st (mvT rfl) rfl ?_
  refine st (mvT rfl) rfl ?_
  refine st (OpT.indexAddr (H rfl) (T1 rfl) (T1 rfl) el61 sz2 (by omega) (by assumption)) rfl ?_
  refine st (OpT.load (H rfl) (T1 rfl) ag2 rfl) rfl ?_
  refine st (mvT rfl) rfl ?_
  refine st (OpT.neq (H rfl) (T1 rfl) (T1 rfl)) rfl ?_
  refine ng ?_
  refine cd rfl (fun hc2 => ?_) fun hc2 => ?_
  ·
   obtain ⟨hc2, hc2'⟩ := pT hc2
   exact (show False from (hc2' rfl)).elim
  ·
   obtain ⟨hc2, hc2'⟩ := pF hc2
   refine AW.skip ?_
   refine AX.go ?_
   refine AW.region ?_
   refine st (mvT rfl) rfl ?_
   refine st (OpT.add (H rfl) (T1 rfl) (I rfl) (nw (by omega))) rfl ?_
   refine st (asT rfl) rfl ?_
   refine nn ?_
   refine AX.normal_block ?_
   refine AX.go ?_
   refine AW.region ?_
   refine st (mvT rfl) rfl ?_
   refine st (OpT.add (H rfl) (T1 rfl) (I rfl) (nw (by omega))) rfl ?_
   refine st (asT rfl) rfl ?_
   refine nn ?_
   exact AX.again (z + 1) (by omega) (by omega) (Kc 0 _ (Kv rfl rfl) <| Kc 1 _ (Kv rfl (by omega)) <| Kc 5 _ (Kv rfl (by omega)) <| Kn)
 ·
  obtain ⟨hc1, hc1'⟩ := pF hc1
  rw [mrk_len] at hc1'
  refine AW.exit ?_
  refine xT <| xT <| AX.exit_hit ?_
  refine AX.go ?_
  refine sr ?_
  refine st (mvT rfl) rfl ?_
  refine st (asT rfl) rfl ?_
  refine ng ?_
  refine AW.ret ?_
  exact rt1 rfl (.inl rfl) (by omega)

/-- laws.markCardS -/
theorem c_laws_markCardS (x : List DCard) (k : Int) (h : 0 ≤ k ∧ k ≤ 1152921504606846976 ∧ x.length ≤ 1152921504606846976) : AC Tryd.prog 52 [.own 31 kCard x, .cel (Kd.int .i64) k] [.cel (Kd.int .i64) (k + 3 * (x.length : Int))] [] := by
 refine acI (N := 36) Tryd.func52 (Nat.le_of_ble_eq_true rfl) rfl fun w0 hd s0 ar => ?_
 refine AW.to (ko 0 rfl <| kc 1 rfl <| Kn) ?_
 refine sr ?_
 refine st (asI rfl) rfl ?_
 refine ng ?_
 refine AW.seq ?_
 refine sr ?_
 refine st (asI rfl) rfl ?_
 refine ng ?_
 refine AW.block ?_
 refine AW.loop (fun p : Nat × List DCard => p.1 ≤ x.length ∧ p.2.length = x.length) (fun p : Nat × List DCard => keep [(0, .own 31 kCard p.2), (1, .cel (Kd.int .i64) (k + 3 * (p.1 : Int))), (5, .cel (Kd.int .i64) (p.1 : Int))]) (fun p : Nat × List DCard => x.length - p.1) ((0, x)) ⟨Nat.zero_le _, rfl⟩ (Kc 0 _ (Ko rfl rfl) <| Kc 1 _ (Kv rfl (by (try simp only []); omega)) <| Kc 5 _ (Kv rfl rfl) <| Kn) ?_
 intro p hI
 refine AW.seq ?_
 refine sr ?_
 refine st (mvT rfl) rfl ?_
 refine st (OpT.alias (H rfl) (by decide) (by decide)) rfl ?_
 refine st (OpT.lenO (H rfl) (Root.ali rfl (by decide) (by decide)) rfl el38) rfl ?_
 refine st (OpT.lss (H rfl) (T1 rfl) (T1 rfl)) rfl ?_
 refine ng ?_
 refine cd rfl (fun hc1 => ?_) fun hc1 => ?_
 ·
  obtain ⟨hc1, hc1'⟩ := pT hc1
  obtain ⟨a, ha⟩ := getI (x := p.2) (z := p.1) (by omega)
  refine AW.skip ?_
  refine AX.go ?_
  refine AW.seq ?_
  refine AW.block ?_
  refine sr ?_
  refine st (OpT.alias (H rfl) (by decide) (by decide)) rfl ?_
  refine st (mvT rfl) rfl ?_
  refine st (mvT rfl) rfl ?_
  refine st (OpT.c1 (ms := [.flat]) (c_laws_markText _ (by omega)) (H rfl) (Af (T1 rfl) rfl rfl <| An) rfl rfl) rfl ?_
  refine st (OpT.indexAddrO (H rfl) (Root.ali rfl (by decide) (by decide)) rfl (by decide) (T1 rfl) el38 sz31 (by omega) (by assumption)) rfl ?_
  refine st (OpT.fieldAddrE (H rfl) (T1 rfl) (.inr ⟨_, _, rfl, (by assumption)⟩) (by decide) fd31_0 sz9 (by decide) sb31_0 (by decide)) rfl ?_
  refine sk (OpT.storeO rfl rfl (T1 rfl) rfl (by assumption) sz9 rfl (T1 rfl)) rfl ?_
  refine ng ?_
  refine sr ?_
  refine st (mvT rfl) rfl ?_
  refine st (OpT.add (H rfl) (T1 rfl) (I rfl) (nw (by omega))) rfl ?_
  refine st (asT rfl) rfl ?_
  refine ng ?_
  refine sr ?_
  refine st (asI rfl) rfl ?_
  refine ng ?_
  refine AW.block ?_
  refine AW.loop (fun q : Nat × List DCard => q.1 ≤ 2 ∧ q.2.length = x.length ∧ p.1 < x.length) (fun q : Nat × List DCard => keep [(0, .own 31 kCard q.2), (1, .cel (Kd.int .i64) (k + 3 * (p.1 : Int) + 1 + (q.1 : Int))), (5, .cel (Kd.int .i64) (p.1 : Int)), (6, .cel (Kd.int .i64) (q.1 : Int))]) (fun q : Nat × List DCard => 2 - q.1) ((0, _)) ⟨by (try simp only []); omega, by (try simp only [List.length_set]); exact hI.2, by omega⟩ (Kc 0 _ (Ko rfl rfl) <| Kc 1 _ (Kv rfl (by (try simp only []); omega)) <| Kc 5 _ (Kv rfl rfl) <| Kc 6 _ (Kv rfl rfl) <| Kn) ?_
  intro q hI
  refine AW.seq ?_
  refine sr ?_
  refine st (mvT rfl) rfl ?_
  refine st (OpT.lss (H rfl) (T1 rfl) (I rfl)) rfl ?_
  refine ng ?_
  refine cd rfl (fun hc2 => ?_) fun hc2 => ?_
  ·
   obtain ⟨hc2, hc2'⟩ := pT hc2
   obtain ⟨b, hb⟩ := getI (x := q.2) (z := p.1) (by omega)
   refine AW.skip ?_
   refine AX.go ?_
   refine AW.seq ?_
   refine AW.block ?_
   refine sr ?_
   refine st (OpT.alias (H rfl) (by decide) (by decide)) rfl ?_
   refine st (mvT rfl) rfl ?_
   refine st (mvT rfl) rfl ?_
   refine st (mvT rfl) rfl ?_
   refine st (OpT.convu (H rfl) us3 Tryd.underlying22 (T1 rfl)) rfl ?_
   refine st (OpT.indexAddrO (H rfl) (Root.ali rfl (by decide) (by decide)) rfl (by decide) (T1 rfl) el38 sz31 (by omega) (by assumption)) rfl ?_
   refine st (OpT.fieldAddrE (H rfl) (T1 rfl) (.inr ⟨_, _, rfl, (by assumption)⟩) (by decide) fd31_1 sz29 (by decide) sb31_1 (by decide)) rfl ?_
   refine st (OpT.indexAddrE (H rfl) (T1 rfl) (.inr ⟨_, _, rfl, (by assumption)⟩) (by decide) (T1 rfl) ar29 sz22 (by omega) (Sub.two (by omega) rfl) (by decide)) rfl ?_
   refine sk (OpT.storeO rfl rfl (T1 rfl) rfl (by assumption) sz22 rfl (T1 rfl)) rfl ?_
   refine ng ?_
   refine AW.region ?_
   refine st (mvT rfl) rfl ?_
   refine st (OpT.add (H rfl) (T1 rfl) (I rfl) (nw (by omega))) rfl ?_
   refine st (asT rfl) rfl ?_
   refine nn ?_
   refine AX.normal_block ?_
   refine AX.go ?_
   refine AW.region ?_
   refine st (mvT rfl) rfl ?_
   refine st (OpT.add (H rfl) (T1 rfl) (I rfl) (nw (by omega))) rfl ?_
   refine st (asT rfl) rfl ?_
   refine nn ?_
   exact AX.again ((q.1 + 1, _)) ⟨by (try simp only []); omega, by (try simp only [List.length_set]); exact hI.2.1, hI.2.2⟩ (by (try simp only []); omega) (Kc 0 _ (Ko rfl rfl) <| Kc 1 _ (Kv rfl (by (try simp only []); omega)) <| Kc 5 _ (Kv rfl rfl) <| Kc 6 _ (Kv rfl (by (try simp only []); omega)) <| Kn)
  ·
   obtain ⟨hc2, hc2'⟩ := pF hc2
   refine AW.exit ?_
   refine xT <| xT <| AX.exit_hit ?_
   refine AX.normal_block ?_
   refine AX.go ?_
   refine AW.region ?_
   refine st (mvT rfl) rfl ?_
   refine st (OpT.add (H rfl) (T1 rfl) (I rfl) (nw (by omega))) rfl ?_
   refine st (asT rfl) rfl ?_
   refine nn ?_
   exact AX.again ((p.1 + 1, q.2)) ⟨by (try simp only []); omega, hI.2.1⟩ (by (try simp only []); omega) (Kc 0 _ (Ko rfl rfl) <| Kc 1 _ (Kv rfl (by (try simp only []); omega)) <| Kc 5 _ (Kv rfl (by (try simp only []); omega)) <| Kn)
 ·
  obtain ⟨hc1, hc1'⟩ := pF hc1
  refine AW.exit ?_
  refine xT <| xT <| AX.exit_hit ?_
  refine AX.go ?_
  refine sr ?_
  refine st (mvT rfl) rfl ?_
  refine st (asT rfl) rfl ?_
  refine ng ?_
  refine AW.ret ?_
  exact rt1 rfl (.inl rfl) (by omega)

/-- impl.Mask).holes -/
theorem c_impl_Mask_holes_o (m : DMask) : AC Tryd.prog 114 [.agg kMask m] [.own 2 (Kd.int .i64) (hol m 96)] [] := by
 refine acI (N := 18) Tryd.func114 (Nat.le_of_ble_eq_true rfl) rfl fun w0 hd s0 ar => ?_
 refine AW.to (ka 0 rfl <| Kn) ?_
 refine sr ?_
 refine st (OpT.frz (OpT.boxA (E := 29) (H rfl) (T1 rfl))) rfl ?_
 refine st (nilO (E := 2) (Kd.int .i64) rfl (.inl rfl)) rfl ?_
 refine ng ?_
 refine sr ?_
 refine st (OpT.buildSlice0 (m := 0) (z := .bool false) (Kd.int .i64) (H rfl) el61 sz2 (by decide)) rfl ?_
 refine sg (OpT.take (.inl rfl) rfl (ok' rfl) (Root.self (by decide)) rfl rfl (by decide)) (ko 3 rfl <| ko 2 rfl <| kc 1 rfl <| ka 0 rfl <| Kn) rfl ?_
 refine ng ?_
 refine AW.seq ?_
 refine sr ?_
 refine st (mvI rfl) rfl ?_
 refine ng ?_
 refine AW.block ?_
 refine AW.loop (fun z : Nat => z ≤ 96) (fun z : Nat => keep [(1, .cel (Kd.ptr kMask) m), (3, .own 2 (Kd.int .i64) (hol m z)), (6, .cel (Kd.int .i64) (z : Int))]) (fun z : Nat => 96 - z) (0) (Nat.zero_le _) (Kc 1 _ (Kv rfl rfl) <| Kc 3 _ (Ko rfl rfl) <| Kc 6 _ (Kv rfl rfl) <| Kn) ?_
 intro z hI
 refine sr ?_
 refine st (OpT.lss (H rfl) (T1 rfl) (I rfl)) rfl ?_
 refine ng ?_
 refine AW.seq ?_
 refine cd rfl (fun hc1 => ?_) fun hc1 => ?_
 ·
  obtain ⟨hc1, hc1'⟩ := pT hc1
  refine AW.skip ?_
  refine AX.go ?_
  refine AW.seq ?_
  refine AW.block ?_
  refine sr ?_
  refine st (mvT rfl) rfl ?_
  refine st (asT rfl) rfl ?_
  refine ng ?_
  refine sr ?_
  refine st (OpT.loadA (H rfl) (T1 rfl) ag29 sz29) rfl ?_
  refine st (mvT rfl) rfl ?_
  refine st (OpT.c1 (ms := [.flat, .flat]) (c_impl_Mask_has _ _ (by omega)) (H rfl) (Af (T1 rfl) rfl rfl <| Af (T1 rfl) rfl rfl <| An) rfl rfl) rfl ?_
  refine ng ?_
  refine cd rfl (fun hc2 => ?_) fun hc2 => ?_
  ·
   obtain ⟨hc2, hc2'⟩ := pT hc2
   refine AW.region ?_
   refine st (OpT.alias (H rfl) (by decide) (by decide)) rfl ?_
   refine st (mvT rfl) rfl ?_
   refine st (OpT.buildSlice (H rfl) el61 zr2 sz2 rfl (by decide) zk2 (by decide) (Built.cel (T1 rfl) rfl rfl (sub_arr (by decide) (0 : Int)) (Built.nil _))) rfl ?_
   refine sg (OpT.append (H rfl) (Root.ali rfl (by decide) (by decide)) rfl (Src.own (Root.self (t := 14) (by decide)) rfl) (by decide) el61 zr2 rfl sz2 by2 (by decide) (by have := hol_len m z; simp only [List.length_set, List.length_replicate]; omega)) (ko 15 rfl <| ko 14 rfl <| kc3 13 11 10 rfl <| ka 9 rfl <| kc4 4 8 7 1 rfl <| kc 6 rfl <| Kn) rfl ?_
   refine sg (OpT.take (.inl rfl) rfl (ok' rfl) (Root.self (by decide)) rfl rfl (by decide)) (ko 3 rfl <| ko 14 rfl <| kc3 13 11 10 rfl <| ka 9 rfl <| kc4 4 8 7 1 rfl <| kc 6 rfl <| Kn) rfl ?_
   refine nn ?_
   refine AX.normal_block ?_
   refine AX.go ?_
   refine AW.region ?_
   refine st (OpT.add (H rfl) (T1 rfl) (I rfl) (nw (by omega))) rfl ?_
   refine st (mvT rfl) rfl ?_
   refine nn ?_
   exact AX.again (z + 1) (by omega) (by omega) (Kc 1 _ (Kv rfl rfl) <| Kc 3 _ (Ko rfl (by first | exact hol_yes hc2 (by omega) | exact hol_no hc2 (by omega))) <| Kc 6 _ (Kv rfl (by omega)) <| Kn)
  ·
   obtain ⟨hc2, hc2'⟩ := pF hc2
   refine AW.skip ?_
   refine AX.normal_block ?_
   refine AX.go ?_
   refine AW.region ?_
   refine st (OpT.add (H rfl) (T1 rfl) (I rfl) (nw (by omega))) rfl ?_
   refine st (mvT rfl) rfl ?_
   refine nn ?_
   exact AX.again (z + 1) (by omega) (by omega) (Kc 1 _ (Kv rfl rfl) <| Kc 3 _ (Ko rfl (by first | exact hol_yes hc2 (by omega) | exact hol_no hc2 (by omega))) <| Kc 6 _ (Kv rfl (by omega)) <| Kn)
 ·
  obtain ⟨hc1, hc1'⟩ := pF hc1
  refine AW.exit ?_
  refine xT <| xT <| AX.exit_hit ?_
  refine AX.go ?_
  refine sr ?_
  refine st (OpT.alias (H rfl) (by decide) (by decide)) rfl ?_
  refine sg (OpT.take (.inl rfl) rfl (ok' rfl) (Root.ali rfl (by decide) (by decide)) rfl rfl (by decide)) (ko 2 rfl <| kc3 7 1 6 rfl <| Kn) rfl ?_
  refine ng ?_
  refine AW.ret ?_
  exact AX.rt (rs := [.tmp 2]) (ts := [some 2]) (.inl rfl) rfl (ROs.cons (RO.tmp (At.self (by decide)) (Ko rfl (by rw [show z = 96 by omega])) rfl) <| ROs.nil) (by decide) OutsOK.nil
theorem c_impl_Mask_holes (m : DMask) : AC Tryd.prog 114 [.agg kMask m] [.cel (Kd.slice (Kd.int .i64)) (hol m 96)] [] := (c_impl_Mask_holes_o m).frz rfl

/-- impl.HoleTally -/
theorem c_impl_HoleTally_o (x : List DCard) : AC Tryd.prog 56 [.cel (Kd.slice kCard) x] [.own 2 (Kd.int .i64) (talS x).1, .cel (Kd.int .i64) (talS x).2] [] := by
 refine acI (N := 39) Tryd.func56 (Nat.le_of_ble_eq_true rfl) rfl fun w0 hd s0 ar => ?_
 refine AW.to (kc 0 rfl <| Kn) ?_
 refine AW.fact (fun a w hr => (ok_slice (R_ok (t := 0) rfl hr)).2) (fun hl0 => ?_)
 have htn := tabF_nil (s := []) (x := x)
 refine sr ?_
 refine st (nilO (E := 2) (Kd.int .i64) rfl (.inl rfl)) rfl ?_
 refine st (asI rfl) rfl ?_
 refine ng ?_
 refine AW.seq ?_
 refine sr ?_
 refine st (mvT rfl) rfl ?_
 refine st (OpT.c1 (ms := [.flat, .flat, .flat]) (htn ▸ c_impl_checkTable [] x []) (H rfl) (Af (Opd.nilslice _) rfl rfl <| Af (T1 rfl) rfl rfl <| Af (Opd.nilslice _) rfl rfl <| An) rfl rfl) rfl ?_
 refine st (asT rfl) rfl ?_
 refine ng ?_
 refine sr ?_
 refine st (mvT rfl) rfl ?_
 refine st (OpT.neq (H rfl) (T1 rfl) (I rfl)) rfl ?_
 refine ng ?_
 refine cd rfl (fun hc1 => ?_) fun hc1 => ?_
 ·
  obtain ⟨hc1, hc1'⟩ := pT hc1
  have hz1 : tabE [] x ≠ 0 := hc1'
  refine sr ?_
  refine st (mvT rfl) rfl ?_
  refine st (nilO (E := 2) (Kd.int .i64) rfl (.inl rfl)) rfl ?_
  refine st (asT rfl) rfl ?_
  refine ng ?_
  refine AW.ret ?_
  refine rT ?_
  exact AX.rt (rs := [.tmp 2, .tmp 3]) (ts := [some 2, some 3]) (.inl rfl) rfl (ROs.cons (RO.tmp (At.self (by decide)) (Ko rfl (by first | (rw [talS_no hz1]; done) | (rw [talS_yes hz0]; first | done | (rw [List.take_of_length_le (by omega)]; exact hols_end x)))) rfl) <| ROs.cons (RO.tmp (At.self (by decide)) (Kv rfl (by first | (rw [talS_no hz1]; done) | (rw [talS_yes hz0]; first | done | (rw [List.take_of_length_le (by omega)]; exact hols_end x)))) rfl) <| ROs.nil) (by decide) OutsOK.nil
 ·
  obtain ⟨hc1, hc1'⟩ := pF hc1
  have hz0 : tabE [] x = 0 := hc1'
  have hxl := (tabE_ok hz0).2.2
  refine AW.skip ?_
  refine AX.go ?_
  refine sr ?_
  refine st (OpT.make (H rfl) (I rfl) (I rfl) el61 zr2 sz2 by2 (by decide) zk2 (by decide) (by decide)) rfl ?_
  refine sg (OpT.take (.inl rfl) rfl (ok' rfl) (Root.self (by decide)) rfl rfl (by decide)) (ko 5 rfl <| kc4 13 12 4 11 rfl <| kc2 10 3 rfl <| ko 2 rfl <| kc 0 rfl <| Kn) rfl ?_
  refine ng ?_
  refine AW.seq ?_
  refine sr ?_
  refine st (mvT rfl) rfl ?_
  refine st (OpT.len (H rfl) (T1 rfl) el38) rfl ?_
  refine st (mvI rfl) rfl ?_
  refine ng ?_
  refine AW.block ?_
  refine AW.loop (fun z : Nat => z ≤ x.length) (fun z : Nat => keep [(5, .own 2 (Kd.int .i64) (cntL 0 96 (holsL (x.take z)))), (16, .cel (Kd.slice kCard) x), (17, .cel (Kd.int .i64) (x.length : Int)), (18, .cel (Kd.int .i64) (z : Int))]) (fun z : Nat => x.length - z) (0) (Nat.zero_le _) (Kc 5 _ (Ko rfl cntL_nil) <| Kc 16 _ (Kv rfl rfl) <| Kc 17 _ (Kv rfl rfl) <| Kc 18 _ (Kv rfl rfl) <| Kn) ?_
  intro z hI
  refine sr ?_
  refine st (OpT.lss (H rfl) (T1 rfl) (T1 rfl)) rfl ?_
  refine ng ?_
  refine AW.seq ?_
  refine cd rfl (fun hc2 => ?_) fun hc2 => ?_
  ·
   obtain ⟨hc2, hc2'⟩ := pT hc2
   obtain ⟨e, he⟩ := getI (x := x) (z := z) (by omega)
   refine AW.skip ?_
   refine AX.go ?_
   refine AW.seq ?_
   refine AW.block ?_
   refine sr ?_
   refine st (OpT.indexAddr (H rfl) (T1 rfl) (T1 rfl) el38 sz31 (by omega) (by assumption)) rfl ?_
   refine st (OpT.loadA (H rfl) (T1 rfl) ag31 sz31) rfl ?_
   refine st (OpT.alloc (H rfl) zr31 zk31) rfl ?_
   refine sk (OpT.storeBA rfl rfl (Opd.whole (Root.self (t := 7) (by decide)) rfl) rfl sz31 (by decide) (T1 rfl)) rfl ?_
   refine ng ?_
   refine sr ?_
   refine st (OpT.fieldAddrB (H rfl) (Root.self (t := 7) (by decide)) rfl (by decide) fd31_1 sz29 (by decide) sb31_1) rfl ?_
   refine st (OpT.loadPA (H rfl) (T1 rfl) (.inl ⟨_, rfl, rfl⟩) ag29 sz29) rfl ?_
   refine st (OpT.c1 (ms := [.flat]) (c_impl_Mask_holes _) (H rfl) (Af (T1 rfl) rfl rfl <| An) rfl rfl) rfl ?_
   refine st (OpT.len (H rfl) (T1 rfl) el61) rfl ?_
   refine st (mvI rfl) rfl ?_
   refine ng ?_
   refine AW.block ?_
   refine AW.loop (fun y : Nat => y ≤ (hol e.2 96).length) (fun y : Nat => keep [(5, .own 2 (Kd.int .i64) (cntL 0 96 (holsL (x.take z) ++ (hol e.2 96).take y))), (16, .cel (Kd.slice kCard) x), (17, .cel (Kd.int .i64) (x.length : Int)), (18, .cel (Kd.int .i64) (z : Int)), (24, .cel (Kd.slice (Kd.int .i64)) (hol e.2 96)), (25, .cel (Kd.int .i64) ((hol e.2 96).length : Int)), (26, .cel (Kd.int .i64) (y : Int))]) (fun y : Nat => (hol e.2 96).length - y) (0) (Nat.zero_le _) (Kc 5 _ (Ko rfl (by rw [List.take_zero, List.append_nil])) <| Kc 16 _ (Kv rfl rfl) <| Kc 17 _ (Kv rfl rfl) <| Kc 18 _ (Kv rfl rfl) <| Kc 24 _ (Kv rfl rfl) <| Kc 25 _ (Kv rfl rfl) <| Kc 26 _ (Kv rfl rfl) <| Kn) ?_
   intro y hI
   refine sr ?_
   refine st (OpT.lss (H rfl) (T1 rfl) (T1 rfl)) rfl ?_
   refine ng ?_
   refine AW.seq ?_
   refine cd rfl (fun hc3 => ?_) fun hc3 => ?_
   ·
    obtain ⟨hc3, hc3'⟩ := pT hc3
    obtain ⟨n, hn⟩ := getI (x := hol e.2 96) (z := y) (by omega)
    have hol96 := hol_len e.2 96
    have hnr := hol_mem (mem_getI hn)
    have hln : (holsL (x.take z) ++ (hol e.2 96).take y).length ≤ 96 * 60 + 96 := by (rw [List.length_append, List.length_take]; have h1 := hols_len (x.take z); rw [List.length_take] at h1; omega)
    obtain ⟨v, hv, hv1⟩ := cntL_in (b := 0) (a := n) (n := 96) (l := holsL (x.take z) ++ (hol e.2 96).take y) (by omega) (by omega)
    refine AW.skip ?_
    refine AX.go ?_
    refine AW.seq ?_
    refine AW.block ?_
    refine sr ?_
    refine st (OpT.indexAddr (H rfl) (T1 rfl) (T1 rfl) el61 sz2 (by omega) (by assumption)) rfl ?_
    refine st (OpT.load (H rfl) (T1 rfl) ag2 rfl) rfl ?_
    refine st (asT rfl) rfl ?_
    refine ng ?_
    refine AW.region ?_
    refine st (OpT.alias (H rfl) (by decide) (by decide)) rfl ?_
    refine st (mvT rfl) rfl ?_
    refine st (OpT.indexAddrO (H rfl) (Root.ali rfl (by decide) (by decide)) rfl (by decide) (T1 rfl) el61 sz2 (by omega) (by assumption)) rfl ?_
    refine st (OpT.loadP (H rfl) (T1 rfl) (.inr ⟨_, _, rfl, (by assumption)⟩) ag2 rfl) rfl ?_
    refine st (OpT.add (H rfl) (T1 rfl) (I rfl) (nw (by omega))) rfl ?_
    refine st (OpT.indexAddrO (H rfl) (Root.ali rfl (by decide) (by decide)) rfl (by decide) (T1 rfl) el61 sz2 (by omega) (by assumption)) rfl ?_
    refine sk (OpT.storeO rfl rfl (T1 rfl) rfl (by assumption) sz2 rfl (T1 rfl)) rfl ?_
    refine nn ?_
    refine AX.normal_block ?_
    refine AX.go ?_
    refine AW.region ?_
    refine st (OpT.add (H rfl) (T1 rfl) (I rfl) (nw (by omega))) rfl ?_
    refine st (mvT rfl) rfl ?_
    refine nn ?_
    exact AX.again (y + 1) (by omega) (by omega) (Kc 5 _ (Ko rfl (cnt_next hn (by omega) hv)) <| Kc 16 _ (Kv rfl rfl) <| Kc 17 _ (Kv rfl rfl) <| Kc 18 _ (Kv rfl rfl) <| Kc 24 _ (Kv rfl rfl) <| Kc 25 _ (Kv rfl rfl) <| Kc 26 _ (Kv rfl (by omega)) <| Kn)
   ·
    obtain ⟨hc3, hc3'⟩ := pF hc3
    refine AW.exit ?_
    refine xT <| xT <| AX.exit_hit ?_
    refine AX.normal_block ?_
    refine AX.go ?_
    refine AW.region ?_
    refine st (OpT.add (H rfl) (T1 rfl) (I rfl) (nw (by omega))) rfl ?_
    refine st (mvT rfl) rfl ?_
    refine nn ?_
    exact AX.again (z + 1) (by omega) (by omega) (Kc 5 _ (Ko rfl (by rw [List.take_of_length_le (l := hol e.2 96) (by omega), hols_next he])) <| Kc 16 _ (Kv rfl rfl) <| Kc 17 _ (Kv rfl rfl) <| Kc 18 _ (Kv rfl (by omega)) <| Kn)
  ·
   obtain ⟨hc2, hc2'⟩ := pF hc2
   refine AW.exit ?_
   refine xT <| xT <| AX.exit_hit ?_
   refine AX.go ?_
   refine sr ?_
   refine st (OpT.alias (H rfl) (by decide) (by decide)) rfl ?_
   refine sg (OpT.take (.inl rfl) rfl (ok' rfl) (Root.ali rfl (by decide) (by decide)) rfl rfl (by decide)) (ko 2 rfl <| kc4 19 16 17 18 rfl <| Kn) rfl ?_
   refine st (asI rfl) rfl ?_
   refine ng ?_
   refine AW.ret ?_
   exact AX.rt (rs := [.tmp 2, .tmp 3]) (ts := [some 2, some 3]) (.inl rfl) rfl (ROs.cons (RO.tmp (At.self (by decide)) (Ko rfl (by first | (rw [talS_no hz1]; done) | (rw [talS_yes hz0]; first | done | (rw [List.take_of_length_le (by omega)]; exact hols_end x)))) rfl) <| ROs.cons (RO.tmp (At.self (by decide)) (Kv rfl (by first | (rw [talS_no hz1]; done) | (rw [talS_yes hz0]; first | done | (rw [List.take_of_length_le (by omega)]; exact hols_end x)))) rfl) <| ROs.nil) (by decide) OutsOK.nil
set_option maxHeartbeats 4000000 in
/-- laws.FnExactHoleTally -/
theorem c_laws_FnExactHoleTally (x : List DCard) : AC Tryd.prog 13 [.cel (Kd.slice kCard) x] [.cel Kd.bool true] [] := by
 refine acI (N := 96) Tryd.func13 (Nat.le_of_ble_eq_true rfl) rfl fun w0 hd s0 ar => ?_
 refine AW.to (kc 0 rfl <| Kn) ?_
 have htl := talS_len x
 refine sr ?_
 refine st (asB rfl) rfl ?_
 refine ng ?_
 refine sr ?_
 refine st (asI rfl) rfl ?_
 refine ng ?_
 refine sr ?_
 refine st (mvT rfl) rfl ?_
 refine st (mvT rfl) rfl ?_
 refine st (OpT.c1 (ms := [.flat, .flat]) (c_laws_szCardS _ _ (by omega)) (H rfl) (Af (T1 rfl) rfl rfl <| Af (T1 rfl) rfl rfl <| An) rfl rfl) rfl ?_
 refine st (asT rfl) rfl ?_
 refine ng ?_
 refine AW.seq ?_
 refine sr ?_
 refine st (mvT rfl) rfl ?_
 refine st (OpT.lss (H rfl) (T1 rfl) (I rfl)) rfl ?_
 refine ng ?_
 refine cd rfl (fun hc1 => ?_) fun hc1 => ?_
 ·
  replace hc1 := oT hc1
  refine sr ?_
  refine st (asB rfl) rfl ?_
  refine ng ?_
  refine AW.ret ?_
  refine rT ?_
  exact rt1 rfl (.inl rfl) rfl
 ·
  replace hc1 := oF hc1
  have k0 := okSz_list okSzC x 1048576 (by omega)
  have k1 := k0.2.2 (by omega)
  refine AW.skip ?_
  refine AX.go ?_
  refine sr ?_
  refine st (mvT rfl) rfl ?_
  refine st (OpT.c1 (ms := [.flat]) (c_laws_toCardS x (by omega)) (H rfl) (Af (T1 rfl) rfl rfl <| An) rfl rfl) rfl ?_
  refine s2 (OpT.c2 (ms := [.flat]) (c_spec_HoleTally _) (H rfl) (Af (T1 rfl) rfl rfl <| An) rfl rfl rfl) rfl ?_
  refine st (OpT.alias (H rfl) (by decide) (by decide)) rfl ?_
  refine st (OpT.extractV (m := 10022) (H rfl) rfl rfl rfl rfl rfl rfl rfl) rfl ?_
  refine st (OpT.extractV (m := 20022) (H rfl) rfl rfl rfl rfl rfl rfl rfl) rfl ?_
  refine st (asT rfl) rfl ?_
  refine st (asT rfl) rfl ?_
  refine AWl.to (kc4 5 4 2 0 rfl <| Kn) ?_
  refine ng ?_
  refine sr ?_
  refine st (mvT rfl) rfl ?_
  refine st (OpT.c1 (ms := [.flat]) (c_laws_toCardS_o x (by omega)) (H rfl) (Af (T1 rfl) rfl rfl <| An) rfl rfl) rfl ?_
  refine sg (OpT.take (.inl rfl) rfl (ok' rfl) (Root.self (by decide)) rfl rfl (by decide)) (ko 6 rfl <| kc4 25 5 4 2 rfl <| kc 0 rfl <| Kn) rfl ?_
  refine ng ?_
  refine sr ?_
  refine st (OpT.alias (H rfl) (by decide) (by decide)) rfl ?_
  refine s2 (cb2 (ms := [.bor 6]) (c_impl_HoleTally_o _) (H rfl) (Ab (Root.ali rfl (by decide) (by decide)) rfl <| An) rfl (indO fun _ _ _ _ h => h) (indC fun _ _ _ _ h => h)) rfl ?_
  refine st (OpT.alias (H rfl) (by decide) (by decide)) rfl ?_
  refine sg (OpT.extractVO (m := 10029) (H rfl) rfl rfl rfl rfl rfl rfl) (ko 30 rfl <| Kc 27 (.ali _) rfl <| kc 20029 rfl <| Kc 28 (.ali _) rfl <| ko 6 rfl <| kc4 25 5 4 2 rfl <| kc 0 rfl <| Kn) rfl ?_
  refine st (OpT.extractV (m := 20029) (H rfl) rfl rfl rfl rfl rfl rfl rfl) rfl ?_
  refine sg (OpT.take (.inl rfl) rfl (ok' rfl) (Root.self (by decide)) rfl rfl (by decide)) (ko 7 rfl <| kc 31 rfl <| Kc 27 (.ali _) rfl <| kc 20029 rfl <| Kc 28 (.ali _) rfl <| ko 6 rfl <| kc4 25 5 4 2 rfl <| kc 0 rfl <| Kn) rfl ?_
  refine st (asT rfl) rfl ?_
  refine ng ?_
  refine AW.seq ?_
  refine sr ?_
  refine st (OpT.alias (H rfl) (by decide) (by decide)) rfl ?_
  refine st (mvT rfl) rfl ?_
  refine st (cb1 (ms := [.bor 7, .flat]) (c_laws_eqInt64S _ _) (H rfl) (Ab (Root.ali rfl (by decide) (by decide)) rfl <| Af (T1 rfl) rfl rfl <| An) rfl (indC fun _ _ _ _ h => h)) rfl ?_
  refine st (OpT.not (H rfl) (T1 rfl)) rfl ?_
  refine st (mvT rfl) rfl ?_
  apply AWl.or (d := 40) (t := 36) rfl
  ·
   intro hb1 Q1 k1
   refine rs hb1 (mvT rfl) rfl ?_
   refine rs hb1 (mvT rfl) rfl ?_
   refine rs hb1 (OpT.neq (H rfl) (T1 rfl) (T1 rfl)) rfl ?_
   refine st (OpT.pickF (A := .cel _ _) (H rfl) (T1 rfl) hb1 (T1 rfl) rfl) rfl ?_
   exact AWl.to (junk 3 rfl) k1
  ·
   intro hb1 Q1 k1
   refine ps hb1 rfl ?_
   refine ps hb1 rfl ?_
   refine ps hb1 rfl ?_
   refine st (OpT.pickT (A := .cel _ _) (H rfl) (T1 rfl) hb1 Opd.bool rfl) rfl ?_
   exact k1
  refine ng ?_
  refine cd rfl (fun hc2 => ?_) fun hc2 => ?_
  ·
   replace hc2 := oT hc2
   exact (show False from (by first | omega | (simp [eqv_self] at hc2 <;> omega))).elim
  ·
   replace hc2 := oF hc2
   refine AW.skip ?_
   refine AX.pr (kc 8 rfl <| ko 7 rfl <| ko 6 rfl <| kc4 5 4 2 0 rfl <| Kn) ?_
   refine AX.go ?_
   refine AW.seq ?_
   refine sr ?_
   refine st (OpT.alias (H rfl) (by decide) (by decide)) rfl ?_
   refine st (mvT rfl) rfl ?_
   refine st (OpT.c1 (ms := [.flat]) (c_laws_toCardS x (by omega)) (H rfl) (Af (T1 rfl) rfl rfl <| An) rfl rfl) rfl ?_
   refine st (cb1 (ms := [.bor 6, .flat]) (c_laws_eqCardS _ _) (H rfl) (Ab (Root.ali rfl (by decide) (by decide)) rfl <| Af (T1 rfl) rfl rfl <| An) rfl (indC fun _ _ _ _ h => h)) rfl ?_
   refine st (OpT.not (H rfl) (T1 rfl)) rfl ?_
   refine ng ?_
   refine cd rfl (fun hc3 => ?_) fun hc3 => ?_
   ·
    replace hc3 := oT hc3
    exact (show False from (by first | omega | (simp [eqv_self] at hc3 <;> omega))).elim
   ·
    replace hc3 := oF hc3
    refine AW.skip ?_
    refine AX.go ?_
    refine sr ?_
    refine st (asI rfl) rfl ?_
    refine ng ?_
    refine sr ?_
    refine st (OpT.alias (H rfl) (by decide) (by decide)) rfl ?_
    refine st (mvT rfl) rfl ?_
    refine sg (OpT.crn (ms := [.root 6, .flat]) (c_laws_markCardS _ _ (by omega)) (H rfl) (Ar (O := .any) (Root.ali rfl (by decide) (by decide)) rfl rfl rfl <| Af (T1 rfl) rfl rfl <| An) rfl rfl (.inl rfl) rfl) (kc2 48 47 rfl <| Kc 46 (.ali _) rfl <| kc4 9 45 44 43 rfl <| kc 42 rfl <| Kc 41 (.ali _) rfl <| kc 8 rfl <| ko 7 rfl <| kc4 5 4 2 0 rfl <| Kn) rfl ?_
    refine st (asT rfl) rfl ?_
    refine ng ?_
    refine AW.seq ?_
    refine sr ?_
    refine st (mvT rfl) rfl ?_
    refine st (OpT.lss (H rfl) (T1 rfl) (I rfl)) rfl ?_
    refine st (mvT rfl) rfl ?_
    apply AWl.or (d := 56) (t := 51) rfl
    ·
     intro hb2 Q1 k1
     refine rs hb2 (OpT.alias (H rfl) (by decide) (by decide)) rfl ?_
     refine rs hb2 (mvT rfl) rfl ?_
     refine rs hb2 (cb1 (ms := [.bor 7, .flat]) (c_laws_eqInt64S _ _) (H rfl) (Ab (Root.ali rfl (by decide) (by decide)) rfl <| Af (T1 rfl) rfl rfl <| An) rfl (indC fun _ _ _ _ h => h)) rfl ?_
     refine rs hb2 (OpT.not (H rfl) (T1 rfl)) rfl ?_
     refine st (OpT.pickF (A := .cel _ _) (H rfl) (T1 rfl) hb2 (T1 rfl) rfl) rfl ?_
     exact AWl.to (junk 4 rfl) k1
    ·
     intro hb2 Q1 k1
     refine ps hb2 rfl ?_
     refine ps hb2 rfl ?_
     refine ps hb2 rfl ?_
     refine ps hb2 rfl ?_
     refine st (OpT.pickT (A := .cel _ _) (H rfl) (T1 rfl) hb2 Opd.bool rfl) rfl ?_
     exact k1
    refine st (mvT rfl) rfl ?_
    apply AWl.or (d := 61) (t := 57) rfl
    ·
     intro hb3 Q1 k1
     refine rs hb3 (mvT rfl) rfl ?_
     refine rs hb3 (mvT rfl) rfl ?_
     refine rs hb3 (OpT.neq (H rfl) (T1 rfl) (T1 rfl)) rfl ?_
     refine st (OpT.pickF (A := .cel _ _) (H rfl) (T1 rfl) hb3 (T1 rfl) rfl) rfl ?_
     exact AWl.to (junk 3 rfl) k1
    ·
     intro hb3 Q1 k1
     refine ps hb3 rfl ?_
     refine ps hb3 rfl ?_
     refine ps hb3 rfl ?_
     refine st (OpT.pickT (A := .cel _ _) (H rfl) (T1 rfl) hb3 Opd.bool rfl) rfl ?_
     exact k1
    refine AWl.to (kc 61 rfl <| ko 7 rfl <| kc4 5 4 2 0 rfl <| Kn) ?_
    refine ng ?_
    refine cd rfl (fun hc4 => ?_) fun hc4 => ?_
    ·
     replace hc4 := oT hc4
     exact (show False from (by first | omega | (simp [eqv_self] at hc4 <;> omega))).elim
    ·
     replace hc4 := oF hc4
     refine AW.skip ?_
     refine AX.go ?_
     refine sr ?_
     refine st (asI rfl) rfl ?_
     refine ng ?_
     refine sr ?_
     refine st (OpT.alias (H rfl) (by decide) (by decide)) rfl ?_
     refine st (mvT rfl) rfl ?_
     refine sg (OpT.cr (ms := [.root 7, .flat]) (c_laws_markInt64S _ _ (by omega)) (H rfl) (Ar (Root.ali rfl (by decide) (by decide)) rfl rfl rfl <| Af (T1 rfl) rfl rfl <| An) rfl (.inl rfl) rfl) (kc2 64 63 rfl <| Kc 62 (.ali _) rfl <| kc2 10 61 rfl <| ko 7 rfl <| kc4 5 4 2 0 rfl <| Kn) rfl ?_
     refine st (asT rfl) rfl ?_
     refine ng ?_
     refine sr ?_
     refine st (asI rfl) rfl ?_
     refine ng ?_
     refine sr ?_
     refine st (OpT.alias (H rfl) (by decide) (by decide)) rfl ?_
     refine st (mvT rfl) rfl ?_
     refine st (cb1 (ms := [.bor 7, .flat]) (c_laws_heldInt64S (talS x).1.length _ (by omega)) (H rfl) (Ab (Root.ali rfl (by decide) (by decide)) rfl <| Af (T1 rfl) rfl rfl <| An) rfl (indC fun _ _ _ _ h => h)) rfl ?_
     refine st (asT rfl) rfl ?_
     refine ng ?_
     refine AW.seq ?_
     refine sr ?_
     refine st (mvT rfl) rfl ?_
     refine st (OpT.lss (H rfl) (T1 rfl) (I rfl)) rfl ?_
     refine ng ?_
     refine cd rfl (fun hc5 => ?_) fun hc5 => ?_
     ·
      replace hc5 := oT hc5
      exact (show False from (by first | omega | (simp [eqv_self] at hc5 <;> omega))).elim
     ·
      replace hc5 := oF hc5
      refine AW.skip ?_
      refine AX.pr (kc2 11 10 rfl <| ko 7 rfl <| kc4 5 4 2 0 rfl <| Kn) ?_
      refine AX.go ?_
      refine AW.seq ?_
      refine sr ?_
      refine st (mvT rfl) rfl ?_
      refine st (mvT rfl) rfl ?_
      refine st (OpT.neq (H rfl) (T1 rfl) (T1 rfl)) rfl ?_
      refine ng ?_
      refine cd rfl (fun hc6 => ?_) fun hc6 => ?_
      ·
       replace hc6 := oT hc6
       exact (show False from (by first | omega | (simp [eqv_self] at hc6 <;> omega))).elim
      ·
       replace hc6 := oF hc6
       refine AW.skip ?_
       refine AX.go ?_
       refine sr ?_
       refine st (mvT rfl) rfl ?_
       refine st (OpT.c1 (ms := [.flat]) (c_laws_toCardS x (by omega)) (H rfl) (Af (T1 rfl) rfl rfl <| An) rfl rfl) rfl ?_
       refine s2 (OpT.c2 (ms := [.flat]) (c_impl_HoleTally_o _) (H rfl) (Af (T1 rfl) rfl rfl <| An) rfl rfl rfl) rfl ?_
       refine st (OpT.alias (H rfl) (by decide) (by decide)) rfl ?_
       refine sg (OpT.extractVO (m := 10076) (H rfl) rfl rfl rfl rfl rfl rfl) (ko 77 rfl <| Kc 73 (.ali _) rfl <| kc4 20076 75 74 72 rfl <| kc4 71 70 11 10 rfl <| ko 7 rfl <| kc4 5 4 2 0 rfl <| Kn) rfl ?_
       refine st (OpT.extractV (m := 20076) (H rfl) rfl rfl rfl rfl rfl rfl rfl) rfl ?_
       refine sg (OpT.take (.inl rfl) rfl (ok' rfl) (Root.self (by decide)) rfl rfl (by decide)) (ko 12 rfl <| kc 78 rfl <| Kc 73 (.ali _) rfl <| kc4 20076 75 74 72 rfl <| kc4 71 70 11 10 rfl <| ko 7 rfl <| kc4 5 4 2 0 rfl <| Kn) rfl ?_
       refine st (asT rfl) rfl ?_
       refine ng ?_
       refine AW.seq ?_
       refine sr ?_
       refine st (OpT.alias (H rfl) (by decide) (by decide)) rfl ?_
       refine st (mvT rfl) rfl ?_
       refine st (cb1 (ms := [.bor 12, .flat]) (c_laws_eqInt64S _ _) (H rfl) (Ab (Root.ali rfl (by decide) (by decide)) rfl <| Af (T1 rfl) rfl rfl <| An) rfl (indC fun _ _ _ _ h => h)) rfl ?_
       refine st (OpT.not (H rfl) (T1 rfl)) rfl ?_
       refine st (mvT rfl) rfl ?_
       apply AWl.or (d := 87) (t := 83) rfl
       ·
        intro hb4 Q1 k1
        refine rs hb4 (mvT rfl) rfl ?_
        refine rs hb4 (mvT rfl) rfl ?_
        refine rs hb4 (OpT.neq (H rfl) (T1 rfl) (T1 rfl)) rfl ?_
        refine st (OpT.pickF (A := .cel _ _) (H rfl) (T1 rfl) hb4 (T1 rfl) rfl) rfl ?_
        exact AWl.to (junk 3 rfl) k1
       ·
        intro hb4 Q1 k1
        refine ps hb4 rfl ?_
        refine ps hb4 rfl ?_
        refine ps hb4 rfl ?_
        refine st (OpT.pickT (A := .cel _ _) (H rfl) (T1 rfl) hb4 Opd.bool rfl) rfl ?_
        exact k1
       refine AWl.to (kc3 87 11 10 rfl <| ko 7 rfl <| kc 2 rfl <| Kn) ?_
       refine ng ?_
       refine cd rfl (fun hc7 => ?_) fun hc7 => ?_
       ·
        replace hc7 := oT hc7
        exact (show False from (by first | omega | (simp [eqv_self] at hc7 <;> omega))).elim
       ·
        replace hc7 := oF hc7
        refine AW.skip ?_
        refine AX.go ?_
        refine sr ?_
        refine st (asI rfl) rfl ?_
        refine ng ?_
        refine sr ?_
        refine st (OpT.alias (H rfl) (by decide) (by decide)) rfl ?_
        refine st (mvT rfl) rfl ?_
        refine st (cb1 (ms := [.bor 7, .flat]) (c_laws_heldInt64S (talS x).1.length _ (by omega)) (H rfl) (Ab (Root.ali rfl (by decide) (by decide)) rfl <| Af (T1 rfl) rfl rfl <| An) rfl (indC fun _ _ _ _ h => h)) rfl ?_
        refine st (asT rfl) rfl ?_
        refine ng ?_
        refine AW.seq ?_
        refine sr ?_
        refine st (mvT rfl) rfl ?_
        refine st (OpT.lss (H rfl) (T1 rfl) (I rfl)) rfl ?_
        refine ng ?_
        refine cd rfl (fun hc8 => ?_) fun hc8 => ?_
        ·
         replace hc8 := oT hc8
         exact (show False from (by first | omega | (simp [eqv_self] at hc8 <;> omega))).elim
        ·
         replace hc8 := oF hc8
         refine AW.skip ?_
         refine AX.go ?_
         refine AW.seq ?_
         refine sr ?_
         refine st (mvT rfl) rfl ?_
         refine st (mvT rfl) rfl ?_
         refine st (OpT.neq (H rfl) (T1 rfl) (T1 rfl)) rfl ?_
         refine AWl.to (kc2 95 2 rfl <| Kn) ?_
         refine ng ?_
         refine cd rfl (fun hc9 => ?_) fun hc9 => ?_
         ·
          replace hc9 := oT hc9
          exact (show False from (by first | omega | (simp [eqv_self] at hc9 <;> omega))).elim
         ·
          replace hc9 := oF hc9
          refine AW.skip ?_
          refine AX.go ?_
          refine sr ?_
          refine st (asB rfl) rfl ?_
          refine ng ?_
          refine AW.ret ?_
          exact rt1 rfl (.inl rfl) rfl
end Go.Proofs.YtcaeabgfgofefaaDoor.VL
