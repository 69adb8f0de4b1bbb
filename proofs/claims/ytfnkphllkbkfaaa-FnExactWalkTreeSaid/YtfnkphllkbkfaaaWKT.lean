/- Proved here: what some functions of the program take and give: walks with the words of VA..VQ. Printed by program. -/
import Derived.Test.YtfnkphllkbkfaaaWT
import Derived.Test.YtfnkphllkbkfaaaBpa
import Derived.Test.YtfnkphllkbkfaaaWM
import Derived.Test.YtfnkphllkbkfaaaWG
import Derived.Test.YtfnkphllkbkfaaaWH
import Derived.Test.YtfnkphllkbkfaaaWE
import Derived.Test.YtfnkphllkbkfaaaWD
set_option linter.unusedVariables false
set_option linter.unusedSimpArgs false
set_option maxRecDepth 4000
namespace Go.Proofs.Ytfnkphllkbkfaaa.VL
open Go
/-- laws.markInt16S -/
theorem c_laws_markInt16S (x : List (Int)) (k : Int) (h : 0 ≤ k ∧ k ≤ 1152921504606846976 ∧ x.length ≤ 115292150460684697) : AC Try.prog 22 [.own 36 (Kd.int .i16) x, .cel (Kd.int .i64) k] [.cel (Kd.int .i64) (k + 1 * (x.length : Int))] [.own 36 (Kd.int .i16) (mkL fI 1 x.length k), .any] := by
 refine acI (N := 20) Try.func22 (Nat.le_of_ble_eq_true rfl) rfl fun w0 hd s0 ar => ?_
 refine AW.to (ko 0 rfl <| kc 1 rfl <| Kn) ?_
 refine sr ?_
 refine st (asI rfl) rfl ?_
 refine ng ?_
 refine AW.seq ?_
 refine sr ?_
 refine st (asI rfl) rfl ?_
 refine ng ?_
 refine AW.block ?_
 refine AW.loop (fun z : Nat => z ≤ x.length) (fun z : Nat => keep [(0, .own 36 (Kd.int .i16) (mkR fI 1 x z k)), (1, .cel (Kd.int .i64) (k + 1 * (z : Int))), (5, .cel (Kd.int .i64) (z : Int))]) (fun z : Nat => x.length - z) (0) (Nat.zero_le _) (Kc 0 _ (Ko rfl mkR_zero) <| Kc 1 _ (Kv rfl (by omega)) <| Kc 5 _ (Kv rfl rfl) <| Kn) ?_
 intro z hI
 refine AW.seq ?_
 refine sr ?_
 refine st (mvT rfl) rfl ?_
 refine st (OpT.alias (H rfl) (by decide) (by decide)) rfl ?_
 refine st (OpT.lenO (H rfl) (Root.ali rfl (by decide) (by decide)) rfl el37) rfl ?_
 refine st (OpT.lss (H rfl) (T1 rfl) (T1 rfl)) rfl ?_
 refine ng ?_
 refine cd rfl (fun hc1 => ?_) fun hc1 => ?_
 ·
  obtain ⟨hc1, hc1'⟩ := pT hc1
  rw [mkR_len hI] at hc1'
  obtain ⟨a, ha⟩ := getI (x := (mkR fI 1 x z k)) (z := z) (by rw [mkR_len (by omega)]; omega)
  have hln := mkR_len (f := fI) (w := 1) (x := x) (z := z) (k := k) (by omega)
  have hs0 := set_get (l := (mkR fI 1 x z k)) (z := z) (by simp only [set_len, hln]; omega) (IntKind.i16.wrap (k + 1 * (z : Int)) : Int)
  refine AW.skip ?_
  refine AX.go ?_
  refine AW.seq ?_
  refine AW.block ?_
  refine sr ?_
  refine st (OpT.alias (H rfl) (by decide) (by decide)) rfl ?_
  refine st (mvT rfl) rfl ?_
  refine st (mvT rfl) rfl ?_
  refine st (OpT.conv (H rfl) us3 Try.underlying36 (T1 rfl) rfl) rfl ?_
  refine st (OpT.indexAddrO (H rfl) (Root.ali rfl (by decide) (by decide)) rfl (by decide) (T1 rfl) el37 sz36 (by omega) (by assumption)) rfl ?_
  refine sk (OpT.storeO rfl rfl (T1 rfl) rfl (by assumption) sz36 rfl (T1 rfl)) rfl ?_
  refine ng ?_
  refine AW.region ?_
  refine st (mvT rfl) rfl ?_
  refine st (OpT.add (H rfl) (T1 rfl) (I rfl) (nw (by omega))) rfl ?_
  refine st (asT rfl) rfl ?_
  refine nn ?_
  refine AX.normal_block ?_
  refine AX.go ?_
  refine AW.region ?_
  refine st (mvT rfl) rfl ?_
  refine st (OpT.add (H rfl) (T1 rfl) (I rfl) (nw (by omega))) rfl ?_
  refine st (asT rfl) rfl ?_
  refine nn ?_
  exact AX.again (z + 1) (by omega) (by omega) (Kc 0 _ (Ko rfl (by (try simp only [List.set_set]); exact mkR_step (by omega))) <| Kc 1 _ (Kv rfl (by omega)) <| Kc 5 _ (Kv rfl (by omega)) <| Kn)
 ·
  obtain ⟨hc1, hc1'⟩ := pF hc1
  rw [mkR_len hI] at hc1'
  refine AW.exit ?_
  refine xT <| xT <| AX.exit_hit ?_
  refine AX.go ?_
  refine sr ?_
  refine st (mvT rfl) rfl ?_
  refine st (asT rfl) rfl ?_
  refine ng ?_
  refine AW.ret ?_
  exact AX.rt (rs := [.tmp 4]) (ts := [some 4]) (.inl rfl) rfl (ROs.cons (RO.tmp (At.self (by decide)) (Kv rfl (by omega)) rfl) <| ROs.nil) (by decide) (fun i => match i with | 0 => .inr ⟨rfl, Ko rfl (mkR_end (by omega) hI), rfl, by decide⟩ | 1 => .inl rfl | _ + 2 => .inl rfl)

/-- laws.markKnotS -/
theorem c_laws_markKnotS (x : List DKnot) (k : Int) (h : 0 ≤ k ∧ k ≤ 1000000000000 ∧ x.length ≤ 1000000000 ∧ totK x ≤ 1000000000) : AC Try.prog 11 [.deep (OSh.rows 43 (Inn.pair (Inn.flat (Kd.int .i16)) (Inn.pair (Inn.row 2 (Kd.int .i64)) (Inn.pair (Inn.row 36 (Kd.int .i16)) (Inn.row 2 (Kd.int .i64))))) x), .cel (Kd.int .i64) k] [.cel (Kd.int .i64) (k + (totK x : Int))] [] := by
 refine acI (N := 42) Try.func11 (Nat.le_of_ble_eq_true rfl) rfl fun w0 hd s0 ar => ?_
 refine AW.to (Kc 0 (.deep _) rfl <| kc 1 rfl <| Kn) ?_
 refine AW.vw (vunrows 0 9000 rfl rfl (by decide)) fun ⟨rs, hrs⟩ => ?_
 refine AW.to (Kc 9000 (.deep _) rfl <| ko 0 rfl <| kc 1 rfl <| Kn) ?_
 refine sr ?_
 refine st (asI rfl) rfl ?_
 refine ng ?_
 refine AW.seq ?_
 refine sr ?_
 refine st (asI rfl) rfl ?_
 refine ng ?_
 refine AW.block ?_
 refine AW.loop (fun p : Nat × List (Int × Value × Value × Value) × List DKnot => p.1 ≤ x.length ∧ p.2.1.length = x.length ∧ p.2.2.length = x.length ∧ ∀ i : Nat, p.1 ≤ i → p.2.2[Int.toNat (i : Int)]? = x[Int.toNat (i : Int)]?) (fun p : Nat × List (Int × Value × Value × Value) × List DKnot => keep [(0, .own 43 (Kd.pair (Kd.int .i16) (Kd.pair Kd.raw (Kd.pair Kd.raw Kd.raw))) p.2.1), (1, .cel (Kd.int .i64) (k + (totK (x.take p.1) : Int))), (5, .cel (Kd.int .i64) (p.1 : Int)), (9000, .deep (OSh.gh (Inn.all (Inn.pair (Inn.flat (Kd.int .i16)) (Inn.pair (Inn.row 2 (Kd.int .i64)) (Inn.pair (Inn.row 36 (Kd.int .i16)) (Inn.row 2 (Kd.int .i64))))) p.2.1 p.2.2)))]) (fun p : Nat × List (Int × Value × Value × Value) × List DKnot => x.length - p.1) ((0, rs, x)) ⟨Nat.zero_le _, hrs, rfl, fun _ _ => rfl⟩ (Kc 0 _ (Ko rfl rfl) <| Kc 1 _ (Kv rfl (by simp [totK])) <| Kc 5 _ (Kv rfl rfl) <| Kc 9000 _ (Kg rfl rfl) <| Kn) ?_
 intro p hI
 refine AW.seq ?_
 refine sr ?_
 refine st (mvT rfl) rfl ?_
 refine st (OpT.alias (H rfl) (by decide) (by decide)) rfl ?_
 refine st (OpT.lenO (H rfl) (Root.ali rfl (by decide) (by decide)) rfl el27) rfl ?_
 refine st (OpT.lss (H rfl) (T1 rfl) (T1 rfl)) rfl ?_
 refine ng ?_
 refine cd rfl (fun hc1 => ?_) fun hc1 => ?_
 ·
  obtain ⟨hc1, hc1'⟩ := pT hc1
  obtain ⟨a, ha⟩ := getI (x := x) (z := p.1) (by omega)
  have hma := (hI.2.2.2 p.1 (Nat.le_refl _)).trans ha
  obtain ⟨r, hr⟩ := getI (x := p.2.1) (z := p.1) (by omega)
  have htk := totK_next ha
  have htl := totK_le (x := x) (p.1 + 1)
  have hs0 := set_get (l := p.2.1) (z := p.1) (by omega) ((IntKind.i16.wrap (k + (totK (x.take p.1) : Int)), r.2) : Int × Value × Value × Value)
  refine AW.skip ?_
  refine AX.go ?_
  refine AW.seq ?_
  refine AW.block ?_
  refine sr ?_
  refine st (OpT.alias (H rfl) (by decide) (by decide)) rfl ?_
  refine st (mvT rfl) rfl ?_
  refine st (mvT rfl) rfl ?_
  refine st (OpT.conv (H rfl) us3 Try.underlying36 (T1 rfl) rfl) rfl ?_
  refine AWl.vw (vent 9000 9001 (Inn.carve (d := (Inn.pair (Inn.flat (Kd.int .i16)) (Inn.pair (Inn.row 2 (Kd.int .i64)) (Inn.pair (Inn.row 36 (Kd.int .i16)) (Inn.row 2 (Kd.int .i64)))))) hr hma) rfl rfl (by decide)) fun _ => ?_
  refine AWl.to (Kc 9000 (.deep _) rfl <| Kc 9001 (.deep _) rfl <| kc3 15 14 13 rfl <| Kc 12 (.ali _) rfl <| kc2 9 8 rfl <| Kc 7 (.ali _) rfl <| kc 6 rfl <| ko 0 rfl <| kc2 1 5 rfl <| Kn) ?_
  refine AWl.vw (vfact 9098 9000 rfl rfl (by decide)) fun ⟨hf⟩ => ?_
  refine AWl.to (Kc 9000 (.deep _) rfl <| Kc 9001 (.deep _) rfl <| kc3 15 14 13 rfl <| Kc 12 (.ali _) rfl <| kc2 9 8 rfl <| Kc 7 (.ali _) rfl <| kc 6 rfl <| ko 0 rfl <| kc2 1 5 rfl <| Kn) ?_
  refine AWl.vw (vsep 9000 9002 rfl rfl (by decide)) fun _ => ?_
  refine AWl.to (Kc 9000 (.deep _) rfl <| Kc 9002 (.deep _) rfl <| Kc 9001 (.deep _) rfl <| kc3 15 14 13 rfl <| Kc 12 (.ali _) rfl <| kc2 9 8 rfl <| Kc 7 (.ali _) rfl <| kc 6 rfl <| ko 0 rfl <| kc2 1 5 rfl <| Kn) ?_
  refine AWl.vw (vsep 9002 9003 rfl rfl (by decide)) fun _ => ?_
  refine AWl.to (Kc 9002 (.deep _) rfl <| Kc 9003 (.deep _) rfl <| Kc 9000 (.deep _) rfl <| Kc 9001 (.deep _) rfl <| kc3 15 14 13 rfl <| Kc 12 (.ali _) rfl <| kc2 9 8 rfl <| Kc 7 (.ali _) rfl <| kc 6 rfl <| ko 0 rfl <| kc2 1 5 rfl <| Kn) ?_
  refine st (OpT.indexAddrO (H rfl) (Root.ali rfl (by decide) (by decide)) rfl (by decide) (T1 rfl) el27 sz43 (by omega) (by assumption)) rfl ?_
  refine st (OpT.fieldAddrE (H rfl) (T1 rfl) (.inr ⟨_, _, rfl, (by assumption)⟩) (by decide) fd43_0 sz36 (by decide) sbr43_0 (by decide)) rfl ?_
  refine sk (OpT.storeO rfl rfl (T1 rfl) rfl (by assumption) sz36 rfl (T1 rfl)) rfl ?_
  refine ng ?_
  refine sr ?_
  refine st (mvT rfl) rfl ?_
  refine st (OpT.add (H rfl) (T1 rfl) (I rfl) (nw (by omega))) rfl ?_
  refine st (asT rfl) rfl ?_
  refine ng ?_
  refine sr ?_
  refine st (OpT.alias (H rfl) (by decide) (by decide)) rfl ?_
  refine st (mvT rfl) rfl ?_
  refine st (OpT.indexAddrO (H rfl) (Root.ali rfl (by decide) (by decide)) rfl (by decide) (T1 rfl) el27 sz43 (by omega) (by assumption)) rfl ?_
  refine st (OpT.fieldAddrE (H rfl) (T1 rfl) (.inr ⟨_, _, rfl, (by assumption)⟩) (by decide) fd43_1 sz23 (by decide) sbr43_1 (by decide)) rfl ?_
  refine st (OpT.loadP (H rfl) (T1 rfl) (.inr ⟨_, _, rfl, (by assumption)⟩) ag23 rfl) rfl ?_
  refine AWl.vw (vpin 24 9000 rfl rfl (by decide)) fun _ => ?_
  refine AWl.to (Kc 24 (.deep _) rfl <| Kc 23 (.pel _ _ _ _ _ _ _) rfl <| Kc 22 (.pel _ _ _ _ _ _ _) rfl <| kc 21 rfl <| Kc 20 (.ali _) rfl <| kc3 1 19 18 rfl <| ko 0 rfl <| Kc 17 (.pel _ _ _ _ _ _ _) rfl <| Kc 16 (.pel _ _ _ _ _ _ _) rfl <| Kc 9002 (.deep _) rfl <| Kc 9003 (.deep _) rfl <| Kc 9001 (.deep _) rfl <| kc3 15 14 13 rfl <| Kc 12 (.ali _) rfl <| kc2 9 8 rfl <| Kc 7 (.ali _) rfl <| kc2 6 5 rfl <| Kn) ?_
  refine st (mvT rfl) rfl ?_
  refine sg (OpT.cr (ms := [.root 24, .flat]) (AC.pin (c_laws_markInt64S _ _ (by omega)) _) (H rfl) (Ar (Root.self (t := 24) (by decide)) rfl rfl rfl <| Af (T1 rfl) rfl rfl <| An) rfl (.inl rfl) rfl) (kc2 26 25 rfl <| Kc 24 (.deep _) rfl <| Kc 23 (.pel _ _ _ _ _ _ _) rfl <| Kc 22 (.pel _ _ _ _ _ _ _) rfl <| kc 21 rfl <| Kc 20 (.ali _) rfl <| kc3 1 19 18 rfl <| ko 0 rfl <| Kc 17 (.pel _ _ _ _ _ _ _) rfl <| Kc 16 (.pel _ _ _ _ _ _ _) rfl <| Kc 9002 (.deep _) rfl <| Kc 9003 (.deep _) rfl <| Kc 9001 (.deep _) rfl <| kc3 15 14 13 rfl <| Kc 12 (.ali _) rfl <| kc2 9 8 rfl <| Kc 7 (.ali _) rfl <| kc2 6 5 rfl <| Kn) rfl ?_
  refine AWl.vw (vunpin 24 9000 rfl rfl (by decide)) fun _ => ?_
  refine AWl.to (Kc 9000 (.deep _) rfl <| kc3 24 26 25 rfl <| Kc 23 (.pel _ _ _ _ _ _ _) rfl <| Kc 22 (.pel _ _ _ _ _ _ _) rfl <| kc 21 rfl <| Kc 20 (.ali _) rfl <| kc3 1 19 18 rfl <| ko 0 rfl <| Kc 17 (.pel _ _ _ _ _ _ _) rfl <| Kc 16 (.pel _ _ _ _ _ _ _) rfl <| Kc 9002 (.deep _) rfl <| Kc 9003 (.deep _) rfl <| Kc 9001 (.deep _) rfl <| kc3 15 14 13 rfl <| Kc 12 (.ali _) rfl <| kc2 9 8 rfl <| Kc 7 (.ali _) rfl <| kc2 6 5 rfl <| Kn) ?_
  refine st (asT rfl) rfl ?_
  refine ng ?_
  refine sr ?_
  refine st (OpT.alias (H rfl) (by decide) (by decide)) rfl ?_
  refine st (mvT rfl) rfl ?_
  refine st (OpT.indexAddrO (H rfl) (Root.ali rfl (by decide) (by decide)) rfl (by decide) (T1 rfl) el27 sz43 (by omega) (by assumption)) rfl ?_
  refine st (OpT.fieldAddrE (H rfl) (T1 rfl) (.inr ⟨_, _, rfl, (by assumption)⟩) (by decide) fd43_2 sz37 (by decide) sbr43_2 (by decide)) rfl ?_
  refine st (OpT.loadP (H rfl) (T1 rfl) (.inr ⟨_, _, rfl, (by assumption)⟩) ag37 rfl) rfl ?_
  refine AWl.vw (vpin 31 9002 rfl rfl (by decide)) fun _ => ?_
  refine AWl.to (Kc 31 (.deep _) rfl <| Kc 30 (.pel _ _ _ _ _ _ _) rfl <| Kc 29 (.pel _ _ _ _ _ _ _) rfl <| kc 28 rfl <| Kc 27 (.ali _) rfl <| kc 1 rfl <| Kc 9000 (.deep _) rfl <| kc3 24 26 25 rfl <| Kc 23 (.pel _ _ _ _ _ _ _) rfl <| Kc 22 (.pel _ _ _ _ _ _ _) rfl <| kc 21 rfl <| Kc 20 (.ali _) rfl <| kc2 19 18 rfl <| ko 0 rfl <| Kc 17 (.pel _ _ _ _ _ _ _) rfl <| Kc 16 (.pel _ _ _ _ _ _ _) rfl <| Kc 9003 (.deep _) rfl <| Kc 9001 (.deep _) rfl <| kc3 15 14 13 rfl <| Kc 12 (.ali _) rfl <| kc2 9 8 rfl <| Kc 7 (.ali _) rfl <| kc2 6 5 rfl <| Kn) ?_
  refine st (mvT rfl) rfl ?_
  refine sg (OpT.cr (ms := [.root 31, .flat]) (AC.pin (c_laws_markInt16S _ _ (by omega)) _) (H rfl) (Ar (Root.self (t := 31) (by decide)) rfl rfl rfl <| Af (T1 rfl) rfl rfl <| An) rfl (.inl rfl) rfl) (kc2 33 32 rfl <| Kc 31 (.deep _) rfl <| Kc 30 (.pel _ _ _ _ _ _ _) rfl <| Kc 29 (.pel _ _ _ _ _ _ _) rfl <| kc 28 rfl <| Kc 27 (.ali _) rfl <| kc 1 rfl <| Kc 9000 (.deep _) rfl <| kc3 24 26 25 rfl <| Kc 23 (.pel _ _ _ _ _ _ _) rfl <| Kc 22 (.pel _ _ _ _ _ _ _) rfl <| kc 21 rfl <| Kc 20 (.ali _) rfl <| kc2 19 18 rfl <| ko 0 rfl <| Kc 17 (.pel _ _ _ _ _ _ _) rfl <| Kc 16 (.pel _ _ _ _ _ _ _) rfl <| Kc 9003 (.deep _) rfl <| Kc 9001 (.deep _) rfl <| kc3 15 14 13 rfl <| Kc 12 (.ali _) rfl <| kc2 9 8 rfl <| Kc 7 (.ali _) rfl <| kc2 6 5 rfl <| Kn) rfl ?_
  refine AWl.vw (vunpin 31 9002 rfl rfl (by decide)) fun _ => ?_
  refine AWl.to (Kc 9002 (.deep _) rfl <| kc3 31 33 32 rfl <| Kc 30 (.pel _ _ _ _ _ _ _) rfl <| Kc 29 (.pel _ _ _ _ _ _ _) rfl <| kc 28 rfl <| Kc 27 (.ali _) rfl <| kc 1 rfl <| Kc 9000 (.deep _) rfl <| kc3 24 26 25 rfl <| Kc 23 (.pel _ _ _ _ _ _ _) rfl <| Kc 22 (.pel _ _ _ _ _ _ _) rfl <| kc 21 rfl <| Kc 20 (.ali _) rfl <| kc2 19 18 rfl <| ko 0 rfl <| Kc 17 (.pel _ _ _ _ _ _ _) rfl <| Kc 16 (.pel _ _ _ _ _ _ _) rfl <| Kc 9003 (.deep _) rfl <| Kc 9001 (.deep _) rfl <| kc3 15 14 13 rfl <| Kc 12 (.ali _) rfl <| kc2 9 8 rfl <| Kc 7 (.ali _) rfl <| kc2 6 5 rfl <| Kn) ?_
  refine st (asT rfl) rfl ?_
  refine ng ?_
  refine AW.region ?_
  refine st (OpT.alias (H rfl) (by decide) (by decide)) rfl ?_
  refine st (mvT rfl) rfl ?_
  refine st (OpT.indexAddrO (H rfl) (Root.ali rfl (by decide) (by decide)) rfl (by decide) (T1 rfl) el27 sz43 (by omega) (by assumption)) rfl ?_
  refine st (OpT.fieldAddrE (H rfl) (T1 rfl) (.inr ⟨_, _, rfl, (by assumption)⟩) (by decide) fd43_3 sz23 (by decide) sbr43_3 (by decide)) rfl ?_
  refine st (OpT.loadP (H rfl) (T1 rfl) (.inr ⟨_, _, rfl, (by assumption)⟩) ag23 rfl) rfl ?_
  refine AWl.vw (vpin 38 9003 rfl rfl (by decide)) fun _ => ?_
  refine AWl.to (Kc 38 (.deep _) rfl <| Kc 37 (.pel _ _ _ _ _ _ _) rfl <| Kc 36 (.pel _ _ _ _ _ _ _) rfl <| kc 35 rfl <| Kc 34 (.ali _) rfl <| kc 1 rfl <| Kc 9002 (.deep _) rfl <| kc3 31 33 32 rfl <| Kc 30 (.pel _ _ _ _ _ _ _) rfl <| Kc 29 (.pel _ _ _ _ _ _ _) rfl <| kc 28 rfl <| Kc 27 (.ali _) rfl <| Kc 9000 (.deep _) rfl <| kc3 24 26 25 rfl <| Kc 23 (.pel _ _ _ _ _ _ _) rfl <| Kc 22 (.pel _ _ _ _ _ _ _) rfl <| kc 21 rfl <| Kc 20 (.ali _) rfl <| kc2 19 18 rfl <| ko 0 rfl <| Kc 17 (.pel _ _ _ _ _ _ _) rfl <| Kc 16 (.pel _ _ _ _ _ _ _) rfl <| Kc 9001 (.deep _) rfl <| kc3 15 14 13 rfl <| Kc 12 (.ali _) rfl <| kc2 9 8 rfl <| Kc 7 (.ali _) rfl <| kc2 6 5 rfl <| Kn) ?_
  refine st (mvT rfl) rfl ?_
  refine sg (OpT.cr (ms := [.root 38, .flat]) (AC.pin (c_laws_markInt64S _ _ (by omega)) _) (H rfl) (Ar (Root.self (t := 38) (by decide)) rfl rfl rfl <| Af (T1 rfl) rfl rfl <| An) rfl (.inl rfl) rfl) (kc2 40 39 rfl <| Kc 38 (.deep _) rfl <| Kc 37 (.pel _ _ _ _ _ _ _) rfl <| Kc 36 (.pel _ _ _ _ _ _ _) rfl <| kc 35 rfl <| Kc 34 (.ali _) rfl <| kc 1 rfl <| Kc 9002 (.deep _) rfl <| kc3 31 33 32 rfl <| Kc 30 (.pel _ _ _ _ _ _ _) rfl <| Kc 29 (.pel _ _ _ _ _ _ _) rfl <| kc 28 rfl <| Kc 27 (.ali _) rfl <| Kc 9000 (.deep _) rfl <| kc3 24 26 25 rfl <| Kc 23 (.pel _ _ _ _ _ _ _) rfl <| Kc 22 (.pel _ _ _ _ _ _ _) rfl <| kc 21 rfl <| Kc 20 (.ali _) rfl <| kc2 19 18 rfl <| ko 0 rfl <| Kc 17 (.pel _ _ _ _ _ _ _) rfl <| Kc 16 (.pel _ _ _ _ _ _ _) rfl <| Kc 9001 (.deep _) rfl <| kc3 15 14 13 rfl <| Kc 12 (.ali _) rfl <| kc2 9 8 rfl <| Kc 7 (.ali _) rfl <| kc2 6 5 rfl <| Kn) rfl ?_
  refine AWl.vw (vunpin 38 9003 rfl rfl (by decide)) fun _ => ?_
  refine AWl.to (Kc 9003 (.deep _) rfl <| kc3 38 40 39 rfl <| Kc 37 (.pel _ _ _ _ _ _ _) rfl <| Kc 36 (.pel _ _ _ _ _ _ _) rfl <| kc 35 rfl <| Kc 34 (.ali _) rfl <| kc 1 rfl <| Kc 9002 (.deep _) rfl <| kc3 31 33 32 rfl <| Kc 30 (.pel _ _ _ _ _ _ _) rfl <| Kc 29 (.pel _ _ _ _ _ _ _) rfl <| kc 28 rfl <| Kc 27 (.ali _) rfl <| Kc 9000 (.deep _) rfl <| kc3 24 26 25 rfl <| Kc 23 (.pel _ _ _ _ _ _ _) rfl <| Kc 22 (.pel _ _ _ _ _ _ _) rfl <| kc 21 rfl <| Kc 20 (.ali _) rfl <| kc2 19 18 rfl <| ko 0 rfl <| Kc 17 (.pel _ _ _ _ _ _ _) rfl <| Kc 16 (.pel _ _ _ _ _ _ _) rfl <| Kc 9001 (.deep _) rfl <| kc3 15 14 13 rfl <| Kc 12 (.ali _) rfl <| kc2 9 8 rfl <| Kc 7 (.ali _) rfl <| kc2 6 5 rfl <| Kn) ?_
  refine AWl.vw (vjoin 9002 9003 (.rf) rfl rfl (by decide)) fun _ => ?_
  refine AWl.to (Kc 9002 (.deep _) rfl <| kc3 38 40 39 rfl <| Kc 37 (.pel _ _ _ _ _ _ _) rfl <| Kc 36 (.pel _ _ _ _ _ _ _) rfl <| kc 35 rfl <| Kc 34 (.ali _) rfl <| kc4 1 31 33 32 rfl <| Kc 30 (.pel _ _ _ _ _ _ _) rfl <| Kc 29 (.pel _ _ _ _ _ _ _) rfl <| kc 28 rfl <| Kc 27 (.ali _) rfl <| Kc 9000 (.deep _) rfl <| kc3 24 26 25 rfl <| Kc 23 (.pel _ _ _ _ _ _ _) rfl <| Kc 22 (.pel _ _ _ _ _ _ _) rfl <| kc 21 rfl <| Kc 20 (.ali _) rfl <| kc2 19 18 rfl <| ko 0 rfl <| Kc 17 (.pel _ _ _ _ _ _ _) rfl <| Kc 16 (.pel _ _ _ _ _ _ _) rfl <| Kc 9001 (.deep _) rfl <| kc3 15 14 13 rfl <| Kc 12 (.ali _) rfl <| kc2 9 8 rfl <| Kc 7 (.ali _) rfl <| kc2 6 5 rfl <| Kn) ?_
  refine AWl.vw (vjoin 9000 9002 (.rf) rfl rfl (by decide)) fun _ => ?_
  refine AWl.to (Kc 9000 (.deep _) rfl <| kc3 38 40 39 rfl <| Kc 37 (.pel _ _ _ _ _ _ _) rfl <| Kc 36 (.pel _ _ _ _ _ _ _) rfl <| kc 35 rfl <| Kc 34 (.ali _) rfl <| kc4 1 31 33 32 rfl <| Kc 30 (.pel _ _ _ _ _ _ _) rfl <| Kc 29 (.pel _ _ _ _ _ _ _) rfl <| kc 28 rfl <| Kc 27 (.ali _) rfl <| kc3 24 26 25 rfl <| Kc 23 (.pel _ _ _ _ _ _ _) rfl <| Kc 22 (.pel _ _ _ _ _ _ _) rfl <| kc 21 rfl <| Kc 20 (.ali _) rfl <| kc2 19 18 rfl <| ko 0 rfl <| Kc 17 (.pel _ _ _ _ _ _ _) rfl <| Kc 16 (.pel _ _ _ _ _ _ _) rfl <| Kc 9001 (.deep _) rfl <| kc3 15 14 13 rfl <| Kc 12 (.ali _) rfl <| kc2 9 8 rfl <| Kc 7 (.ali _) rfl <| kc2 6 5 rfl <| Kn) ?_
  refine AWl.vw (vone (K := ((Inn.pair (Inn.flat (Kd.int .i16)) (Inn.pair (Inn.row 2 (Kd.int .i64)) (Inn.pair (Inn.row 36 (Kd.int .i16)) (Inn.row 2 (Kd.int .i64)))))).ho (IntKind.i16.wrap (k + (totK (x.take p.1) : Int)), r.2) (IntKind.i16.wrap (k + (totK (x.take p.1) : Int)), mrk a.2.1.length ((k + (totK (x.take p.1) : Int)) + 1), mkL fI 1 a.2.2.1.length ((k + (totK (x.take p.1) : Int)) + 1 + (a.2.1.length : Int)), mrk a.2.2.2.length ((k + (totK (x.take p.1) : Int)) + 1 + (a.2.1.length : Int) + 1 * (a.2.2.1.length : Int)))) 9000 9098 (⟨fun h => GP.pure_i rfl h⟩) rfl rfl (by decide)) fun _ => ?_
  refine AWl.to (Kc 9000 (.deep _) rfl <| kc3 38 40 39 rfl <| Kc 37 (.pel _ _ _ _ _ _ _) rfl <| Kc 36 (.pel _ _ _ _ _ _ _) rfl <| kc 35 rfl <| Kc 34 (.ali _) rfl <| kc4 1 31 33 32 rfl <| Kc 30 (.pel _ _ _ _ _ _ _) rfl <| Kc 29 (.pel _ _ _ _ _ _ _) rfl <| kc 28 rfl <| Kc 27 (.ali _) rfl <| kc3 24 26 25 rfl <| Kc 23 (.pel _ _ _ _ _ _ _) rfl <| Kc 22 (.pel _ _ _ _ _ _ _) rfl <| kc 21 rfl <| Kc 20 (.ali _) rfl <| kc2 19 18 rfl <| ko 0 rfl <| Kc 17 (.pel _ _ _ _ _ _ _) rfl <| Kc 16 (.pel _ _ _ _ _ _ _) rfl <| Kc 9001 (.deep _) rfl <| kc3 15 14 13 rfl <| Kc 12 (.ali _) rfl <| kc2 9 8 rfl <| Kc 7 (.ali _) rfl <| kc2 6 5 rfl <| Kn) ?_
  refine AWl.vw (vjoin 9000 9001 (Inn.fill (d := (Inn.pair (Inn.flat (Kd.int .i16)) (Inn.pair (Inn.row 2 (Kd.int .i64)) (Inn.pair (Inn.row 36 (Kd.int .i16)) (Inn.row 2 (Kd.int .i64)))))) (by omega) (by omega)) rfl rfl (by decide)) fun _ => ?_
  refine AWl.to (Kc 9000 (.deep _) rfl <| kc3 38 40 39 rfl <| Kc 37 (.pel _ _ _ _ _ _ _) rfl <| Kc 36 (.pel _ _ _ _ _ _ _) rfl <| kc 35 rfl <| Kc 34 (.ali _) rfl <| kc4 1 31 33 32 rfl <| Kc 30 (.pel _ _ _ _ _ _ _) rfl <| Kc 29 (.pel _ _ _ _ _ _ _) rfl <| kc 28 rfl <| Kc 27 (.ali _) rfl <| kc3 24 26 25 rfl <| Kc 23 (.pel _ _ _ _ _ _ _) rfl <| Kc 22 (.pel _ _ _ _ _ _ _) rfl <| kc 21 rfl <| Kc 20 (.ali _) rfl <| kc2 19 18 rfl <| ko 0 rfl <| Kc 17 (.pel _ _ _ _ _ _ _) rfl <| Kc 16 (.pel _ _ _ _ _ _ _) rfl <| kc3 15 14 13 rfl <| Kc 12 (.ali _) rfl <| kc2 9 8 rfl <| Kc 7 (.ali _) rfl <| kc2 6 5 rfl <| Kn) ?_
  refine st (asT rfl) rfl ?_
  refine nn ?_
  refine AX.normal_block ?_
  refine AX.go ?_
  refine AW.region ?_
  refine st (mvT rfl) rfl ?_
  refine st (OpT.add (H rfl) (T1 rfl) (I rfl) (nw (by omega))) rfl ?_
  refine st (asT rfl) rfl ?_
  refine nn ?_
  exact AX.again ((p.1 + 1, p.2.1.set (Int.toNat (p.1 : Int)) (IntKind.i16.wrap (k + (totK (x.take p.1) : Int)), r.2), p.2.2.set (Int.toNat (p.1 : Int)) (IntKind.i16.wrap (k + (totK (x.take p.1) : Int)), mrk a.2.1.length ((k + (totK (x.take p.1) : Int)) + 1), mkL fI 1 a.2.2.1.length ((k + (totK (x.take p.1) : Int)) + 1 + (a.2.1.length : Int)), mrk a.2.2.2.length ((k + (totK (x.take p.1) : Int)) + 1 + (a.2.1.length : Int) + 1 * (a.2.2.1.length : Int))))) (knot_inv hI (by omega)) (by simp only []; omega) (Kc 0 _ (Ko rfl rfl) <| Kc 1 _ (Kv rfl (by simp only []; omega)) <| Kc 5 _ (Kv rfl (by simp only []; omega)) <| Kc 9000 _ (Kg rfl rfl) <| Kn)
 ·
  obtain ⟨hc1, hc1'⟩ := pF hc1
  refine AW.exit ?_
  refine xT <| xT <| AX.exit_hit ?_
  refine AX.go ?_
  refine sr ?_
  refine st (mvT rfl) rfl ?_
  refine st (asT rfl) rfl ?_
  refine ng ?_
  refine AW.ret ?_
  exact rt1 rfl (.inl rfl) (by rw [List.take_of_length_le (by omega)])

/-- spec.l06Find -/
theorem c_spec_l06Find (x : List Int) (v : Int) : AC Try.prog 28 [.cel (Kd.slice (Kd.int .i64)) x, .cel (Kd.int .i64) v] [.cel (Kd.int .i64) (idxV v x)] [] := by
 refine acI (N := 19) Try.func28 (Nat.le_of_ble_eq_true rfl) rfl fun w0 hd s0 ar => ?_
 refine AW.to (kc2 0 1 rfl <| Kn) ?_
 refine AW.fact (fun a w hr => (ok_slice (R_ok (t := 0) rfl hr)).2) (fun hl0 => ?_)
 refine sr ?_
 refine st (asI rfl) rfl ?_
 refine ng ?_
 refine AW.seq ?_
 refine sr ?_
 refine st (asI rfl) rfl ?_
 refine ng ?_
 refine AW.block ?_
 refine AW.loop (fun z : Nat => z ≤ x.length ∧ ∀ i, i < z → nI (fun b => b == v) x i) (fun z : Nat => keep [(0, .cel (Kd.slice (Kd.int .i64)) x), (1, .cel (Kd.int .i64) v), (5, .cel (Kd.int .i64) (z : Int))]) (fun z : Nat => x.length - z) (0) ⟨Nat.zero_le _, all_none⟩ (Kc 0 _ (Kv rfl rfl) <| Kc 1 _ (Kv rfl rfl) <| Kc 5 _ (Kv rfl rfl) <| Kn) ?_
 intro z hI
 refine AW.seq ?_
 refine sr ?_
 refine st (mvT rfl) rfl ?_
 refine st (mvT rfl) rfl ?_
 refine st (OpT.len (H rfl) (T1 rfl) el23) rfl ?_
 refine st (OpT.lss (H rfl) (T1 rfl) (T1 rfl)) rfl ?_
 refine ng ?_
 refine cd rfl (fun hc1 => ?_) fun hc1 => ?_
 ·
  obtain ⟨hc1, hc1'⟩ := pT hc1
  obtain ⟨a, ha⟩ := getI (x := x) (z := z) (by omega)
  refine AW.skip ?_
  refine AX.go ?_
  refine AW.seq ?_
  refine AW.block ?_
  refine sr ?_
  refine st (mvT rfl) rfl ?_
  refine st (mvT rfl) rfl ?_
  refine st (OpT.indexAddr (H rfl) (T1 rfl) (T1 rfl) el23 sz2 (by omega) (by assumption)) rfl ?_
  refine st (OpT.load (H rfl) (T1 rfl) ag2 rfl) rfl ?_
  refine st (mvT rfl) rfl ?_
  refine st (OpT.eql (H rfl) (T1 rfl) (T1 rfl)) rfl ?_
  refine ng ?_
  refine cd rfl (fun hc2 => ?_) fun hc2 => ?_
  ·
   obtain ⟨hc2, hc2'⟩ := pT hc2
   refine sr ?_
   refine st (mvT rfl) rfl ?_
   refine st (asT rfl) rfl ?_
   refine ng ?_
   refine AW.ret ?_
   refine rK <| rT <| rT <| rK <| rT ?_
   exact rt1 rfl (.inl rfl) (by first | exact idxQ_at hI.2 ha (by simpa using hc2) | exact idxQ_end hI.2 (by omega))
  ·
   obtain ⟨hc2, hc2'⟩ := pF hc2
   refine AW.skip ?_
   refine AX.normal_block ?_
   refine AX.go ?_
   refine AW.region ?_
   refine st (mvT rfl) rfl ?_
   refine st (OpT.add (H rfl) (T1 rfl) (I rfl) (nw (by omega))) rfl ?_
   refine st (asT rfl) rfl ?_
   refine nn ?_
   exact AX.again (z + 1) ⟨by omega, all_step hI.2 ((nI_iff ha).2 (by simpa using hc2))⟩ (by omega) (Kc 0 _ (Kv rfl rfl) <| Kc 1 _ (Kv rfl rfl) <| Kc 5 _ (Kv rfl (by omega)) <| Kn)
 ·
  obtain ⟨hc1, hc1'⟩ := pF hc1
  refine AW.exit ?_
  refine xT <| xT <| AX.exit_hit ?_
  refine AX.go ?_
  refine sr ?_
  refine st (asI rfl) rfl ?_
  refine ng ?_
  refine AW.ret ?_
  exact rt1 rfl (.inl rfl) (by first | exact idxQ_at hI.2 ha (by simpa using hc2) | exact idxQ_end hI.2 (by omega))

/-- slices.Index[[]int64,int64] -/
theorem c_slices_Index_int64_int64 (x : List Int) (v : Int) : AC Try.prog 33 [.cel (Kd.slice (Kd.int .i64)) x, .cel (Kd.int .i64) v] [.cel (Kd.int .i64) (idxV v x)] [] := by
 refine acI (N := 19) Try.func33 (Nat.le_of_ble_eq_true rfl) rfl fun w0 hd s0 ar => ?_
 refine AW.to (kc2 0 1 rfl <| Kn) ?_
 refine AW.fact (fun a w hr => (ok_slice (R_ok (t := 0) rfl hr)).2) (fun hl0 => ?_)
 refine sr ?_
 refine st (asI rfl) rfl ?_
 refine ng ?_
 refine AW.seq ?_
 refine sr ?_
 refine st (mvT rfl) rfl ?_
 refine st (OpT.len (H rfl) (T1 rfl) el23) rfl ?_
 refine st (mvI rfl) rfl ?_
 refine ng ?_
 refine AW.block ?_
 refine AW.loop (fun z : Nat => z ≤ x.length ∧ ∀ i, i < z → nI (fun b => b == v) x i) (fun z : Nat => keep [(0, .cel (Kd.slice (Kd.int .i64)) x), (1, .cel (Kd.int .i64) v), (7, .cel (Kd.int .i64) ((x.length : Nat) : Int)), (8, .cel (Kd.int .i64) (z : Int))]) (fun z : Nat => x.length - z) (0) ⟨Nat.zero_le _, all_none⟩ (Kc 0 _ (Kv rfl rfl) <| Kc 1 _ (Kv rfl rfl) <| Kc 7 _ (Kv rfl rfl) <| Kc 8 _ (Kv rfl rfl) <| Kn) ?_
 intro z hI
 refine sr ?_
 refine st (OpT.lss (H rfl) (T1 rfl) (T1 rfl)) rfl ?_
 refine ng ?_
 refine AW.seq ?_
 refine cd rfl (fun hc1 => ?_) fun hc1 => ?_
 ·
  obtain ⟨hc1, hc1'⟩ := pT hc1
  obtain ⟨a, ha⟩ := getI (x := x) (z := z) (by omega)
  refine AW.skip ?_
  refine AX.go ?_
  refine AW.seq ?_
  refine AW.block ?_
  refine sr ?_
  refine st (mvT rfl) rfl ?_
  refine st (asT rfl) rfl ?_
  refine ng ?_
  refine sr ?_
  refine st (mvT rfl) rfl ?_
  refine st (mvT rfl) rfl ?_
  refine st (mvT rfl) rfl ?_
  refine st (OpT.indexAddr (H rfl) (T1 rfl) (T1 rfl) el23 sz2 (by omega) (by assumption)) rfl ?_
  refine st (OpT.load (H rfl) (T1 rfl) ag2 rfl) rfl ?_
  refine st (OpT.eql (H rfl) (T1 rfl) (T1 rfl)) rfl ?_
  refine ng ?_
  refine cd rfl (fun hc2 => ?_) fun hc2 => ?_
  ·
   obtain ⟨hc2, hc2'⟩ := pT hc2
   have h9 : v = a := by simpa using hc2
   have hq2 : (a == v) = true := by rw [h9]; simp
   refine sr ?_
   refine st (mvT rfl) rfl ?_
   refine st (asT rfl) rfl ?_
   refine ng ?_
   refine AW.ret ?_
   refine rK <| rT <| rT <| rK <| rT ?_
   exact rt1 rfl (.inl rfl) (by first | exact idxQ_at hI.2 ha hq2 | exact idxQ_end hI.2 (by omega))
  ·
   obtain ⟨hc2, hc2'⟩ := pF hc2
   have h9 : ¬ v = a := by simpa using hc2
   have hq2 : (a == v) = false := by simp; exact fun h => h9 h.symm
   refine AW.skip ?_
   refine AX.normal_block ?_
   refine AX.go ?_
   refine AW.region ?_
   refine st (OpT.add (H rfl) (T1 rfl) (I rfl) (nw (by omega))) rfl ?_
   refine st (mvT rfl) rfl ?_
   refine nn ?_
   exact AX.again (z + 1) ⟨by omega, all_step hI.2 ((nI_iff ha).2 hq2)⟩ (by omega) (Kc 0 _ (Kv rfl rfl) <| Kc 1 _ (Kv rfl rfl) <| Kc 7 _ (Kv rfl rfl) <| Kc 8 _ (Kv rfl (by omega)) <| Kn)
 ·
  obtain ⟨hc1, hc1'⟩ := pF hc1
  refine AW.exit ?_
  refine xT <| xT <| AX.exit_hit ?_
  refine AX.go ?_
  refine sr ?_
  refine st (asI rfl) rfl ?_
  refine ng ?_
  refine AW.ret ?_
  exact rt1 rfl (.inl rfl) (by first | exact idxQ_at hI.2 ha hq2 | exact idxQ_end hI.2 (by omega))

/-- spec.l06Walk -/
theorem c_spec_l06Walk (x : List DKnot) (q : List Int) (h : treeOK x) : AC Try.prog 16 [.cel (Kd.slice kKnot) x, .cel (Kd.slice (Kd.int .i64)) q] [.cel (Kd.int .i64) (wkS x q).1, .cel (Kd.int .i64) (wkS x q).2.1, .cel (Kd.int .i64) (wkS x q).2.2] [] := by
 refine acI (N := 52) Try.func16 (Nat.le_of_ble_eq_true rfl) rfl fun w0 hd s0 ar => ?_
 refine AW.to (kc2 0 1 rfl <| Kn) ?_
 refine AW.fact (fun a w hr => (ok_slice (R_ok (t := 0) rfl hr)).2) (fun hl0 => ?_)
 refine AW.fact (fun a w hr => (ok_slice (R_ok (t := 1) rfl hr)).2) (fun hl1 => ?_)
 refine sr ?_
 refine st (asI rfl) rfl ?_
 refine st (asI rfl) rfl ?_
 refine st (asI rfl) rfl ?_
 refine ng ?_
 refine sr ?_
 refine st (asI rfl) rfl ?_
 refine ng ?_
 refine sr ?_
 refine st (asI rfl) rfl ?_
 refine ng ?_
 refine AW.seq ?_
 refine AW.block ?_
 refine AW.loop (fun p : Nat × Nat => p.1 < x.length ∧ p.2 ≤ p.1 ∧ wk x q (x.length - p.2) p.1 (p.2 : Int) = wkS x q) (fun p : Nat × Nat => keep [(0, .cel (Kd.slice kKnot) x), (1, .cel (Kd.slice (Kd.int .i64)) q), (7, .cel (Kd.int .i64) (p.1 : Int)), (8, .cel (Kd.int .i64) (p.2 : Int))]) (fun p : Nat × Nat => x.length - p.1) ((0, 0)) ⟨h.1, Nat.le_refl _, rfl⟩ (Kc 0 _ (Kv rfl rfl) <| Kc 1 _ (Kv rfl rfl) <| Kc 7 _ (Kv rfl rfl) <| Kc 8 _ (Kv rfl rfl) <| Kn) ?_
 intro p hI
 obtain ⟨k, hk⟩ := getI (x := x) (z := p.1) hI.1
 have hko := (knotI_iff hk).1 (h.2.2.1 p.1 hI.1)
 refine AW.seq ?_
 refine sr ?_
 refine st (mvT rfl) rfl ?_
 refine st (mvT rfl) rfl ?_
 refine st (OpT.indexAddr (H rfl) (T1 rfl) (T1 rfl) el27 sz43 (by omega) (by assumption)) rfl ?_
 refine st (OpT.fieldAddr (H rfl) (T1 rfl) fd43_0 sz36 (by decide) sb43_0) rfl ?_
 refine st (OpT.load (H rfl) (T1 rfl) ag36 rfl) rfl ?_
 refine st (OpT.geq (H rfl) (T1 rfl) (I rfl)) rfl ?_
 refine ng ?_
 refine cd rfl (fun hc1 => ?_) fun hc1 => ?_
 ·
  obtain ⟨hc1, hc1'⟩ := pT hc1
  have hak := (knot_ask (by omega)).1 hko
  have haH : 0 ≤ k.1 ∧ k.1 < 12 ∧ k.2.2.2.length = 0 ∧ k.2.1.length ≠ 0 ∧ k.2.2.1.length = k.2.1.length := hak.1
  refine AW.skip ?_
  refine AX.go ?_
  refine AW.block ?_
  refine sr ?_
  refine st (mvT rfl) rfl ?_
  refine st (mvT rfl) rfl ?_
  refine st (OpT.indexAddr (H rfl) (T1 rfl) (T1 rfl) el27 sz43 (by omega) (by assumption)) rfl ?_
  refine st (OpT.fieldAddr (H rfl) (T1 rfl) fd43_0 sz36 (by decide) sb43_0) rfl ?_
  refine st (OpT.load (H rfl) (T1 rfl) ag36 rfl) rfl ?_
  refine st (OpT.conv (H rfl) us36 Try.underlying3 (T1 rfl) (nw (by omega))) rfl ?_
  refine st (asT rfl) rfl ?_
  refine ng ?_
  refine AW.seq ?_
  refine sr ?_
  refine st (mvT rfl) rfl ?_
  refine st (mvT rfl) rfl ?_
  refine st (OpT.len (H rfl) (T1 rfl) el23) rfl ?_
  refine st (OpT.geq (H rfl) (T1 rfl) (T1 rfl)) rfl ?_
  refine ng ?_
  refine cd rfl (fun hc2 => ?_) fun hc2 => ?_
  ·
   obtain ⟨hc2, hc2'⟩ := pT hc2
   refine sr ?_
   refine st (asI rfl) rfl ?_
   refine st (asI rfl) rfl ?_
   refine st (asI rfl) rfl ?_
   refine ng ?_
   refine AW.ret ?_
   refine rT <| rK <| rT <| rK <| rT ?_
   exact AX.rt (rs := [.tmp 4, .tmp 5, .tmp 6]) (ts := [some 4, some 5, some 6]) (.inl rfl) rfl (ROs.cons (RO.tmp (At.self (by decide)) (Kv rfl (by rw [← hI.2.2]; first | (rw [wk_leaf hk (by omega) (by omega)]; done) | (rw [wk_two hk (by omega) (by omega) (by omega)]; done) | (rw [wk_six hk (by omega) (by omega) (by omega) hv (by omega)]; done))) rfl) <| ROs.cons (RO.tmp (At.self (by decide)) (Kv rfl (by rw [← hI.2.2]; first | (rw [wk_leaf hk (by omega) (by omega)]; done) | (rw [wk_two hk (by omega) (by omega) (by omega)]; done) | (rw [wk_six hk (by omega) (by omega) (by omega) hv (by omega)]; done))) rfl) <| ROs.cons (RO.tmp (At.self (by decide)) (Kv rfl (by rw [← hI.2.2]; first | (rw [wk_leaf hk (by omega) (by omega)]; done) | (rw [wk_two hk (by omega) (by omega) (by omega)]; done) | (rw [wk_six hk (by omega) (by omega) (by omega) hv (by omega)]; done))) rfl) <| ROs.nil) (by decide) OutsOK.nil
  ·
   obtain ⟨hc2, hc2'⟩ := pF hc2
   obtain ⟨v, hv⟩ : ∃ v, q[Int.toNat k.1]? = some v := ⟨_, List.getElem?_eq_getElem (by omega)⟩
   have hvi := idxV_in v k.2.1
   refine AW.skip ?_
   refine AX.go ?_
   refine AW.seq ?_
   refine dh fomo ?_
   refine d1 [0] (fun ve h => OpT.move (A := .cel _ _) (.inl rfl) rfl (ok' rfl) (D1 h rfl) rfl) rfl ?_
   refine d1 [7] (fun ve h => OpT.move (A := .cel _ _) (.inl rfl) rfl (ok' rfl) (D1 h rfl) rfl) rfl ?_
   refine d1 [27, 28] (fun ve h => OpT.indexAddr (H rfl) (D1 h rfl) (D1 h rfl) el27 sz43 (by omega) (by assumption)) rfl ?_
   refine d1 [29] (fun ve h => OpT.fieldAddr (H rfl) (D1 h rfl) fd43_1 sz23 (by decide) sb43_1) rfl ?_
   refine d1 [30] (fun ve h => OpT.load (H rfl) (D1 h rfl) ag23 rfl) rfl ?_
   refine d1 [1] (fun ve h => OpT.move (A := .cel _ _) (.inl rfl) rfl (ok' rfl) (D1 h rfl) rfl) rfl ?_
   refine d1 [9] (fun ve h => OpT.move (A := .cel _ _) (.inl rfl) rfl (ok' rfl) (D1 h rfl) rfl) rfl ?_
   refine d1 [32, 33] (fun ve h => OpT.indexAddr (H rfl) (D1 h rfl) (D1 h rfl) el23 sz2 (by omega) (by assumption)) rfl ?_
   refine d1 [34] (fun ve h => OpT.load (H rfl) (D1 h rfl) ag2 rfl) rfl ?_
   refine d1 [31, 35] (fun ve h => OpT.c1 (ms := [.flat, .flat]) (c_spec_l06Find _ _) (H rfl) (Af (D1 h rfl) rfl rfl <| Af (D1 h rfl) rfl rfl <| An) rfl rfl) rfl ?_
   refine d1 [36] (fun ve h => OpT.move (A := .cel _ _) (.inr rfl) rfl (ok' rfl) (D1 h rfl) rfl) rfl ?_
   refine dn ⟨by kernel_rfl, by kernel_rfl, ?_⟩
   refine AX.go ?_
   refine AW.seq ?_
   refine sr ?_
   refine st (mvT rfl) rfl ?_
   refine st (OpT.lss (H rfl) (T1 rfl) (I rfl)) rfl ?_
   refine ng ?_
   refine cd rfl (fun hc3 => ?_) fun hc3 => ?_
   ·
    obtain ⟨hc3, hc3'⟩ := pT hc3
    refine sr ?_
    refine st (asI rfl) rfl ?_
    refine st (asI rfl) rfl ?_
    refine st (asI rfl) rfl ?_
    refine ng ?_
    refine AW.ret ?_
    refine rT <| rK <| rT <| rK <| rT ?_
    exact AX.rt (rs := [.tmp 4, .tmp 5, .tmp 6]) (ts := [some 4, some 5, some 6]) (.inl rfl) rfl (ROs.cons (RO.tmp (At.self (by decide)) (Kv rfl (by rw [← hI.2.2]; first | (rw [wk_leaf hk (by omega) (by omega)]; done) | (rw [wk_two hk (by omega) (by omega) (by omega)]; done) | (rw [wk_six hk (by omega) (by omega) (by omega) hv (by omega)]; done))) rfl) <| ROs.cons (RO.tmp (At.self (by decide)) (Kv rfl (by rw [← hI.2.2]; first | (rw [wk_leaf hk (by omega) (by omega)]; done) | (rw [wk_two hk (by omega) (by omega) (by omega)]; done) | (rw [wk_six hk (by omega) (by omega) (by omega) hv (by omega)]; done))) rfl) <| ROs.cons (RO.tmp (At.self (by decide)) (Kv rfl (by rw [← hI.2.2]; first | (rw [wk_leaf hk (by omega) (by omega)]; done) | (rw [wk_two hk (by omega) (by omega) (by omega)]; done) | (rw [wk_six hk (by omega) (by omega) (by omega) hv (by omega)]; done))) rfl) <| ROs.nil) (by decide) OutsOK.nil
   ·
    obtain ⟨hc3, hc3'⟩ := pF hc3
    obtain ⟨n, hn⟩ : ∃ n, k.2.2.1[Int.toNat (idxV v k.2.1)]? = some n := ⟨_, List.getElem?_eq_getElem (by have := haH.2.2.2.2; have := haH.2.2.2.1; omega)⟩
    have hnb := knot_next (z := (idxV v k.2.1).toNat) hko hn
    refine AW.skip ?_
    refine AX.go ?_
    refine sr ?_
    refine st (mvT rfl) rfl ?_
    refine st (mvT rfl) rfl ?_
    refine st (OpT.indexAddr (H rfl) (T1 rfl) (T1 rfl) el27 sz43 (by omega) (by assumption)) rfl ?_
    refine st (OpT.fieldAddr (H rfl) (T1 rfl) fd43_2 sz37 (by decide) sb43_2) rfl ?_
    refine st (OpT.load (H rfl) (T1 rfl) ag37 rfl) rfl ?_
    refine st (mvT rfl) rfl ?_
    refine st (OpT.indexAddr (H rfl) (T1 rfl) (T1 rfl) el37 sz36 (by omega) (by assumption)) rfl ?_
    refine st (OpT.load (H rfl) (T1 rfl) ag36 rfl) rfl ?_
    refine st (OpT.conv (H rfl) us36 Try.underlying3 (T1 rfl) (nw (by omega))) rfl ?_
    refine st (asT rfl) rfl ?_
    refine ng ?_
    refine AW.region ?_
    refine st (mvT rfl) rfl ?_
    refine st (OpT.add (H rfl) (T1 rfl) (I rfl) (nw (by omega))) rfl ?_
    refine st (asT rfl) rfl ?_
    refine nn ?_
    refine AX.normal_block ?_
    exact AX.again ((n.toNat, p.2 + 1)) (wk_inv hI hk (by omega) (by omega) hv (by omega) hn hnb) (by simp only []; omega) (Kc 0 _ (Kv rfl rfl) <| Kc 1 _ (Kv rfl rfl) <| Kc 7 _ (Kv rfl (by simp only []; omega)) <| Kc 8 _ (Kv rfl (by simp only []; omega)) <| Kn)
 ·
  obtain ⟨hc1, hc1'⟩ := pF hc1
  refine AW.exit ?_
  refine xT <| xT <| AX.exit_hit ?_
  refine AX.go ?_
  refine sr ?_
  refine st (mvT rfl) rfl ?_
  refine st (mvT rfl) rfl ?_
  refine st (asT rfl) rfl ?_
  refine st (asT rfl) rfl ?_
  refine st (asI rfl) rfl ?_
  refine AWl.to (kc3 6 5 4 rfl <| Kn) ?_
  refine ng ?_
  refine AW.ret ?_
  exact AX.rt (rs := [.tmp 4, .tmp 5, .tmp 6]) (ts := [some 4, some 5, some 6]) (.inl rfl) rfl (ROs.cons (RO.tmp (At.self (by decide)) (Kv rfl (by rw [← hI.2.2]; first | (rw [wk_leaf hk (by omega) (by omega)]; done) | (rw [wk_two hk (by omega) (by omega) (by omega)]; done) | (rw [wk_six hk (by omega) (by omega) (by omega) hv (by omega)]; done))) rfl) <| ROs.cons (RO.tmp (At.self (by decide)) (Kv rfl (by rw [← hI.2.2]; first | (rw [wk_leaf hk (by omega) (by omega)]; done) | (rw [wk_two hk (by omega) (by omega) (by omega)]; done) | (rw [wk_six hk (by omega) (by omega) (by omega) hv (by omega)]; done))) rfl) <| ROs.cons (RO.tmp (At.self (by decide)) (Kv rfl (by rw [← hI.2.2]; first | (rw [wk_leaf hk (by omega) (by omega)]; done) | (rw [wk_two hk (by omega) (by omega) (by omega)]; done) | (rw [wk_six hk (by omega) (by omega) (by omega) hv (by omega)]; done))) rfl) <| ROs.nil) (by decide) OutsOK.nil

/-- impl.walk -/
theorem c_impl_walk (x : List DKnot) (q : List Int) (h : treeOK x) : AC Try.prog 20 [.cel (Kd.slice kKnot) x, .cel (Kd.slice (Kd.int .i64)) q] [.cel (Kd.int .i64) (wkS x q).1, .cel (Kd.int .i64) (wkS x q).2.1, .cel (Kd.int .i64) (wkS x q).2.2] [] := by
 refine acI (N := 47) Try.func20 (Nat.le_of_ble_eq_true rfl) rfl fun w0 hd s0 ar => ?_
 refine AW.to (kc2 0 1 rfl <| Kn) ?_
 refine AW.fact (fun a w hr => (ok_slice (R_ok (t := 0) rfl hr)).2) (fun hl0 => ?_)
 refine AW.fact (fun a w hr => (ok_slice (R_ok (t := 1) rfl hr)).2) (fun hl1 => ?_)
 refine sr ?_
 refine st (asI rfl) rfl ?_
 refine st (asI rfl) rfl ?_
 refine st (asI rfl) rfl ?_
 refine ng ?_
 refine sr ?_
 refine st (asI rfl) rfl ?_
 refine st (asI rfl) rfl ?_
 refine ng ?_
 refine AW.seq ?_
 refine AW.block ?_
 refine AW.loop (fun p : Nat × Nat => p.1 < x.length ∧ p.2 ≤ p.1 ∧ wk x q (x.length - p.2) p.1 (p.2 : Int) = wkS x q) (fun p : Nat × Nat => keep [(0, .cel (Kd.slice kKnot) x), (1, .cel (Kd.slice (Kd.int .i64)) q), (7, .cel (Kd.int .i64) (p.1 : Int)), (8, .cel (Kd.int .i64) (p.2 : Int))]) (fun p : Nat × Nat => x.length - p.1) ((0, 0)) ⟨h.1, Nat.le_refl _, rfl⟩ (Kc 0 _ (Kv rfl rfl) <| Kc 1 _ (Kv rfl rfl) <| Kc 7 _ (Kv rfl rfl) <| Kc 8 _ (Kv rfl rfl) <| Kn) ?_
 intro p hI
 obtain ⟨k, hk⟩ := getI (x := x) (z := p.1) hI.1
 have hko := (knotI_iff hk).1 (h.2.2.1 p.1 hI.1)
 refine AW.seq ?_
 refine sr ?_
 refine st (mvT rfl) rfl ?_
 refine st (mvT rfl) rfl ?_
 refine st (OpT.indexAddr (H rfl) (T1 rfl) (T1 rfl) el27 sz43 (by omega) (by assumption)) rfl ?_
 refine st (OpT.fieldAddr (H rfl) (T1 rfl) fd43_0 sz36 (by decide) sb43_0) rfl ?_
 refine st (OpT.load (H rfl) (T1 rfl) ag36 rfl) rfl ?_
 refine st (OpT.geq (H rfl) (T1 rfl) (I rfl)) rfl ?_
 refine ng ?_
 refine cd rfl (fun hc1 => ?_) fun hc1 => ?_
 ·
  obtain ⟨hc1, hc1'⟩ := pT hc1
  have hak := (knot_ask (by omega)).1 hko
  have haH : 0 ≤ k.1 ∧ k.1 < 12 ∧ k.2.2.2.length = 0 ∧ k.2.1.length ≠ 0 ∧ k.2.2.1.length = k.2.1.length := hak.1
  refine AW.skip ?_
  refine AX.go ?_
  refine AW.block ?_
  refine sr ?_
  refine st (mvT rfl) rfl ?_
  refine st (mvT rfl) rfl ?_
  refine st (OpT.indexAddr (H rfl) (T1 rfl) (T1 rfl) el27 sz43 (by omega) (by assumption)) rfl ?_
  refine st (OpT.loadA (H rfl) (T1 rfl) ag43 sz43) rfl ?_
  refine st (OpT.alloc (H rfl) zr43 zk43) rfl ?_
  refine sk (OpT.storeBA rfl rfl (Opd.whole (Root.self (t := 9) (by decide)) rfl) rfl sz43 (by decide) (T1 rfl)) rfl ?_
  refine ng ?_
  refine AW.seq ?_
  refine sr ?_
  refine st (OpT.fieldAddrB (H rfl) (Root.self (t := 9) (by decide)) rfl (by decide) fd43_0 sz36 (by decide) sb43_0) rfl ?_
  refine st (OpT.loadP (H rfl) (T1 rfl) (.inl ⟨_, rfl, rfl⟩) ag36 rfl) rfl ?_
  refine st (OpT.conv (H rfl) us36 Try.underlying3 (T1 rfl) (nw (by omega))) rfl ?_
  refine st (mvT rfl) rfl ?_
  refine st (OpT.len (H rfl) (T1 rfl) el23) rfl ?_
  refine st (OpT.geq (H rfl) (T1 rfl) (T1 rfl)) rfl ?_
  refine ng ?_
  refine cd rfl (fun hc2 => ?_) fun hc2 => ?_
  ·
   obtain ⟨hc2, hc2'⟩ := pT hc2
   refine sr ?_
   refine st (asI rfl) rfl ?_
   refine st (asI rfl) rfl ?_
   refine st (asI rfl) rfl ?_
   refine ng ?_
   refine AW.ret ?_
   refine rT <| rK <| rT <| rK <| rT ?_
   exact AX.rt (rs := [.tmp 4, .tmp 5, .tmp 6]) (ts := [some 4, some 5, some 6]) (.inl rfl) rfl (ROs.cons (RO.tmp (At.self (by decide)) (Kv rfl (by rw [← hI.2.2]; first | (rw [wk_leaf hk (by omega) (by omega)]; done) | (rw [wk_two hk (by omega) (by omega) (by omega)]; done) | (rw [wk_six hk (by omega) (by omega) (by omega) hv (by omega)]; done))) rfl) <| ROs.cons (RO.tmp (At.self (by decide)) (Kv rfl (by rw [← hI.2.2]; first | (rw [wk_leaf hk (by omega) (by omega)]; done) | (rw [wk_two hk (by omega) (by omega) (by omega)]; done) | (rw [wk_six hk (by omega) (by omega) (by omega) hv (by omega)]; done))) rfl) <| ROs.cons (RO.tmp (At.self (by decide)) (Kv rfl (by rw [← hI.2.2]; first | (rw [wk_leaf hk (by omega) (by omega)]; done) | (rw [wk_two hk (by omega) (by omega) (by omega)]; done) | (rw [wk_six hk (by omega) (by omega) (by omega) hv (by omega)]; done))) rfl) <| ROs.nil) (by decide) OutsOK.nil
  ·
   obtain ⟨hc2, hc2'⟩ := pF hc2
   obtain ⟨v, hv⟩ : ∃ v, q[Int.toNat k.1]? = some v := ⟨_, List.getElem?_eq_getElem (by omega)⟩
   have hvi := idxV_in v k.2.1
   refine AW.skip ?_
   refine AX.pr (kc4 26 25 24 23 rfl <| kc 22 rfl <| Kc 21 (.pel _ _ _ _ _ _ _) rfl <| kb 9 rfl <| ka 20 rfl <| kc4 19 18 17 16 rfl <| kc4 15 14 13 12 rfl <| kc4 11 0 1 7 rfl <| kc 8 rfl <| Kn) ?_
   refine AX.go ?_
   refine AW.seq ?_
   refine dh fomo ?_
   refine d1 [9] (fun ve h => OpT.fieldAddrB (H rfl) (Root.self (t := 9) (by decide)) ((h _ (List.elem_iff.1 rfl)).trans rfl) (by decide) fd43_1 sz23 (by decide) sb43_1) rfl ?_
   refine d1 [9, 27] (fun ve h => OpT.loadP (H rfl) (D1 h rfl) (.inl ⟨_, ((h _ (List.elem_iff.1 rfl)).trans rfl), rfl⟩) ag23 rfl) rfl ?_
   refine d1 [1] (fun ve h => OpT.move (A := .cel _ _) (.inl rfl) rfl (ok' rfl) (D1 h rfl) rfl) rfl ?_
   refine d1 [9] (fun ve h => OpT.fieldAddrB (H rfl) (Root.self (t := 9) (by decide)) ((h _ (List.elem_iff.1 rfl)).trans rfl) (by decide) fd43_0 sz36 (by decide) sb43_0) rfl ?_
   refine d1 [9, 30] (fun ve h => OpT.loadP (H rfl) (D1 h rfl) (.inl ⟨_, ((h _ (List.elem_iff.1 rfl)).trans rfl), rfl⟩) ag36 rfl) rfl ?_
   refine d1 [29, 31] (fun ve h => OpT.indexAddr (H rfl) (D1 h rfl) (D1 h rfl) el23 sz2 (by omega) (by assumption)) rfl ?_
   refine d1 [32] (fun ve h => OpT.load (H rfl) (D1 h rfl) ag2 rfl) rfl ?_
   refine d1 [28, 33] (fun ve h => OpT.c1 (ms := [.flat, .flat]) (c_slices_Index_int64_int64 _ _) (H rfl) (Af (D1 h rfl) rfl rfl <| Af (D1 h rfl) rfl rfl <| An) rfl rfl) rfl ?_
   refine d1 [34] (fun ve h => OpT.move (A := .cel _ _) (.inr rfl) rfl (ok' rfl) (D1 h rfl) rfl) rfl ?_
   refine dn ⟨by kernel_rfl, by kernel_rfl, ?_⟩
   refine AX.go ?_
   refine AW.seq ?_
   refine sr ?_
   refine st (mvT rfl) rfl ?_
   refine st (OpT.lss (H rfl) (T1 rfl) (I rfl)) rfl ?_
   refine ng ?_
   refine cd rfl (fun hc3 => ?_) fun hc3 => ?_
   ·
    obtain ⟨hc3, hc3'⟩ := pT hc3
    refine sr ?_
    refine st (asI rfl) rfl ?_
    refine st (asI rfl) rfl ?_
    refine st (asI rfl) rfl ?_
    refine ng ?_
    refine AW.ret ?_
    refine rT <| rK <| rT <| rK <| rT ?_
    exact AX.rt (rs := [.tmp 4, .tmp 5, .tmp 6]) (ts := [some 4, some 5, some 6]) (.inl rfl) rfl (ROs.cons (RO.tmp (At.self (by decide)) (Kv rfl (by rw [← hI.2.2]; first | (rw [wk_leaf hk (by omega) (by omega)]; done) | (rw [wk_two hk (by omega) (by omega) (by omega)]; done) | (rw [wk_six hk (by omega) (by omega) (by omega) hv (by omega)]; done))) rfl) <| ROs.cons (RO.tmp (At.self (by decide)) (Kv rfl (by rw [← hI.2.2]; first | (rw [wk_leaf hk (by omega) (by omega)]; done) | (rw [wk_two hk (by omega) (by omega) (by omega)]; done) | (rw [wk_six hk (by omega) (by omega) (by omega) hv (by omega)]; done))) rfl) <| ROs.cons (RO.tmp (At.self (by decide)) (Kv rfl (by rw [← hI.2.2]; first | (rw [wk_leaf hk (by omega) (by omega)]; done) | (rw [wk_two hk (by omega) (by omega) (by omega)]; done) | (rw [wk_six hk (by omega) (by omega) (by omega) hv (by omega)]; done))) rfl) <| ROs.nil) (by decide) OutsOK.nil
   ·
    obtain ⟨hc3, hc3'⟩ := pF hc3
    obtain ⟨n, hn⟩ : ∃ n, k.2.2.1[Int.toNat (idxV v k.2.1)]? = some n := ⟨_, List.getElem?_eq_getElem (by have := haH.2.2.2.2; have := haH.2.2.2.1; omega)⟩
    have hnb := knot_next (z := (idxV v k.2.1).toNat) hko hn
    refine AW.skip ?_
    refine AX.go ?_
    refine sr ?_
    refine st (OpT.fieldAddrB (H rfl) (Root.self (t := 9) (by decide)) rfl (by decide) fd43_2 sz37 (by decide) sb43_2) rfl ?_
    refine st (OpT.loadP (H rfl) (T1 rfl) (.inl ⟨_, rfl, rfl⟩) ag37 rfl) rfl ?_
    refine st (mvT rfl) rfl ?_
    refine st (OpT.indexAddr (H rfl) (T1 rfl) (T1 rfl) el37 sz36 (by omega) (by assumption)) rfl ?_
    refine st (OpT.load (H rfl) (T1 rfl) ag36 rfl) rfl ?_
    refine st (OpT.conv (H rfl) us36 Try.underlying3 (T1 rfl) (nw (by omega))) rfl ?_
    refine st (asT rfl) rfl ?_
    refine ng ?_
    refine AW.region ?_
    refine st (mvT rfl) rfl ?_
    refine st (OpT.add (H rfl) (T1 rfl) (I rfl) (nw (by omega))) rfl ?_
    refine st (asT rfl) rfl ?_
    refine nn ?_
    refine AX.normal_block ?_
    exact AX.again ((n.toNat, p.2 + 1)) (wk_inv hI hk (by omega) (by omega) hv (by omega) hn hnb) (by simp only []; omega) (Kc 0 _ (Kv rfl rfl) <| Kc 1 _ (Kv rfl rfl) <| Kc 7 _ (Kv rfl (by simp only []; omega)) <| Kc 8 _ (Kv rfl (by simp only []; omega)) <| Kn)
 ·
  obtain ⟨hc1, hc1'⟩ := pF hc1
  refine AW.exit ?_
  refine xT <| xT <| AX.exit_hit ?_
  refine AX.go ?_
  refine sr ?_
  refine st (mvT rfl) rfl ?_
  refine st (mvT rfl) rfl ?_
  refine st (asT rfl) rfl ?_
  refine st (asT rfl) rfl ?_
  refine st (asI rfl) rfl ?_
  refine AWl.to (kc3 6 5 4 rfl <| Kn) ?_
  refine ng ?_
  refine AW.ret ?_
  exact AX.rt (rs := [.tmp 4, .tmp 5, .tmp 6]) (ts := [some 4, some 5, some 6]) (.inl rfl) rfl (ROs.cons (RO.tmp (At.self (by decide)) (Kv rfl (by rw [← hI.2.2]; first | (rw [wk_leaf hk (by omega) (by omega)]; done) | (rw [wk_two hk (by omega) (by omega) (by omega)]; done) | (rw [wk_six hk (by omega) (by omega) (by omega) hv (by omega)]; done))) rfl) <| ROs.cons (RO.tmp (At.self (by decide)) (Kv rfl (by rw [← hI.2.2]; first | (rw [wk_leaf hk (by omega) (by omega)]; done) | (rw [wk_two hk (by omega) (by omega) (by omega)]; done) | (rw [wk_six hk (by omega) (by omega) (by omega) hv (by omega)]; done))) rfl) <| ROs.cons (RO.tmp (At.self (by decide)) (Kv rfl (by rw [← hI.2.2]; first | (rw [wk_leaf hk (by omega) (by omega)]; done) | (rw [wk_two hk (by omega) (by omega) (by omega)]; done) | (rw [wk_six hk (by omega) (by omega) (by omega) hv (by omega)]; done))) rfl) <| ROs.nil) (by decide) OutsOK.nil

/-- spec.l00Own -/
theorem c_spec_l00Own_o (x : List Int) (h : x.length ≤ 1099511627776) : AC Try.prog 17 [.cel (Kd.slice (Kd.int .i64)) x] [.own 2 (Kd.int .i64) x] [] := by
 refine acI (N := 6) Try.func17 (Nat.le_of_ble_eq_true rfl) rfl fun w0 hd s0 ar => ?_
 refine AW.to (kc 0 rfl <| Kn) ?_
 refine sr ?_
 refine st (nilO (E := 2) (Kd.int .i64) rfl (.inl rfl)) rfl ?_
 refine ng ?_
 refine sr ?_
 refine st (OpT.buildSlice0 (m := 0) (z := .bool false) (Kd.int .i64) (H rfl) el23 sz2 (by decide)) rfl ?_
 refine st (mvT rfl) rfl ?_
 refine sg (OpT.append (H rfl) (Root.self (t := 3) (by decide)) rfl (Src.shared (T1 rfl)) (by decide) el23 zr2 rfl sz2 by2 (by decide) (by simp only [List.length_nil]; omega)) (ko 5 rfl <| kc 4 rfl <| ko 2 rfl <| kc 0 rfl <| Kn) rfl ?_
 refine sg (OpT.take (.inl rfl) rfl (ok' rfl) (Root.self (by decide)) rfl rfl (by decide)) (ko 2 rfl <| kc2 4 0 rfl <| Kn) rfl ?_
 refine ng ?_
 refine AW.ret ?_
 exact AX.rt (rs := [.tmp 2]) (ts := [some 2]) (.inl rfl) rfl (ROs.cons (RO.tmp (At.self (by decide)) (Ko rfl (List.nil_append x)) rfl) <| ROs.nil) (by decide) OutsOK.nil
/-- spec.WalkTree -/
theorem c_spec_WalkTree_o (x : List DKnot) (q : List Int) (hx : okKS x) : AC Try.prog 5 [.cel (Kd.slice kKnot) x, .cel (Kd.slice (Kd.int .i64)) q] [.own 2 (Kd.int .i64) (wtS x q).1, .cel (Kd.int .i64) (wtS x q).2.1, .cel (Kd.int .i64) (wtS x q).2.2] [] := by
 refine acI (N := 32) Try.func5 (Nat.le_of_ble_eq_true rfl) rfl fun w0 hd s0 ar => ?_
 refine AW.to (kc2 0 1 rfl <| Kn) ?_
 refine sr ?_
 refine st (nilO (E := 2) (Kd.int .i64) rfl (.inl rfl)) rfl ?_
 refine st (asI rfl) rfl ?_
 refine st (asI rfl) rfl ?_
 refine ng ?_
 refine AW.seq ?_
 refine sr ?_
 refine st (mvT rfl) rfl ?_
 refine st (OpT.c1 (ms := [.flat]) (c_spec_l06Ok _ hx) (H rfl) (Af (T1 rfl) rfl rfl <| An) rfl rfl) rfl ?_
 refine st (OpT.not (H rfl) (T1 rfl)) rfl ?_
 refine ng ?_
 refine cd rfl (fun hc1 => ?_) fun hc1 => ?_
 ·
  obtain ⟨hc1, hc1'⟩ := pT hc1
  have hto : tt (treeOK x) = false := by simpa using hc1
  refine sr ?_
  refine st (OpT.buildSlice0 (m := 0) (z := .bool false) (Kd.int .i64) (H rfl) el23 sz2 (by decide)) rfl ?_
  refine sg (OpT.take (.inl rfl) rfl (ok' rfl) (Root.self (by decide)) rfl rfl (by decide)) (ko 4 rfl <| kc4 12 11 10 6 rfl <| kc3 5 0 1 rfl <| Kn) rfl ?_
  refine st (asI rfl) rfl ?_
  refine st (asI rfl) rfl ?_
  refine ng ?_
  refine AW.ret ?_
  refine rT ?_
  exact AX.rt (rs := [.tmp 4, .tmp 5, .tmp 6]) (ts := [some 4, some 5, some 6]) (.inl rfl) rfl (ROs.cons (RO.tmp (At.self (by decide)) (Ko rfl (by first | (rw [wt_no hto]; done) | (rw [wt_code hto (by omega)]; done) | (rw [wt_ok hto hwz hk]; first | done | rfl | exact (List.nil_append _)))) rfl) <| ROs.cons (RO.tmp (At.self (by decide)) (Kv rfl (by first | (rw [wt_no hto]; done) | (rw [wt_code hto (by omega)]; done) | (rw [wt_ok hto hwz hk]; first | done | rfl | exact (List.nil_append _)))) rfl) <| ROs.cons (RO.tmp (At.self (by decide)) (Kv rfl (by first | (rw [wt_no hto]; done) | (rw [wt_code hto (by omega)]; done) | (rw [wt_ok hto hwz hk]; first | done | rfl | exact (List.nil_append _)))) rfl) <| ROs.nil) (by decide) OutsOK.nil
 ·
  obtain ⟨hc1, hc1'⟩ := pF hc1
  have hto : tt (treeOK x) = true := by simpa using hc1
  have htr := tt_iff.1 hto
  refine AW.skip ?_
  refine AX.go ?_
  refine sr ?_
  refine st (mvT rfl) rfl ?_
  refine st (mvT rfl) rfl ?_
  refine s3 (cN (ms := [.flat, .flat]) (c_spec_l06Walk _ _ htr) (H rfl) (Af (T1 rfl) rfl rfl <| Af (T1 rfl) rfl rfl <| An) rfl (.inl rfl)) rfl ?_
  refine st (OpT.alias (H rfl) (by decide) (by decide)) rfl ?_
  refine st (OpT.extractV (m := 10017) (H rfl) rfl rfl rfl rfl rfl rfl rfl) rfl ?_
  refine st (OpT.extractV (m := 20017) (H rfl) rfl rfl rfl rfl rfl rfl rfl) rfl ?_
  refine st (OpT.extractV (m := 30017) (H rfl) rfl rfl rfl rfl rfl rfl rfl) rfl ?_
  refine st (asT rfl) rfl ?_
  refine st (asT rfl) rfl ?_
  refine st (asT rfl) rfl ?_
  refine AWl.to (kc4 9 8 7 6 rfl <| kc 5 rfl <| ko 4 rfl <| kc 0 rfl <| Kn) ?_
  refine ng ?_
  refine AW.seq ?_
  refine sr ?_
  refine st (mvT rfl) rfl ?_
  refine st (OpT.neq (H rfl) (T1 rfl) (I rfl)) rfl ?_
  refine ng ?_
  refine cd rfl (fun hc2 => ?_) fun hc2 => ?_
  ·
   obtain ⟨hc2, hc2'⟩ := pT hc2
   refine sr ?_
   refine st (OpT.buildSlice0 (m := 0) (z := .bool false) (Kd.int .i64) (H rfl) el23 sz2 (by decide)) rfl ?_
   refine st (mvT rfl) rfl ?_
   refine sg (OpT.take (.inl rfl) rfl (ok' rfl) (Root.self (by decide)) rfl rfl (by decide)) (ko 4 rfl <| kc4 24 22 21 9 rfl <| kc4 8 7 6 5 rfl <| kc 0 rfl <| Kn) rfl ?_
   refine st (asI rfl) rfl ?_
   refine st (asT rfl) rfl ?_
   refine ng ?_
   refine AW.ret ?_
   refine rT ?_
   exact AX.rt (rs := [.tmp 4, .tmp 5, .tmp 6]) (ts := [some 4, some 5, some 6]) (.inl rfl) rfl (ROs.cons (RO.tmp (At.self (by decide)) (Ko rfl (by first | (rw [wt_no hto]; done) | (rw [wt_code hto (by omega)]; done) | (rw [wt_ok hto hwz hk]; first | done | rfl | exact (List.nil_append _)))) rfl) <| ROs.cons (RO.tmp (At.self (by decide)) (Kv rfl (by first | (rw [wt_no hto]; done) | (rw [wt_code hto (by omega)]; done) | (rw [wt_ok hto hwz hk]; first | done | rfl | exact (List.nil_append _)))) rfl) <| ROs.cons (RO.tmp (At.self (by decide)) (Kv rfl (by first | (rw [wt_no hto]; done) | (rw [wt_code hto (by omega)]; done) | (rw [wt_ok hto hwz hk]; first | done | rfl | exact (List.nil_append _)))) rfl) <| ROs.nil) (by decide) OutsOK.nil
  ·
   obtain ⟨hc2, hc2'⟩ := pF hc2
   have hwz : (wkS x q).2.2 = 0 := by omega
   have hwp := wkS_pos x q
   obtain ⟨k, hk⟩ := wt_at (q := q) hto
   have hkc := tree_cards hx hk
   refine AW.skip ?_
   refine AX.go ?_
   refine sr ?_
   refine st (mvT rfl) rfl ?_
   refine st (mvT rfl) rfl ?_
   refine st (OpT.indexAddr (H rfl) (T1 rfl) (T1 rfl) el27 sz43 (by omega) (by assumption)) rfl ?_
   refine st (OpT.fieldAddr (H rfl) (T1 rfl) fd43_3 sz23 (by decide) sb43_3) rfl ?_
   refine st (OpT.load (H rfl) (T1 rfl) ag23 rfl) rfl ?_
   refine st (OpT.c1 (ms := [.flat]) (c_spec_l00Own_o _ (by omega)) (H rfl) (Af (T1 rfl) rfl rfl <| An) rfl rfl) rfl ?_
   refine st (mvT rfl) rfl ?_
   refine sg (OpT.take (.inl rfl) rfl (ok' rfl) (Root.self (by decide)) rfl rfl (by decide)) (ko 4 rfl <| kc4 31 29 28 27 rfl <| kc4 26 25 22 21 rfl <| kc4 9 8 7 6 rfl <| kc2 5 0 rfl <| Kn) rfl ?_
   refine st (asT rfl) rfl ?_
   refine st (asI rfl) rfl ?_
   refine AWl.to (kc2 6 5 rfl <| ko 4 rfl <| Kn) ?_
   refine ng ?_
   refine AW.ret ?_
   exact AX.rt (rs := [.tmp 4, .tmp 5, .tmp 6]) (ts := [some 4, some 5, some 6]) (.inl rfl) rfl (ROs.cons (RO.tmp (At.self (by decide)) (Ko rfl (by first | (rw [wt_no hto]; done) | (rw [wt_code hto (by omega)]; done) | (rw [wt_ok hto hwz hk]; first | done | rfl | exact (List.nil_append _)))) rfl) <| ROs.cons (RO.tmp (At.self (by decide)) (Kv rfl (by first | (rw [wt_no hto]; done) | (rw [wt_code hto (by omega)]; done) | (rw [wt_ok hto hwz hk]; first | done | rfl | exact (List.nil_append _)))) rfl) <| ROs.cons (RO.tmp (At.self (by decide)) (Kv rfl (by first | (rw [wt_no hto]; done) | (rw [wt_code hto (by omega)]; done) | (rw [wt_ok hto hwz hk]; first | done | rfl | exact (List.nil_append _)))) rfl) <| ROs.nil) (by decide) OutsOK.nil
theorem c_spec_WalkTree (x : List DKnot) (q : List Int) (hx : okKS x) : AC Try.prog 5 [.cel (Kd.slice kKnot) x, .cel (Kd.slice (Kd.int .i64)) q] [.cel (Kd.slice (Kd.int .i64)) (wtS x q).1, .cel (Kd.int .i64) (wtS x q).2.1, .cel (Kd.int .i64) (wtS x q).2.2] [] := (c_spec_WalkTree_o x q hx).frz rfl

/-- impl.WalkTree -/
theorem c_impl_WalkTree_o (x : List DKnot) (q : List Int) (hx : okKS x) : AC Try.prog 8 [.cel (Kd.slice kKnot) x, .cel (Kd.slice (Kd.int .i64)) q] [.own 2 (Kd.int .i64) (wtS x q).1, .cel (Kd.int .i64) (wtS x q).2.1, .cel (Kd.int .i64) (wtS x q).2.2] [] := by
 refine acI (N := 31) Try.func8 (Nat.le_of_ble_eq_true rfl) rfl fun w0 hd s0 ar => ?_
 refine AW.to (kc2 0 1 rfl <| Kn) ?_
 refine sr ?_
 refine st (nilO (E := 2) (Kd.int .i64) rfl (.inl rfl)) rfl ?_
 refine st (asI rfl) rfl ?_
 refine st (asI rfl) rfl ?_
 refine ng ?_
 refine AW.seq ?_
 refine sr ?_
 refine st (mvT rfl) rfl ?_
 refine st (OpT.c1 (ms := [.flat]) (c_impl_isTree _ hx) (H rfl) (Af (T1 rfl) rfl rfl <| An) rfl rfl) rfl ?_
 refine st (OpT.not (H rfl) (T1 rfl)) rfl ?_
 refine ng ?_
 refine cd rfl (fun hc1 => ?_) fun hc1 => ?_
 ·
  obtain ⟨hc1, hc1'⟩ := pT hc1
  have hto : tt (treeOK x) = false := by simpa using hc1
  refine sr ?_
  refine st (nilO (E := 2) (Kd.int .i64) rfl (.inl rfl)) rfl ?_
  refine st (asI rfl) rfl ?_
  refine st (asI rfl) rfl ?_
  refine ng ?_
  refine AW.ret ?_
  refine rT ?_
  exact AX.rt (rs := [.tmp 4, .tmp 5, .tmp 6]) (ts := [some 4, some 5, some 6]) (.inl rfl) rfl (ROs.cons (RO.tmp (At.self (by decide)) (Ko rfl (by first | (rw [wt_no hto]; done) | (rw [wt_code hto (by omega)]; done) | (rw [wt_ok hto hwz hk]; first | done | rfl | exact (List.nil_append _)))) rfl) <| ROs.cons (RO.tmp (At.self (by decide)) (Kv rfl (by first | (rw [wt_no hto]; done) | (rw [wt_code hto (by omega)]; done) | (rw [wt_ok hto hwz hk]; first | done | rfl | exact (List.nil_append _)))) rfl) <| ROs.cons (RO.tmp (At.self (by decide)) (Kv rfl (by first | (rw [wt_no hto]; done) | (rw [wt_code hto (by omega)]; done) | (rw [wt_ok hto hwz hk]; first | done | rfl | exact (List.nil_append _)))) rfl) <| ROs.nil) (by decide) OutsOK.nil
 ·
  obtain ⟨hc1, hc1'⟩ := pF hc1
  have hto : tt (treeOK x) = true := by simpa using hc1
  have htr := tt_iff.1 hto
  refine AW.skip ?_
  refine AX.go ?_
  refine sr ?_
  refine st (mvT rfl) rfl ?_
  refine st (mvT rfl) rfl ?_
  refine s3 (cN (ms := [.flat, .flat]) (c_impl_walk _ _ htr) (H rfl) (Af (T1 rfl) rfl rfl <| Af (T1 rfl) rfl rfl <| An) rfl (.inl rfl)) rfl ?_
  refine st (OpT.alias (H rfl) (by decide) (by decide)) rfl ?_
  refine st (OpT.extractV (m := 10016) (H rfl) rfl rfl rfl rfl rfl rfl rfl) rfl ?_
  refine st (OpT.extractV (m := 20016) (H rfl) rfl rfl rfl rfl rfl rfl rfl) rfl ?_
  refine st (OpT.extractV (m := 30016) (H rfl) rfl rfl rfl rfl rfl rfl rfl) rfl ?_
  refine st (asT rfl) rfl ?_
  refine st (asT rfl) rfl ?_
  refine st (asT rfl) rfl ?_
  refine AWl.to (kc4 9 8 7 6 rfl <| kc 5 rfl <| ko 4 rfl <| kc 0 rfl <| Kn) ?_
  refine ng ?_
  refine AW.seq ?_
  refine sr ?_
  refine st (mvT rfl) rfl ?_
  refine st (OpT.neq (H rfl) (T1 rfl) (I rfl)) rfl ?_
  refine ng ?_
  refine cd rfl (fun hc2 => ?_) fun hc2 => ?_
  ·
   obtain ⟨hc2, hc2'⟩ := pT hc2
   refine sr ?_
   refine st (mvT rfl) rfl ?_
   refine st (nilO (E := 2) (Kd.int .i64) rfl (.inl rfl)) rfl ?_
   refine st (asI rfl) rfl ?_
   refine st (asT rfl) rfl ?_
   refine ng ?_
   refine AW.ret ?_
   refine rT ?_
   exact AX.rt (rs := [.tmp 4, .tmp 5, .tmp 6]) (ts := [some 4, some 5, some 6]) (.inl rfl) rfl (ROs.cons (RO.tmp (At.self (by decide)) (Ko rfl (by first | (rw [wt_no hto]; done) | (rw [wt_code hto (by omega)]; done) | (rw [wt_ok hto hwz hk]; first | done | rfl | exact (List.nil_append _)))) rfl) <| ROs.cons (RO.tmp (At.self (by decide)) (Kv rfl (by first | (rw [wt_no hto]; done) | (rw [wt_code hto (by omega)]; done) | (rw [wt_ok hto hwz hk]; first | done | rfl | exact (List.nil_append _)))) rfl) <| ROs.cons (RO.tmp (At.self (by decide)) (Kv rfl (by first | (rw [wt_no hto]; done) | (rw [wt_code hto (by omega)]; done) | (rw [wt_ok hto hwz hk]; first | done | rfl | exact (List.nil_append _)))) rfl) <| ROs.nil) (by decide) OutsOK.nil
  ·
   obtain ⟨hc2, hc2'⟩ := pF hc2
   have hwz : (wkS x q).2.2 = 0 := by omega
   have hwp := wkS_pos x q
   obtain ⟨k, hk⟩ := wt_at (q := q) hto
   have hkc := tree_cards hx hk
   refine AW.skip ?_
   refine AX.go ?_
   refine sr ?_
   refine st (OpT.buildSlice0 (m := 0) (z := .bool false) (Kd.int .i64) (H rfl) el23 sz2 (by decide)) rfl ?_
   refine st (mvT rfl) rfl ?_
   refine st (mvT rfl) rfl ?_
   refine st (OpT.indexAddr (H rfl) (T1 rfl) (T1 rfl) el27 sz43 (by omega) (by assumption)) rfl ?_
   refine st (OpT.fieldAddr (H rfl) (T1 rfl) fd43_3 sz23 (by decide) sb43_3) rfl ?_
   refine st (OpT.load (H rfl) (T1 rfl) ag23 rfl) rfl ?_
   refine sg (OpT.append (H rfl) (Root.self (t := 23) (by decide)) rfl (Src.shared (T1 rfl)) (by decide) el23 zr2 rfl sz2 by2 (by decide) (by simp only [List.length_nil]; omega)) (ko 29 rfl <| kc4 28 27 26 25 rfl <| kc4 24 21 20 9 rfl <| kc4 8 7 6 5 rfl <| ko 4 rfl <| kc 0 rfl <| Kn) rfl ?_
   refine st (mvT rfl) rfl ?_
   refine sg (OpT.take (.inl rfl) rfl (ok' rfl) (Root.self (by decide)) rfl rfl (by decide)) (ko 4 rfl <| kc4 30 28 27 26 rfl <| kc4 25 24 21 20 rfl <| kc4 9 8 7 6 rfl <| kc2 5 0 rfl <| Kn) rfl ?_
   refine st (asT rfl) rfl ?_
   refine st (asI rfl) rfl ?_
   refine AWl.to (kc2 6 5 rfl <| ko 4 rfl <| Kn) ?_
   refine ng ?_
   refine AW.ret ?_
   exact AX.rt (rs := [.tmp 4, .tmp 5, .tmp 6]) (ts := [some 4, some 5, some 6]) (.inl rfl) rfl (ROs.cons (RO.tmp (At.self (by decide)) (Ko rfl (by first | (rw [wt_no hto]; done) | (rw [wt_code hto (by omega)]; done) | (rw [wt_ok hto hwz hk]; first | done | rfl | exact (List.nil_append _)))) rfl) <| ROs.cons (RO.tmp (At.self (by decide)) (Kv rfl (by first | (rw [wt_no hto]; done) | (rw [wt_code hto (by omega)]; done) | (rw [wt_ok hto hwz hk]; first | done | rfl | exact (List.nil_append _)))) rfl) <| ROs.cons (RO.tmp (At.self (by decide)) (Kv rfl (by first | (rw [wt_no hto]; done) | (rw [wt_code hto (by omega)]; done) | (rw [wt_ok hto hwz hk]; first | done | rfl | exact (List.nil_append _)))) rfl) <| ROs.nil) (by decide) OutsOK.nil
set_option maxHeartbeats 4000000 in
/-- laws.FnExactWalkTree -/
theorem c_laws_FnExactWalkTree (x : List DKnot) (q : List Int) : AC Try.prog 3 [.cel (Kd.slice kKnot) x, .cel (Kd.slice (Kd.int .i64)) q] [.cel Kd.bool true] [] := by
 refine acI (N := 138) Try.func3 (Nat.le_of_ble_eq_true rfl) rfl fun w0 hd s0 ar => ?_
 refine AW.to (kc2 0 1 rfl <| Kn) ?_
 refine AW.fact (fun a w hr => (ok_slice (R_ok (t := 1) rfl hr)).2) (fun hl1 => ?_)
 refine sr ?_
 refine st (asB rfl) rfl ?_
 refine ng ?_
 refine AW.seq ?_
 refine sr ?_
 refine st (mvT rfl) rfl ?_
 refine st (OpT.len (H rfl) (T1 rfl) el23) rfl ?_
 refine st (OpT.gtr (H rfl) (T1 rfl) (I rfl)) rfl ?_
 refine ng ?_
 refine cd rfl (fun hc1 => ?_) fun hc1 => ?_
 ·
  replace hc1 := oT hc1
  refine sr ?_
  refine st (asB rfl) rfl ?_
  refine ng ?_
  refine AW.ret ?_
  refine rT ?_
  exact rt1 rfl (.inl rfl) rfl
 ·
  replace hc1 := oF hc1
  refine AW.skip ?_
  refine AX.go ?_
  refine sr ?_
  refine st (asI rfl) rfl ?_
  refine ng ?_
  refine sr ?_
  refine st (mvT rfl) rfl ?_
  refine st (mvT rfl) rfl ?_
  refine st (OpT.c1 (ms := [.flat, .flat]) (c_laws_szKnotS _ _ (by omega)) (H rfl) (Af (T1 rfl) rfl rfl <| Af (T1 rfl) rfl rfl <| An) rfl rfl) rfl ?_
  refine st (asT rfl) rfl ?_
  refine ng ?_
  refine AW.seq ?_
  refine sr ?_
  refine st (mvT rfl) rfl ?_
  refine st (OpT.lss (H rfl) (T1 rfl) (I rfl)) rfl ?_
  refine ng ?_
  refine cd rfl (fun hc2 => ?_) fun hc2 => ?_
  ·
   replace hc2 := oT hc2
   refine sr ?_
   refine st (asB rfl) rfl ?_
   refine AWl.to (kc3 4 0 1 rfl <| Kn) ?_
   refine ng ?_
   refine AW.ret ?_
   refine rT ?_
   exact rt1 rfl (.inl rfl) rfl
  ·
   replace hc2 := oF hc2
   have k0 := szKS_in x (l := 1048576) (by omega)
   have k1 := k0.2.2 (by omega)
   have htk := szKS_tot (x := x) (l := 1048576) (by omega)
   have hlk := len_totK x
   have htw := wtS_len (q := q) k1
   have hkl := k1.1
   refine AW.skip ?_
   refine AX.go ?_
   refine sr ?_
   refine st (mvT rfl) rfl ?_
   refine st (OpT.c1 (ms := [.flat]) (c_laws_toKnotS x k1) (H rfl) (Af (T1 rfl) rfl rfl <| An) rfl rfl) rfl ?_
   refine st (mvT rfl) rfl ?_
   refine st (OpT.c1 (ms := [.flat]) (c_laws_toInt64S q (by omega)) (H rfl) (Af (T1 rfl) rfl rfl <| An) rfl rfl) rfl ?_
   refine s3 (cN (ms := [.flat, .flat]) (c_spec_WalkTree _ _ k1) (H rfl) (Af (T1 rfl) rfl rfl <| Af (T1 rfl) rfl rfl <| An) rfl (.inl rfl)) rfl ?_
   refine st (OpT.alias (H rfl) (by decide) (by decide)) rfl ?_
   refine st (OpT.extractV (m := 10033) (H rfl) rfl rfl rfl rfl rfl rfl rfl) rfl ?_
   refine st (OpT.extractV (m := 20033) (H rfl) rfl rfl rfl rfl rfl rfl rfl) rfl ?_
   refine st (OpT.extractV (m := 30033) (H rfl) rfl rfl rfl rfl rfl rfl rfl) rfl ?_
   refine st (asT rfl) rfl ?_
   refine st (asT rfl) rfl ?_
   refine st (asT rfl) rfl ?_
   refine AWl.to (kc4 8 7 6 4 rfl <| kc2 0 1 rfl <| Kn) ?_
   refine ng ?_
   refine sr ?_
   refine st (mvT rfl) rfl ?_
   refine st (OpT.c1 (ms := [.flat]) (c_laws_toKnotS_o x k1) (H rfl) (Af (T1 rfl) rfl rfl <| An) rfl rfl) rfl ?_
   refine sg (OpT.take (.inl rfl) rfl (ok' rfl) (Root.self (by decide)) rfl rfl (by decide)) (Kc 9 (.deep _) rfl <| kc4 37 8 7 6 rfl <| kc3 4 0 1 rfl <| Kn) rfl ?_
   refine ng ?_
   refine sr ?_
   refine st (mvT rfl) rfl ?_
   refine st (OpT.c1 (ms := [.flat]) (c_laws_toInt64S_o q (by omega)) (H rfl) (Af (T1 rfl) rfl rfl <| An) rfl rfl) rfl ?_
   refine sg (OpT.take (.inl rfl) rfl (ok' rfl) (Root.self (by decide)) rfl rfl (by decide)) (ko 10 rfl <| kc 39 rfl <| Kc 9 (.deep _) rfl <| kc4 37 8 7 6 rfl <| kc3 4 0 1 rfl <| Kn) rfl ?_
   refine ng ?_
   refine sr ?_
   refine st (OpT.alias (H rfl) (by decide) (by decide)) rfl ?_
   refine st (OpT.alias (H rfl) (by decide) (by decide)) rfl ?_
   refine s3 (cN (ms := [.bor 9, .bor 10]) (c_impl_WalkTree_o _ _ k1) (H rfl) (Abd (Root.ali rfl (by decide) (by decide)) rfl (Bor.rows (Inn.Reads.pair (Inn.Reads.flat _) (Inn.Reads.pair (Inn.Reads.row _ _) (Inn.Reads.pair (Inn.Reads.row _ _) (Inn.Reads.row _ _))))) <| Ab (Root.ali rfl (by decide) (by decide)) rfl <| An) rfl (.inr (ind3 (indO fun _ _ _ _ h => h) (indC fun _ _ _ _ h => h) (indC fun _ _ _ _ h => h)))) rfl ?_
   refine st (OpT.alias (H rfl) (by decide) (by decide)) rfl ?_
   refine sg (OpT.extractVO (m := 10044) (H rfl) rfl rfl rfl rfl rfl rfl) (ko 45 rfl <| Kc 41 (.ali _) rfl <| kc2 20044 30044 rfl <| Kc 43 (.ali _) rfl <| Kc 42 (.ali _) rfl <| ko 10 rfl <| kc 39 rfl <| Kc 9 (.deep _) rfl <| kc4 37 8 7 6 rfl <| kc3 4 0 1 rfl <| Kn) rfl ?_
   refine st (OpT.extractV (m := 20044) (H rfl) rfl rfl rfl rfl rfl rfl rfl) rfl ?_
   refine st (OpT.extractV (m := 30044) (H rfl) rfl rfl rfl rfl rfl rfl rfl) rfl ?_
   refine sg (OpT.take (.inl rfl) rfl (ok' rfl) (Root.self (by decide)) rfl rfl (by decide)) (ko 11 rfl <| kc2 47 46 rfl <| Kc 41 (.ali _) rfl <| kc2 20044 30044 rfl <| Kc 43 (.ali _) rfl <| Kc 42 (.ali _) rfl <| ko 10 rfl <| kc 39 rfl <| Kc 9 (.deep _) rfl <| kc4 37 8 7 6 rfl <| kc3 4 0 1 rfl <| Kn) rfl ?_
   refine st (asT rfl) rfl ?_
   refine st (asT rfl) rfl ?_
   refine ng ?_
   refine AW.seq ?_
   refine sr ?_
   refine st (OpT.alias (H rfl) (by decide) (by decide)) rfl ?_
   refine st (mvT rfl) rfl ?_
   refine st (cb1 (ms := [.bor 11, .flat]) (c_laws_eqInt64S _ _) (H rfl) (Ab (Root.ali rfl (by decide) (by decide)) rfl <| Af (T1 rfl) rfl rfl <| An) rfl (indC fun _ _ _ _ h => h)) rfl ?_
   refine st (OpT.not (H rfl) (T1 rfl)) rfl ?_
   refine st (mvT rfl) rfl ?_
   apply AWl.or (d := 56) (t := 52) rfl
   ·
    intro hb1 Q1 k1
    refine rs hb1 (mvT rfl) rfl ?_
    refine rs hb1 (mvT rfl) rfl ?_
    refine rs hb1 (OpT.neq (H rfl) (T1 rfl) (T1 rfl)) rfl ?_
    refine st (OpT.pickF (A := .cel _ _) (H rfl) (T1 rfl) hb1 (T1 rfl) rfl) rfl ?_
    exact AWl.to (junk 3 rfl) k1
   ·
    intro hb1 Q1 k1
    refine ps hb1 rfl ?_
    refine ps hb1 rfl ?_
    refine ps hb1 rfl ?_
    refine st (OpT.pickT (A := .cel _ _) (H rfl) (T1 rfl) hb1 Opd.bool rfl) rfl ?_
    exact k1
   refine st (mvT rfl) rfl ?_
   apply AWl.or (d := 61) (t := 57) rfl
   ·
    intro hb2 Q1 k1
    refine rs hb2 (mvT rfl) rfl ?_
    refine rs hb2 (mvT rfl) rfl ?_
    refine rs hb2 (OpT.neq (H rfl) (T1 rfl) (T1 rfl)) rfl ?_
    refine st (OpT.pickF (A := .cel _ _) (H rfl) (T1 rfl) hb2 (T1 rfl) rfl) rfl ?_
    exact AWl.to (junk 3 rfl) k1
   ·
    intro hb2 Q1 k1
    refine ps hb2 rfl ?_
    refine ps hb2 rfl ?_
    refine ps hb2 rfl ?_
    refine st (OpT.pickT (A := .cel _ _) (H rfl) (T1 rfl) hb2 Opd.bool rfl) rfl ?_
    exact k1
   refine AWl.to (kc3 61 13 12 rfl <| ko 11 rfl <| ko 10 rfl <| Kc 9 (.deep _) rfl <| kc4 8 7 6 4 rfl <| kc2 0 1 rfl <| Kn) ?_
   refine ng ?_
   refine cd rfl (fun hc3 => ?_) fun hc3 => ?_
   ·
    replace hc3 := oT hc3
    exact (show False from (by first | omega | (simp [eqv_self] at hc3 <;> omega))).elim
   ·
    replace hc3 := oF hc3
    refine AW.skip ?_
    refine AX.go ?_
    refine AW.seq ?_
    refine sr ?_
    refine st (OpT.alias (H rfl) (by decide) (by decide)) rfl ?_
    refine st (mvT rfl) rfl ?_
    refine st (OpT.c1 (ms := [.flat]) (c_laws_toKnotS x k1) (H rfl) (Af (T1 rfl) rfl rfl <| An) rfl rfl) rfl ?_
    refine st (cb1 (ms := [.bor 9, .flat]) (c_laws_eqKnotS _ _) (H rfl) (Abd (Root.ali rfl (by decide) (by decide)) rfl (Bor.rows (Inn.Reads.pair (Inn.Reads.flat _) (Inn.Reads.pair (Inn.Reads.row _ _) (Inn.Reads.pair (Inn.Reads.row _ _) (Inn.Reads.row _ _))))) <| Af (T1 rfl) rfl rfl <| An) rfl (indC fun _ _ _ _ h => h)) rfl ?_
    refine st (OpT.not (H rfl) (T1 rfl)) rfl ?_
    refine ng ?_
    refine cd rfl (fun hc4 => ?_) fun hc4 => ?_
    ·
     replace hc4 := oT hc4
     exact (show False from (by first | omega | (simp [eqv_self] at hc4 <;> omega))).elim
    ·
     replace hc4 := oF hc4
     refine AW.skip ?_
     refine AX.go ?_
     refine AW.seq ?_
     refine sr ?_
     refine st (OpT.alias (H rfl) (by decide) (by decide)) rfl ?_
     refine st (mvT rfl) rfl ?_
     refine st (OpT.c1 (ms := [.flat]) (c_laws_toInt64S q (by omega)) (H rfl) (Af (T1 rfl) rfl rfl <| An) rfl rfl) rfl ?_
     refine st (cb1 (ms := [.bor 10, .flat]) (c_laws_eqInt64S _ _) (H rfl) (Ab (Root.ali rfl (by decide) (by decide)) rfl <| Af (T1 rfl) rfl rfl <| An) rfl (indC fun _ _ _ _ h => h)) rfl ?_
     refine st (OpT.not (H rfl) (T1 rfl)) rfl ?_
     refine ng ?_
     refine cd rfl (fun hc5 => ?_) fun hc5 => ?_
     ·
      replace hc5 := oT hc5
      exact (show False from (by first | omega | (simp [eqv_self] at hc5 <;> omega))).elim
     ·
      replace hc5 := oF hc5
      refine AW.skip ?_
      refine AX.pr (kc2 13 12 rfl <| ko 11 rfl <| ko 10 rfl <| Kc 9 (.deep _) rfl <| kc4 8 7 6 4 rfl <| kc2 0 1 rfl <| Kn) ?_
      refine AX.go ?_
      refine sr ?_
      refine st (asI rfl) rfl ?_
      refine ng ?_
      refine sr ?_
      refine st (OpT.alias (H rfl) (by decide) (by decide)) rfl ?_
      refine st (mvT rfl) rfl ?_
      refine sg (OpT.crn (ms := [.root 9, .flat]) (c_laws_markKnotS _ _ (by omega)) (H rfl) (Ar (O := .any) (Root.ali rfl (by decide) (by decide)) rfl rfl rfl <| Af (T1 rfl) rfl rfl <| An) rfl rfl (.inl rfl) rfl) (kc2 74 73 rfl <| Kc 72 (.ali _) rfl <| kc3 14 13 12 rfl <| ko 11 rfl <| ko 10 rfl <| kc4 8 7 6 4 rfl <| kc2 0 1 rfl <| Kn) rfl ?_
      refine st (asT rfl) rfl ?_
      refine ng ?_
      refine sr ?_
      refine st (OpT.alias (H rfl) (by decide) (by decide)) rfl ?_
      refine st (mvT rfl) rfl ?_
      refine sg (OpT.cr (ms := [.root 10, .flat]) (c_laws_markInt64S _ _ (by omega)) (H rfl) (Ar (Root.ali rfl (by decide) (by decide)) rfl rfl rfl <| Af (T1 rfl) rfl rfl <| An) rfl (.inl rfl) rfl) (kc2 77 76 rfl <| Kc 75 (.ali _) rfl <| kc3 14 74 73 rfl <| Kc 72 (.ali _) rfl <| kc2 13 12 rfl <| ko 11 rfl <| ko 10 rfl <| kc4 8 7 6 4 rfl <| kc2 0 1 rfl <| Kn) rfl ?_
      refine st (asT rfl) rfl ?_
      refine ng ?_
      refine AW.seq ?_
      refine sr ?_
      refine st (mvT rfl) rfl ?_
      refine st (OpT.lss (H rfl) (T1 rfl) (I rfl)) rfl ?_
      refine st (mvT rfl) rfl ?_
      apply AWl.or (d := 85) (t := 80) rfl
      ·
       intro hb3 Q1 k1
       refine rs hb3 (OpT.alias (H rfl) (by decide) (by decide)) rfl ?_
       refine rs hb3 (mvT rfl) rfl ?_
       refine rs hb3 (cb1 (ms := [.bor 11, .flat]) (c_laws_eqInt64S _ _) (H rfl) (Ab (Root.ali rfl (by decide) (by decide)) rfl <| Af (T1 rfl) rfl rfl <| An) rfl (indC fun _ _ _ _ h => h)) rfl ?_
       refine rs hb3 (OpT.not (H rfl) (T1 rfl)) rfl ?_
       refine st (OpT.pickF (A := .cel _ _) (H rfl) (T1 rfl) hb3 (T1 rfl) rfl) rfl ?_
       exact AWl.to (junk 4 rfl) k1
      ·
       intro hb3 Q1 k1
       refine ps hb3 rfl ?_
       refine ps hb3 rfl ?_
       refine ps hb3 rfl ?_
       refine ps hb3 rfl ?_
       refine st (OpT.pickT (A := .cel _ _) (H rfl) (T1 rfl) hb3 Opd.bool rfl) rfl ?_
       exact k1
      refine st (mvT rfl) rfl ?_
      apply AWl.or (d := 90) (t := 86) rfl
      ·
       intro hb4 Q1 k1
       refine rs hb4 (mvT rfl) rfl ?_
       refine rs hb4 (mvT rfl) rfl ?_
       refine rs hb4 (OpT.neq (H rfl) (T1 rfl) (T1 rfl)) rfl ?_
       refine st (OpT.pickF (A := .cel _ _) (H rfl) (T1 rfl) hb4 (T1 rfl) rfl) rfl ?_
       exact AWl.to (junk 3 rfl) k1
      ·
       intro hb4 Q1 k1
       refine ps hb4 rfl ?_
       refine ps hb4 rfl ?_
       refine ps hb4 rfl ?_
       refine st (OpT.pickT (A := .cel _ _) (H rfl) (T1 rfl) hb4 Opd.bool rfl) rfl ?_
       exact k1
      refine st (mvT rfl) rfl ?_
      apply AWl.or (d := 95) (t := 91) rfl
      ·
       intro hb5 Q1 k1
       refine rs hb5 (mvT rfl) rfl ?_
       refine rs hb5 (mvT rfl) rfl ?_
       refine rs hb5 (OpT.neq (H rfl) (T1 rfl) (T1 rfl)) rfl ?_
       refine st (OpT.pickF (A := .cel _ _) (H rfl) (T1 rfl) hb5 (T1 rfl) rfl) rfl ?_
       exact AWl.to (junk 3 rfl) k1
      ·
       intro hb5 Q1 k1
       refine ps hb5 rfl ?_
       refine ps hb5 rfl ?_
       refine ps hb5 rfl ?_
       refine st (OpT.pickT (A := .cel _ _) (H rfl) (T1 rfl) hb5 Opd.bool rfl) rfl ?_
       exact k1
      refine AWl.to (kc 95 rfl <| ko 11 rfl <| kc4 8 7 6 4 rfl <| kc2 0 1 rfl <| Kn) ?_
      refine ng ?_
      refine cd rfl (fun hc6 => ?_) fun hc6 => ?_
      ·
       replace hc6 := oT hc6
       exact (show False from (by first | omega | (simp [eqv_self] at hc6 <;> omega))).elim
      ·
       replace hc6 := oF hc6
       refine AW.skip ?_
       refine AX.go ?_
       refine sr ?_
       refine st (asI rfl) rfl ?_
       refine ng ?_
       refine sr ?_
       refine st (OpT.alias (H rfl) (by decide) (by decide)) rfl ?_
       refine st (mvT rfl) rfl ?_
       refine sg (OpT.cr (ms := [.root 11, .flat]) (c_laws_markInt64S _ _ (by omega)) (H rfl) (Ar (Root.ali rfl (by decide) (by decide)) rfl rfl rfl <| Af (T1 rfl) rfl rfl <| An) rfl (.inl rfl) rfl) (kc2 98 97 rfl <| Kc 96 (.ali _) rfl <| kc2 15 95 rfl <| ko 11 rfl <| kc4 8 7 6 4 rfl <| kc2 0 1 rfl <| Kn) rfl ?_
       refine st (asT rfl) rfl ?_
       refine ng ?_
       refine sr ?_
       refine st (asI rfl) rfl ?_
       refine ng ?_
       refine sr ?_
       refine st (OpT.alias (H rfl) (by decide) (by decide)) rfl ?_
       refine st (mvT rfl) rfl ?_
       refine st (cb1 (ms := [.bor 11, .flat]) (c_laws_heldInt64S (wtS x q).1.length _ (by omega)) (H rfl) (Ab (Root.ali rfl (by decide) (by decide)) rfl <| Af (T1 rfl) rfl rfl <| An) rfl (indC fun _ _ _ _ h => h)) rfl ?_
       refine st (asT rfl) rfl ?_
       refine ng ?_
       refine AW.seq ?_
       refine sr ?_
       refine st (mvT rfl) rfl ?_
       refine st (OpT.lss (H rfl) (T1 rfl) (I rfl)) rfl ?_
       refine ng ?_
       refine cd rfl (fun hc7 => ?_) fun hc7 => ?_
       ·
        replace hc7 := oT hc7
        exact (show False from (by first | omega | (simp [eqv_self] at hc7 <;> omega))).elim
       ·
        replace hc7 := oF hc7
        refine AW.skip ?_
        refine AX.pr (kc2 16 15 rfl <| ko 11 rfl <| kc4 8 7 6 4 rfl <| kc2 0 1 rfl <| Kn) ?_
        refine AX.go ?_
        refine AW.seq ?_
        refine sr ?_
        refine st (mvT rfl) rfl ?_
        refine st (mvT rfl) rfl ?_
        refine st (OpT.neq (H rfl) (T1 rfl) (T1 rfl)) rfl ?_
        refine ng ?_
        refine cd rfl (fun hc8 => ?_) fun hc8 => ?_
        ·
         replace hc8 := oT hc8
         exact (show False from (by first | omega | (simp [eqv_self] at hc8 <;> omega))).elim
        ·
         replace hc8 := oF hc8
         refine AW.skip ?_
         refine AX.go ?_
         refine sr ?_
         refine st (mvT rfl) rfl ?_
         refine st (OpT.c1 (ms := [.flat]) (c_laws_toKnotS x k1) (H rfl) (Af (T1 rfl) rfl rfl <| An) rfl rfl) rfl ?_
         refine st (mvT rfl) rfl ?_
         refine st (OpT.c1 (ms := [.flat]) (c_laws_toInt64S q (by omega)) (H rfl) (Af (T1 rfl) rfl rfl <| An) rfl rfl) rfl ?_
         refine s3 (cN (ms := [.flat, .flat]) (c_impl_WalkTree_o _ _ k1) (H rfl) (Af (T1 rfl) rfl rfl <| Af (T1 rfl) rfl rfl <| An) rfl (.inl rfl)) rfl ?_
         refine st (OpT.alias (H rfl) (by decide) (by decide)) rfl ?_
         refine sg (OpT.extractVO (m := 10112) (H rfl) rfl rfl rfl rfl rfl rfl) (ko 113 rfl <| Kc 107 (.ali _) rfl <| kc4 20112 30112 111 110 rfl <| kc4 109 108 106 105 rfl <| kc3 104 16 15 rfl <| ko 11 rfl <| kc4 8 7 6 4 rfl <| kc2 0 1 rfl <| Kn) rfl ?_
         refine st (OpT.extractV (m := 20112) (H rfl) rfl rfl rfl rfl rfl rfl rfl) rfl ?_
         refine st (OpT.extractV (m := 30112) (H rfl) rfl rfl rfl rfl rfl rfl rfl) rfl ?_
         refine sg (OpT.take (.inl rfl) rfl (ok' rfl) (Root.self (by decide)) rfl rfl (by decide)) (ko 17 rfl <| kc2 115 114 rfl <| Kc 107 (.ali _) rfl <| kc4 20112 30112 111 110 rfl <| kc4 109 108 106 105 rfl <| kc3 104 16 15 rfl <| ko 11 rfl <| kc4 8 7 6 4 rfl <| kc2 0 1 rfl <| Kn) rfl ?_
         refine st (asT rfl) rfl ?_
         refine st (asT rfl) rfl ?_
         refine AWl.to (kc2 19 18 rfl <| ko 17 rfl <| kc2 16 15 rfl <| ko 11 rfl <| kc4 8 7 6 4 rfl <| Kn) ?_
         refine ng ?_
         refine AW.seq ?_
         refine sr ?_
         refine st (OpT.alias (H rfl) (by decide) (by decide)) rfl ?_
         refine st (mvT rfl) rfl ?_
         refine st (cb1 (ms := [.bor 17, .flat]) (c_laws_eqInt64S _ _) (H rfl) (Ab (Root.ali rfl (by decide) (by decide)) rfl <| Af (T1 rfl) rfl rfl <| An) rfl (indC fun _ _ _ _ h => h)) rfl ?_
         refine st (OpT.not (H rfl) (T1 rfl)) rfl ?_
         refine st (mvT rfl) rfl ?_
         apply AWl.or (d := 124) (t := 120) rfl
         ·
          intro hb6 Q1 k1
          refine rs hb6 (mvT rfl) rfl ?_
          refine rs hb6 (mvT rfl) rfl ?_
          refine rs hb6 (OpT.neq (H rfl) (T1 rfl) (T1 rfl)) rfl ?_
          refine st (OpT.pickF (A := .cel _ _) (H rfl) (T1 rfl) hb6 (T1 rfl) rfl) rfl ?_
          exact AWl.to (junk 3 rfl) k1
         ·
          intro hb6 Q1 k1
          refine ps hb6 rfl ?_
          refine ps hb6 rfl ?_
          refine ps hb6 rfl ?_
          refine st (OpT.pickT (A := .cel _ _) (H rfl) (T1 rfl) hb6 Opd.bool rfl) rfl ?_
          exact k1
         refine st (mvT rfl) rfl ?_
         apply AWl.or (d := 129) (t := 125) rfl
         ·
          intro hb7 Q1 k1
          refine rs hb7 (mvT rfl) rfl ?_
          refine rs hb7 (mvT rfl) rfl ?_
          refine rs hb7 (OpT.neq (H rfl) (T1 rfl) (T1 rfl)) rfl ?_
          refine st (OpT.pickF (A := .cel _ _) (H rfl) (T1 rfl) hb7 (T1 rfl) rfl) rfl ?_
          exact AWl.to (junk 3 rfl) k1
         ·
          intro hb7 Q1 k1
          refine ps hb7 rfl ?_
          refine ps hb7 rfl ?_
          refine ps hb7 rfl ?_
          refine st (OpT.pickT (A := .cel _ _) (H rfl) (T1 rfl) hb7 Opd.bool rfl) rfl ?_
          exact k1
         refine AWl.to (kc3 129 16 15 rfl <| ko 11 rfl <| kc 4 rfl <| Kn) ?_
         refine ng ?_
         refine cd rfl (fun hc9 => ?_) fun hc9 => ?_
         ·
          replace hc9 := oT hc9
          exact (show False from (by first | omega | (simp [eqv_self] at hc9 <;> omega))).elim
         ·
          replace hc9 := oF hc9
          refine AW.skip ?_
          refine AX.go ?_
          refine sr ?_
          refine st (asI rfl) rfl ?_
          refine ng ?_
          refine sr ?_
          refine st (OpT.alias (H rfl) (by decide) (by decide)) rfl ?_
          refine st (mvT rfl) rfl ?_
          refine st (cb1 (ms := [.bor 11, .flat]) (c_laws_heldInt64S (wtS x q).1.length _ (by omega)) (H rfl) (Ab (Root.ali rfl (by decide) (by decide)) rfl <| Af (T1 rfl) rfl rfl <| An) rfl (indC fun _ _ _ _ h => h)) rfl ?_
          refine st (asT rfl) rfl ?_
          refine ng ?_
          refine AW.seq ?_
          refine sr ?_
          refine st (mvT rfl) rfl ?_
          refine st (OpT.lss (H rfl) (T1 rfl) (I rfl)) rfl ?_
          refine ng ?_
          refine cd rfl (fun hc10 => ?_) fun hc10 => ?_
          ·
           replace hc10 := oT hc10
           exact (show False from (by first | omega | (simp [eqv_self] at hc10 <;> omega))).elim
          ·
           replace hc10 := oF hc10
           refine AW.skip ?_
           refine AX.go ?_
           refine AW.seq ?_
           refine sr ?_
           refine st (mvT rfl) rfl ?_
           refine st (mvT rfl) rfl ?_
           refine st (OpT.neq (H rfl) (T1 rfl) (T1 rfl)) rfl ?_
           refine AWl.to (kc2 137 4 rfl <| Kn) ?_
           refine ng ?_
           refine cd rfl (fun hc11 => ?_) fun hc11 => ?_
           ·
            replace hc11 := oT hc11
            exact (show False from (by first | omega | (simp [eqv_self] at hc11 <;> omega))).elim
           ·
            replace hc11 := oF hc11
            refine AW.skip ?_
            refine AX.go ?_
            refine sr ?_
            refine st (asB rfl) rfl ?_
            refine ng ?_
            refine AW.ret ?_
            exact rt1 rfl (.inl rfl) rfl
end Go.Proofs.Ytfnkphllkbkfaaa.VL
