/- Proved here: what some functions of the program take and give: walks with the words of VA..VQ. Printed by program. -/
import Derived.Test.YtcaeabgfgofefaaDoorWT
import Derived.Test.YtcaeabgfgofefaaDoorPJ
import Derived.Test.YtcaeabgfgofefaaDoorWK
import Derived.Test.YtcaeabgfgofefaaDoorWA
set_option linter.unusedVariables false
set_option linter.unusedSimpArgs false
set_option maxRecDepth 4000
namespace Go.Proofs.YtcaeabgfgofefaaDoor.VL
open Go
/-- laws.szStringS -/
theorem c_laws_szStringS (x : List ByteArray) (l : Int) (hl : 0 ≤ l ∧ l ≤ 1048576) : AC Tryd.prog 98 [.cel (Kd.slice Kd.str) x, .cel (Kd.int .i64) l] [.cel (Kd.int .i64) (szSS szB x l)] [] := by
  refine ⟨ACall.intro (N := 28) Tryd.func98 (c := _) (rfl : Func.body _ = some _) rfl (Nat.le_of_ble_eq_true rfl) (Nat.le_of_ble_eq_true rfl) rfl (Nat.le_of_ble_eq_true rfl) fun w0 hd s0 ar har => ?_, _, Tryd.func98, rfl, by decide⟩
  refine AW.to (Kc 0 (.cel _ _) rfl <| Kc 1 (.cel _ _) rfl <| Kn) ?_
  refine AW.fact (fun a w hr => (ok_slice (R_ok (t := 0) rfl hr)).2) (fun hl0 => ?_)
  refine AW.fact (fun a w hr => (ok_slice (R_ok (t := 0) rfl hr)).1) (fun hk => ?_)
  refine AW.seq ?_
  refine AW.region ?_
  refine AWl.st rfl (OpT.move (A := .cel _ _) (.inr rfl) rfl (okd rfl rfl) (I rfl) rfl) rfl ?_
  refine AWl.nil ?_
  refine AX.go ?_
  refine AW.seq ?_
  refine AW.region ?_
  refine AWl.st rfl (OpT.move (A := .cel _ _) (.inl rfl) rfl (okd rfl rfl) (Tm rfl rfl rfl) rfl) rfl ?_
  refine AWl.st rfl (OpT.move (A := .cel _ _) (.inl rfl) rfl (okd rfl rfl) (Tm rfl rfl rfl) rfl) rfl ?_
  refine AWl.st rfl (OpT.len rfl rfl (okd rfl rfl) (Tm rfl rfl rfl) el139) rfl ?_
  refine AWl.st rfl (OpT.sub rfl rfl (okd rfl rfl) (Tm rfl rfl rfl) (Tm rfl rfl rfl) (nw (by omega))) rfl ?_
  refine AWl.sg rfl (OpT.move (A := .cel _ _) (.inr rfl) rfl (okd rfl rfl) (Tm rfl rfl rfl) rfl) (Kc 1 (.cel _ _) rfl <| Kc 9 (.cel _ _) rfl <| Kc 8 (.cel _ _) rfl <| Kc 7 (.cel _ _) rfl <| Kc 6 (.cel _ _) rfl <| Kc 4 (.cel _ _) rfl <| Kc 0 (.cel _ _) rfl <| Kn) ?_
  refine AWl.nil ?_
  refine AX.pr (Kc 1 (.cel _ _) rfl <| Kc 4 (.cel _ _) rfl <| Kc 0 (.cel _ _) rfl <| Kn) ?_
  refine AX.go ?_
  refine AW.seq ?_
  refine AW.seq ?_
  refine AW.region ?_
  refine AWl.st rfl (OpT.move (A := .cel _ _) (.inl rfl) rfl (okd rfl rfl) (Tm rfl rfl rfl) rfl) rfl ?_
  refine AWl.st rfl (OpT.lss rfl rfl (okd rfl rfl) (Tm rfl rfl rfl) (I rfl)) rfl ?_
  refine AWl.nil ?_
  refine AX.pr (Kc 11 (.cel _ _) rfl <| Kc 1 (.cel _ _) rfl <| Kc 4 (.cel _ _) rfl <| Kc 0 (.cel _ _) rfl <| Kn) ?_
  refine AX.go ?_
  refine AW.cond (t := 11) rfl (by decide) (fun hc1 => ?_) (fun hc1 => ?_)
  ·
    try simp only [decide_eq_true_eq, decide_eq_false_iff_not, Bool.not_eq_true', Bool.not_eq_false'] at hc1
    refine AW.seq ?_
    refine AW.region ?_
    refine AWl.sg rfl (OpT.move (A := .cel _ _) (.inr rfl) rfl (okd rfl rfl) (I rfl) rfl) (Kc 4 (.cel _ _) rfl <| Kc 11 (.cel _ _) rfl <| Kc 1 (.cel _ _) rfl <| Kc 0 (.cel _ _) rfl <| Kn) ?_
    refine AWl.nil ?_
    refine AX.pr (Kc 4 (.cel _ _) rfl <| Kc 1 (.cel _ _) rfl <| Kc 0 (.cel _ _) rfl <| Kn) ?_
    refine AX.go ?_
    refine AW.ret ?_
    refine AX.ret_then ?_
    exact AX.rt (rs := [.tmp 4]) (ts := [some 4]) (.inl rfl) rfl (ROs.cons (RO.tmp (At.self (by decide)) (Kv rfl (by first | exact (if_pos hc1).symm | exact szs_ne hc1 hI ha (szB_ne hc3) | exact szs_end hc1 hI (by omega))) rfl) <| ROs.nil) (by decide) OutsOK.nil
  ·
    try simp only [decide_eq_true_eq, decide_eq_false_iff_not, Bool.not_eq_true', Bool.not_eq_false'] at hc1
    refine AW.skip ?_
    refine AX.pr (Kc 1 (.cel _ _) rfl <| Kc 4 (.cel _ _) rfl <| Kc 0 (.cel _ _) rfl <| Kn) ?_
    refine AX.go ?_
    refine AW.seq ?_
    refine AW.seq ?_
    refine AW.region ?_
    refine AWl.st rfl (OpT.move (A := .cel _ _) (.inr rfl) rfl (okd rfl rfl) (I rfl) rfl) rfl ?_
    refine AWl.nil ?_
    refine AX.go ?_
    refine AW.block ?_
    refine AW.loop (fun p : Nat × Int => p.1 ≤ x.length ∧ 0 ≤ p.2 ∧ p.2 ≤ 1048576 ∧ szs szB (x.drop p.1) p.2 = szs szB x (l - x.length)) (fun p : Nat × Int => keep [(0, .cel (Kd.slice Kd.str) x), (1, .cel (Kd.int .i64) p.2), (5, .cel (Kd.int .i64) (p.1 : Int))]) (fun p : Nat × Int => x.length - p.1) ((0, l - x.length)) ⟨Nat.zero_le _, by simp only []; omega, by simp only []; omega, rfl⟩ (Kc 0 _ (Kv rfl rfl) <| Kc 1 _ (Kv rfl rfl) <| Kc 5 _ (Kv rfl rfl) <| Kn) ?_
    intro p hI
    refine AW.seq ?_
    refine AW.seq ?_
    refine AW.region ?_
    refine AWl.st rfl (OpT.move (A := .cel _ _) (.inl rfl) rfl (okd rfl rfl) (Tm rfl rfl rfl) rfl) rfl ?_
    refine AWl.st rfl (OpT.move (A := .cel _ _) (.inl rfl) rfl (okd rfl rfl) (Tm rfl rfl rfl) rfl) rfl ?_
    refine AWl.st rfl (OpT.len rfl rfl (okd rfl rfl) (Tm rfl rfl rfl) el139) rfl ?_
    refine AWl.st rfl (OpT.lss rfl rfl (okd rfl rfl) (Tm rfl rfl rfl) (Tm rfl rfl rfl)) rfl ?_
    refine AWl.nil ?_
    refine AX.go ?_
    refine AW.cond (t := 15) rfl (by decide) (fun hc2 => ?_) (fun hc2 => ?_)
    ·
      try simp only [decide_eq_true_eq, decide_eq_false_iff_not, Bool.not_eq_true', Bool.not_eq_false'] at hc2
      obtain ⟨a, ha⟩ := getI (x := x) (z := p.1) (by omega)
      have has := ok_str (hk a (mem_getI ha))
      refine AW.skip ?_
      refine AX.go ?_
      refine AW.seq ?_
      refine AW.block ?_
      refine AW.seq ?_
      refine AW.region ?_
      refine AWl.st rfl (OpT.move (A := .cel _ _) (.inl rfl) rfl (okd rfl rfl) (Tm rfl rfl rfl) rfl) rfl ?_
      refine AWl.st rfl (OpT.move (A := .cel _ _) (.inl rfl) rfl (okd rfl rfl) (Tm rfl rfl rfl) rfl) rfl ?_
      refine AWl.st rfl (OpT.move (A := .cel _ _) (.inl rfl) rfl (okd rfl rfl) (Tm rfl rfl rfl) rfl) rfl ?_
      refine AWl.st rfl (OpT.indexAddr rfl rfl (okd rfl rfl) (Tm rfl rfl rfl) (Tm rfl rfl rfl) el139 sz9 (by omega) (by assumption)) rfl ?_
      refine AWl.st rfl (OpT.load rfl rfl (okd rfl rfl) (Tm rfl rfl rfl) ag9 rfl) rfl ?_
      refine AWl.st rfl (OpT.lenS rfl rfl (okd rfl rfl) (Tm rfl rfl rfl) Tryd.underlying9) rfl ?_
      refine AWl.st rfl (OpT.sub rfl rfl (okd rfl rfl) (Tm rfl rfl rfl) (Tm rfl rfl rfl) (nw (by omega))) rfl ?_
      refine AWl.sg rfl (OpT.move (A := .cel _ _) (.inr rfl) rfl (okd rfl rfl) (Tm rfl rfl rfl) rfl) (Kc 1 (.cel _ _) rfl <| Kc 24 (.cel _ _) rfl <| Kc 23 (.cel _ _) rfl <| Kc 22 (.cel _ _) rfl <| Kc 21 (.cel _ _) rfl <| Kc 20 (.cel _ _) rfl <| Kc 19 (.cel _ _) rfl <| Kc 18 (.cel _ _) rfl <| Kc 15 (.cel _ _) rfl <| Kc 14 (.cel _ _) rfl <| Kc 13 (.cel _ _) rfl <| Kc 12 (.cel _ _) rfl <| Kc 0 (.cel _ _) rfl <| Kc 5 (.cel _ _) rfl <| Kn) ?_
      refine AWl.nil ?_
      refine AX.go ?_
      refine AW.seq ?_
      refine AW.region ?_
      refine AWl.st rfl (OpT.move (A := .cel _ _) (.inl rfl) rfl (okd rfl rfl) (Tm rfl rfl rfl) rfl) rfl ?_
      refine AWl.st rfl (OpT.lss rfl rfl (okd rfl rfl) (Tm rfl rfl rfl) (I rfl)) rfl ?_
      refine AWl.nil ?_
      refine AX.go ?_
      refine AW.cond (t := 26) rfl (by decide) (fun hc3 => ?_) (fun hc3 => ?_)
      ·
        try simp only [decide_eq_true_eq, decide_eq_false_iff_not, Bool.not_eq_true', Bool.not_eq_false'] at hc3
        refine AW.seq ?_
        refine AW.region ?_
        refine AWl.st rfl (OpT.move (A := .cel _ _) (.inr rfl) rfl (okd rfl rfl) (I rfl) rfl) rfl ?_
        refine AWl.nil ?_
        refine AX.go ?_
        refine AW.ret ?_
        refine AX.ret_block ?_
        refine AX.ret_then ?_
        refine AX.ret_then ?_
        refine AX.ret_block ?_
        refine AX.ret_then ?_
        exact AX.rt (rs := [.tmp 4]) (ts := [some 4]) (.inl rfl) rfl (ROs.cons (RO.tmp (At.self (by decide)) (Kv rfl (by first | exact (if_pos hc1).symm | exact szs_ne hc1 hI ha (szB_ne hc3) | exact szs_end hc1 hI (by omega))) rfl) <| ROs.nil) (by decide) OutsOK.nil
      ·
        try simp only [decide_eq_true_eq, decide_eq_false_iff_not, Bool.not_eq_true', Bool.not_eq_false'] at hc3
        refine AW.skip ?_
        refine AX.normal_block ?_
        refine AX.go ?_
        refine AW.region ?_
        refine AWl.st rfl (OpT.move (A := .cel _ _) (.inl rfl) rfl (okd rfl rfl) (Tm rfl rfl rfl) rfl) rfl ?_
        refine AWl.st rfl (OpT.add rfl rfl (okd rfl rfl) (Tm rfl rfl rfl) (I rfl) (nw (by omega))) rfl ?_
        refine AWl.sg rfl (OpT.move (A := .cel _ _) (.inr rfl) rfl (okd rfl rfl) (Tm rfl rfl rfl) rfl) (Kc 5 (.cel _ _) rfl <| Kc 17 (.cel _ _) rfl <| Kc 16 (.cel _ _) rfl <| Kc 26 (.cel _ _) rfl <| Kc 25 (.cel _ _) rfl <| Kc 1 (.cel _ _) rfl <| Kc 24 (.cel _ _) rfl <| Kc 23 (.cel _ _) rfl <| Kc 22 (.cel _ _) rfl <| Kc 21 (.cel _ _) rfl <| Kc 20 (.cel _ _) rfl <| Kc 19 (.cel _ _) rfl <| Kc 18 (.cel _ _) rfl <| Kc 15 (.cel _ _) rfl <| Kc 14 (.cel _ _) rfl <| Kc 13 (.cel _ _) rfl <| Kc 12 (.cel _ _) rfl <| Kc 0 (.cel _ _) rfl <| Kn) ?_
        refine AWl.nil ?_
        exact AX.again ((p.1 + 1, szB a p.2)) (szs_step szB_in hI (by omega) ha (szB_no hc3)) (by simp only []; omega) (Kc 0 _ (Kv rfl rfl) <| Kc 1 _ (Kv rfl (szB_eq hc3)) <| Kc 5 _ (Kv rfl (by simp only []; omega)) <| Kn)
    ·
      try simp only [decide_eq_true_eq, decide_eq_false_iff_not, Bool.not_eq_true', Bool.not_eq_false'] at hc2
      refine AW.exit ?_
      refine AX.exit_then ?_
      refine AX.exit_then ?_
      refine AX.exit_hit ?_
      refine AX.pr (Kc 1 (.cel _ _) rfl <| Kn) ?_
      refine AX.go ?_
      refine AW.seq ?_
      refine AW.region ?_
      refine AWl.st rfl (OpT.move (A := .cel _ _) (.inl rfl) rfl (okd rfl rfl) (Tm rfl rfl rfl) rfl) rfl ?_
      refine AWl.st rfl (OpT.move (A := .cel _ _) (.inr rfl) rfl (okd rfl rfl) (Tm rfl rfl rfl) rfl) rfl ?_
      refine AWl.nil ?_
      refine AX.pr (Kc 4 (.cel _ _) rfl <| Kn) ?_
      refine AX.go ?_
      refine AW.ret ?_
      exact AX.rt (rs := [.tmp 4]) (ts := [some 4]) (.inl rfl) rfl (ROs.cons (RO.tmp (At.self (by decide)) (Kv rfl (by first | exact (if_pos hc1).symm | exact szs_ne hc1 hI ha (szB_ne hc3) | exact szs_end hc1 hI (by omega))) rfl) <| ROs.nil) (by decide) OutsOK.nil

/-- laws.szStringSS -/
theorem c_laws_szStringSS (x : List (List (ByteArray))) (l : Int) (hl : 0 ≤ l ∧ l ≤ 1048576) : AC Tryd.prog 42 [.cel (Kd.slice (Kd.slice Kd.str)) x, .cel (Kd.int .i64) l] [.cel (Kd.int .i64) (szSS (szSS szB) x l)] [] := by
  refine ⟨ACall.intro (N := 27) Tryd.func42 (c := _) (rfl : Func.body _ = some _) rfl (Nat.le_of_ble_eq_true rfl) (Nat.le_of_ble_eq_true rfl) rfl (Nat.le_of_ble_eq_true rfl) fun w0 hd s0 ar har => ?_, _, Tryd.func42, rfl, by decide⟩
  refine AW.to (Kc 0 (.cel _ _) rfl <| Kc 1 (.cel _ _) rfl <| Kn) ?_
  refine AW.fact (fun a w hr => (ok_slice (R_ok (t := 0) rfl hr)).2) (fun hl0 => ?_)
  refine AW.seq ?_
  refine AW.region ?_
  refine AWl.st rfl (OpT.move (A := .cel _ _) (.inr rfl) rfl (okd rfl rfl) (I rfl) rfl) rfl ?_
  refine AWl.nil ?_
  refine AX.go ?_
  refine AW.seq ?_
  refine AW.region ?_
  refine AWl.st rfl (OpT.move (A := .cel _ _) (.inl rfl) rfl (okd rfl rfl) (Tm rfl rfl rfl) rfl) rfl ?_
  refine AWl.st rfl (OpT.move (A := .cel _ _) (.inl rfl) rfl (okd rfl rfl) (Tm rfl rfl rfl) rfl) rfl ?_
  refine AWl.st rfl (OpT.len rfl rfl (okd rfl rfl) (Tm rfl rfl rfl) el78) rfl ?_
  refine AWl.st rfl (OpT.sub rfl rfl (okd rfl rfl) (Tm rfl rfl rfl) (Tm rfl rfl rfl) (nw (by omega))) rfl ?_
  refine AWl.sg rfl (OpT.move (A := .cel _ _) (.inr rfl) rfl (okd rfl rfl) (Tm rfl rfl rfl) rfl) (Kc 1 (.cel _ _) rfl <| Kc 9 (.cel _ _) rfl <| Kc 8 (.cel _ _) rfl <| Kc 7 (.cel _ _) rfl <| Kc 6 (.cel _ _) rfl <| Kc 4 (.cel _ _) rfl <| Kc 0 (.cel _ _) rfl <| Kn) ?_
  refine AWl.nil ?_
  refine AX.pr (Kc 1 (.cel _ _) rfl <| Kc 4 (.cel _ _) rfl <| Kc 0 (.cel _ _) rfl <| Kn) ?_
  refine AX.go ?_
  refine AW.seq ?_
  refine AW.seq ?_
  refine AW.region ?_
  refine AWl.st rfl (OpT.move (A := .cel _ _) (.inl rfl) rfl (okd rfl rfl) (Tm rfl rfl rfl) rfl) rfl ?_
  refine AWl.st rfl (OpT.lss rfl rfl (okd rfl rfl) (Tm rfl rfl rfl) (I rfl)) rfl ?_
  refine AWl.nil ?_
  refine AX.pr (Kc 11 (.cel _ _) rfl <| Kc 1 (.cel _ _) rfl <| Kc 4 (.cel _ _) rfl <| Kc 0 (.cel _ _) rfl <| Kn) ?_
  refine AX.go ?_
  refine AW.cond (t := 11) rfl (by decide) (fun hc1 => ?_) (fun hc1 => ?_)
  ·
    try simp only [decide_eq_true_eq, decide_eq_false_iff_not, Bool.not_eq_true', Bool.not_eq_false'] at hc1
    refine AW.seq ?_
    refine AW.region ?_
    refine AWl.sg rfl (OpT.move (A := .cel _ _) (.inr rfl) rfl (okd rfl rfl) (I rfl) rfl) (Kc 4 (.cel _ _) rfl <| Kc 11 (.cel _ _) rfl <| Kc 1 (.cel _ _) rfl <| Kc 0 (.cel _ _) rfl <| Kn) ?_
    refine AWl.nil ?_
    refine AX.pr (Kc 4 (.cel _ _) rfl <| Kc 1 (.cel _ _) rfl <| Kc 0 (.cel _ _) rfl <| Kn) ?_
    refine AX.go ?_
    refine AW.ret ?_
    refine AX.ret_then ?_
    exact AX.rt (rs := [.tmp 4]) (ts := [some 4]) (.inl rfl) rfl (ROs.cons (RO.tmp (At.self (by decide)) (Kv rfl (by first | exact (if_pos hc1).symm | exact szs_ne hc1 hI ha hc3 | exact szs_end hc1 hI (by omega))) rfl) <| ROs.nil) (by decide) OutsOK.nil
  ·
    try simp only [decide_eq_true_eq, decide_eq_false_iff_not, Bool.not_eq_true', Bool.not_eq_false'] at hc1
    refine AW.skip ?_
    refine AX.pr (Kc 1 (.cel _ _) rfl <| Kc 4 (.cel _ _) rfl <| Kc 0 (.cel _ _) rfl <| Kn) ?_
    refine AX.go ?_
    refine AW.seq ?_
    refine AW.seq ?_
    refine AW.region ?_
    refine AWl.st rfl (OpT.move (A := .cel _ _) (.inr rfl) rfl (okd rfl rfl) (I rfl) rfl) rfl ?_
    refine AWl.nil ?_
    refine AX.go ?_
    refine AW.block ?_
    refine AW.loop (fun p : Nat × Int => p.1 ≤ x.length ∧ 0 ≤ p.2 ∧ p.2 ≤ 1048576 ∧ szs (szSS szB) (x.drop p.1) p.2 = szs (szSS szB) x (l - x.length)) (fun p : Nat × Int => keep [(0, .cel (Kd.slice (Kd.slice Kd.str)) x), (1, .cel (Kd.int .i64) p.2), (5, .cel (Kd.int .i64) (p.1 : Int))]) (fun p : Nat × Int => x.length - p.1) ((0, l - x.length)) ⟨Nat.zero_le _, by simp only []; omega, by simp only []; omega, rfl⟩ (Kc 0 _ (Kv rfl rfl) <| Kc 1 _ (Kv rfl rfl) <| Kc 5 _ (Kv rfl rfl) <| Kn) ?_
    intro p hI
    refine AW.seq ?_
    refine AW.seq ?_
    refine AW.region ?_
    refine AWl.st rfl (OpT.move (A := .cel _ _) (.inl rfl) rfl (okd rfl rfl) (Tm rfl rfl rfl) rfl) rfl ?_
    refine AWl.st rfl (OpT.move (A := .cel _ _) (.inl rfl) rfl (okd rfl rfl) (Tm rfl rfl rfl) rfl) rfl ?_
    refine AWl.st rfl (OpT.len rfl rfl (okd rfl rfl) (Tm rfl rfl rfl) el78) rfl ?_
    refine AWl.st rfl (OpT.lss rfl rfl (okd rfl rfl) (Tm rfl rfl rfl) (Tm rfl rfl rfl)) rfl ?_
    refine AWl.nil ?_
    refine AX.go ?_
    refine AW.cond (t := 15) rfl (by decide) (fun hc2 => ?_) (fun hc2 => ?_)
    ·
      try simp only [decide_eq_true_eq, decide_eq_false_iff_not, Bool.not_eq_true', Bool.not_eq_false'] at hc2
      obtain ⟨a, ha⟩ := getI (x := x) (z := p.1) (by omega)
      refine AW.skip ?_
      refine AX.go ?_
      refine AW.seq ?_
      refine AW.block ?_
      refine AW.seq ?_
      refine AW.region ?_
      refine AWl.st rfl (OpT.move (A := .cel _ _) (.inl rfl) rfl (okd rfl rfl) (Tm rfl rfl rfl) rfl) rfl ?_
      refine AWl.st rfl (OpT.move (A := .cel _ _) (.inl rfl) rfl (okd rfl rfl) (Tm rfl rfl rfl) rfl) rfl ?_
      refine AWl.st rfl (OpT.indexAddr rfl rfl (okd rfl rfl) (Tm rfl rfl rfl) (Tm rfl rfl rfl) el78 sz139 (by omega) (by assumption)) rfl ?_
      refine AWl.st rfl (OpT.load rfl rfl (okd rfl rfl) (Tm rfl rfl rfl) ag139 rfl) rfl ?_
      refine AWl.st rfl (OpT.move (A := .cel _ _) (.inl rfl) rfl (okd rfl rfl) (Tm rfl rfl rfl) rfl) rfl ?_
      refine AWl.st rfl (OpT.c1 (ms := [.flat, .flat]) (c_laws_szStringS _ _ ⟨hI.2.1, hI.2.2.1⟩) rfl rfl (okd rfl rfl) (Af (Tm rfl rfl rfl) rfl rfl <| Af (Tm rfl rfl rfl) rfl rfl <| An) rfl rfl) rfl ?_
      refine AWl.sg rfl (OpT.move (A := .cel _ _) (.inr rfl) rfl (okd rfl rfl) (Tm rfl rfl rfl) rfl) (Kc 1 (.cel _ _) rfl <| Kc 23 (.cel _ _) rfl <| Kc 22 (.cel _ _) rfl <| Kc 21 (.cel _ _) rfl <| Kc 20 (.cel _ _) rfl <| Kc 19 (.cel _ _) rfl <| Kc 18 (.cel _ _) rfl <| Kc 15 (.cel _ _) rfl <| Kc 14 (.cel _ _) rfl <| Kc 13 (.cel _ _) rfl <| Kc 12 (.cel _ _) rfl <| Kc 0 (.cel _ _) rfl <| Kc 5 (.cel _ _) rfl <| Kn) ?_
      refine AWl.nil ?_
      refine AX.go ?_
      refine AW.seq ?_
      refine AW.region ?_
      refine AWl.st rfl (OpT.move (A := .cel _ _) (.inl rfl) rfl (okd rfl rfl) (Tm rfl rfl rfl) rfl) rfl ?_
      refine AWl.st rfl (OpT.lss rfl rfl (okd rfl rfl) (Tm rfl rfl rfl) (I rfl)) rfl ?_
      refine AWl.nil ?_
      refine AX.go ?_
      refine AW.cond (t := 25) rfl (by decide) (fun hc3 => ?_) (fun hc3 => ?_)
      ·
        try simp only [decide_eq_true_eq, decide_eq_false_iff_not, Bool.not_eq_true', Bool.not_eq_false'] at hc3
        refine AW.seq ?_
        refine AW.region ?_
        refine AWl.st rfl (OpT.move (A := .cel _ _) (.inr rfl) rfl (okd rfl rfl) (I rfl) rfl) rfl ?_
        refine AWl.nil ?_
        refine AX.go ?_
        refine AW.ret ?_
        refine AX.ret_block ?_
        refine AX.ret_then ?_
        refine AX.ret_then ?_
        refine AX.ret_block ?_
        refine AX.ret_then ?_
        exact AX.rt (rs := [.tmp 4]) (ts := [some 4]) (.inl rfl) rfl (ROs.cons (RO.tmp (At.self (by decide)) (Kv rfl (by first | exact (if_pos hc1).symm | exact szs_ne hc1 hI ha hc3 | exact szs_end hc1 hI (by omega))) rfl) <| ROs.nil) (by decide) OutsOK.nil
      ·
        try simp only [decide_eq_true_eq, decide_eq_false_iff_not, Bool.not_eq_true', Bool.not_eq_false'] at hc3
        refine AW.skip ?_
        refine AX.normal_block ?_
        refine AX.go ?_
        refine AW.region ?_
        refine AWl.st rfl (OpT.move (A := .cel _ _) (.inl rfl) rfl (okd rfl rfl) (Tm rfl rfl rfl) rfl) rfl ?_
        refine AWl.st rfl (OpT.add rfl rfl (okd rfl rfl) (Tm rfl rfl rfl) (I rfl) (nw (by omega))) rfl ?_
        refine AWl.sg rfl (OpT.move (A := .cel _ _) (.inr rfl) rfl (okd rfl rfl) (Tm rfl rfl rfl) rfl) (Kc 5 (.cel _ _) rfl <| Kc 17 (.cel _ _) rfl <| Kc 16 (.cel _ _) rfl <| Kc 25 (.cel _ _) rfl <| Kc 24 (.cel _ _) rfl <| Kc 1 (.cel _ _) rfl <| Kc 23 (.cel _ _) rfl <| Kc 22 (.cel _ _) rfl <| Kc 21 (.cel _ _) rfl <| Kc 20 (.cel _ _) rfl <| Kc 19 (.cel _ _) rfl <| Kc 18 (.cel _ _) rfl <| Kc 15 (.cel _ _) rfl <| Kc 14 (.cel _ _) rfl <| Kc 13 (.cel _ _) rfl <| Kc 12 (.cel _ _) rfl <| Kc 0 (.cel _ _) rfl <| Kn) ?_
        refine AWl.nil ?_
        exact AX.again ((p.1 + 1, (szSS szB) a p.2)) (szs_step (okSz_list szB_in) hI (by omega) ha hc3) (by simp only []; omega) (Kc 0 _ (Kv rfl rfl) <| Kc 1 _ (Kv rfl rfl) <| Kc 5 _ (Kv rfl (by simp only []; omega)) <| Kn)
    ·
      try simp only [decide_eq_true_eq, decide_eq_false_iff_not, Bool.not_eq_true', Bool.not_eq_false'] at hc2
      refine AW.exit ?_
      refine AX.exit_then ?_
      refine AX.exit_then ?_
      refine AX.exit_hit ?_
      refine AX.pr (Kc 1 (.cel _ _) rfl <| Kn) ?_
      refine AX.go ?_
      refine AW.seq ?_
      refine AW.region ?_
      refine AWl.st rfl (OpT.move (A := .cel _ _) (.inl rfl) rfl (okd rfl rfl) (Tm rfl rfl rfl) rfl) rfl ?_
      refine AWl.st rfl (OpT.move (A := .cel _ _) (.inr rfl) rfl (okd rfl rfl) (Tm rfl rfl rfl) rfl) rfl ?_
      refine AWl.nil ?_
      refine AX.pr (Kc 4 (.cel _ _) rfl <| Kn) ?_
      refine AX.go ?_
      refine AW.ret ?_
      exact AX.rt (rs := [.tmp 4]) (ts := [some 4]) (.inl rfl) rfl (ROs.cons (RO.tmp (At.self (by decide)) (Kv rfl (by first | exact (if_pos hc1).symm | exact szs_ne hc1 hI ha hc3 | exact szs_end hc1 hI (by omega))) rfl) <| ROs.nil) (by decide) OutsOK.nil

/-- laws.toStringS -/
theorem c_laws_toStringS (x : List (ByteArray)) (hn : x.length ≤ 1099511627776) : AC Tryd.prog 103 [.cel (Kd.slice Kd.str) x] [.cel (Kd.slice Kd.str) x] [] := by
  refine ⟨ACall.intro (N := 22) Tryd.func103 (c := _) (rfl : Func.body _ = some _) rfl (Nat.le_of_ble_eq_true rfl) (Nat.le_of_ble_eq_true rfl) rfl (Nat.le_of_ble_eq_true rfl) fun w0 hd s0 ar har => ?_, _, Tryd.func103, rfl, by decide⟩
  refine AW.to (Kc 0 (.cel _ _) rfl <| Kn) ?_
  refine AW.seq ?_
  refine AW.region ?_
  refine AWl.st rfl (OpT.move (A := .cel _ _) (.inr rfl) rfl (okd rfl rfl) (Opd.nilslice Kd.str) rfl) rfl ?_
  refine AWl.nil ?_
  refine AX.go ?_
  refine AW.seq ?_
  refine AW.region ?_
  refine AWl.st rfl (OpT.move (A := .cel _ _) (.inl rfl) rfl (okd rfl rfl) (Tm rfl rfl rfl) rfl) rfl ?_
  refine AWl.st rfl (OpT.len rfl rfl (okd rfl rfl) (Tm rfl rfl rfl) el139) rfl ?_
  refine AWl.st rfl (OpT.make rfl rfl (okd rfl rfl) (Tm rfl rfl rfl) (Tm rfl rfl rfl) el139 zr9 sz9 by9 (by decide) zk9 (by omega) (by omega)) rfl ?_
  refine AWl.sg rfl (OpT.take (.inl rfl) rfl (okd rfl rfl) (Root.self (by decide)) rfl rfl (by decide)) (Kc 3 (.own _ _ _) rfl <| Kc 6 (.cel _ _) rfl <| Kc 5 (.cel _ _) rfl <| Kc 2 (.cel _ _) rfl <| Kc 0 (.cel _ _) rfl <| Kn) ?_
  refine AWl.nil ?_
  refine AX.pr (Kc 3 (.own _ _ _) rfl <| Kc 2 (.cel _ _) rfl <| Kc 0 (.cel _ _) rfl <| Kn) ?_
  refine AX.go ?_
  refine AW.seq ?_
  refine AW.seq ?_
  refine AW.region ?_
  refine AWl.st rfl (OpT.move (A := .cel _ _) (.inr rfl) rfl (okd rfl rfl) (I rfl) rfl) rfl ?_
  refine AWl.nil ?_
  refine AX.go ?_
  refine AW.block ?_
  refine AW.loop (fun z : Nat => z ≤ x.length) (fun z : Nat => keep [(0, .cel (Kd.slice Kd.str) x), (3, .own 9 Kd.str (cpy x z (.empty))), (4, .cel (Kd.int .i64) (z : Int))]) (fun z : Nat => x.length - z) (0) (by omega) (Kc 0 _ (Kv rfl rfl) <| Kc 3 _ (Ko rfl rfl) <| Kc 4 _ (Kv rfl rfl) <| Kn) ?_
  intro z hI
  refine AW.seq ?_
  refine AW.seq ?_
  refine AW.region ?_
  refine AWl.st rfl (OpT.move (A := .cel _ _) (.inl rfl) rfl (okd rfl rfl) (Tm rfl rfl rfl) rfl) rfl ?_
  refine AWl.st rfl (OpT.move (A := .cel _ _) (.inl rfl) rfl (okd rfl rfl) (Tm rfl rfl rfl) rfl) rfl ?_
  refine AWl.st rfl (OpT.len rfl rfl (okd rfl rfl) (Tm rfl rfl rfl) el139) rfl ?_
  refine AWl.st rfl (OpT.lss rfl rfl (okd rfl rfl) (Tm rfl rfl rfl) (Tm rfl rfl rfl)) rfl ?_
  refine AWl.nil ?_
  refine AX.go ?_
  refine AW.cond (t := 11) rfl (by decide) (fun hc1 => ?_) (fun hc1 => ?_)
  ·
    try simp only [decide_eq_true_eq, decide_eq_false_iff_not, Bool.not_eq_true', Bool.not_eq_false'] at hc1
    obtain ⟨a, ha⟩ := getI (x := x) (z := z) (by omega); have hd := cpy_get (x := x) (z := z) (d := (.empty : ByteArray)) (by omega)
    refine AW.skip ?_
    refine AX.go ?_
    refine AW.seq ?_
    refine AW.block ?_
    refine AW.region ?_
    refine AWl.st rfl (OpT.alias rfl rfl (okd rfl rfl) (by decide) (by decide)) rfl ?_
    refine AWl.st rfl (OpT.move (A := .cel _ _) (.inl rfl) rfl (okd rfl rfl) (Tm rfl rfl rfl) rfl) rfl ?_
    refine AWl.st rfl (OpT.move (A := .cel _ _) (.inl rfl) rfl (okd rfl rfl) (Tm rfl rfl rfl) rfl) rfl ?_
    refine AWl.st rfl (OpT.move (A := .cel _ _) (.inl rfl) rfl (okd rfl rfl) (Tm rfl rfl rfl) rfl) rfl ?_
    refine AWl.st rfl (OpT.indexAddr rfl rfl (okd rfl rfl) (Tm rfl rfl rfl) (Tm rfl rfl rfl) el139 sz9 (by omega) (by assumption)) rfl ?_
    refine AWl.st rfl (OpT.load rfl rfl (okd rfl rfl) (Tm rfl rfl rfl) ag9 rfl) rfl ?_
    refine AWl.st rfl (OpT.indexAddrO rfl rfl (okd rfl rfl) (Root.ali rfl (by decide) (by decide)) rfl (by decide) (Tm rfl rfl rfl) el139 sz9 (by omega) (by assumption)) rfl ?_
    refine AWl.sg rfl (OpT.storeO rfl rfl (Tm rfl rfl rfl) rfl (by assumption) sz9 rfl (Tm rfl rfl rfl)) (Kc 20 (.pel _ _ _ _ _ _ _) rfl <| Kc 19 (.cel _ _) rfl <| Kc 18 (.cel _ _) rfl <| Kc 17 (.cel _ _) rfl <| Kc 16 (.cel _ _) rfl <| Kc 15 (.cel _ _) rfl <| Kc 14 (.ali _) rfl <| Kc 11 (.cel _ _) rfl <| Kc 10 (.cel _ _) rfl <| Kc 9 (.cel _ _) rfl <| Kc 8 (.cel _ _) rfl <| Kc 0 (.cel _ _) rfl <| Kc 3 (.own _ _ _) rfl <| Kc 4 (.cel _ _) rfl <| Kn) ?_
    refine AWl.nil ?_
    refine AX.normal_block ?_
    refine AX.go ?_
    refine AW.region ?_
    refine AWl.st rfl (OpT.move (A := .cel _ _) (.inl rfl) rfl (okd rfl rfl) (Tm rfl rfl rfl) rfl) rfl ?_
    refine AWl.st rfl (OpT.add rfl rfl (okd rfl rfl) (Tm rfl rfl rfl) (I rfl) (nw (by omega))) rfl ?_
    refine AWl.sg rfl (OpT.move (A := .cel _ _) (.inr rfl) rfl (okd rfl rfl) (Tm rfl rfl rfl) rfl) (Kc 4 (.cel _ _) rfl <| Kc 13 (.cel _ _) rfl <| Kc 12 (.cel _ _) rfl <| Kc 20 (.pel _ _ _ _ _ _ _) rfl <| Kc 19 (.cel _ _) rfl <| Kc 18 (.cel _ _) rfl <| Kc 17 (.cel _ _) rfl <| Kc 16 (.cel _ _) rfl <| Kc 15 (.cel _ _) rfl <| Kc 14 (.ali _) rfl <| Kc 11 (.cel _ _) rfl <| Kc 10 (.cel _ _) rfl <| Kc 9 (.cel _ _) rfl <| Kc 8 (.cel _ _) rfl <| Kc 0 (.cel _ _) rfl <| Kc 3 (.own _ _ _) rfl <| Kn) ?_
    refine AWl.nil ?_
    exact AX.again (z + 1) (by omega) (by omega) (Kc 0 _ (Kv rfl rfl) <| Kc 3 _ (Ko rfl (cpy_step ha)) <| Kc 4 _ (Kv rfl (by omega)) <| Kn)
  ·
    try simp only [decide_eq_true_eq, decide_eq_false_iff_not, Bool.not_eq_true', Bool.not_eq_false'] at hc1
    refine AW.exit ?_
    refine AX.freeze (t := 3) rfl ?_
    refine AX.pr (Kc 11 (.cel _ _) rfl <| Kc 10 (.cel _ _) rfl <| Kc 9 (.cel _ _) rfl <| Kc 8 (.cel _ _) rfl <| Kc 0 (.cel _ _) rfl <| Kc 3 (.cel _ _) rfl <| Kc 4 (.cel _ _) rfl <| Kn) ?_
    refine AX.exit_then ?_
    refine AX.exit_then ?_
    refine AX.exit_hit ?_
    refine AX.pr (Kc 3 (.cel _ _) rfl <| Kn) ?_
    refine AX.go ?_
    refine AW.seq ?_
    refine AW.region ?_
    refine AWl.st rfl (OpT.move (A := .cel _ _) (.inl rfl) rfl (okd rfl rfl) (Tm rfl rfl rfl) rfl) rfl ?_
    refine AWl.st rfl (OpT.move (A := .cel _ _) (.inr rfl) rfl (okd rfl rfl) (Tm rfl rfl rfl) rfl) rfl ?_
    refine AWl.nil ?_
    refine AX.pr (Kc 2 (.cel _ _) rfl <| Kn) ?_
    refine AX.go ?_
    refine AW.ret ?_
    exact AX.rt (rs := [.tmp 2]) (ts := [some 2]) (.inl rfl) rfl (ROs.cons (RO.tmp (At.self (by decide)) (Kv rfl (cpy_end (by omega))) rfl) <| ROs.nil) (by decide) OutsOK.nil

/-- laws.toStringSS -/
theorem c_laws_toStringSS (x : List (List ByteArray)) (hn : x.length ≤ 1048576 ∧ ∀ k ∈ x, k.length ≤ 1048576) : AC Tryd.prog 45 [.cel (Kd.slice (Kd.slice Kd.str)) x] [.cel (Kd.slice (Kd.slice Kd.str)) x] [] := by
  refine ⟨ACall.intro (N := 23) Tryd.func45 (c := _) (rfl : Func.body _ = some _) rfl (Nat.le_of_ble_eq_true rfl) (Nat.le_of_ble_eq_true rfl) rfl (Nat.le_of_ble_eq_true rfl) fun w0 hd s0 ar har => ?_, _, Tryd.func45, rfl, by decide⟩
  refine AW.to (Kc 0 (.cel _ _) rfl <| Kn) ?_
  have hn1 := hn.1
  refine AW.seq ?_
  refine AW.region ?_
  refine AWl.st rfl (OpT.move (A := .cel _ _) (.inr rfl) rfl (okd rfl rfl) (Opd.nilslice (Kd.slice Kd.str)) rfl) rfl ?_
  refine AWl.nil ?_
  refine AX.go ?_
  refine AW.seq ?_
  refine AW.region ?_
  refine AWl.st rfl (OpT.move (A := .cel _ _) (.inl rfl) rfl (okd rfl rfl) (Tm rfl rfl rfl) rfl) rfl ?_
  refine AWl.st rfl (OpT.len rfl rfl (okd rfl rfl) (Tm rfl rfl rfl) el78) rfl ?_
  refine AWl.st rfl (OpT.make rfl rfl (okd rfl rfl) (Tm rfl rfl rfl) (Tm rfl rfl rfl) el78 zr139 sz139 by139 (by decide) zk139 (by omega) (by omega)) rfl ?_
  refine AWl.sg rfl (OpT.take (.inl rfl) rfl (okd rfl rfl) (Root.self (by decide)) rfl rfl (by decide)) (Kc 3 (.own _ _ _) rfl <| Kc 6 (.cel _ _) rfl <| Kc 5 (.cel _ _) rfl <| Kc 2 (.cel _ _) rfl <| Kc 0 (.cel _ _) rfl <| Kn) ?_
  refine AWl.nil ?_
  refine AX.pr (Kc 3 (.own _ _ _) rfl <| Kc 2 (.cel _ _) rfl <| Kc 0 (.cel _ _) rfl <| Kn) ?_
  refine AX.go ?_
  refine AW.seq ?_
  refine AW.seq ?_
  refine AW.region ?_
  refine AWl.st rfl (OpT.move (A := .cel _ _) (.inr rfl) rfl (okd rfl rfl) (I rfl) rfl) rfl ?_
  refine AWl.nil ?_
  refine AX.go ?_
  refine AW.block ?_
  refine AW.loop (fun z : Nat => z ≤ x.length) (fun z : Nat => keep [(0, .cel (Kd.slice (Kd.slice Kd.str)) x), (3, .own 139 (Kd.slice Kd.str) (cpy x z ([]))), (4, .cel (Kd.int .i64) (z : Int))]) (fun z : Nat => x.length - z) (0) (by omega) (Kc 0 _ (Kv rfl rfl) <| Kc 3 _ (Ko rfl rfl) <| Kc 4 _ (Kv rfl rfl) <| Kn) ?_
  intro z hI
  refine AW.seq ?_
  refine AW.seq ?_
  refine AW.region ?_
  refine AWl.st rfl (OpT.move (A := .cel _ _) (.inl rfl) rfl (okd rfl rfl) (Tm rfl rfl rfl) rfl) rfl ?_
  refine AWl.st rfl (OpT.move (A := .cel _ _) (.inl rfl) rfl (okd rfl rfl) (Tm rfl rfl rfl) rfl) rfl ?_
  refine AWl.st rfl (OpT.len rfl rfl (okd rfl rfl) (Tm rfl rfl rfl) el78) rfl ?_
  refine AWl.st rfl (OpT.lss rfl rfl (okd rfl rfl) (Tm rfl rfl rfl) (Tm rfl rfl rfl)) rfl ?_
  refine AWl.nil ?_
  refine AX.go ?_
  refine AW.cond (t := 11) rfl (by decide) (fun hc1 => ?_) (fun hc1 => ?_)
  ·
    try simp only [decide_eq_true_eq, decide_eq_false_iff_not, Bool.not_eq_true', Bool.not_eq_false'] at hc1
    obtain ⟨a, ha⟩ := getI (x := x) (z := z) (by omega); have hd := cpy_get (x := x) (z := z) (d := ([] : List (ByteArray))) (by omega)
    refine AW.skip ?_
    refine AX.go ?_
    refine AW.seq ?_
    refine AW.block ?_
    refine AW.region ?_
    refine AWl.st rfl (OpT.alias rfl rfl (okd rfl rfl) (by decide) (by decide)) rfl ?_
    refine AWl.st rfl (OpT.move (A := .cel _ _) (.inl rfl) rfl (okd rfl rfl) (Tm rfl rfl rfl) rfl) rfl ?_
    refine AWl.st rfl (OpT.move (A := .cel _ _) (.inl rfl) rfl (okd rfl rfl) (Tm rfl rfl rfl) rfl) rfl ?_
    refine AWl.st rfl (OpT.move (A := .cel _ _) (.inl rfl) rfl (okd rfl rfl) (Tm rfl rfl rfl) rfl) rfl ?_
    refine AWl.st rfl (OpT.indexAddr rfl rfl (okd rfl rfl) (Tm rfl rfl rfl) (Tm rfl rfl rfl) el78 sz139 (by omega) (by assumption)) rfl ?_
    refine AWl.st rfl (OpT.load rfl rfl (okd rfl rfl) (Tm rfl rfl rfl) ag139 rfl) rfl ?_
    refine AWl.st rfl (OpT.c1 (ms := [.flat]) (c_laws_toStringS _ (by have := hn.2 _ (mem_getI ha); omega)) rfl rfl (okd rfl rfl) (Af (Tm rfl rfl rfl) rfl rfl <| An) rfl rfl) rfl ?_
    refine AWl.st rfl (OpT.indexAddrO rfl rfl (okd rfl rfl) (Root.ali rfl (by decide) (by decide)) rfl (by decide) (Tm rfl rfl rfl) el78 sz139 (by omega) (by assumption)) rfl ?_
    refine AWl.sg rfl (OpT.storeO rfl rfl (Tm rfl rfl rfl) rfl (by assumption) sz139 rfl (Tm rfl rfl rfl)) (Kc 21 (.pel _ _ _ _ _ _ _) rfl <| Kc 20 (.cel _ _) rfl <| Kc 19 (.cel _ _) rfl <| Kc 18 (.cel _ _) rfl <| Kc 17 (.cel _ _) rfl <| Kc 16 (.cel _ _) rfl <| Kc 15 (.cel _ _) rfl <| Kc 14 (.ali _) rfl <| Kc 11 (.cel _ _) rfl <| Kc 10 (.cel _ _) rfl <| Kc 9 (.cel _ _) rfl <| Kc 8 (.cel _ _) rfl <| Kc 0 (.cel _ _) rfl <| Kc 3 (.own _ _ _) rfl <| Kc 4 (.cel _ _) rfl <| Kn) ?_
    refine AWl.nil ?_
    refine AX.normal_block ?_
    refine AX.go ?_
    refine AW.region ?_
    refine AWl.st rfl (OpT.move (A := .cel _ _) (.inl rfl) rfl (okd rfl rfl) (Tm rfl rfl rfl) rfl) rfl ?_
    refine AWl.st rfl (OpT.add rfl rfl (okd rfl rfl) (Tm rfl rfl rfl) (I rfl) (nw (by omega))) rfl ?_
    refine AWl.sg rfl (OpT.move (A := .cel _ _) (.inr rfl) rfl (okd rfl rfl) (Tm rfl rfl rfl) rfl) (Kc 4 (.cel _ _) rfl <| Kc 13 (.cel _ _) rfl <| Kc 12 (.cel _ _) rfl <| Kc 21 (.pel _ _ _ _ _ _ _) rfl <| Kc 20 (.cel _ _) rfl <| Kc 19 (.cel _ _) rfl <| Kc 18 (.cel _ _) rfl <| Kc 17 (.cel _ _) rfl <| Kc 16 (.cel _ _) rfl <| Kc 15 (.cel _ _) rfl <| Kc 14 (.ali _) rfl <| Kc 11 (.cel _ _) rfl <| Kc 10 (.cel _ _) rfl <| Kc 9 (.cel _ _) rfl <| Kc 8 (.cel _ _) rfl <| Kc 0 (.cel _ _) rfl <| Kc 3 (.own _ _ _) rfl <| Kn) ?_
    refine AWl.nil ?_
    exact AX.again (z + 1) (by omega) (by omega) (Kc 0 _ (Kv rfl rfl) <| Kc 3 _ (Ko rfl (cpy_step ha)) <| Kc 4 _ (Kv rfl (by omega)) <| Kn)
  ·
    try simp only [decide_eq_true_eq, decide_eq_false_iff_not, Bool.not_eq_true', Bool.not_eq_false'] at hc1
    refine AW.exit ?_
    refine AX.freeze (t := 3) rfl ?_
    refine AX.pr (Kc 11 (.cel _ _) rfl <| Kc 10 (.cel _ _) rfl <| Kc 9 (.cel _ _) rfl <| Kc 8 (.cel _ _) rfl <| Kc 0 (.cel _ _) rfl <| Kc 3 (.cel _ _) rfl <| Kc 4 (.cel _ _) rfl <| Kn) ?_
    refine AX.exit_then ?_
    refine AX.exit_then ?_
    refine AX.exit_hit ?_
    refine AX.pr (Kc 3 (.cel _ _) rfl <| Kn) ?_
    refine AX.go ?_
    refine AW.seq ?_
    refine AW.region ?_
    refine AWl.st rfl (OpT.move (A := .cel _ _) (.inl rfl) rfl (okd rfl rfl) (Tm rfl rfl rfl) rfl) rfl ?_
    refine AWl.st rfl (OpT.move (A := .cel _ _) (.inr rfl) rfl (okd rfl rfl) (Tm rfl rfl rfl) rfl) rfl ?_
    refine AWl.nil ?_
    refine AX.pr (Kc 2 (.cel _ _) rfl <| Kn) ?_
    refine AX.go ?_
    refine AW.ret ?_
    exact AX.rt (rs := [.tmp 2]) (ts := [some 2]) (.inl rfl) rfl (ROs.cons (RO.tmp (At.self (by decide)) (Kv rfl (cpy_end (by omega))) rfl) <| ROs.nil) (by decide) OutsOK.nil

/-- laws.eqStringS -/
theorem c_laws_eqStringS (x y : List (ByteArray)) : AC Tryd.prog 107 [.cel (Kd.slice Kd.str) x, .cel (Kd.slice Kd.str) y] [.cel Kd.bool (eqv x y)] [] := by
  refine ⟨ACall.intro (N := 26) Tryd.func107 (c := _) (rfl : Func.body _ = some _) rfl (Nat.le_of_ble_eq_true rfl) (Nat.le_of_ble_eq_true rfl) rfl (Nat.le_of_ble_eq_true rfl) fun w0 hd s0 ar har => ?_, _, Tryd.func107, rfl, by decide⟩
  refine AW.to (Kc 0 (.cel _ _) rfl <| Kc 1 (.cel _ _) rfl <| Kn) ?_
  refine AW.fact (fun a w hr => (ok_slice (R_ok (t := 0) rfl hr)).2) (fun hl0 => ?_)
  refine AW.fact (fun a w hr => (ok_slice (R_ok (t := 1) rfl hr)).2) (fun hl1 => ?_)
  refine AW.seq ?_
  refine AW.region ?_
  refine AWl.st rfl (OpT.move (A := .cel _ _) (.inr rfl) rfl (okd rfl rfl) Opd.bool rfl) rfl ?_
  refine AWl.nil ?_
  refine AX.go ?_
  refine AW.seq ?_
  refine AW.seq ?_
  refine AW.region ?_
  refine AWl.st rfl (OpT.move (A := .cel _ _) (.inl rfl) rfl (okd rfl rfl) (Tm rfl rfl rfl) rfl) rfl ?_
  refine AWl.st rfl (OpT.len rfl rfl (okd rfl rfl) (Tm rfl rfl rfl) el139) rfl ?_
  refine AWl.st rfl (OpT.move (A := .cel _ _) (.inl rfl) rfl (okd rfl rfl) (Tm rfl rfl rfl) rfl) rfl ?_
  refine AWl.st rfl (OpT.len rfl rfl (okd rfl rfl) (Tm rfl rfl rfl) el139) rfl ?_
  refine AWl.st rfl (OpT.neq rfl rfl (okd rfl rfl) (Tm rfl rfl rfl) (Tm rfl rfl rfl)) rfl ?_
  refine AWl.nil ?_
  refine AX.pr (Kc 10 (.cel _ _) rfl <| Kc 4 (.cel _ _) rfl <| Kc 0 (.cel _ _) rfl <| Kc 1 (.cel _ _) rfl <| Kn) ?_
  refine AX.go ?_
  refine AW.cond (t := 10) rfl (by decide) (fun hc1 => ?_) (fun hc1 => ?_)
  ·
    try simp only [decide_eq_true_eq, decide_eq_false_iff_not, Bool.not_eq_true', Bool.not_eq_false'] at hc1
    try simp only [bne_iff_ne, ne_eq, bne_eq_false_iff_eq] at hc1
    refine AW.seq ?_
    refine AW.region ?_
    refine AWl.sg rfl (OpT.move (A := .cel _ _) (.inr rfl) rfl (okd rfl rfl) Opd.bool rfl) (Kc 4 (.cel _ _) rfl <| Kc 10 (.cel _ _) rfl <| Kc 0 (.cel _ _) rfl <| Kc 1 (.cel _ _) rfl <| Kn) ?_
    refine AWl.nil ?_
    refine AX.pr (Kc 4 (.cel _ _) rfl <| Kc 0 (.cel _ _) rfl <| Kc 1 (.cel _ _) rfl <| Kn) ?_
    refine AX.go ?_
    refine AW.ret ?_
    refine AX.ret_then ?_
    exact AX.rt (rs := [.tmp 4]) (ts := [some 4]) (.inl rfl) rfl (ROs.cons (RO.tmp (At.self (by decide)) (Kv rfl (by first | exact eqs_len (by omega) | exact eqs_ne ha hb (by simpa [eqv_iff, eqv_false_iff] using hc3) | exact eqs_all hI.2 (by omega) (by omega))) rfl) <| ROs.nil) (by decide) OutsOK.nil
  ·
    try simp only [decide_eq_true_eq, decide_eq_false_iff_not, Bool.not_eq_true', Bool.not_eq_false'] at hc1
    try simp only [bne_iff_ne, ne_eq, bne_eq_false_iff_eq] at hc1
    refine AW.skip ?_
    refine AX.pr (Kc 4 (.cel _ _) rfl <| Kc 0 (.cel _ _) rfl <| Kc 1 (.cel _ _) rfl <| Kn) ?_
    refine AX.go ?_
    refine AW.seq ?_
    refine AW.seq ?_
    refine AW.region ?_
    refine AWl.st rfl (OpT.move (A := .cel _ _) (.inr rfl) rfl (okd rfl rfl) (I rfl) rfl) rfl ?_
    refine AWl.nil ?_
    refine AX.go ?_
    refine AW.block ?_
    refine AW.loop (fun z : Nat => z ≤ x.length ∧ x.take z = y.take z) (fun z : Nat => keep [(0, .cel (Kd.slice Kd.str) x), (1, .cel (Kd.slice Kd.str) y), (5, .cel (Kd.int .i64) (z : Int))]) (fun z : Nat => x.length - z) (0) ⟨Nat.zero_le _, rfl⟩ (Kc 0 _ (Kv rfl rfl) <| Kc 1 _ (Kv rfl rfl) <| Kc 5 _ (Kv rfl rfl) <| Kn) ?_
    intro z hI
    refine AW.seq ?_
    refine AW.seq ?_
    refine AW.region ?_
    refine AWl.st rfl (OpT.move (A := .cel _ _) (.inl rfl) rfl (okd rfl rfl) (Tm rfl rfl rfl) rfl) rfl ?_
    refine AWl.st rfl (OpT.move (A := .cel _ _) (.inl rfl) rfl (okd rfl rfl) (Tm rfl rfl rfl) rfl) rfl ?_
    refine AWl.st rfl (OpT.len rfl rfl (okd rfl rfl) (Tm rfl rfl rfl) el139) rfl ?_
    refine AWl.st rfl (OpT.lss rfl rfl (okd rfl rfl) (Tm rfl rfl rfl) (Tm rfl rfl rfl)) rfl ?_
    refine AWl.nil ?_
    refine AX.go ?_
    refine AW.cond (t := 14) rfl (by decide) (fun hc2 => ?_) (fun hc2 => ?_)
    ·
      try simp only [decide_eq_true_eq, decide_eq_false_iff_not, Bool.not_eq_true', Bool.not_eq_false'] at hc2
      obtain ⟨a, ha⟩ := getI (x := x) (z := z) (by omega); obtain ⟨b, hb⟩ := getI (x := y) (z := z) (by omega)
      refine AW.skip ?_
      refine AX.go ?_
      refine AW.seq ?_
      refine AW.block ?_
      refine AW.seq ?_
      refine AW.dg fomo ?_
      refine DG.fr (d := 17) [0] (DS rfl fun ve h => OpT.move (A := .cel _ _) (.inl rfl) rfl (okd rfl rfl) (D h rfl rfl rfl rfl) rfl) rfl rfl ?_
      refine DG.fr (d := 18) [5] (DS rfl fun ve h => OpT.move (A := .cel _ _) (.inl rfl) rfl (okd rfl rfl) (D h rfl rfl rfl rfl) rfl) rfl rfl ?_
      refine DG.fr (d := 19) [17, 18] (DS rfl fun ve h => OpT.indexAddr rfl rfl (okd rfl rfl) (D h rfl rfl rfl rfl) (D h rfl rfl rfl rfl) el139 sz9 (by omega) (by assumption)) rfl rfl ?_
      refine DG.fr (d := 20) [19] (DS rfl fun ve h => OpT.load rfl rfl (okd rfl rfl) (D h rfl rfl rfl rfl) ag9 rfl) rfl rfl ?_
      refine DG.fr (d := 21) [1] (DS rfl fun ve h => OpT.move (A := .cel _ _) (.inl rfl) rfl (okd rfl rfl) (D h rfl rfl rfl rfl) rfl) rfl rfl ?_
      refine DG.fr (d := 22) [5] (DS rfl fun ve h => OpT.move (A := .cel _ _) (.inl rfl) rfl (okd rfl rfl) (D h rfl rfl rfl rfl) rfl) rfl rfl ?_
      refine DG.fr (d := 23) [21, 22] (DS rfl fun ve h => OpT.indexAddr rfl rfl (okd rfl rfl) (D h rfl rfl rfl rfl) (D h rfl rfl rfl rfl) el139 sz9 (by omega) (by assumption)) rfl rfl ?_
      refine DG.fr (d := 24) [23] (DS rfl fun ve h => OpT.load rfl rfl (okd rfl rfl) (D h rfl rfl rfl rfl) ag9 rfl) rfl rfl ?_
      refine DG.fr (d := 25) [20, 24] (DS rfl fun ve h => OpT.snev rfl rfl (okd rfl rfl) (D h rfl rfl rfl rfl) (D h rfl rfl rfl rfl)) rfl rfl ?_
      refine DG.nil ⟨by kernel_rfl, by kernel_rfl, ?_⟩
      refine AX.go ?_
      refine AW.cond (t := 25) rfl (by decide) (fun hc3 => ?_) (fun hc3 => ?_)
      ·
        try simp only [decide_eq_true_eq, decide_eq_false_iff_not, Bool.not_eq_true', Bool.not_eq_false'] at hc3
        refine AW.seq ?_
        refine AW.region ?_
        refine AWl.st rfl (OpT.move (A := .cel _ _) (.inr rfl) rfl (okd rfl rfl) Opd.bool rfl) rfl ?_
        refine AWl.nil ?_
        refine AX.go ?_
        refine AW.ret ?_
        refine AX.ret_block ?_
        refine AX.ret_then ?_
        refine AX.ret_then ?_
        refine AX.ret_block ?_
        refine AX.ret_then ?_
        exact AX.rt (rs := [.tmp 4]) (ts := [some 4]) (.inl rfl) rfl (ROs.cons (RO.tmp (At.self (by decide)) (Kv rfl (by first | exact eqs_len (by omega) | exact eqs_ne ha hb (by simpa [eqv_iff, eqv_false_iff] using hc3) | exact eqs_all hI.2 (by omega) (by omega))) rfl) <| ROs.nil) (by decide) OutsOK.nil
      ·
        try simp only [decide_eq_true_eq, decide_eq_false_iff_not, Bool.not_eq_true', Bool.not_eq_false'] at hc3
        refine AW.skip ?_
        refine AX.normal_block ?_
        refine AX.go ?_
        refine AW.region ?_
        refine AWl.st rfl (OpT.move (A := .cel _ _) (.inl rfl) rfl (okd rfl rfl) (Tm rfl rfl rfl) rfl) rfl ?_
        refine AWl.st rfl (OpT.add rfl rfl (okd rfl rfl) (Tm rfl rfl rfl) (I rfl) (nw (by omega))) rfl ?_
        refine AWl.sg rfl (OpT.move (A := .cel _ _) (.inr rfl) rfl (okd rfl rfl) (Tm rfl rfl rfl) rfl) (Kc 5 (.cel _ _) rfl <| Kc 16 (.cel _ _) rfl <| Kc 15 (.cel _ _) rfl <| Kc 25 (.cel _ _) rfl <| Kc 24 (.cel _ _) rfl <| Kc 23 (.cel _ _) rfl <| Kc 22 (.cel _ _) rfl <| Kc 21 (.cel _ _) rfl <| Kc 20 (.cel _ _) rfl <| Kc 19 (.cel _ _) rfl <| Kc 18 (.cel _ _) rfl <| Kc 17 (.cel _ _) rfl <| Kc 14 (.cel _ _) rfl <| Kc 13 (.cel _ _) rfl <| Kc 12 (.cel _ _) rfl <| Kc 11 (.cel _ _) rfl <| Kc 0 (.cel _ _) rfl <| Kc 1 (.cel _ _) rfl <| Kn) ?_
        refine AWl.nil ?_
        exact AX.again (z + 1) ⟨by omega, eqs_step hI.2 ha hb (by simpa [eqv_iff, eqv_false_iff] using hc3)⟩ (by omega) (Kc 0 _ (Kv rfl rfl) <| Kc 1 _ (Kv rfl rfl) <| Kc 5 _ (Kv rfl (by omega)) <| Kn)
    ·
      try simp only [decide_eq_true_eq, decide_eq_false_iff_not, Bool.not_eq_true', Bool.not_eq_false'] at hc2
      refine AW.exit ?_
      refine AX.exit_then ?_
      refine AX.exit_then ?_
      refine AX.exit_hit ?_
      refine AX.pr (Kn) ?_
      refine AX.go ?_
      refine AW.seq ?_
      refine AW.region ?_
      refine AWl.st rfl (OpT.move (A := .cel _ _) (.inr rfl) rfl (okd rfl rfl) Opd.bool rfl) rfl ?_
      refine AWl.nil ?_
      refine AX.go ?_
      refine AW.ret ?_
      exact AX.rt (rs := [.tmp 4]) (ts := [some 4]) (.inl rfl) rfl (ROs.cons (RO.tmp (At.self (by decide)) (Kv rfl (by first | exact eqs_len (by omega) | exact eqs_ne ha hb (by simpa [eqv_iff, eqv_false_iff] using hc3) | exact eqs_all hI.2 (by omega) (by omega))) rfl) <| ROs.nil) (by decide) OutsOK.nil

/-- laws.eqStringSS -/
theorem c_laws_eqStringSS (x y : List (List (ByteArray))) : AC Tryd.prog 47 [.cel (Kd.slice (Kd.slice Kd.str)) x, .cel (Kd.slice (Kd.slice Kd.str)) y] [.cel Kd.bool (eqv x y)] [] := by
  refine ⟨ACall.intro (N := 27) Tryd.func47 (c := _) (rfl : Func.body _ = some _) rfl (Nat.le_of_ble_eq_true rfl) (Nat.le_of_ble_eq_true rfl) rfl (Nat.le_of_ble_eq_true rfl) fun w0 hd s0 ar har => ?_, _, Tryd.func47, rfl, by decide⟩
  refine AW.to (Kc 0 (.cel _ _) rfl <| Kc 1 (.cel _ _) rfl <| Kn) ?_
  refine AW.fact (fun a w hr => (ok_slice (R_ok (t := 0) rfl hr)).2) (fun hl0 => ?_)
  refine AW.fact (fun a w hr => (ok_slice (R_ok (t := 1) rfl hr)).2) (fun hl1 => ?_)
  refine AW.seq ?_
  refine AW.region ?_
  refine AWl.st rfl (OpT.move (A := .cel _ _) (.inr rfl) rfl (okd rfl rfl) Opd.bool rfl) rfl ?_
  refine AWl.nil ?_
  refine AX.go ?_
  refine AW.seq ?_
  refine AW.seq ?_
  refine AW.region ?_
  refine AWl.st rfl (OpT.move (A := .cel _ _) (.inl rfl) rfl (okd rfl rfl) (Tm rfl rfl rfl) rfl) rfl ?_
  refine AWl.st rfl (OpT.len rfl rfl (okd rfl rfl) (Tm rfl rfl rfl) el78) rfl ?_
  refine AWl.st rfl (OpT.move (A := .cel _ _) (.inl rfl) rfl (okd rfl rfl) (Tm rfl rfl rfl) rfl) rfl ?_
  refine AWl.st rfl (OpT.len rfl rfl (okd rfl rfl) (Tm rfl rfl rfl) el78) rfl ?_
  refine AWl.st rfl (OpT.neq rfl rfl (okd rfl rfl) (Tm rfl rfl rfl) (Tm rfl rfl rfl)) rfl ?_
  refine AWl.nil ?_
  refine AX.pr (Kc 10 (.cel _ _) rfl <| Kc 4 (.cel _ _) rfl <| Kc 0 (.cel _ _) rfl <| Kc 1 (.cel _ _) rfl <| Kn) ?_
  refine AX.go ?_
  refine AW.cond (t := 10) rfl (by decide) (fun hc1 => ?_) (fun hc1 => ?_)
  ·
    try simp only [decide_eq_true_eq, decide_eq_false_iff_not, Bool.not_eq_true', Bool.not_eq_false'] at hc1
    try simp only [bne_iff_ne, ne_eq, bne_eq_false_iff_eq] at hc1
    refine AW.seq ?_
    refine AW.region ?_
    refine AWl.sg rfl (OpT.move (A := .cel _ _) (.inr rfl) rfl (okd rfl rfl) Opd.bool rfl) (Kc 4 (.cel _ _) rfl <| Kc 10 (.cel _ _) rfl <| Kc 0 (.cel _ _) rfl <| Kc 1 (.cel _ _) rfl <| Kn) ?_
    refine AWl.nil ?_
    refine AX.pr (Kc 4 (.cel _ _) rfl <| Kc 0 (.cel _ _) rfl <| Kc 1 (.cel _ _) rfl <| Kn) ?_
    refine AX.go ?_
    refine AW.ret ?_
    refine AX.ret_then ?_
    exact AX.rt (rs := [.tmp 4]) (ts := [some 4]) (.inl rfl) rfl (ROs.cons (RO.tmp (At.self (by decide)) (Kv rfl (by first | exact eqs_len (by omega) | exact eqs_ne ha hb (by simpa [eqv_iff, eqv_false_iff] using hc3) | exact eqs_all hI.2 (by omega) (by omega))) rfl) <| ROs.nil) (by decide) OutsOK.nil
  ·
    try simp only [decide_eq_true_eq, decide_eq_false_iff_not, Bool.not_eq_true', Bool.not_eq_false'] at hc1
    try simp only [bne_iff_ne, ne_eq, bne_eq_false_iff_eq] at hc1
    refine AW.skip ?_
    refine AX.pr (Kc 4 (.cel _ _) rfl <| Kc 0 (.cel _ _) rfl <| Kc 1 (.cel _ _) rfl <| Kn) ?_
    refine AX.go ?_
    refine AW.seq ?_
    refine AW.seq ?_
    refine AW.region ?_
    refine AWl.st rfl (OpT.move (A := .cel _ _) (.inr rfl) rfl (okd rfl rfl) (I rfl) rfl) rfl ?_
    refine AWl.nil ?_
    refine AX.go ?_
    refine AW.block ?_
    refine AW.loop (fun z : Nat => z ≤ x.length ∧ x.take z = y.take z) (fun z : Nat => keep [(0, .cel (Kd.slice (Kd.slice Kd.str)) x), (1, .cel (Kd.slice (Kd.slice Kd.str)) y), (5, .cel (Kd.int .i64) (z : Int))]) (fun z : Nat => x.length - z) (0) ⟨Nat.zero_le _, rfl⟩ (Kc 0 _ (Kv rfl rfl) <| Kc 1 _ (Kv rfl rfl) <| Kc 5 _ (Kv rfl rfl) <| Kn) ?_
    intro z hI
    refine AW.seq ?_
    refine AW.seq ?_
    refine AW.region ?_
    refine AWl.st rfl (OpT.move (A := .cel _ _) (.inl rfl) rfl (okd rfl rfl) (Tm rfl rfl rfl) rfl) rfl ?_
    refine AWl.st rfl (OpT.move (A := .cel _ _) (.inl rfl) rfl (okd rfl rfl) (Tm rfl rfl rfl) rfl) rfl ?_
    refine AWl.st rfl (OpT.len rfl rfl (okd rfl rfl) (Tm rfl rfl rfl) el78) rfl ?_
    refine AWl.st rfl (OpT.lss rfl rfl (okd rfl rfl) (Tm rfl rfl rfl) (Tm rfl rfl rfl)) rfl ?_
    refine AWl.nil ?_
    refine AX.go ?_
    refine AW.cond (t := 14) rfl (by decide) (fun hc2 => ?_) (fun hc2 => ?_)
    ·
      try simp only [decide_eq_true_eq, decide_eq_false_iff_not, Bool.not_eq_true', Bool.not_eq_false'] at hc2
      obtain ⟨a, ha⟩ := getI (x := x) (z := z) (by omega); obtain ⟨b, hb⟩ := getI (x := y) (z := z) (by omega)
      refine AW.skip ?_
      refine AX.go ?_
      refine AW.seq ?_
      refine AW.block ?_
      refine AW.seq ?_
      refine AW.dg fomo ?_
      refine DG.fr (d := 17) [0] (DS rfl fun ve h => OpT.move (A := .cel _ _) (.inl rfl) rfl (okd rfl rfl) (D h rfl rfl rfl rfl) rfl) rfl rfl ?_
      refine DG.fr (d := 18) [5] (DS rfl fun ve h => OpT.move (A := .cel _ _) (.inl rfl) rfl (okd rfl rfl) (D h rfl rfl rfl rfl) rfl) rfl rfl ?_
      refine DG.fr (d := 19) [17, 18] (DS rfl fun ve h => OpT.indexAddr rfl rfl (okd rfl rfl) (D h rfl rfl rfl rfl) (D h rfl rfl rfl rfl) el78 sz139 (by omega) (by assumption)) rfl rfl ?_
      refine DG.fr (d := 20) [19] (DS rfl fun ve h => OpT.load rfl rfl (okd rfl rfl) (D h rfl rfl rfl rfl) ag139 rfl) rfl rfl ?_
      refine DG.fr (d := 21) [1] (DS rfl fun ve h => OpT.move (A := .cel _ _) (.inl rfl) rfl (okd rfl rfl) (D h rfl rfl rfl rfl) rfl) rfl rfl ?_
      refine DG.fr (d := 22) [5] (DS rfl fun ve h => OpT.move (A := .cel _ _) (.inl rfl) rfl (okd rfl rfl) (D h rfl rfl rfl rfl) rfl) rfl rfl ?_
      refine DG.fr (d := 23) [21, 22] (DS rfl fun ve h => OpT.indexAddr rfl rfl (okd rfl rfl) (D h rfl rfl rfl rfl) (D h rfl rfl rfl rfl) el78 sz139 (by omega) (by assumption)) rfl rfl ?_
      refine DG.fr (d := 24) [23] (DS rfl fun ve h => OpT.load rfl rfl (okd rfl rfl) (D h rfl rfl rfl rfl) ag139 rfl) rfl rfl ?_
      refine DG.fr (d := 25) [20, 24] (DS rfl fun ve h => OpT.c1 (ms := [.flat, .flat]) (c_laws_eqStringS _ _) rfl rfl (okd rfl rfl) (Af (D h rfl rfl rfl rfl) rfl rfl <| Af (D h rfl rfl rfl rfl) rfl rfl <| An) rfl rfl) rfl rfl ?_
      refine DG.fr (d := 26) [25] (DS rfl fun ve h => OpT.not rfl rfl (okd rfl rfl) (D h rfl rfl rfl rfl)) rfl rfl ?_
      refine DG.nil ⟨by kernel_rfl, by kernel_rfl, ?_⟩
      refine AX.go ?_
      refine AW.cond (t := 26) rfl (by decide) (fun hc3 => ?_) (fun hc3 => ?_)
      ·
        try simp only [decide_eq_true_eq, decide_eq_false_iff_not, Bool.not_eq_true', Bool.not_eq_false'] at hc3
        refine AW.seq ?_
        refine AW.region ?_
        refine AWl.st rfl (OpT.move (A := .cel _ _) (.inr rfl) rfl (okd rfl rfl) Opd.bool rfl) rfl ?_
        refine AWl.nil ?_
        refine AX.go ?_
        refine AW.ret ?_
        refine AX.ret_block ?_
        refine AX.ret_then ?_
        refine AX.ret_then ?_
        refine AX.ret_block ?_
        refine AX.ret_then ?_
        exact AX.rt (rs := [.tmp 4]) (ts := [some 4]) (.inl rfl) rfl (ROs.cons (RO.tmp (At.self (by decide)) (Kv rfl (by first | exact eqs_len (by omega) | exact eqs_ne ha hb (by simpa [eqv_iff, eqv_false_iff] using hc3) | exact eqs_all hI.2 (by omega) (by omega))) rfl) <| ROs.nil) (by decide) OutsOK.nil
      ·
        try simp only [decide_eq_true_eq, decide_eq_false_iff_not, Bool.not_eq_true', Bool.not_eq_false'] at hc3
        refine AW.skip ?_
        refine AX.normal_block ?_
        refine AX.go ?_
        refine AW.region ?_
        refine AWl.st rfl (OpT.move (A := .cel _ _) (.inl rfl) rfl (okd rfl rfl) (Tm rfl rfl rfl) rfl) rfl ?_
        refine AWl.st rfl (OpT.add rfl rfl (okd rfl rfl) (Tm rfl rfl rfl) (I rfl) (nw (by omega))) rfl ?_
        refine AWl.sg rfl (OpT.move (A := .cel _ _) (.inr rfl) rfl (okd rfl rfl) (Tm rfl rfl rfl) rfl) (Kc 5 (.cel _ _) rfl <| Kc 16 (.cel _ _) rfl <| Kc 15 (.cel _ _) rfl <| Kc 26 (.cel _ _) rfl <| Kc 25 (.cel _ _) rfl <| Kc 24 (.cel _ _) rfl <| Kc 23 (.cel _ _) rfl <| Kc 22 (.cel _ _) rfl <| Kc 21 (.cel _ _) rfl <| Kc 20 (.cel _ _) rfl <| Kc 19 (.cel _ _) rfl <| Kc 18 (.cel _ _) rfl <| Kc 17 (.cel _ _) rfl <| Kc 14 (.cel _ _) rfl <| Kc 13 (.cel _ _) rfl <| Kc 12 (.cel _ _) rfl <| Kc 11 (.cel _ _) rfl <| Kc 0 (.cel _ _) rfl <| Kc 1 (.cel _ _) rfl <| Kn) ?_
        refine AWl.nil ?_
        exact AX.again (z + 1) ⟨by omega, eqs_step hI.2 ha hb (by simpa [eqv_iff, eqv_false_iff] using hc3)⟩ (by omega) (Kc 0 _ (Kv rfl rfl) <| Kc 1 _ (Kv rfl rfl) <| Kc 5 _ (Kv rfl (by omega)) <| Kn)
    ·
      try simp only [decide_eq_true_eq, decide_eq_false_iff_not, Bool.not_eq_true', Bool.not_eq_false'] at hc2
      refine AW.exit ?_
      refine AX.exit_then ?_
      refine AX.exit_then ?_
      refine AX.exit_hit ?_
      refine AX.pr (Kn) ?_
      refine AX.go ?_
      refine AW.seq ?_
      refine AW.region ?_
      refine AWl.st rfl (OpT.move (A := .cel _ _) (.inr rfl) rfl (okd rfl rfl) Opd.bool rfl) rfl ?_
      refine AWl.nil ?_
      refine AX.go ?_
      refine AW.ret ?_
      exact AX.rt (rs := [.tmp 4]) (ts := [some 4]) (.inl rfl) rfl (ROs.cons (RO.tmp (At.self (by decide)) (Kv rfl (by first | exact eqs_len (by omega) | exact eqs_ne ha hb (by simpa [eqv_iff, eqv_false_iff] using hc3) | exact eqs_all hI.2 (by omega) (by omega))) rfl) <| ROs.nil) (by decide) OutsOK.nil

/-- spec.l03Word -/
theorem c_spec_l03Word (s : ByteArray) : AC Tryd.prog 168 [.cel Kd.str s] [.cel Kd.bool (tt (nameOK s))] [] := by
  refine ⟨ACall.intro (N := 27) Tryd.func168 (c := _) (rfl : Func.body _ = some _) rfl (Nat.le_of_ble_eq_true rfl) (Nat.le_of_ble_eq_true rfl) rfl (Nat.le_of_ble_eq_true rfl) fun w0 hd s0 ar har => ?_, _, Tryd.func168, rfl, by decide⟩
  refine AW.to (Kc 0 (.cel _ _) rfl <| Kn) ?_
  refine AW.fact (fun a w hr => ok_str (R_ok (t := 0) rfl hr)) (fun hs0 => ?_)
  refine AW.seq ?_
  refine AW.region ?_
  refine AWl.st rfl (OpT.move (A := .cel _ _) (.inr rfl) rfl (okd rfl rfl) Opd.bool rfl) rfl ?_
  refine AWl.nil ?_
  refine AX.go ?_
  refine AW.seq ?_
  refine AW.seq ?_
  refine AW.region ?_
  refine AWl.st rfl (OpT.move (A := .cel _ _) (.inr rfl) rfl (okd rfl rfl) (I rfl) rfl) rfl ?_
  refine AWl.nil ?_
  refine AX.go ?_
  refine AW.block ?_
  refine AW.loop (fun z : Nat => z ≤ s.size ∧ ∀ i, i < z → lowI s i) (fun z : Nat => keep [(0, .cel Kd.str s), (3, .cel (Kd.int .i64) (z : Int))]) (fun z : Nat => s.size - z) (0) ⟨Nat.zero_le _, all_none⟩ (Kc 0 _ (Kv rfl rfl) <| Kc 3 _ (Kv rfl rfl) <| Kn) ?_
  intro z hI
  refine AW.seq ?_
  refine AW.seq ?_
  refine AW.region ?_
  refine AWl.st rfl (OpT.move (A := .cel _ _) (.inl rfl) rfl (okd rfl rfl) (Tm rfl rfl rfl) rfl) rfl ?_
  refine AWl.st rfl (OpT.move (A := .cel _ _) (.inl rfl) rfl (okd rfl rfl) (Tm rfl rfl rfl) rfl) rfl ?_
  refine AWl.st rfl (OpT.lenS rfl rfl (okd rfl rfl) (Tm rfl rfl rfl) Tryd.underlying9) rfl ?_
  refine AWl.st rfl (OpT.lss rfl rfl (okd rfl rfl) (Tm rfl rfl rfl) (Tm rfl rfl rfl)) rfl ?_
  refine AWl.nil ?_
  refine AX.go ?_
  refine AW.cond (t := 7) rfl (by decide) (fun hc1 => ?_) (fun hc1 => ?_)
  ·
    try simp only [decide_eq_true_eq, decide_eq_false_iff_not, Bool.not_eq_true', Bool.not_eq_false'] at hc1
    have hc1' := hc1; try simp only [decide_eq_true_eq, decide_eq_false_iff_not, beq_iff_eq, beq_eq_false_iff_ne, bne_iff_ne, bne_eq_false_iff_eq, ne_eq, Bool.not_eq_true', Bool.not_eq_false', Bool.and_eq_true, Bool.or_eq_true, Bool.or_eq_false_iff, Bool.and_eq_false_iff, Bool.not_true, Bool.not_false] at hc1'
    obtain ⟨b, hb⟩ := byteI (s := s) (z := z) (by omega); have hbl := b.toNat_lt
    refine AW.skip ?_
    refine AX.go ?_
    refine AW.seq ?_
    refine AW.block ?_
    refine AW.seq ?_
    refine AW.region ?_
    refine AWl.st rfl (OpT.move (A := .cel _ _) (.inl rfl) rfl (okd rfl rfl) (Tm rfl rfl rfl) rfl) rfl ?_
    refine AWl.st rfl (OpT.move (A := .cel _ _) (.inl rfl) rfl (okd rfl rfl) (Tm rfl rfl rfl) rfl) rfl ?_
    refine AWl.st rfl (OpT.indexS rfl rfl (okd rfl rfl) (Tm rfl rfl rfl) (Tm rfl rfl rfl) Tryd.underlying9 (by omega) (by assumption)) rfl ?_
    refine AWl.st rfl (OpT.lss rfl rfl (okd rfl rfl) (Tm rfl rfl rfl) (I rfl)) rfl ?_
    refine AWl.st rfl (OpT.move (A := .cel _ _) (.inl rfl) rfl (okd rfl rfl) (Tm rfl rfl rfl) rfl) rfl ?_
    apply AWl.or (d := 19) (t := 14) rfl
    · intro hb1 Q1 k1
      have hb1' := hb1; try simp only [decide_eq_true_eq, decide_eq_false_iff_not, beq_iff_eq, beq_eq_false_iff_ne, bne_iff_ne, bne_eq_false_iff_eq, ne_eq, Bool.not_eq_true', Bool.not_eq_false', Bool.and_eq_true, Bool.or_eq_true, Bool.or_eq_false_iff, Bool.and_eq_false_iff, Bool.not_true, Bool.not_false] at hb1'
      refine AWl.rs rfl rfl rfl rfl hb1 (OpT.move (A := .cel _ _) (.inl rfl) rfl (okd rfl rfl) (Tm rfl rfl rfl) rfl) rfl ?_
      refine AWl.rs rfl rfl rfl rfl hb1 (OpT.move (A := .cel _ _) (.inl rfl) rfl (okd rfl rfl) (Tm rfl rfl rfl) rfl) rfl ?_
      refine AWl.rs rfl rfl rfl rfl hb1 (OpT.indexS rfl rfl (okd rfl rfl) (Tm rfl rfl rfl) (Tm rfl rfl rfl) Tryd.underlying9 (by omega) (by assumption)) rfl ?_
      refine AWl.rs rfl rfl rfl rfl hb1 (OpT.gtr rfl rfl (okd rfl rfl) (Tm rfl rfl rfl) (I rfl)) rfl ?_
      refine AWl.st rfl (OpT.pickF (A := .cel _ _) rfl rfl (okd rfl rfl) (Tm rfl rfl rfl) hb1 (Tm rfl rfl rfl) rfl) rfl ?_
      exact AWl.to (junk 4 rfl) k1
    · intro hb1 Q1 k1
      refine AWl.pas rfl rfl rfl rfl hb1 rfl (okd rfl rfl) rfl ?_
      refine AWl.pas rfl rfl rfl rfl hb1 rfl (okd rfl rfl) rfl ?_
      refine AWl.pas rfl rfl rfl rfl hb1 rfl (okd rfl rfl) rfl ?_
      refine AWl.pas rfl rfl rfl rfl hb1 rfl (okd rfl rfl) rfl ?_
      refine AWl.st rfl (OpT.pickT (A := .cel _ _) rfl rfl (okd rfl rfl) (Tm rfl rfl rfl) hb1 Opd.bool rfl) rfl ?_
      exact k1
    refine AWl.nil ?_
    refine AX.go ?_
    refine AW.cond (t := 19) rfl (by decide) (fun hc2 => ?_) (fun hc2 => ?_)
    ·
      try simp only [decide_eq_true_eq, decide_eq_false_iff_not, Bool.not_eq_true', Bool.not_eq_false'] at hc2
      have hc2' := hc2; try simp only [decide_eq_true_eq, decide_eq_false_iff_not, beq_iff_eq, beq_eq_false_iff_ne, bne_iff_ne, bne_eq_false_iff_eq, ne_eq, Bool.not_eq_true', Bool.not_eq_false', Bool.and_eq_true, Bool.or_eq_true, Bool.or_eq_false_iff, Bool.and_eq_false_iff, Bool.not_true, Bool.not_false] at hc2'
      refine AW.seq ?_
      refine AW.region ?_
      refine AWl.st rfl (OpT.move (A := .cel _ _) (.inr rfl) rfl (okd rfl rfl) Opd.bool rfl) rfl ?_
      refine AWl.nil ?_
      refine AX.go ?_
      refine AW.ret ?_
      refine AX.ret_block ?_
      refine AX.ret_then ?_
      refine AX.ret_then ?_
      refine AX.ret_block ?_
      refine AX.ret_then ?_
      exact AX.rt (rs := [.tmp 2]) (ts := [some 2]) (.inl rfl) rfl (ROs.cons (RO.tmp (At.self (by decide)) (Kv rfl (by first | exact name_no (z := z) (by omega) (mt (lowI_iff hb).1 (by omega)) | exact word_end hI.2 (by omega))) rfl) <| ROs.nil) (by decide) OutsOK.nil
    ·
      try simp only [decide_eq_true_eq, decide_eq_false_iff_not, Bool.not_eq_true', Bool.not_eq_false'] at hc2
      have hc2' := hc2; try simp only [decide_eq_true_eq, decide_eq_false_iff_not, beq_iff_eq, beq_eq_false_iff_ne, bne_iff_ne, bne_eq_false_iff_eq, ne_eq, Bool.not_eq_true', Bool.not_eq_false', Bool.and_eq_true, Bool.or_eq_true, Bool.or_eq_false_iff, Bool.and_eq_false_iff, Bool.not_true, Bool.not_false] at hc2'
      refine AW.skip ?_
      refine AX.normal_block ?_
      refine AX.go ?_
      refine AW.region ?_
      refine AWl.st rfl (OpT.move (A := .cel _ _) (.inl rfl) rfl (okd rfl rfl) (Tm rfl rfl rfl) rfl) rfl ?_
      refine AWl.st rfl (OpT.add rfl rfl (okd rfl rfl) (Tm rfl rfl rfl) (I rfl) (nw (by omega))) rfl ?_
      refine AWl.sg rfl (OpT.move (A := .cel _ _) (.inr rfl) rfl (okd rfl rfl) (Tm rfl rfl rfl) rfl) (Kc 3 (.cel _ _) rfl <| Kc 9 (.cel _ _) rfl <| Kc 8 (.cel _ _) rfl <| Kc 19 (.cel _ _) rfl <| Kc 14 (.cel _ _) rfl <| Kc 13 (.cel _ _) rfl <| Kc 12 (.cel _ _) rfl <| Kc 11 (.cel _ _) rfl <| Kc 10 (.cel _ _) rfl <| Kc 7 (.cel _ _) rfl <| Kc 6 (.cel _ _) rfl <| Kc 5 (.cel _ _) rfl <| Kc 4 (.cel _ _) rfl <| Kc 0 (.cel _ _) rfl <| Kn) ?_
      refine AWl.nil ?_
      exact AX.again (z + 1) ⟨by omega, all_step hI.2 ((lowI_iff hb).2 (by omega))⟩ (by omega) (Kc 0 _ (Kv rfl rfl) <| Kc 3 _ (Kv rfl (by omega)) <| Kn)
  ·
    try simp only [decide_eq_true_eq, decide_eq_false_iff_not, Bool.not_eq_true', Bool.not_eq_false'] at hc1
    have hc1' := hc1; try simp only [decide_eq_true_eq, decide_eq_false_iff_not, beq_iff_eq, beq_eq_false_iff_ne, bne_iff_ne, bne_eq_false_iff_eq, ne_eq, Bool.not_eq_true', Bool.not_eq_false', Bool.and_eq_true, Bool.or_eq_true, Bool.or_eq_false_iff, Bool.and_eq_false_iff, Bool.not_true, Bool.not_false] at hc1'
    refine AW.exit ?_
    refine AX.exit_then ?_
    refine AX.exit_then ?_
    refine AX.exit_hit ?_
    refine AX.pr (Kc 0 (.cel _ _) rfl <| Kn) ?_
    refine AX.go ?_
    refine AW.seq ?_
    refine AW.region ?_
    refine AWl.st rfl (OpT.move (A := .cel _ _) (.inl rfl) rfl (okd rfl rfl) (Tm rfl rfl rfl) rfl) rfl ?_
    refine AWl.st rfl (OpT.snev rfl rfl (okd rfl rfl) (Tm rfl rfl rfl) (Opd.str (by decide))) rfl ?_
    refine AWl.st rfl (OpT.move (A := .cel _ _) (.inl rfl) rfl (okd rfl rfl) (Tm rfl rfl rfl) rfl) rfl ?_
    apply AWl.and (d := 26) (t := 22) rfl
    · intro hb2 Q1 k1
      have hb2' := hb2; try simp only [decide_eq_true_eq, decide_eq_false_iff_not, beq_iff_eq, beq_eq_false_iff_ne, bne_iff_ne, bne_eq_false_iff_eq, ne_eq, Bool.not_eq_true', Bool.not_eq_false', Bool.and_eq_true, Bool.or_eq_true, Bool.or_eq_false_iff, Bool.and_eq_false_iff, Bool.not_true, Bool.not_false] at hb2'
      refine AWl.rs rfl rfl rfl rfl hb2 (OpT.move (A := .cel _ _) (.inl rfl) rfl (okd rfl rfl) (Tm rfl rfl rfl) rfl) rfl ?_
      refine AWl.rs rfl rfl rfl rfl hb2 (OpT.lenS rfl rfl (okd rfl rfl) (Tm rfl rfl rfl) Tryd.underlying9) rfl ?_
      refine AWl.rs rfl rfl rfl rfl hb2 (OpT.leq rfl rfl (okd rfl rfl) (Tm rfl rfl rfl) (I rfl)) rfl ?_
      refine AWl.st rfl (OpT.pickT (A := .cel _ _) rfl rfl (okd rfl rfl) (Tm rfl rfl rfl) hb2 (Tm rfl rfl rfl) rfl) rfl ?_
      exact AWl.to (junk 3 rfl) k1
    · intro hb2 Q1 k1
      refine AWl.pas rfl rfl rfl rfl hb2 rfl (okd rfl rfl) rfl ?_
      refine AWl.pas rfl rfl rfl rfl hb2 rfl (okd rfl rfl) rfl ?_
      refine AWl.pas rfl rfl rfl rfl hb2 rfl (okd rfl rfl) rfl ?_
      refine AWl.st rfl (OpT.pickF (A := .cel _ _) rfl rfl (okd rfl rfl) (Tm rfl rfl rfl) hb2 Opd.bool rfl) rfl ?_
      exact k1
    refine AWl.st rfl (OpT.move (A := .cel _ _) (.inr rfl) rfl (okd rfl rfl) (Tm rfl rfl rfl) rfl) rfl ?_
    refine AWl.nil ?_
    refine AX.pr (Kc 2 (.cel _ _) rfl <| Kn) ?_
    refine AX.go ?_
    refine AW.ret ?_
    exact AX.rt (rs := [.tmp 2]) (ts := [some 2]) (.inl rfl) rfl (ROs.cons (RO.tmp (At.self (by decide)) (Kv rfl (by first | exact name_no (z := z) (by omega) (mt (lowI_iff hb).1 (by omega)) | exact word_end hI.2 (by omega))) rfl) <| ROs.nil) (by decide) OutsOK.nil

/-- spec.l03Words -/
theorem c_spec_l03Words (x : List ByteArray) (m : Int) : AC Tryd.prog 144 [.cel (Kd.slice Kd.str) x, .cel (Kd.int .i64) m] [.cel (Kd.int .i64) (err2 (wordsOK m x))] [] := by
  refine ⟨ACall.intro (N := 22) Tryd.func144 (c := _) (rfl : Func.body _ = some _) rfl (Nat.le_of_ble_eq_true rfl) (Nat.le_of_ble_eq_true rfl) rfl (Nat.le_of_ble_eq_true rfl) fun w0 hd s0 ar har => ?_, _, Tryd.func144, rfl, by decide⟩
  refine AW.to (Kc 0 (.cel _ _) rfl <| Kc 1 (.cel _ _) rfl <| Kn) ?_
  refine AW.fact (fun a w hr => (ok_slice (R_ok (t := 0) rfl hr)).2) (fun hl0 => ?_)
  refine AW.seq ?_
  refine AW.region ?_
  refine AWl.st rfl (OpT.move (A := .cel _ _) (.inr rfl) rfl (okd rfl rfl) (I rfl) rfl) rfl ?_
  refine AWl.nil ?_
  refine AX.go ?_
  refine AW.seq ?_
  refine AW.seq ?_
  refine AW.region ?_
  refine AWl.st rfl (OpT.move (A := .cel _ _) (.inl rfl) rfl (okd rfl rfl) (Tm rfl rfl rfl) rfl) rfl ?_
  refine AWl.st rfl (OpT.len rfl rfl (okd rfl rfl) (Tm rfl rfl rfl) el139) rfl ?_
  refine AWl.st rfl (OpT.move (A := .cel _ _) (.inl rfl) rfl (okd rfl rfl) (Tm rfl rfl rfl) rfl) rfl ?_
  refine AWl.st rfl (OpT.gtr rfl rfl (okd rfl rfl) (Tm rfl rfl rfl) (Tm rfl rfl rfl)) rfl ?_
  refine AWl.nil ?_
  refine AX.pr (Kc 9 (.cel _ _) rfl <| Kc 4 (.cel _ _) rfl <| Kc 0 (.cel _ _) rfl <| Kn) ?_
  refine AX.go ?_
  refine AW.cond (t := 9) rfl (by decide) (fun hc1 => ?_) (fun hc1 => ?_)
  ·
    try simp only [decide_eq_true_eq, decide_eq_false_iff_not, Bool.not_eq_true', Bool.not_eq_false'] at hc1
    have hc1' := hc1; try simp only [decide_eq_true_eq, decide_eq_false_iff_not, beq_iff_eq, beq_eq_false_iff_ne, bne_iff_ne, bne_eq_false_iff_eq, ne_eq, Bool.not_eq_true', Bool.not_eq_false', Bool.and_eq_true, Bool.or_eq_true, Bool.or_eq_false_iff, Bool.and_eq_false_iff, Bool.not_true, Bool.not_false] at hc1'
    refine AW.seq ?_
    refine AW.region ?_
    refine AWl.sg rfl (OpT.move (A := .cel _ _) (.inr rfl) rfl (okd rfl rfl) (I rfl) rfl) (Kc 4 (.cel _ _) rfl <| Kc 9 (.cel _ _) rfl <| Kc 0 (.cel _ _) rfl <| Kn) ?_
    refine AWl.nil ?_
    refine AX.pr (Kc 4 (.cel _ _) rfl <| Kc 0 (.cel _ _) rfl <| Kn) ?_
    refine AX.go ?_
    refine AW.ret ?_
    refine AX.ret_then ?_
    exact AX.rt (rs := [.tmp 4]) (ts := [some 4]) (.inl rfl) rfl (ROs.cons (RO.tmp (At.self (by decide)) (Kv rfl (by first | exact err2_no (fun h => by have := h.1; omega) | exact err2_no (fun h => hna ((allI_iff ha).1 (h.2 z (by omega)))) | exact err2_yes ⟨by omega, all_end hI.2 (by omega)⟩)) rfl) <| ROs.nil) (by decide) OutsOK.nil
  ·
    try simp only [decide_eq_true_eq, decide_eq_false_iff_not, Bool.not_eq_true', Bool.not_eq_false'] at hc1
    have hc1' := hc1; try simp only [decide_eq_true_eq, decide_eq_false_iff_not, beq_iff_eq, beq_eq_false_iff_ne, bne_iff_ne, bne_eq_false_iff_eq, ne_eq, Bool.not_eq_true', Bool.not_eq_false', Bool.and_eq_true, Bool.or_eq_true, Bool.or_eq_false_iff, Bool.and_eq_false_iff, Bool.not_true, Bool.not_false] at hc1'
    refine AW.skip ?_
    refine AX.pr (Kc 4 (.cel _ _) rfl <| Kc 0 (.cel _ _) rfl <| Kn) ?_
    refine AX.go ?_
    refine AW.seq ?_
    refine AW.seq ?_
    refine AW.region ?_
    refine AWl.st rfl (OpT.move (A := .cel _ _) (.inr rfl) rfl (okd rfl rfl) (I rfl) rfl) rfl ?_
    refine AWl.nil ?_
    refine AX.go ?_
    refine AW.block ?_
    refine AW.loop (fun z : Nat => z ≤ x.length ∧ ∀ i, i < z → allI nameOK x i) (fun z : Nat => keep [(0, .cel (Kd.slice Kd.str) x), (5, .cel (Kd.int .i64) (z : Int))]) (fun z : Nat => x.length - z) (0) ⟨Nat.zero_le _, all_none⟩ (Kc 0 _ (Kv rfl rfl) <| Kc 5 _ (Kv rfl rfl) <| Kn) ?_
    intro z hI
    refine AW.seq ?_
    refine AW.seq ?_
    refine AW.region ?_
    refine AWl.st rfl (OpT.move (A := .cel _ _) (.inl rfl) rfl (okd rfl rfl) (Tm rfl rfl rfl) rfl) rfl ?_
    refine AWl.st rfl (OpT.move (A := .cel _ _) (.inl rfl) rfl (okd rfl rfl) (Tm rfl rfl rfl) rfl) rfl ?_
    refine AWl.st rfl (OpT.len rfl rfl (okd rfl rfl) (Tm rfl rfl rfl) el139) rfl ?_
    refine AWl.st rfl (OpT.lss rfl rfl (okd rfl rfl) (Tm rfl rfl rfl) (Tm rfl rfl rfl)) rfl ?_
    refine AWl.nil ?_
    refine AX.go ?_
    refine AW.cond (t := 13) rfl (by decide) (fun hc2 => ?_) (fun hc2 => ?_)
    ·
      try simp only [decide_eq_true_eq, decide_eq_false_iff_not, Bool.not_eq_true', Bool.not_eq_false'] at hc2
      have hc2' := hc2; try simp only [decide_eq_true_eq, decide_eq_false_iff_not, beq_iff_eq, beq_eq_false_iff_ne, bne_iff_ne, bne_eq_false_iff_eq, ne_eq, Bool.not_eq_true', Bool.not_eq_false', Bool.and_eq_true, Bool.or_eq_true, Bool.or_eq_false_iff, Bool.and_eq_false_iff, Bool.not_true, Bool.not_false] at hc2'
      obtain ⟨a, ha⟩ := getI (x := x) (z := z) (by omega)
      refine AW.skip ?_
      refine AX.go ?_
      refine AW.seq ?_
      refine AW.block ?_
      refine AW.seq ?_
      refine AW.region ?_
      refine AWl.st rfl (OpT.move (A := .cel _ _) (.inl rfl) rfl (okd rfl rfl) (Tm rfl rfl rfl) rfl) rfl ?_
      refine AWl.st rfl (OpT.move (A := .cel _ _) (.inl rfl) rfl (okd rfl rfl) (Tm rfl rfl rfl) rfl) rfl ?_
      refine AWl.st rfl (OpT.indexAddr rfl rfl (okd rfl rfl) (Tm rfl rfl rfl) (Tm rfl rfl rfl) el139 sz9 (by omega) (by assumption)) rfl ?_
      refine AWl.st rfl (OpT.load rfl rfl (okd rfl rfl) (Tm rfl rfl rfl) ag9 rfl) rfl ?_
      refine AWl.st rfl (OpT.c1 (ms := [.flat]) (c_spec_l03Word _) rfl rfl (okd rfl rfl) (Af (Tm rfl rfl rfl) rfl rfl <| An) rfl rfl) rfl ?_
      refine AWl.st rfl (OpT.not rfl rfl (okd rfl rfl) (Tm rfl rfl rfl)) rfl ?_
      refine AWl.nil ?_
      refine AX.go ?_
      refine AW.cond (t := 21) rfl (by decide) (fun hc3 => ?_) (fun hc3 => ?_)
      ·
        try simp only [decide_eq_true_eq, decide_eq_false_iff_not, Bool.not_eq_true', Bool.not_eq_false'] at hc3
        have hc3' := hc3; try simp only [decide_eq_true_eq, decide_eq_false_iff_not, beq_iff_eq, beq_eq_false_iff_ne, bne_iff_ne, bne_eq_false_iff_eq, ne_eq, Bool.not_eq_true', Bool.not_eq_false', Bool.and_eq_true, Bool.or_eq_true, Bool.or_eq_false_iff, Bool.and_eq_false_iff, Bool.not_true, Bool.not_false] at hc3'
        have hna : ¬ nameOK a := tt_false.1 (by simpa using hc3)
        refine AW.seq ?_
        refine AW.region ?_
        refine AWl.st rfl (OpT.move (A := .cel _ _) (.inr rfl) rfl (okd rfl rfl) (I rfl) rfl) rfl ?_
        refine AWl.nil ?_
        refine AX.go ?_
        refine AW.ret ?_
        refine AX.ret_block ?_
        refine AX.ret_then ?_
        refine AX.ret_then ?_
        refine AX.ret_block ?_
        refine AX.ret_then ?_
        exact AX.rt (rs := [.tmp 4]) (ts := [some 4]) (.inl rfl) rfl (ROs.cons (RO.tmp (At.self (by decide)) (Kv rfl (by first | exact err2_no (fun h => by have := h.1; omega) | exact err2_no (fun h => hna ((allI_iff ha).1 (h.2 z (by omega)))) | exact err2_yes ⟨by omega, all_end hI.2 (by omega)⟩)) rfl) <| ROs.nil) (by decide) OutsOK.nil
      ·
        try simp only [decide_eq_true_eq, decide_eq_false_iff_not, Bool.not_eq_true', Bool.not_eq_false'] at hc3
        have hc3' := hc3; try simp only [decide_eq_true_eq, decide_eq_false_iff_not, beq_iff_eq, beq_eq_false_iff_ne, bne_iff_ne, bne_eq_false_iff_eq, ne_eq, Bool.not_eq_true', Bool.not_eq_false', Bool.and_eq_true, Bool.or_eq_true, Bool.or_eq_false_iff, Bool.and_eq_false_iff, Bool.not_true, Bool.not_false] at hc3'
        refine AW.skip ?_
        refine AX.normal_block ?_
        refine AX.go ?_
        refine AW.region ?_
        refine AWl.st rfl (OpT.move (A := .cel _ _) (.inl rfl) rfl (okd rfl rfl) (Tm rfl rfl rfl) rfl) rfl ?_
        refine AWl.st rfl (OpT.add rfl rfl (okd rfl rfl) (Tm rfl rfl rfl) (I rfl) (nw (by omega))) rfl ?_
        refine AWl.sg rfl (OpT.move (A := .cel _ _) (.inr rfl) rfl (okd rfl rfl) (Tm rfl rfl rfl) rfl) (Kc 5 (.cel _ _) rfl <| Kc 15 (.cel _ _) rfl <| Kc 14 (.cel _ _) rfl <| Kc 21 (.cel _ _) rfl <| Kc 20 (.cel _ _) rfl <| Kc 19 (.cel _ _) rfl <| Kc 18 (.cel _ _) rfl <| Kc 17 (.cel _ _) rfl <| Kc 16 (.cel _ _) rfl <| Kc 13 (.cel _ _) rfl <| Kc 12 (.cel _ _) rfl <| Kc 11 (.cel _ _) rfl <| Kc 10 (.cel _ _) rfl <| Kc 0 (.cel _ _) rfl <| Kn) ?_
        refine AWl.nil ?_
        exact AX.again (z + 1) ⟨by omega, all_step hI.2 ((allI_iff ha).2 (tt_iff.1 (by simpa using hc3)))⟩ (by omega) (Kc 0 _ (Kv rfl rfl) <| Kc 5 _ (Kv rfl (by omega)) <| Kn)
    ·
      try simp only [decide_eq_true_eq, decide_eq_false_iff_not, Bool.not_eq_true', Bool.not_eq_false'] at hc2
      have hc2' := hc2; try simp only [decide_eq_true_eq, decide_eq_false_iff_not, beq_iff_eq, beq_eq_false_iff_ne, bne_iff_ne, bne_eq_false_iff_eq, ne_eq, Bool.not_eq_true', Bool.not_eq_false', Bool.and_eq_true, Bool.or_eq_true, Bool.or_eq_false_iff, Bool.and_eq_false_iff, Bool.not_true, Bool.not_false] at hc2'
      refine AW.exit ?_
      refine AX.exit_then ?_
      refine AX.exit_then ?_
      refine AX.exit_hit ?_
      refine AX.pr (Kn) ?_
      refine AX.go ?_
      refine AW.seq ?_
      refine AW.region ?_
      refine AWl.st rfl (OpT.move (A := .cel _ _) (.inr rfl) rfl (okd rfl rfl) (I rfl) rfl) rfl ?_
      refine AWl.nil ?_
      refine AX.go ?_
      refine AW.ret ?_
      exact AX.rt (rs := [.tmp 4]) (ts := [some 4]) (.inl rfl) rfl (ROs.cons (RO.tmp (At.self (by decide)) (Kv rfl (by first | exact err2_no (fun h => by have := h.1; omega) | exact err2_no (fun h => hna ((allI_iff ha).1 (h.2 z (by omega)))) | exact err2_yes ⟨by omega, all_end hI.2 (by omega)⟩)) rfl) <| ROs.nil) (by decide) OutsOK.nil

/-- spec.l03Lot -/
theorem c_spec_l03Lot (x : List (List ByteArray)) : AC Tryd.prog 100 [.cel (Kd.slice (Kd.slice Kd.str)) x] [.cel (Kd.int .i64) (err2 (lotOK x))] [] := by
  refine ⟨ACall.intro (N := 22) Tryd.func100 (c := _) (rfl : Func.body _ = some _) rfl (Nat.le_of_ble_eq_true rfl) (Nat.le_of_ble_eq_true rfl) rfl (Nat.le_of_ble_eq_true rfl) fun w0 hd s0 ar har => ?_, _, Tryd.func100, rfl, by decide⟩
  refine AW.to (Kc 0 (.cel _ _) rfl <| Kn) ?_
  refine AW.fact (fun a w hr => (ok_slice (R_ok (t := 0) rfl hr)).2) (fun hl0 => ?_)
  refine AW.seq ?_
  refine AW.region ?_
  refine AWl.st rfl (OpT.move (A := .cel _ _) (.inr rfl) rfl (okd rfl rfl) (I rfl) rfl) rfl ?_
  refine AWl.nil ?_
  refine AX.go ?_
  refine AW.seq ?_
  refine AW.seq ?_
  refine AW.region ?_
  refine AWl.st rfl (OpT.move (A := .cel _ _) (.inl rfl) rfl (okd rfl rfl) (Tm rfl rfl rfl) rfl) rfl ?_
  refine AWl.st rfl (OpT.len rfl rfl (okd rfl rfl) (Tm rfl rfl rfl) el78) rfl ?_
  refine AWl.st rfl (OpT.gtr rfl rfl (okd rfl rfl) (Tm rfl rfl rfl) (I rfl)) rfl ?_
  refine AWl.nil ?_
  refine AX.pr (Kc 7 (.cel _ _) rfl <| Kc 2 (.cel _ _) rfl <| Kc 0 (.cel _ _) rfl <| Kn) ?_
  refine AX.go ?_
  refine AW.cond (t := 7) rfl (by decide) (fun hc1 => ?_) (fun hc1 => ?_)
  ·
    try simp only [decide_eq_true_eq, decide_eq_false_iff_not, Bool.not_eq_true', Bool.not_eq_false'] at hc1
    have hc1' := hc1; try simp only [decide_eq_true_eq, decide_eq_false_iff_not, beq_iff_eq, beq_eq_false_iff_ne, bne_iff_ne, bne_eq_false_iff_eq, ne_eq, Bool.not_eq_true', Bool.not_eq_false', Bool.and_eq_true, Bool.or_eq_true, Bool.or_eq_false_iff, Bool.and_eq_false_iff, Bool.not_true, Bool.not_false] at hc1'
    refine AW.seq ?_
    refine AW.region ?_
    refine AWl.sg rfl (OpT.move (A := .cel _ _) (.inr rfl) rfl (okd rfl rfl) (I rfl) rfl) (Kc 2 (.cel _ _) rfl <| Kc 7 (.cel _ _) rfl <| Kc 0 (.cel _ _) rfl <| Kn) ?_
    refine AWl.nil ?_
    refine AX.pr (Kc 2 (.cel _ _) rfl <| Kc 0 (.cel _ _) rfl <| Kn) ?_
    refine AX.go ?_
    refine AW.ret ?_
    refine AX.ret_then ?_
    exact AX.rt (rs := [.tmp 2]) (ts := [some 2]) (.inl rfl) rfl (ROs.cons (RO.tmp (At.self (by decide)) (Kv rfl (by first | exact err2_no (fun h => by have := h.1; omega) | exact hna.2.trans (err2_no (fun h => hna.1 ((allI_iff ha).1 (h.2 z (by omega))))) | exact err2_yes ⟨by omega, all_end hI.2 (by omega)⟩)) rfl) <| ROs.nil) (by decide) OutsOK.nil
  ·
    try simp only [decide_eq_true_eq, decide_eq_false_iff_not, Bool.not_eq_true', Bool.not_eq_false'] at hc1
    have hc1' := hc1; try simp only [decide_eq_true_eq, decide_eq_false_iff_not, beq_iff_eq, beq_eq_false_iff_ne, bne_iff_ne, bne_eq_false_iff_eq, ne_eq, Bool.not_eq_true', Bool.not_eq_false', Bool.and_eq_true, Bool.or_eq_true, Bool.or_eq_false_iff, Bool.and_eq_false_iff, Bool.not_true, Bool.not_false] at hc1'
    refine AW.skip ?_
    refine AX.pr (Kc 2 (.cel _ _) rfl <| Kc 0 (.cel _ _) rfl <| Kn) ?_
    refine AX.go ?_
    refine AW.seq ?_
    refine AW.seq ?_
    refine AW.region ?_
    refine AWl.st rfl (OpT.move (A := .cel _ _) (.inr rfl) rfl (okd rfl rfl) (I rfl) rfl) rfl ?_
    refine AWl.nil ?_
    refine AX.go ?_
    refine AW.block ?_
    refine AW.loop (fun z : Nat => z ≤ x.length ∧ ∀ i, i < z → allI (wordsOK 12) x i) (fun z : Nat => keep [(0, .cel (Kd.slice (Kd.slice Kd.str)) x), (3, .cel (Kd.int .i64) (z : Int))]) (fun z : Nat => x.length - z) (0) ⟨Nat.zero_le _, all_none⟩ (Kc 0 _ (Kv rfl rfl) <| Kc 3 _ (Kv rfl rfl) <| Kn) ?_
    intro z hI
    refine AW.seq ?_
    refine AW.seq ?_
    refine AW.region ?_
    refine AWl.st rfl (OpT.move (A := .cel _ _) (.inl rfl) rfl (okd rfl rfl) (Tm rfl rfl rfl) rfl) rfl ?_
    refine AWl.st rfl (OpT.move (A := .cel _ _) (.inl rfl) rfl (okd rfl rfl) (Tm rfl rfl rfl) rfl) rfl ?_
    refine AWl.st rfl (OpT.len rfl rfl (okd rfl rfl) (Tm rfl rfl rfl) el78) rfl ?_
    refine AWl.st rfl (OpT.lss rfl rfl (okd rfl rfl) (Tm rfl rfl rfl) (Tm rfl rfl rfl)) rfl ?_
    refine AWl.nil ?_
    refine AX.go ?_
    refine AW.cond (t := 11) rfl (by decide) (fun hc2 => ?_) (fun hc2 => ?_)
    ·
      try simp only [decide_eq_true_eq, decide_eq_false_iff_not, Bool.not_eq_true', Bool.not_eq_false'] at hc2
      have hc2' := hc2; try simp only [decide_eq_true_eq, decide_eq_false_iff_not, beq_iff_eq, beq_eq_false_iff_ne, bne_iff_ne, bne_eq_false_iff_eq, ne_eq, Bool.not_eq_true', Bool.not_eq_false', Bool.and_eq_true, Bool.or_eq_true, Bool.or_eq_false_iff, Bool.and_eq_false_iff, Bool.not_true, Bool.not_false] at hc2'
      obtain ⟨a, ha⟩ := getI (x := x) (z := z) (by omega)
      refine AW.skip ?_
      refine AX.go ?_
      refine AW.seq ?_
      refine AW.block ?_
      refine AW.seq ?_
      refine AW.region ?_
      refine AWl.st rfl (OpT.move (A := .cel _ _) (.inl rfl) rfl (okd rfl rfl) (Tm rfl rfl rfl) rfl) rfl ?_
      refine AWl.st rfl (OpT.move (A := .cel _ _) (.inl rfl) rfl (okd rfl rfl) (Tm rfl rfl rfl) rfl) rfl ?_
      refine AWl.st rfl (OpT.indexAddr rfl rfl (okd rfl rfl) (Tm rfl rfl rfl) (Tm rfl rfl rfl) el78 sz139 (by omega) (by assumption)) rfl ?_
      refine AWl.st rfl (OpT.load rfl rfl (okd rfl rfl) (Tm rfl rfl rfl) ag139 rfl) rfl ?_
      refine AWl.st rfl (OpT.c1 (ms := [.flat, .flat]) (c_spec_l03Words _ _) rfl rfl (okd rfl rfl) (Af (Tm rfl rfl rfl) rfl rfl <| Af (I rfl) rfl rfl <| An) rfl rfl) rfl ?_
      refine AWl.st rfl (OpT.move (A := .cel _ _) (.inr rfl) rfl (okd rfl rfl) (Tm rfl rfl rfl) rfl) rfl ?_
      refine AWl.nil ?_
      refine AX.go ?_
      refine AW.seq ?_
      refine AW.region ?_
      refine AWl.st rfl (OpT.move (A := .cel _ _) (.inl rfl) rfl (okd rfl rfl) (Tm rfl rfl rfl) rfl) rfl ?_
      refine AWl.st rfl (OpT.neq rfl rfl (okd rfl rfl) (Tm rfl rfl rfl) (I rfl)) rfl ?_
      refine AWl.nil ?_
      refine AX.go ?_
      refine AW.cond (t := 20) rfl (by decide) (fun hc3 => ?_) (fun hc3 => ?_)
      ·
        try simp only [decide_eq_true_eq, decide_eq_false_iff_not, Bool.not_eq_true', Bool.not_eq_false'] at hc3
        have hc3' := hc3; try simp only [decide_eq_true_eq, decide_eq_false_iff_not, beq_iff_eq, beq_eq_false_iff_ne, bne_iff_ne, bne_eq_false_iff_eq, ne_eq, Bool.not_eq_true', Bool.not_eq_false', Bool.and_eq_true, Bool.or_eq_true, Bool.or_eq_false_iff, Bool.and_eq_false_iff, Bool.not_true, Bool.not_false] at hc3'
        have hna := err2_two hc3'
        refine AW.seq ?_
        refine AW.region ?_
        refine AWl.st rfl (OpT.move (A := .cel _ _) (.inl rfl) rfl (okd rfl rfl) (Tm rfl rfl rfl) rfl) rfl ?_
        refine AWl.st rfl (OpT.move (A := .cel _ _) (.inr rfl) rfl (okd rfl rfl) (Tm rfl rfl rfl) rfl) rfl ?_
        refine AWl.nil ?_
        refine AX.go ?_
        refine AW.ret ?_
        refine AX.ret_block ?_
        refine AX.ret_then ?_
        refine AX.ret_then ?_
        refine AX.ret_block ?_
        refine AX.ret_then ?_
        exact AX.rt (rs := [.tmp 2]) (ts := [some 2]) (.inl rfl) rfl (ROs.cons (RO.tmp (At.self (by decide)) (Kv rfl (by first | exact err2_no (fun h => by have := h.1; omega) | exact hna.2.trans (err2_no (fun h => hna.1 ((allI_iff ha).1 (h.2 z (by omega))))) | exact err2_yes ⟨by omega, all_end hI.2 (by omega)⟩)) rfl) <| ROs.nil) (by decide) OutsOK.nil
      ·
        try simp only [decide_eq_true_eq, decide_eq_false_iff_not, Bool.not_eq_true', Bool.not_eq_false'] at hc3
        have hc3' := hc3; try simp only [decide_eq_true_eq, decide_eq_false_iff_not, beq_iff_eq, beq_eq_false_iff_ne, bne_iff_ne, bne_eq_false_iff_eq, ne_eq, Bool.not_eq_true', Bool.not_eq_false', Bool.and_eq_true, Bool.or_eq_true, Bool.or_eq_false_iff, Bool.and_eq_false_iff, Bool.not_true, Bool.not_false] at hc3'
        have hya := err2_zero hc3'
        refine AW.skip ?_
        refine AX.normal_block ?_
        refine AX.go ?_
        refine AW.region ?_
        refine AWl.st rfl (OpT.move (A := .cel _ _) (.inl rfl) rfl (okd rfl rfl) (Tm rfl rfl rfl) rfl) rfl ?_
        refine AWl.st rfl (OpT.add rfl rfl (okd rfl rfl) (Tm rfl rfl rfl) (I rfl) (nw (by omega))) rfl ?_
        refine AWl.sg rfl (OpT.move (A := .cel _ _) (.inr rfl) rfl (okd rfl rfl) (Tm rfl rfl rfl) rfl) (Kc 3 (.cel _ _) rfl <| Kc 13 (.cel _ _) rfl <| Kc 12 (.cel _ _) rfl <| Kc 20 (.cel _ _) rfl <| Kc 19 (.cel _ _) rfl <| Kc 4 (.cel _ _) rfl <| Kc 18 (.cel _ _) rfl <| Kc 17 (.cel _ _) rfl <| Kc 16 (.cel _ _) rfl <| Kc 15 (.cel _ _) rfl <| Kc 14 (.cel _ _) rfl <| Kc 11 (.cel _ _) rfl <| Kc 10 (.cel _ _) rfl <| Kc 9 (.cel _ _) rfl <| Kc 8 (.cel _ _) rfl <| Kc 0 (.cel _ _) rfl <| Kn) ?_
        refine AWl.nil ?_
        exact AX.again (z + 1) ⟨by omega, all_step hI.2 ((allI_iff ha).2 hya)⟩ (by omega) (Kc 0 _ (Kv rfl rfl) <| Kc 3 _ (Kv rfl (by omega)) <| Kn)
    ·
      try simp only [decide_eq_true_eq, decide_eq_false_iff_not, Bool.not_eq_true', Bool.not_eq_false'] at hc2
      have hc2' := hc2; try simp only [decide_eq_true_eq, decide_eq_false_iff_not, beq_iff_eq, beq_eq_false_iff_ne, bne_iff_ne, bne_eq_false_iff_eq, ne_eq, Bool.not_eq_true', Bool.not_eq_false', Bool.and_eq_true, Bool.or_eq_true, Bool.or_eq_false_iff, Bool.and_eq_false_iff, Bool.not_true, Bool.not_false] at hc2'
      refine AW.exit ?_
      refine AX.exit_then ?_
      refine AX.exit_then ?_
      refine AX.exit_hit ?_
      refine AX.pr (Kn) ?_
      refine AX.go ?_
      refine AW.seq ?_
      refine AW.region ?_
      refine AWl.st rfl (OpT.move (A := .cel _ _) (.inr rfl) rfl (okd rfl rfl) (I rfl) rfl) rfl ?_
      refine AWl.nil ?_
      refine AX.go ?_
      refine AW.ret ?_
      exact AX.rt (rs := [.tmp 2]) (ts := [some 2]) (.inl rfl) rfl (ROs.cons (RO.tmp (At.self (by decide)) (Kv rfl (by first | exact err2_no (fun h => by have := h.1; omega) | exact hna.2.trans (err2_no (fun h => hna.1 ((allI_iff ha).1 (h.2 z (by omega))))) | exact err2_yes ⟨by omega, all_end hI.2 (by omega)⟩)) rfl) <| ROs.nil) (by decide) OutsOK.nil

/-- slices.IndexFunc[[]string,string] -/
theorem c_slices_IndexFunc_string_string {γ : Type} {g : FuncId} {kg : Kd γ} {y : γ} {cs : List As} (q : ByteArray → Bool) (hcs : CloArgs kg y cs) (hg : ∀ a, AC Tryd.prog g ([.cel Kd.str a] ++ cs) [.cel Kd.bool (q a)] []) (x : List (ByteArray)) : AC Tryd.prog 186 [.cel (Kd.slice Kd.str) x, .clo g kg y] [.cel (Kd.int .i64) (idxQ q x)] [] := by
  refine ⟨ACall.intro (N := 19) Tryd.func186 (c := _) (rfl : Func.body _ = some _) rfl (Nat.le_of_ble_eq_true rfl) (Nat.le_of_ble_eq_true rfl) rfl (Nat.le_of_ble_eq_true rfl) fun w0 hd s0 ar har => ?_, _, Tryd.func186, rfl, by decide⟩
  refine AW.to (Kc 0 (.cel _ _) rfl <| Kc 1 (.clo _ _ _) rfl <| Kn) ?_
  refine AW.fact (fun a w hr => (ok_slice (R_ok (t := 0) rfl hr)).2) (fun hl0 => ?_)
  refine AW.seq ?_
  refine AW.region ?_
  refine AWl.st rfl (OpT.move (A := .cel _ _) (.inr rfl) rfl (okd rfl rfl) (I rfl) rfl) rfl ?_
  refine AWl.nil ?_
  refine AX.go ?_
  refine AW.seq ?_
  refine AW.seq ?_
  refine AW.region ?_
  refine AWl.st rfl (OpT.move (A := .cel _ _) (.inl rfl) rfl (okd rfl rfl) (Tm rfl rfl rfl) rfl) rfl ?_
  refine AWl.st rfl (OpT.len rfl rfl (okd rfl rfl) (Tm rfl rfl rfl) el139) rfl ?_
  refine AWl.st rfl (OpT.move (A := .cel _ _) (.inl rfl) rfl (okd rfl rfl) (I rfl) rfl) rfl ?_
  refine AWl.nil ?_
  refine AX.pr (Kc 8 (.cel _ _) rfl <| Kc 7 (.cel _ _) rfl <| Kc 4 (.cel _ _) rfl <| Kc 0 (.cel _ _) rfl <| Kc 1 (.clo _ _ _) rfl <| Kn) ?_
  refine AX.go ?_
  refine AW.block ?_
  refine AW.loop (fun z : Nat => z ≤ x.length ∧ ∀ i, i < z → nI q x i) (fun z : Nat => keep [(0, .cel (Kd.slice Kd.str) x), (1, .clo g kg y), (7, .cel (Kd.int .i64) ((x.length : Nat) : Int)), (8, .cel (Kd.int .i64) (z : Int))]) (fun z : Nat => x.length - z) (0) ⟨Nat.zero_le _, all_none⟩ (Kc 0 _ (Kv rfl rfl) <| Kc 1 _ (rfl) <| Kc 7 _ (Kv rfl rfl) <| Kc 8 _ (Kv rfl rfl) <| Kn) ?_
  intro z hI
  refine AW.seq ?_
  refine AW.region ?_
  refine AWl.st rfl (OpT.lss rfl rfl (okd rfl rfl) (Tm rfl rfl rfl) (Tm rfl rfl rfl)) rfl ?_
  refine AWl.nil ?_
  refine AX.go ?_
  refine AW.seq ?_
  refine AW.cond (t := 9) rfl (by decide) (fun hc1 => ?_) (fun hc1 => ?_)
  ·
    try simp only [decide_eq_true_eq, decide_eq_false_iff_not, Bool.not_eq_true', Bool.not_eq_false'] at hc1
    obtain ⟨a, ha⟩ := getI (x := x) (z := z) (by omega)
    refine AW.skip ?_
    refine AX.go ?_
    refine AW.seq ?_
    refine AW.block ?_
    refine AW.seq ?_
    refine AW.region ?_
    refine AWl.st rfl (OpT.move (A := .cel _ _) (.inl rfl) rfl (okd rfl rfl) (Tm rfl rfl rfl) rfl) rfl ?_
    refine AWl.st rfl (OpT.move (A := .cel _ _) (.inr rfl) rfl (okd rfl rfl) (Tm rfl rfl rfl) rfl) rfl ?_
    refine AWl.nil ?_
    refine AX.go ?_
    refine AW.seq ?_
    refine AW.region ?_
    refine AWl.st rfl (OpT.move (A := .clo _ _ _) (.inl rfl) rfl (okd rfl rfl) (Tm rfl rfl rfl) rfl) rfl ?_
    refine AWl.st rfl (OpT.move (A := .cel _ _) (.inl rfl) rfl (okd rfl rfl) (Tm rfl rfl rfl) rfl) rfl ?_
    refine AWl.st rfl (OpT.move (A := .cel _ _) (.inl rfl) rfl (okd rfl rfl) (Tm rfl rfl rfl) rfl) rfl ?_
    refine AWl.st rfl (OpT.indexAddr rfl rfl (okd rfl rfl) (Tm rfl rfl rfl) (Tm rfl rfl rfl) el139 sz9 (by omega) (by assumption)) rfl ?_
    refine AWl.st rfl (OpT.load rfl rfl (okd rfl rfl) (Tm rfl rfl rfl) ag9 rfl) rfl ?_
    refine AWl.st rfl (OpT.vg (ms := [.flat]) (Tm rfl rfl rfl) hcs ((hg _)) rfl rfl (okd rfl rfl) (Af (Tm rfl rfl rfl) rfl rfl <| An) rfl rfl) rfl ?_
    refine AWl.nil ?_
    refine AX.go ?_
    refine AW.cond (t := 16) rfl (by decide) (fun hc2 => ?_) (fun hc2 => ?_)
    ·
      try simp only [decide_eq_true_eq, decide_eq_false_iff_not, Bool.not_eq_true', Bool.not_eq_false'] at hc2
      refine AW.seq ?_
      refine AW.region ?_
      refine AWl.st rfl (OpT.move (A := .cel _ _) (.inl rfl) rfl (okd rfl rfl) (Tm rfl rfl rfl) rfl) rfl ?_
      refine AWl.st rfl (OpT.move (A := .cel _ _) (.inr rfl) rfl (okd rfl rfl) (Tm rfl rfl rfl) rfl) rfl ?_
      refine AWl.nil ?_
      refine AX.go ?_
      refine AW.ret ?_
      refine AX.ret_block ?_
      refine AX.ret_then ?_
      refine AX.ret_then ?_
      refine AX.ret_block ?_
      refine AX.ret_then ?_
      exact AX.rt (rs := [.tmp 4]) (ts := [some 4]) (.inl rfl) rfl (ROs.cons (RO.tmp (At.self (by decide)) (Kv rfl (by first | exact idxQ_at hI.2 ha hc2 | exact idxQ_end hI.2 (by omega))) rfl) <| ROs.nil) (by decide) OutsOK.nil
    ·
      try simp only [decide_eq_true_eq, decide_eq_false_iff_not, Bool.not_eq_true', Bool.not_eq_false'] at hc2
      refine AW.skip ?_
      refine AX.normal_block ?_
      refine AX.go ?_
      refine AW.region ?_
      refine AWl.st rfl (OpT.add rfl rfl (okd rfl rfl) (Tm rfl rfl rfl) (I rfl) (nw (by omega))) rfl ?_
      refine AWl.sg rfl (OpT.move (A := .cel _ _) (.inl rfl) rfl (okd rfl rfl) (Tm rfl rfl rfl) rfl) (Kc 8 (.cel _ _) rfl <| Kc 18 (.cel _ _) rfl <| Kc 16 (.cel _ _) rfl <| Kc 15 (.cel _ _) rfl <| Kc 14 (.cel _ _) rfl <| Kc 13 (.cel _ _) rfl <| Kc 12 (.cel _ _) rfl <| Kc 11 (.clo _ _ _) rfl <| Kc 5 (.cel _ _) rfl <| Kc 10 (.cel _ _) rfl <| Kc 9 (.cel _ _) rfl <| Kc 0 (.cel _ _) rfl <| Kc 1 (.clo _ _ _) rfl <| Kc 7 (.cel _ _) rfl <| Kn) ?_
      refine AWl.nil ?_
      exact AX.again (z + 1) ⟨by omega, all_step hI.2 ((nI_iff ha).2 (by simpa using hc2))⟩ (by omega) (Kc 0 _ (Kv rfl rfl) <| Kc 1 _ (rfl) <| Kc 7 _ (Kv rfl rfl) <| Kc 8 _ (Kv rfl (by omega)) <| Kn)
  ·
    try simp only [decide_eq_true_eq, decide_eq_false_iff_not, Bool.not_eq_true', Bool.not_eq_false'] at hc1
    refine AW.exit ?_
    refine AX.exit_then ?_
    refine AX.exit_then ?_
    refine AX.exit_hit ?_
    refine AX.pr (Kn) ?_
    refine AX.go ?_
    refine AW.seq ?_
    refine AW.region ?_
    refine AWl.st rfl (OpT.move (A := .cel _ _) (.inr rfl) rfl (okd rfl rfl) (I rfl) rfl) rfl ?_
    refine AWl.nil ?_
    refine AX.go ?_
    refine AW.ret ?_
    exact AX.rt (rs := [.tmp 4]) (ts := [some 4]) (.inl rfl) rfl (ROs.cons (RO.tmp (At.self (by decide)) (Kv rfl (by first | exact idxQ_at hI.2 ha hc2 | exact idxQ_end hI.2 (by omega))) rfl) <| ROs.nil) (by decide) OutsOK.nil

/-- slices.ContainsFunc[[]string,string] -/
theorem c_slices_ContainsFunc_string_string {γ : Type} {g : FuncId} {kg : Kd γ} {y : γ} {cs : List As} (q : ByteArray → Bool) (hcs : CloArgs kg y cs) (hg : ∀ a, AC Tryd.prog g ([.cel Kd.str a] ++ cs) [.cel Kd.bool (q a)] []) (x : List (ByteArray)) : AC Tryd.prog 170 [.cel (Kd.slice Kd.str) x, .clo g kg y] [.cel Kd.bool (x.any q)] [] := by
  refine ⟨ACall.intro (N := 9) Tryd.func170 (c := _) (rfl : Func.body _ = some _) rfl (Nat.le_of_ble_eq_true rfl) (Nat.le_of_ble_eq_true rfl) rfl (Nat.le_of_ble_eq_true rfl) fun w0 hd s0 ar har => ?_, _, Tryd.func170, rfl, by decide⟩
  refine AW.to (Kc 0 (.cel _ _) rfl <| Kc 1 (.clo _ _ _) rfl <| Kn) ?_
  refine AW.seq ?_
  refine AW.region ?_
  refine AWl.st rfl (OpT.move (A := .cel _ _) (.inr rfl) rfl (okd rfl rfl) Opd.bool rfl) rfl ?_
  refine AWl.nil ?_
  refine AX.go ?_
  refine AW.seq ?_
  refine AW.region ?_
  refine AWl.st rfl (OpT.move (A := .cel _ _) (.inl rfl) rfl (okd rfl rfl) (Tm rfl rfl rfl) rfl) rfl ?_
  refine AWl.st rfl (OpT.move (A := .clo _ _ _) (.inl rfl) rfl (okd rfl rfl) (Tm rfl rfl rfl) rfl) rfl ?_
  refine AWl.st rfl (OpT.c1 (ms := [.flat, .flat]) (c_slices_IndexFunc_string_string q hcs hg x) rfl rfl (okd rfl rfl) (Af (Tm rfl rfl rfl) rfl rfl <| Af (Tm rfl rfl rfl) rfl rfl <| An) rfl rfl) rfl ?_
  refine AWl.st rfl (OpT.geq rfl rfl (okd rfl rfl) (Tm rfl rfl rfl) (I rfl)) rfl ?_
  refine AWl.sg rfl (OpT.move (A := .cel _ _) (.inr rfl) rfl (okd rfl rfl) (Tm rfl rfl rfl) rfl) (Kc 4 (.cel _ _) rfl <| Kc 8 (.cel _ _) rfl <| Kc 7 (.cel _ _) rfl <| Kc 6 (.clo _ _ _) rfl <| Kc 5 (.cel _ _) rfl <| Kc 0 (.cel _ _) rfl <| Kc 1 (.clo _ _ _) rfl <| Kn) ?_
  refine AWl.nil ?_
  refine AX.pr (Kc 4 (.cel _ _) rfl <| Kn) ?_
  refine AX.go ?_
  refine AW.ret ?_
  exact AX.rt (rs := [.tmp 4]) (ts := [some 4]) (.inl rfl) rfl (ROs.cons (RO.tmp (At.self (by decide)) (Kv rfl idxQ_any) rfl) <| ROs.nil) (by decide) OutsOK.nil

/-- slices.IndexFunc[[][]string,[]string] -/
theorem c_slices_IndexFunc_SS_string_string {γ : Type} {g : FuncId} {kg : Kd γ} {y : γ} {cs : List As} (q : List (ByteArray) → Bool) (hcs : CloArgs kg y cs) (hg : ∀ a, AC Tryd.prog g ([.cel (Kd.slice Kd.str) a] ++ cs) [.cel Kd.bool (q a)] []) (x : List (List (ByteArray))) : AC Tryd.prog 169 [.cel (Kd.slice (Kd.slice Kd.str)) x, .clo g kg y] [.cel (Kd.int .i64) (idxQ q x)] [] := by
  refine ⟨ACall.intro (N := 19) Tryd.func169 (c := _) (rfl : Func.body _ = some _) rfl (Nat.le_of_ble_eq_true rfl) (Nat.le_of_ble_eq_true rfl) rfl (Nat.le_of_ble_eq_true rfl) fun w0 hd s0 ar har => ?_, _, Tryd.func169, rfl, by decide⟩
  refine AW.to (Kc 0 (.cel _ _) rfl <| Kc 1 (.clo _ _ _) rfl <| Kn) ?_
  refine AW.fact (fun a w hr => (ok_slice (R_ok (t := 0) rfl hr)).2) (fun hl0 => ?_)
  refine AW.seq ?_
  refine AW.region ?_
  refine AWl.st rfl (OpT.move (A := .cel _ _) (.inr rfl) rfl (okd rfl rfl) (I rfl) rfl) rfl ?_
  refine AWl.nil ?_
  refine AX.go ?_
  refine AW.seq ?_
  refine AW.seq ?_
  refine AW.region ?_
  refine AWl.st rfl (OpT.move (A := .cel _ _) (.inl rfl) rfl (okd rfl rfl) (Tm rfl rfl rfl) rfl) rfl ?_
  refine AWl.st rfl (OpT.len rfl rfl (okd rfl rfl) (Tm rfl rfl rfl) el78) rfl ?_
  refine AWl.st rfl (OpT.move (A := .cel _ _) (.inl rfl) rfl (okd rfl rfl) (I rfl) rfl) rfl ?_
  refine AWl.nil ?_
  refine AX.pr (Kc 8 (.cel _ _) rfl <| Kc 7 (.cel _ _) rfl <| Kc 4 (.cel _ _) rfl <| Kc 0 (.cel _ _) rfl <| Kc 1 (.clo _ _ _) rfl <| Kn) ?_
  refine AX.go ?_
  refine AW.block ?_
  refine AW.loop (fun z : Nat => z ≤ x.length ∧ ∀ i, i < z → nI q x i) (fun z : Nat => keep [(0, .cel (Kd.slice (Kd.slice Kd.str)) x), (1, .clo g kg y), (7, .cel (Kd.int .i64) ((x.length : Nat) : Int)), (8, .cel (Kd.int .i64) (z : Int))]) (fun z : Nat => x.length - z) (0) ⟨Nat.zero_le _, all_none⟩ (Kc 0 _ (Kv rfl rfl) <| Kc 1 _ (rfl) <| Kc 7 _ (Kv rfl rfl) <| Kc 8 _ (Kv rfl rfl) <| Kn) ?_
  intro z hI
  refine AW.seq ?_
  refine AW.region ?_
  refine AWl.st rfl (OpT.lss rfl rfl (okd rfl rfl) (Tm rfl rfl rfl) (Tm rfl rfl rfl)) rfl ?_
  refine AWl.nil ?_
  refine AX.go ?_
  refine AW.seq ?_
  refine AW.cond (t := 9) rfl (by decide) (fun hc1 => ?_) (fun hc1 => ?_)
  ·
    try simp only [decide_eq_true_eq, decide_eq_false_iff_not, Bool.not_eq_true', Bool.not_eq_false'] at hc1
    obtain ⟨a, ha⟩ := getI (x := x) (z := z) (by omega)
    refine AW.skip ?_
    refine AX.go ?_
    refine AW.seq ?_
    refine AW.block ?_
    refine AW.seq ?_
    refine AW.region ?_
    refine AWl.st rfl (OpT.move (A := .cel _ _) (.inl rfl) rfl (okd rfl rfl) (Tm rfl rfl rfl) rfl) rfl ?_
    refine AWl.st rfl (OpT.move (A := .cel _ _) (.inr rfl) rfl (okd rfl rfl) (Tm rfl rfl rfl) rfl) rfl ?_
    refine AWl.nil ?_
    refine AX.go ?_
    refine AW.seq ?_
    refine AW.region ?_
    refine AWl.st rfl (OpT.move (A := .clo _ _ _) (.inl rfl) rfl (okd rfl rfl) (Tm rfl rfl rfl) rfl) rfl ?_
    refine AWl.st rfl (OpT.move (A := .cel _ _) (.inl rfl) rfl (okd rfl rfl) (Tm rfl rfl rfl) rfl) rfl ?_
    refine AWl.st rfl (OpT.move (A := .cel _ _) (.inl rfl) rfl (okd rfl rfl) (Tm rfl rfl rfl) rfl) rfl ?_
    refine AWl.st rfl (OpT.indexAddr rfl rfl (okd rfl rfl) (Tm rfl rfl rfl) (Tm rfl rfl rfl) el78 sz139 (by omega) (by assumption)) rfl ?_
    refine AWl.st rfl (OpT.load rfl rfl (okd rfl rfl) (Tm rfl rfl rfl) ag139 rfl) rfl ?_
    refine AWl.st rfl (OpT.vg (ms := [.flat]) (Tm rfl rfl rfl) hcs ((hg _)) rfl rfl (okd rfl rfl) (Af (Tm rfl rfl rfl) rfl rfl <| An) rfl rfl) rfl ?_
    refine AWl.nil ?_
    refine AX.go ?_
    refine AW.cond (t := 16) rfl (by decide) (fun hc2 => ?_) (fun hc2 => ?_)
    ·
      try simp only [decide_eq_true_eq, decide_eq_false_iff_not, Bool.not_eq_true', Bool.not_eq_false'] at hc2
      refine AW.seq ?_
      refine AW.region ?_
      refine AWl.st rfl (OpT.move (A := .cel _ _) (.inl rfl) rfl (okd rfl rfl) (Tm rfl rfl rfl) rfl) rfl ?_
      refine AWl.st rfl (OpT.move (A := .cel _ _) (.inr rfl) rfl (okd rfl rfl) (Tm rfl rfl rfl) rfl) rfl ?_
      refine AWl.nil ?_
      refine AX.go ?_
      refine AW.ret ?_
      refine AX.ret_block ?_
      refine AX.ret_then ?_
      refine AX.ret_then ?_
      refine AX.ret_block ?_
      refine AX.ret_then ?_
      exact AX.rt (rs := [.tmp 4]) (ts := [some 4]) (.inl rfl) rfl (ROs.cons (RO.tmp (At.self (by decide)) (Kv rfl (by first | exact idxQ_at hI.2 ha hc2 | exact idxQ_end hI.2 (by omega))) rfl) <| ROs.nil) (by decide) OutsOK.nil
    ·
      try simp only [decide_eq_true_eq, decide_eq_false_iff_not, Bool.not_eq_true', Bool.not_eq_false'] at hc2
      refine AW.skip ?_
      refine AX.normal_block ?_
      refine AX.go ?_
      refine AW.region ?_
      refine AWl.st rfl (OpT.add rfl rfl (okd rfl rfl) (Tm rfl rfl rfl) (I rfl) (nw (by omega))) rfl ?_
      refine AWl.sg rfl (OpT.move (A := .cel _ _) (.inl rfl) rfl (okd rfl rfl) (Tm rfl rfl rfl) rfl) (Kc 8 (.cel _ _) rfl <| Kc 18 (.cel _ _) rfl <| Kc 16 (.cel _ _) rfl <| Kc 15 (.cel _ _) rfl <| Kc 14 (.cel _ _) rfl <| Kc 13 (.cel _ _) rfl <| Kc 12 (.cel _ _) rfl <| Kc 11 (.clo _ _ _) rfl <| Kc 5 (.cel _ _) rfl <| Kc 10 (.cel _ _) rfl <| Kc 9 (.cel _ _) rfl <| Kc 0 (.cel _ _) rfl <| Kc 1 (.clo _ _ _) rfl <| Kc 7 (.cel _ _) rfl <| Kn) ?_
      refine AWl.nil ?_
      exact AX.again (z + 1) ⟨by omega, all_step hI.2 ((nI_iff ha).2 (by simpa using hc2))⟩ (by omega) (Kc 0 _ (Kv rfl rfl) <| Kc 1 _ (rfl) <| Kc 7 _ (Kv rfl rfl) <| Kc 8 _ (Kv rfl (by omega)) <| Kn)
  ·
    try simp only [decide_eq_true_eq, decide_eq_false_iff_not, Bool.not_eq_true', Bool.not_eq_false'] at hc1
    refine AW.exit ?_
    refine AX.exit_then ?_
    refine AX.exit_then ?_
    refine AX.exit_hit ?_
    refine AX.pr (Kn) ?_
    refine AX.go ?_
    refine AW.seq ?_
    refine AW.region ?_
    refine AWl.st rfl (OpT.move (A := .cel _ _) (.inr rfl) rfl (okd rfl rfl) (I rfl) rfl) rfl ?_
    refine AWl.nil ?_
    refine AX.go ?_
    refine AW.ret ?_
    exact AX.rt (rs := [.tmp 4]) (ts := [some 4]) (.inl rfl) rfl (ROs.cons (RO.tmp (At.self (by decide)) (Kv rfl (by first | exact idxQ_at hI.2 ha hc2 | exact idxQ_end hI.2 (by omega))) rfl) <| ROs.nil) (by decide) OutsOK.nil

/-- slices.ContainsFunc[[][]string,[]string] -/
theorem c_slices_ContainsFunc_SS_string_string {γ : Type} {g : FuncId} {kg : Kd γ} {y : γ} {cs : List As} (q : List (ByteArray) → Bool) (hcs : CloArgs kg y cs) (hg : ∀ a, AC Tryd.prog g ([.cel (Kd.slice Kd.str) a] ++ cs) [.cel Kd.bool (q a)] []) (x : List (List (ByteArray))) : AC Tryd.prog 145 [.cel (Kd.slice (Kd.slice Kd.str)) x, .clo g kg y] [.cel Kd.bool (x.any q)] [] := by
  refine ⟨ACall.intro (N := 9) Tryd.func145 (c := _) (rfl : Func.body _ = some _) rfl (Nat.le_of_ble_eq_true rfl) (Nat.le_of_ble_eq_true rfl) rfl (Nat.le_of_ble_eq_true rfl) fun w0 hd s0 ar har => ?_, _, Tryd.func145, rfl, by decide⟩
  refine AW.to (Kc 0 (.cel _ _) rfl <| Kc 1 (.clo _ _ _) rfl <| Kn) ?_
  refine AW.seq ?_
  refine AW.region ?_
  refine AWl.st rfl (OpT.move (A := .cel _ _) (.inr rfl) rfl (okd rfl rfl) Opd.bool rfl) rfl ?_
  refine AWl.nil ?_
  refine AX.go ?_
  refine AW.seq ?_
  refine AW.region ?_
  refine AWl.st rfl (OpT.move (A := .cel _ _) (.inl rfl) rfl (okd rfl rfl) (Tm rfl rfl rfl) rfl) rfl ?_
  refine AWl.st rfl (OpT.move (A := .clo _ _ _) (.inl rfl) rfl (okd rfl rfl) (Tm rfl rfl rfl) rfl) rfl ?_
  refine AWl.st rfl (OpT.c1 (ms := [.flat, .flat]) (c_slices_IndexFunc_SS_string_string q hcs hg x) rfl rfl (okd rfl rfl) (Af (Tm rfl rfl rfl) rfl rfl <| Af (Tm rfl rfl rfl) rfl rfl <| An) rfl rfl) rfl ?_
  refine AWl.st rfl (OpT.geq rfl rfl (okd rfl rfl) (Tm rfl rfl rfl) (I rfl)) rfl ?_
  refine AWl.sg rfl (OpT.move (A := .cel _ _) (.inr rfl) rfl (okd rfl rfl) (Tm rfl rfl rfl) rfl) (Kc 4 (.cel _ _) rfl <| Kc 8 (.cel _ _) rfl <| Kc 7 (.cel _ _) rfl <| Kc 6 (.clo _ _ _) rfl <| Kc 5 (.cel _ _) rfl <| Kc 0 (.cel _ _) rfl <| Kc 1 (.clo _ _ _) rfl <| Kn) ?_
  refine AWl.nil ?_
  refine AX.pr (Kc 4 (.cel _ _) rfl <| Kn) ?_
  refine AX.go ?_
  refine AW.ret ?_
  exact AX.rt (rs := [.tmp 4]) (ts := [some 4]) (.inl rfl) rfl (ROs.cons (RO.tmp (At.self (by decide)) (Kv rfl idxQ_any) rfl) <| ROs.nil) (by decide) OutsOK.nil

/-- impl.areWords$1 -/
theorem c_impl_areWords_1 (s : ByteArray) : AC Tryd.prog 171 [.cel Kd.str s] [.cel Kd.bool (!(tt (nameOK s)))] [] := by
  refine ⟨ACall.intro (N := 6) Tryd.func171 (c := _) (rfl : Func.body _ = some _) rfl (Nat.le_of_ble_eq_true rfl) (Nat.le_of_ble_eq_true rfl) rfl (Nat.le_of_ble_eq_true rfl) fun w0 hd s0 ar har => ?_, _, Tryd.func171, rfl, by decide⟩
  refine AW.to (Kc 0 (.cel _ _) rfl <| Kn) ?_
  refine AW.seq ?_
  refine AW.region ?_
  refine AWl.st rfl (OpT.move (A := .cel _ _) (.inr rfl) rfl (okd rfl rfl) Opd.bool rfl) rfl ?_
  refine AWl.nil ?_
  refine AX.go ?_
  refine AW.seq ?_
  refine AW.region ?_
  refine AWl.st rfl (OpT.move (A := .cel _ _) (.inl rfl) rfl (okd rfl rfl) (Tm rfl rfl rfl) rfl) rfl ?_
  refine AWl.st rfl (OpT.c1 (ms := [.flat]) (c_impl_isName _) rfl rfl (okd rfl rfl) (Af (Tm rfl rfl rfl) rfl rfl <| An) rfl rfl) rfl ?_
  refine AWl.st rfl (OpT.not rfl rfl (okd rfl rfl) (Tm rfl rfl rfl)) rfl ?_
  refine AWl.sg rfl (OpT.move (A := .cel _ _) (.inr rfl) rfl (okd rfl rfl) (Tm rfl rfl rfl) rfl) (Kc 2 (.cel _ _) rfl <| Kc 5 (.cel _ _) rfl <| Kc 4 (.cel _ _) rfl <| Kc 3 (.cel _ _) rfl <| Kc 0 (.cel _ _) rfl <| Kn) ?_
  refine AWl.nil ?_
  refine AX.pr (Kc 2 (.cel _ _) rfl <| Kn) ?_
  refine AX.go ?_
  refine AW.ret ?_
  exact AX.rt (rs := [.tmp 2]) (ts := [some 2]) (.inl rfl) rfl (ROs.cons (RO.tmp (At.self (by decide)) (Kv rfl rfl) rfl) <| ROs.nil) (by decide) OutsOK.nil

/-- impl.areWords -/
theorem c_impl_areWords (x : List ByteArray) (m : Int) : AC Tryd.prog 147 [.cel (Kd.slice Kd.str) x, .cel (Kd.int .i64) m] [.cel Kd.bool (tt (wordsOK m x))] [] := by
  refine ⟨ACall.intro (N := 14) Tryd.func147 (c := _) (rfl : Func.body _ = some _) rfl (Nat.le_of_ble_eq_true rfl) (Nat.le_of_ble_eq_true rfl) rfl (Nat.le_of_ble_eq_true rfl) fun w0 hd s0 ar har => ?_, _, Tryd.func147, rfl, by decide⟩
  refine AW.to (Kc 0 (.cel _ _) rfl <| Kc 1 (.cel _ _) rfl <| Kn) ?_
  refine AW.fact (fun a w hr => (ok_slice (R_ok (t := 0) rfl hr)).2) (fun hl0 => ?_)
  refine AW.seq ?_
  refine AW.region ?_
  refine AWl.st rfl (OpT.move (A := .cel _ _) (.inr rfl) rfl (okd rfl rfl) Opd.bool rfl) rfl ?_
  refine AWl.nil ?_
  refine AX.go ?_
  refine AW.seq ?_
  refine AW.region ?_
  refine AWl.st rfl (OpT.move (A := .cel _ _) (.inl rfl) rfl (okd rfl rfl) (Tm rfl rfl rfl) rfl) rfl ?_
  refine AWl.st rfl (OpT.len rfl rfl (okd rfl rfl) (Tm rfl rfl rfl) el139) rfl ?_
  refine AWl.st rfl (OpT.move (A := .cel _ _) (.inl rfl) rfl (okd rfl rfl) (Tm rfl rfl rfl) rfl) rfl ?_
  refine AWl.st rfl (OpT.leq rfl rfl (okd rfl rfl) (Tm rfl rfl rfl) (Tm rfl rfl rfl)) rfl ?_
  refine AWl.st rfl (OpT.move (A := .cel _ _) (.inl rfl) rfl (okd rfl rfl) (Tm rfl rfl rfl) rfl) rfl ?_
  apply AWl.and (d := 13) (t := 9) rfl
  · intro hb1 Q1 k1
    refine AWl.rs rfl rfl rfl rfl hb1 (OpT.move (A := .cel _ _) (.inl rfl) rfl (okd rfl rfl) (Tm rfl rfl rfl) rfl) rfl ?_
    refine AWl.rs rfl rfl rfl rfl hb1 (OpT.c1 (ms := [.flat, .flat]) (c_slices_ContainsFunc_string_string (fun s => !(tt (nameOK s))) CloArgs.unit (fun s => c_impl_areWords_1 s) _) rfl rfl (okd rfl rfl) (Af (Tm rfl rfl rfl) rfl rfl <| Af Opd.func rfl rfl <| An) rfl rfl) rfl ?_
    refine AWl.rs rfl rfl rfl rfl hb1 (OpT.not rfl rfl (okd rfl rfl) (Tm rfl rfl rfl)) rfl ?_
    refine AWl.st rfl (OpT.pickT (A := .cel _ _) rfl rfl (okd rfl rfl) (Tm rfl rfl rfl) hb1 (Tm rfl rfl rfl) rfl) rfl ?_
    exact AWl.to (junk 3 rfl) k1
  · intro hb1 Q1 k1
    refine AWl.pas rfl rfl rfl rfl hb1 rfl (okd rfl rfl) rfl ?_
    refine AWl.pas rfl rfl rfl rfl hb1 rfl (okd rfl rfl) rfl ?_
    refine AWl.pas rfl rfl rfl rfl hb1 rfl (okd rfl rfl) rfl ?_
    refine AWl.st rfl (OpT.pickF (A := .cel _ _) rfl rfl (okd rfl rfl) (Tm rfl rfl rfl) hb1 Opd.bool rfl) rfl ?_
    exact k1
  refine AWl.sg rfl (OpT.move (A := .cel _ _) (.inr rfl) rfl (okd rfl rfl) (Tm rfl rfl rfl) rfl) (Kc 4 (.cel _ _) rfl <| Kc 13 (.cel _ _) rfl <| Kc 9 (.cel _ _) rfl <| Kc 8 (.cel _ _) rfl <| Kc 7 (.cel _ _) rfl <| Kc 6 (.cel _ _) rfl <| Kc 5 (.cel _ _) rfl <| Kc 0 (.cel _ _) rfl <| Kc 1 (.cel _ _) rfl <| Kn) ?_
  refine AWl.nil ?_
  refine AX.pr (Kc 4 (.cel _ _) rfl <| Kn) ?_
  refine AX.go ?_
  refine AW.ret ?_
  exact AX.rt (rs := [.tmp 4]) (ts := [some 4]) (.inl rfl) rfl (ROs.cons (RO.tmp (At.self (by decide)) (Kv rfl words_and) rfl) <| ROs.nil) (by decide) OutsOK.nil

/-- impl.isLot$1 -/
theorem c_impl_isLot_1 (x : List ByteArray) : AC Tryd.prog 146 [.cel (Kd.slice Kd.str) x] [.cel Kd.bool (!(tt (wordsOK 12 x)))] [] := by
  refine ⟨ACall.intro (N := 6) Tryd.func146 (c := _) (rfl : Func.body _ = some _) rfl (Nat.le_of_ble_eq_true rfl) (Nat.le_of_ble_eq_true rfl) rfl (Nat.le_of_ble_eq_true rfl) fun w0 hd s0 ar har => ?_, _, Tryd.func146, rfl, by decide⟩
  refine AW.to (Kc 0 (.cel _ _) rfl <| Kn) ?_
  refine AW.seq ?_
  refine AW.region ?_
  refine AWl.st rfl (OpT.move (A := .cel _ _) (.inr rfl) rfl (okd rfl rfl) Opd.bool rfl) rfl ?_
  refine AWl.nil ?_
  refine AX.go ?_
  refine AW.seq ?_
  refine AW.region ?_
  refine AWl.st rfl (OpT.move (A := .cel _ _) (.inl rfl) rfl (okd rfl rfl) (Tm rfl rfl rfl) rfl) rfl ?_
  refine AWl.st rfl (OpT.c1 (ms := [.flat, .flat]) (c_impl_areWords _ _) rfl rfl (okd rfl rfl) (Af (Tm rfl rfl rfl) rfl rfl <| Af (I rfl) rfl rfl <| An) rfl rfl) rfl ?_
  refine AWl.st rfl (OpT.not rfl rfl (okd rfl rfl) (Tm rfl rfl rfl)) rfl ?_
  refine AWl.sg rfl (OpT.move (A := .cel _ _) (.inr rfl) rfl (okd rfl rfl) (Tm rfl rfl rfl) rfl) (Kc 2 (.cel _ _) rfl <| Kc 5 (.cel _ _) rfl <| Kc 4 (.cel _ _) rfl <| Kc 3 (.cel _ _) rfl <| Kc 0 (.cel _ _) rfl <| Kn) ?_
  refine AWl.nil ?_
  refine AX.pr (Kc 2 (.cel _ _) rfl <| Kn) ?_
  refine AX.go ?_
  refine AW.ret ?_
  exact AX.rt (rs := [.tmp 2]) (ts := [some 2]) (.inl rfl) rfl (ROs.cons (RO.tmp (At.self (by decide)) (Kv rfl rfl) rfl) <| ROs.nil) (by decide) OutsOK.nil

/-- impl.isLot -/
theorem c_impl_isLot (x : List (List ByteArray)) : AC Tryd.prog 105 [.cel (Kd.slice (Kd.slice Kd.str)) x] [.cel Kd.bool (tt (lotOK x))] [] := by
  refine ⟨ACall.intro (N := 11) Tryd.func105 (c := _) (rfl : Func.body _ = some _) rfl (Nat.le_of_ble_eq_true rfl) (Nat.le_of_ble_eq_true rfl) rfl (Nat.le_of_ble_eq_true rfl) fun w0 hd s0 ar har => ?_, _, Tryd.func105, rfl, by decide⟩
  refine AW.to (Kc 0 (.cel _ _) rfl <| Kn) ?_
  refine AW.fact (fun a w hr => (ok_slice (R_ok (t := 0) rfl hr)).2) (fun hl0 => ?_)
  refine AW.seq ?_
  refine AW.region ?_
  refine AWl.st rfl (OpT.move (A := .cel _ _) (.inr rfl) rfl (okd rfl rfl) Opd.bool rfl) rfl ?_
  refine AWl.nil ?_
  refine AX.go ?_
  refine AW.seq ?_
  refine AW.region ?_
  refine AWl.st rfl (OpT.move (A := .cel _ _) (.inl rfl) rfl (okd rfl rfl) (Tm rfl rfl rfl) rfl) rfl ?_
  refine AWl.st rfl (OpT.len rfl rfl (okd rfl rfl) (Tm rfl rfl rfl) el78) rfl ?_
  refine AWl.st rfl (OpT.leq rfl rfl (okd rfl rfl) (Tm rfl rfl rfl) (I rfl)) rfl ?_
  refine AWl.st rfl (OpT.move (A := .cel _ _) (.inl rfl) rfl (okd rfl rfl) (Tm rfl rfl rfl) rfl) rfl ?_
  apply AWl.and (d := 10) (t := 6) rfl
  · intro hb1 Q1 k1
    refine AWl.rs rfl rfl rfl rfl hb1 (OpT.move (A := .cel _ _) (.inl rfl) rfl (okd rfl rfl) (Tm rfl rfl rfl) rfl) rfl ?_
    refine AWl.rs rfl rfl rfl rfl hb1 (OpT.c1 (ms := [.flat, .flat]) (c_slices_ContainsFunc_SS_string_string (fun s => !(tt (wordsOK 12 s))) CloArgs.unit (fun s => c_impl_isLot_1 s) _) rfl rfl (okd rfl rfl) (Af (Tm rfl rfl rfl) rfl rfl <| Af Opd.func rfl rfl <| An) rfl rfl) rfl ?_
    refine AWl.rs rfl rfl rfl rfl hb1 (OpT.not rfl rfl (okd rfl rfl) (Tm rfl rfl rfl)) rfl ?_
    refine AWl.st rfl (OpT.pickT (A := .cel _ _) rfl rfl (okd rfl rfl) (Tm rfl rfl rfl) hb1 (Tm rfl rfl rfl) rfl) rfl ?_
    exact AWl.to (junk 3 rfl) k1
  · intro hb1 Q1 k1
    refine AWl.pas rfl rfl rfl rfl hb1 rfl (okd rfl rfl) rfl ?_
    refine AWl.pas rfl rfl rfl rfl hb1 rfl (okd rfl rfl) rfl ?_
    refine AWl.pas rfl rfl rfl rfl hb1 rfl (okd rfl rfl) rfl ?_
    refine AWl.st rfl (OpT.pickF (A := .cel _ _) rfl rfl (okd rfl rfl) (Tm rfl rfl rfl) hb1 Opd.bool rfl) rfl ?_
    exact k1
  refine AWl.sg rfl (OpT.move (A := .cel _ _) (.inr rfl) rfl (okd rfl rfl) (Tm rfl rfl rfl) rfl) (Kc 2 (.cel _ _) rfl <| Kc 10 (.cel _ _) rfl <| Kc 6 (.cel _ _) rfl <| Kc 5 (.cel _ _) rfl <| Kc 4 (.cel _ _) rfl <| Kc 3 (.cel _ _) rfl <| Kc 0 (.cel _ _) rfl <| Kn) ?_
  refine AWl.nil ?_
  refine AX.pr (Kc 2 (.cel _ _) rfl <| Kn) ?_
  refine AX.go ?_
  refine AW.ret ?_
  exact AX.rt (rs := [.tmp 2]) (ts := [some 2]) (.inl rfl) rfl (ROs.cons (RO.tmp (At.self (by decide)) (Kv rfl lot_and) rfl) <| ROs.nil) (by decide) OutsOK.nil

/-- spec.ExpectedFalse -/
theorem c_spec_ExpectedFalse (mx : Int × Int × Int) (x : List (List ByteArray)) (m : Int) : AC Tryd.prog 43 [.agg kMix mx, .cel (Kd.slice (Kd.slice Kd.str)) x, .cel (Kd.int .i64) m] [.cel (Kd.int .i64) (expS mx x m).1, .cel (Kd.int .i64) (expS mx x m).2] [] := by
  refine ⟨ACall.intro (N := 43) Tryd.func43 (c := _) (rfl : Func.body _ = some _) rfl (Nat.le_of_ble_eq_true rfl) (Nat.le_of_ble_eq_true rfl) rfl (Nat.le_of_ble_eq_true rfl) fun w0 hd s0 ar har => ?_, _, Tryd.func43, rfl, by decide⟩
  refine AW.to (Kc 0 (.agg _ _) rfl <| Kc 1 (.cel _ _) rfl <| Kc 2 (.cel _ _) rfl <| Kn) ?_
  refine AW.fact (fun a w hr => (ok_slice (R_ok (t := 1) rfl hr)).2) (fun hl1 => ?_)
  refine AW.fact (fun a w hr => okMix (R_okA (t := 0) rfl hr)) (fun hmx => ?_)
  refine AW.seq ?_
  refine AW.region ?_
  refine AWl.st rfl (OpT.frz (OpT.boxA (E := 81) rfl rfl (okd rfl rfl) (Tm rfl rfl rfl))) rfl ?_
  refine AWl.st rfl (OpT.move (A := .cel _ _) (.inr rfl) rfl (okd rfl rfl) (I rfl) rfl) rfl ?_
  refine AWl.st rfl (OpT.move (A := .cel _ _) (.inr rfl) rfl (okd rfl rfl) (I rfl) rfl) rfl ?_
  refine AWl.nil ?_
  refine AX.pr (Kc 7 (.cel _ _) rfl <| Kc 6 (.cel _ _) rfl <| Kc 3 (.cel _ _) rfl <| Kc 1 (.cel _ _) rfl <| Kc 2 (.cel _ _) rfl <| Kn) ?_
  refine AX.go ?_
  refine AW.seq ?_
  refine AW.seq ?_
  refine AW.region ?_
  refine AWl.st rfl (OpT.c1 (ms := [.flat]) (c_spec_l03Ok _) rfl rfl (okd rfl rfl) (Af (Tm rfl rfl rfl) rfl rfl <| An) rfl rfl) rfl ?_
  refine AWl.st rfl (OpT.not rfl rfl (okd rfl rfl) (Tm rfl rfl rfl)) rfl ?_
  refine AWl.nil ?_
  refine AX.pr (Kc 12 (.cel _ _) rfl <| Kc 7 (.cel _ _) rfl <| Kc 6 (.cel _ _) rfl <| Kc 3 (.cel _ _) rfl <| Kc 1 (.cel _ _) rfl <| Kc 2 (.cel _ _) rfl <| Kn) ?_
  refine AX.go ?_
  refine AW.cond (t := 12) rfl (by decide) (fun hc1 => ?_) (fun hc1 => ?_)
  ·
    try simp only [decide_eq_true_eq, decide_eq_false_iff_not, Bool.not_eq_true', Bool.not_eq_false'] at hc1
    have hc1' := hc1; try simp only [decide_eq_true_eq, decide_eq_false_iff_not, beq_iff_eq, beq_eq_false_iff_ne, bne_iff_ne, bne_eq_false_iff_eq, ne_eq, Bool.not_eq_true', Bool.not_eq_false', Bool.and_eq_true, Bool.or_eq_true, Bool.or_eq_false_iff, Bool.and_eq_false_iff, Bool.not_true, Bool.not_false] at hc1'
    refine AW.seq ?_
    refine AW.region ?_
    refine AWl.sg rfl (OpT.move (A := .cel _ _) (.inr rfl) rfl (okd rfl rfl) (I rfl) rfl) (Kc 6 (.cel _ _) rfl <| Kc 12 (.cel _ _) rfl <| Kc 7 (.cel _ _) rfl <| Kc 3 (.cel _ _) rfl <| Kc 1 (.cel _ _) rfl <| Kc 2 (.cel _ _) rfl <| Kn) ?_
    refine AWl.sg rfl (OpT.move (A := .cel _ _) (.inr rfl) rfl (okd rfl rfl) (I rfl) rfl) (Kc 7 (.cel _ _) rfl <| Kc 6 (.cel _ _) rfl <| Kc 12 (.cel _ _) rfl <| Kc 3 (.cel _ _) rfl <| Kc 1 (.cel _ _) rfl <| Kc 2 (.cel _ _) rfl <| Kn) ?_
    refine AWl.nil ?_
    refine AX.pr (Kc 7 (.cel _ _) rfl <| Kc 6 (.cel _ _) rfl <| Kc 3 (.cel _ _) rfl <| Kc 1 (.cel _ _) rfl <| Kc 2 (.cel _ _) rfl <| Kn) ?_
    refine AX.go ?_
    refine AW.ret ?_
    refine AX.ret_then ?_
    exact AX.rt (rs := [.tmp 6, .tmp 7]) (ts := [some 6, some 7]) (.inl rfl) rfl (ROs.cons (RO.tmp (At.self (by decide)) (Kv rfl (by first | (rw [expS_mix (by simpa using hc1)]; done) | (rw [expS_no hmix hno]; first | done | exact hno2) | (rw [expS_no hmix (fun h => by omega)]; done) | (rw [expS_yes hmix ⟨hlot, by omega⟩]; first | done | rw [List.take_of_length_le (by omega)]))) rfl) <| ROs.cons (RO.tmp (At.self (by decide)) (Kv rfl (by first | (rw [expS_mix (by simpa using hc1)]; done) | (rw [expS_no hmix hno]; first | done | exact hno2) | (rw [expS_no hmix (fun h => by omega)]; done) | (rw [expS_yes hmix ⟨hlot, by omega⟩]; first | done | rw [List.take_of_length_le (by omega)]))) rfl) <| ROs.nil) (by decide) OutsOK.nil
  ·
    try simp only [decide_eq_true_eq, decide_eq_false_iff_not, Bool.not_eq_true', Bool.not_eq_false'] at hc1
    have hc1' := hc1; try simp only [decide_eq_true_eq, decide_eq_false_iff_not, beq_iff_eq, beq_eq_false_iff_ne, bne_iff_ne, bne_eq_false_iff_eq, ne_eq, Bool.not_eq_true', Bool.not_eq_false', Bool.and_eq_true, Bool.or_eq_true, Bool.or_eq_false_iff, Bool.and_eq_false_iff, Bool.not_true, Bool.not_false] at hc1'
    have hmix : mixS mx = true := by simpa using hc1
    have hab := mix_ab hmix
    refine AW.skip ?_
    refine AX.pr (Kc 7 (.cel _ _) rfl <| Kc 6 (.cel _ _) rfl <| Kc 3 (.cel _ _) rfl <| Kc 1 (.cel _ _) rfl <| Kc 2 (.cel _ _) rfl <| Kn) ?_
    refine AX.go ?_
    refine AW.seq ?_
    refine AW.seq ?_
    refine AW.region ?_
    refine AWl.st rfl (OpT.move (A := .cel _ _) (.inl rfl) rfl (okd rfl rfl) (Tm rfl rfl rfl) rfl) rfl ?_
    refine AWl.st rfl (OpT.c1 (ms := [.flat]) (c_spec_l03Lot _) rfl rfl (okd rfl rfl) (Af (Tm rfl rfl rfl) rfl rfl <| An) rfl rfl) rfl ?_
    refine AWl.st rfl (OpT.move (A := .cel _ _) (.inr rfl) rfl (okd rfl rfl) (Tm rfl rfl rfl) rfl) rfl ?_
    refine AWl.nil ?_
    refine AX.pr (Kc 8 (.cel _ _) rfl <| Kc 7 (.cel _ _) rfl <| Kc 6 (.cel _ _) rfl <| Kc 3 (.cel _ _) rfl <| Kc 1 (.cel _ _) rfl <| Kc 2 (.cel _ _) rfl <| Kn) ?_
    refine AX.go ?_
    refine AW.seq ?_
    refine AW.region ?_
    refine AWl.st rfl (OpT.move (A := .cel _ _) (.inl rfl) rfl (okd rfl rfl) (Tm rfl rfl rfl) rfl) rfl ?_
    refine AWl.st rfl (OpT.neq rfl rfl (okd rfl rfl) (Tm rfl rfl rfl) (I rfl)) rfl ?_
    refine AWl.nil ?_
    refine AX.pr (Kc 16 (.cel _ _) rfl <| Kc 8 (.cel _ _) rfl <| Kc 7 (.cel _ _) rfl <| Kc 6 (.cel _ _) rfl <| Kc 3 (.cel _ _) rfl <| Kc 1 (.cel _ _) rfl <| Kc 2 (.cel _ _) rfl <| Kn) ?_
    refine AX.go ?_
    refine AW.cond (t := 16) rfl (by decide) (fun hc2 => ?_) (fun hc2 => ?_)
    ·
      try simp only [decide_eq_true_eq, decide_eq_false_iff_not, Bool.not_eq_true', Bool.not_eq_false'] at hc2
      have hc2' := hc2; try simp only [decide_eq_true_eq, decide_eq_false_iff_not, beq_iff_eq, beq_eq_false_iff_ne, bne_iff_ne, bne_eq_false_iff_eq, ne_eq, Bool.not_eq_true', Bool.not_eq_false', Bool.and_eq_true, Bool.or_eq_true, Bool.or_eq_false_iff, Bool.and_eq_false_iff, Bool.not_true, Bool.not_false] at hc2'
      have hno : ¬ (lotOK x ∧ 0 ≤ m ∧ m ≤ 12) := fun h => (err2_two hc2').1 h.1
      have hno2 := (err2_two hc2').2
      refine AW.seq ?_
      refine AW.region ?_
      refine AWl.st rfl (OpT.move (A := .cel _ _) (.inl rfl) rfl (okd rfl rfl) (Tm rfl rfl rfl) rfl) rfl ?_
      refine AWl.sg rfl (OpT.move (A := .cel _ _) (.inr rfl) rfl (okd rfl rfl) (I rfl) rfl) (Kc 6 (.cel _ _) rfl <| Kc 17 (.cel _ _) rfl <| Kc 16 (.cel _ _) rfl <| Kc 8 (.cel _ _) rfl <| Kc 7 (.cel _ _) rfl <| Kc 3 (.cel _ _) rfl <| Kc 1 (.cel _ _) rfl <| Kc 2 (.cel _ _) rfl <| Kn) ?_
      refine AWl.sg rfl (OpT.move (A := .cel _ _) (.inr rfl) rfl (okd rfl rfl) (Tm rfl rfl rfl) rfl) (Kc 7 (.cel _ _) rfl <| Kc 6 (.cel _ _) rfl <| Kc 17 (.cel _ _) rfl <| Kc 16 (.cel _ _) rfl <| Kc 8 (.cel _ _) rfl <| Kc 3 (.cel _ _) rfl <| Kc 1 (.cel _ _) rfl <| Kc 2 (.cel _ _) rfl <| Kn) ?_
      refine AWl.nil ?_
      refine AX.pr (Kc 7 (.cel _ _) rfl <| Kc 6 (.cel _ _) rfl <| Kc 3 (.cel _ _) rfl <| Kc 1 (.cel _ _) rfl <| Kc 2 (.cel _ _) rfl <| Kn) ?_
      refine AX.go ?_
      refine AW.ret ?_
      refine AX.ret_then ?_
      exact AX.rt (rs := [.tmp 6, .tmp 7]) (ts := [some 6, some 7]) (.inl rfl) rfl (ROs.cons (RO.tmp (At.self (by decide)) (Kv rfl (by first | (rw [expS_mix (by simpa using hc1)]; done) | (rw [expS_no hmix hno]; first | done | exact hno2) | (rw [expS_no hmix (fun h => by omega)]; done) | (rw [expS_yes hmix ⟨hlot, by omega⟩]; first | done | rw [List.take_of_length_le (by omega)]))) rfl) <| ROs.cons (RO.tmp (At.self (by decide)) (Kv rfl (by first | (rw [expS_mix (by simpa using hc1)]; done) | (rw [expS_no hmix hno]; first | done | exact hno2) | (rw [expS_no hmix (fun h => by omega)]; done) | (rw [expS_yes hmix ⟨hlot, by omega⟩]; first | done | rw [List.take_of_length_le (by omega)]))) rfl) <| ROs.nil) (by decide) OutsOK.nil
    ·
      try simp only [decide_eq_true_eq, decide_eq_false_iff_not, Bool.not_eq_true', Bool.not_eq_false'] at hc2
      have hc2' := hc2; try simp only [decide_eq_true_eq, decide_eq_false_iff_not, beq_iff_eq, beq_eq_false_iff_ne, bne_iff_ne, bne_eq_false_iff_eq, ne_eq, Bool.not_eq_true', Bool.not_eq_false', Bool.and_eq_true, Bool.or_eq_true, Bool.or_eq_false_iff, Bool.and_eq_false_iff, Bool.not_true, Bool.not_false] at hc2'
      have hlot := err2_zero hc2'
      have hlt := hlot.1
      refine AW.skip ?_
      refine AX.pr (Kc 7 (.cel _ _) rfl <| Kc 6 (.cel _ _) rfl <| Kc 3 (.cel _ _) rfl <| Kc 1 (.cel _ _) rfl <| Kc 2 (.cel _ _) rfl <| Kn) ?_
      refine AX.go ?_
      refine AW.seq ?_
      refine AW.seq ?_
      refine AW.region ?_
      refine AWl.st rfl (OpT.move (A := .cel _ _) (.inl rfl) rfl (okd rfl rfl) (Tm rfl rfl rfl) rfl) rfl ?_
      refine AWl.st rfl (OpT.c1 (ms := [.flat, .flat, .flat]) (c_spec_l00In _ _ _) rfl rfl (okd rfl rfl) (Af (Tm rfl rfl rfl) rfl rfl <| Af (I rfl) rfl rfl <| Af (I rfl) rfl rfl <| An) rfl rfl) rfl ?_
      refine AWl.st rfl (OpT.not rfl rfl (okd rfl rfl) (Tm rfl rfl rfl)) rfl ?_
      refine AWl.nil ?_
      refine AX.pr (Kc 20 (.cel _ _) rfl <| Kc 7 (.cel _ _) rfl <| Kc 6 (.cel _ _) rfl <| Kc 3 (.cel _ _) rfl <| Kc 1 (.cel _ _) rfl <| Kc 2 (.cel _ _) rfl <| Kn) ?_
      refine AX.go ?_
      refine AW.cond (t := 20) rfl (by decide) (fun hc3 => ?_) (fun hc3 => ?_)
      ·
        try simp only [decide_eq_true_eq, decide_eq_false_iff_not, Bool.not_eq_true', Bool.not_eq_false'] at hc3
        have hc3' := hc3; try simp only [decide_eq_true_eq, decide_eq_false_iff_not, beq_iff_eq, beq_eq_false_iff_ne, bne_iff_ne, bne_eq_false_iff_eq, ne_eq, Bool.not_eq_true', Bool.not_eq_false', Bool.and_eq_true, Bool.or_eq_true, Bool.or_eq_false_iff, Bool.and_eq_false_iff, Bool.not_true, Bool.not_false] at hc3'
        simp only [inb, Bool.and_eq_false_iff, Bool.and_eq_true, decide_eq_true_eq, decide_eq_false_iff_not] at hc3'
        refine AW.seq ?_
        refine AW.region ?_
        refine AWl.sg rfl (OpT.move (A := .cel _ _) (.inr rfl) rfl (okd rfl rfl) (I rfl) rfl) (Kc 6 (.cel _ _) rfl <| Kc 20 (.cel _ _) rfl <| Kc 7 (.cel _ _) rfl <| Kc 3 (.cel _ _) rfl <| Kc 1 (.cel _ _) rfl <| Kc 2 (.cel _ _) rfl <| Kn) ?_
        refine AWl.sg rfl (OpT.move (A := .cel _ _) (.inr rfl) rfl (okd rfl rfl) (I rfl) rfl) (Kc 7 (.cel _ _) rfl <| Kc 6 (.cel _ _) rfl <| Kc 20 (.cel _ _) rfl <| Kc 3 (.cel _ _) rfl <| Kc 1 (.cel _ _) rfl <| Kc 2 (.cel _ _) rfl <| Kn) ?_
        refine AWl.nil ?_
        refine AX.pr (Kc 7 (.cel _ _) rfl <| Kc 6 (.cel _ _) rfl <| Kc 3 (.cel _ _) rfl <| Kc 1 (.cel _ _) rfl <| Kc 2 (.cel _ _) rfl <| Kn) ?_
        refine AX.go ?_
        refine AW.ret ?_
        refine AX.ret_then ?_
        exact AX.rt (rs := [.tmp 6, .tmp 7]) (ts := [some 6, some 7]) (.inl rfl) rfl (ROs.cons (RO.tmp (At.self (by decide)) (Kv rfl (by first | (rw [expS_mix (by simpa using hc1)]; done) | (rw [expS_no hmix hno]; first | done | exact hno2) | (rw [expS_no hmix (fun h => by omega)]; done) | (rw [expS_yes hmix ⟨hlot, by omega⟩]; first | done | rw [List.take_of_length_le (by omega)]))) rfl) <| ROs.cons (RO.tmp (At.self (by decide)) (Kv rfl (by first | (rw [expS_mix (by simpa using hc1)]; done) | (rw [expS_no hmix hno]; first | done | exact hno2) | (rw [expS_no hmix (fun h => by omega)]; done) | (rw [expS_yes hmix ⟨hlot, by omega⟩]; first | done | rw [List.take_of_length_le (by omega)]))) rfl) <| ROs.nil) (by decide) OutsOK.nil
      ·
        try simp only [decide_eq_true_eq, decide_eq_false_iff_not, Bool.not_eq_true', Bool.not_eq_false'] at hc3
        have hc3' := hc3; try simp only [decide_eq_true_eq, decide_eq_false_iff_not, beq_iff_eq, beq_eq_false_iff_ne, bne_iff_ne, bne_eq_false_iff_eq, ne_eq, Bool.not_eq_true', Bool.not_eq_false', Bool.and_eq_true, Bool.or_eq_true, Bool.or_eq_false_iff, Bool.and_eq_false_iff, Bool.not_true, Bool.not_false] at hc3'
        simp only [inb, Bool.and_eq_false_iff, Bool.and_eq_true, decide_eq_true_eq, decide_eq_false_iff_not] at hc3'
        refine AW.skip ?_
        refine AX.pr (Kc 7 (.cel _ _) rfl <| Kc 6 (.cel _ _) rfl <| Kc 3 (.cel _ _) rfl <| Kc 1 (.cel _ _) rfl <| Kc 2 (.cel _ _) rfl <| Kn) ?_
        refine AX.go ?_
        refine AW.seq ?_
        refine AW.region ?_
        refine AWl.st rfl (OpT.move (A := .cel _ _) (.inr rfl) rfl (okd rfl rfl) (I rfl) rfl) rfl ?_
        refine AWl.nil ?_
        refine AX.go ?_
        refine AW.seq ?_
        refine AW.seq ?_
        refine AW.region ?_
        refine AWl.st rfl (OpT.move (A := .cel _ _) (.inr rfl) rfl (okd rfl rfl) (I rfl) rfl) rfl ?_
        refine AWl.nil ?_
        refine AX.go ?_
        refine AW.block ?_
        refine AW.loop (fun z : Nat => z ≤ x.length) (fun z : Nat => keep [(1, .cel (Kd.slice (Kd.slice Kd.str)) x), (2, .cel (Kd.int .i64) m), (3, .cel (Kd.ptr kMix) mx), (9, .cel (Kd.int .i64) (sumE mx m (x.take z))), (10, .cel (Kd.int .i64) (z : Int))]) (fun z : Nat => x.length - z) (0) (Nat.zero_le _) (Kc 1 _ (Kv rfl rfl) <| Kc 2 _ (Kv rfl rfl) <| Kc 3 _ (Kv rfl rfl) <| Kc 9 _ (Kv rfl rfl) <| Kc 10 _ (Kv rfl rfl) <| Kn) ?_
        intro z hI
        refine AW.seq ?_
        refine AW.seq ?_
        refine AW.region ?_
        refine AWl.st rfl (OpT.move (A := .cel _ _) (.inl rfl) rfl (okd rfl rfl) (Tm rfl rfl rfl) rfl) rfl ?_
        refine AWl.st rfl (OpT.move (A := .cel _ _) (.inl rfl) rfl (okd rfl rfl) (Tm rfl rfl rfl) rfl) rfl ?_
        refine AWl.st rfl (OpT.len rfl rfl (okd rfl rfl) (Tm rfl rfl rfl) el78) rfl ?_
        refine AWl.st rfl (OpT.lss rfl rfl (okd rfl rfl) (Tm rfl rfl rfl) (Tm rfl rfl rfl)) rfl ?_
        refine AWl.nil ?_
        refine AX.go ?_
        refine AW.cond (t := 24) rfl (by decide) (fun hc4 => ?_) (fun hc4 => ?_)
        ·
          try simp only [decide_eq_true_eq, decide_eq_false_iff_not, Bool.not_eq_true', Bool.not_eq_false'] at hc4
          have hc4' := hc4; try simp only [decide_eq_true_eq, decide_eq_false_iff_not, beq_iff_eq, beq_eq_false_iff_ne, bne_iff_ne, bne_eq_false_iff_eq, ne_eq, Bool.not_eq_true', Bool.not_eq_false', Bool.and_eq_true, Bool.or_eq_true, Bool.or_eq_false_iff, Bool.and_eq_false_iff, Bool.not_true, Bool.not_false] at hc4'
          obtain ⟨k, hk⟩ := getI (x := x) (z := z) (by omega)
          have hkl := lot_len hlot hk
          have hse := sumE_in (m := m) hab x z
          have hch := chance_in mx.2.1 mx.2.2 k.length m hab
          refine AW.skip ?_
          refine AX.go ?_
          refine AW.seq ?_
          refine AW.block ?_
          refine AW.dg fomo ?_
          refine DG.fr (d := 27) [9] (DS rfl fun ve h => OpT.move (A := .cel _ _) (.inl rfl) rfl (okd rfl rfl) (D h rfl rfl rfl rfl) rfl) rfl rfl ?_
          refine DG.fr (d := 28) [3] (DS rfl fun ve h => OpT.fieldAddr rfl rfl (okd rfl rfl) (D h rfl rfl rfl rfl) fd81_1 sz51 (by decide) sb81_1) rfl rfl ?_
          refine DG.fr (d := 29) [28] (DS rfl fun ve h => OpT.load rfl rfl (okd rfl rfl) (D h rfl rfl rfl rfl) ag51 rfl) rfl rfl ?_
          refine DG.fr (d := 30) [29] (DS rfl fun ve h => OpT.conv rfl rfl (okd rfl rfl) us51 Tryd.underlying2 (D h rfl rfl rfl rfl) (nw (by omega))) rfl rfl ?_
          refine DG.fr (d := 31) [3] (DS rfl fun ve h => OpT.fieldAddr rfl rfl (okd rfl rfl) (D h rfl rfl rfl rfl) fd81_2 sz51 (by decide) sb81_2) rfl rfl ?_
          refine DG.fr (d := 32) [31] (DS rfl fun ve h => OpT.load rfl rfl (okd rfl rfl) (D h rfl rfl rfl rfl) ag51 rfl) rfl rfl ?_
          refine DG.fr (d := 33) [32] (DS rfl fun ve h => OpT.conv rfl rfl (okd rfl rfl) us51 Tryd.underlying2 (D h rfl rfl rfl rfl) (nw (by omega))) rfl rfl ?_
          refine DG.fr (d := 34) [1] (DS rfl fun ve h => OpT.move (A := .cel _ _) (.inl rfl) rfl (okd rfl rfl) (D h rfl rfl rfl rfl) rfl) rfl rfl ?_
          refine DG.fr (d := 35) [10] (DS rfl fun ve h => OpT.move (A := .cel _ _) (.inl rfl) rfl (okd rfl rfl) (D h rfl rfl rfl rfl) rfl) rfl rfl ?_
          refine DG.fr (d := 36) [34, 35] (DS rfl fun ve h => OpT.indexAddr rfl rfl (okd rfl rfl) (D h rfl rfl rfl rfl) (D h rfl rfl rfl rfl) el78 sz139 (by omega) (by assumption)) rfl rfl ?_
          refine DG.fr (d := 37) [36] (DS rfl fun ve h => OpT.load rfl rfl (okd rfl rfl) (D h rfl rfl rfl rfl) ag139 rfl) rfl rfl ?_
          refine DG.fr (d := 38) [37] (DS rfl fun ve h => OpT.len rfl rfl (okd rfl rfl) (D h rfl rfl rfl rfl) el139) rfl rfl ?_
          refine DG.fr (d := 39) [2] (DS rfl fun ve h => OpT.move (A := .cel _ _) (.inl rfl) rfl (okd rfl rfl) (D h rfl rfl rfl rfl) rfl) rfl rfl ?_
          refine DG.fr (d := 40) [30, 33, 38, 39] (DS rfl fun ve h => OpT.c1 (ms := [.flat, .flat, .flat, .flat]) (c_spec_l06Chance _ _ _ _ (by omega)) rfl rfl (okd rfl rfl) (Af (D h rfl rfl rfl rfl) rfl rfl <| Af (D h rfl rfl rfl rfl) rfl rfl <| Af (D h rfl rfl rfl rfl) rfl rfl <| Af (D h rfl rfl rfl rfl) rfl rfl <| An) rfl rfl) rfl rfl ?_
          refine DG.fr (d := 41) [27, 40] (DS rfl fun ve h => OpT.add rfl rfl (okd rfl rfl) (D h rfl rfl rfl rfl) (D h rfl rfl rfl rfl) (nw (by omega))) rfl rfl ?_
          refine DG.one (d := 9) (e2 := drp _ _) [41] (DS rfl fun ve h => OpT.move (A := .cel _ _) (.inr rfl) rfl (okd rfl rfl) (D h rfl rfl rfl rfl) rfl) rfl rfl ?_
          refine DG.nil ⟨by kernel_rfl, by kernel_rfl, ?_⟩
          refine AX.normal_block ?_
          refine AX.pr (Kc 9 (.cel _ _) rfl <| Kc 41 (.cel _ _) rfl <| Kc 40 (.cel _ _) rfl <| Kc 39 (.cel _ _) rfl <| Kc 38 (.cel _ _) rfl <| Kc 37 (.cel _ _) rfl <| Kc 36 (.cel _ _) rfl <| Kc 35 (.cel _ _) rfl <| Kc 34 (.cel _ _) rfl <| Kc 33 (.cel _ _) rfl <| Kc 32 (.cel _ _) rfl <| Kc 31 (.cel _ _) rfl <| Kc 30 (.cel _ _) rfl <| Kc 29 (.cel _ _) rfl <| Kc 28 (.cel _ _) rfl <| Kc 27 (.cel _ _) rfl <| Kc 24 (.cel _ _) rfl <| Kc 23 (.cel _ _) rfl <| Kc 22 (.cel _ _) rfl <| Kc 21 (.cel _ _) rfl <| Kc 1 (.cel _ _) rfl <| Kc 2 (.cel _ _) rfl <| Kc 3 (.cel _ _) rfl <| Kc 10 (.cel _ _) rfl <| Kn) ?_
          refine AX.go ?_
          refine AW.region ?_
          refine AWl.st rfl (OpT.move (A := .cel _ _) (.inl rfl) rfl (okd rfl rfl) (Tm rfl rfl rfl) rfl) rfl ?_
          refine AWl.st rfl (OpT.add rfl rfl (okd rfl rfl) (Tm rfl rfl rfl) (I rfl) (nw (by omega))) rfl ?_
          refine AWl.sg rfl (OpT.move (A := .cel _ _) (.inr rfl) rfl (okd rfl rfl) (Tm rfl rfl rfl) rfl) (Kc 10 (.cel _ _) rfl <| Kc 26 (.cel _ _) rfl <| Kc 25 (.cel _ _) rfl <| Kc 9 (.cel _ _) rfl <| Kc 41 (.cel _ _) rfl <| Kc 40 (.cel _ _) rfl <| Kc 39 (.cel _ _) rfl <| Kc 38 (.cel _ _) rfl <| Kc 37 (.cel _ _) rfl <| Kc 36 (.cel _ _) rfl <| Kc 35 (.cel _ _) rfl <| Kc 34 (.cel _ _) rfl <| Kc 33 (.cel _ _) rfl <| Kc 32 (.cel _ _) rfl <| Kc 31 (.cel _ _) rfl <| Kc 30 (.cel _ _) rfl <| Kc 29 (.cel _ _) rfl <| Kc 28 (.cel _ _) rfl <| Kc 27 (.cel _ _) rfl <| Kc 24 (.cel _ _) rfl <| Kc 23 (.cel _ _) rfl <| Kc 22 (.cel _ _) rfl <| Kc 21 (.cel _ _) rfl <| Kc 1 (.cel _ _) rfl <| Kc 2 (.cel _ _) rfl <| Kc 3 (.cel _ _) rfl <| Kn) ?_
          refine AWl.nil ?_
          exact AX.again (z + 1) (by omega) (by omega) (Kc 1 _ (Kv rfl rfl) <| Kc 2 _ (Kv rfl rfl) <| Kc 3 _ (Kv rfl rfl) <| Kc 9 _ (Kv rfl (sumE_next hk)) <| Kc 10 _ (Kv rfl (by omega)) <| Kn)
        ·
          try simp only [decide_eq_true_eq, decide_eq_false_iff_not, Bool.not_eq_true', Bool.not_eq_false'] at hc4
          have hc4' := hc4; try simp only [decide_eq_true_eq, decide_eq_false_iff_not, beq_iff_eq, beq_eq_false_iff_ne, bne_iff_ne, bne_eq_false_iff_eq, ne_eq, Bool.not_eq_true', Bool.not_eq_false', Bool.and_eq_true, Bool.or_eq_true, Bool.or_eq_false_iff, Bool.and_eq_false_iff, Bool.not_true, Bool.not_false] at hc4'
          refine AW.exit ?_
          refine AX.exit_then ?_
          refine AX.exit_then ?_
          refine AX.exit_hit ?_
          refine AX.pr (Kc 9 (.cel _ _) rfl <| Kn) ?_
          refine AX.go ?_
          refine AW.seq ?_
          refine AW.region ?_
          refine AWl.st rfl (OpT.move (A := .cel _ _) (.inl rfl) rfl (okd rfl rfl) (Tm rfl rfl rfl) rfl) rfl ?_
          refine AWl.st rfl (OpT.move (A := .cel _ _) (.inr rfl) rfl (okd rfl rfl) (Tm rfl rfl rfl) rfl) rfl ?_
          refine AWl.st rfl (OpT.move (A := .cel _ _) (.inr rfl) rfl (okd rfl rfl) (I rfl) rfl) rfl ?_
          refine AWl.nil ?_
          refine AX.pr (Kc 7 (.cel _ _) rfl <| Kc 6 (.cel _ _) rfl <| Kn) ?_
          refine AX.go ?_
          refine AW.ret ?_
          exact AX.rt (rs := [.tmp 6, .tmp 7]) (ts := [some 6, some 7]) (.inl rfl) rfl (ROs.cons (RO.tmp (At.self (by decide)) (Kv rfl (by first | (rw [expS_mix (by simpa using hc1)]; done) | (rw [expS_no hmix hno]; first | done | exact hno2) | (rw [expS_no hmix (fun h => by omega)]; done) | (rw [expS_yes hmix ⟨hlot, by omega⟩]; first | done | rw [List.take_of_length_le (by omega)]))) rfl) <| ROs.cons (RO.tmp (At.self (by decide)) (Kv rfl (by first | (rw [expS_mix (by simpa using hc1)]; done) | (rw [expS_no hmix hno]; first | done | exact hno2) | (rw [expS_no hmix (fun h => by omega)]; done) | (rw [expS_yes hmix ⟨hlot, by omega⟩]; first | done | rw [List.take_of_length_le (by omega)]))) rfl) <| ROs.nil) (by decide) OutsOK.nil

/-- impl.ExpectedFalse -/
theorem c_impl_ExpectedFalse (mx : Int × Int × Int) (x : List (List ByteArray)) (m : Int) : AC Tryd.prog 46 [.agg kMix mx, .cel (Kd.slice (Kd.slice Kd.str)) x, .cel (Kd.int .i64) m] [.cel (Kd.int .i64) (expS mx x m).1, .cel (Kd.int .i64) (expS mx x m).2] [] := by
  refine ⟨ACall.intro (N := 45) Tryd.func46 (c := _) (rfl : Func.body _ = some _) rfl (Nat.le_of_ble_eq_true rfl) (Nat.le_of_ble_eq_true rfl) rfl (Nat.le_of_ble_eq_true rfl) fun w0 hd s0 ar har => ?_, _, Tryd.func46, rfl, by decide⟩
  refine AW.to (Kc 0 (.agg _ _) rfl <| Kc 1 (.cel _ _) rfl <| Kc 2 (.cel _ _) rfl <| Kn) ?_
  refine AW.fact (fun a w hr => (ok_slice (R_ok (t := 1) rfl hr)).2) (fun hl1 => ?_)
  refine AW.fact (fun a w hr => okMix (R_okA (t := 0) rfl hr)) (fun hmx => ?_)
  have hsame := mixI_same hmx
  refine AW.seq ?_
  refine AW.region ?_
  refine AWl.st rfl (OpT.frz (OpT.boxA (E := 81) rfl rfl (okd rfl rfl) (Tm rfl rfl rfl))) rfl ?_
  refine AWl.st rfl (OpT.move (A := .cel _ _) (.inr rfl) rfl (okd rfl rfl) (I rfl) rfl) rfl ?_
  refine AWl.st rfl (OpT.move (A := .cel _ _) (.inr rfl) rfl (okd rfl rfl) (I rfl) rfl) rfl ?_
  refine AWl.nil ?_
  refine AX.pr (Kc 7 (.cel _ _) rfl <| Kc 6 (.cel _ _) rfl <| Kc 3 (.cel _ _) rfl <| Kc 1 (.cel _ _) rfl <| Kc 2 (.cel _ _) rfl <| Kn) ?_
  refine AX.go ?_
  refine AW.seq ?_
  refine AW.seq ?_
  refine AW.region ?_
  refine AWl.st rfl (OpT.loadA rfl rfl (okd rfl rfl) (Tm rfl rfl rfl) ag81 sz81) rfl ?_
  refine AWl.st rfl (OpT.c1 (ms := [.flat]) (c_impl_isMix _) rfl rfl (okd rfl rfl) (Af (Tm rfl rfl rfl) rfl rfl <| An) rfl rfl) rfl ?_
  refine AWl.st rfl (OpT.not rfl rfl (okd rfl rfl) (Tm rfl rfl rfl)) rfl ?_
  refine AWl.nil ?_
  refine AX.pr (Kc 13 (.cel _ _) rfl <| Kc 7 (.cel _ _) rfl <| Kc 6 (.cel _ _) rfl <| Kc 3 (.cel _ _) rfl <| Kc 1 (.cel _ _) rfl <| Kc 2 (.cel _ _) rfl <| Kn) ?_
  refine AX.go ?_
  refine AW.cond (t := 13) rfl (by decide) (fun hc1 => ?_) (fun hc1 => ?_)
  ·
    try simp only [decide_eq_true_eq, decide_eq_false_iff_not, Bool.not_eq_true', Bool.not_eq_false'] at hc1
    have hc1' := hc1; try simp only [decide_eq_true_eq, decide_eq_false_iff_not, beq_iff_eq, beq_eq_false_iff_ne, bne_iff_ne, bne_eq_false_iff_eq, ne_eq, Bool.not_eq_true', Bool.not_eq_false', Bool.and_eq_true, Bool.or_eq_true, Bool.or_eq_false_iff, Bool.and_eq_false_iff, Bool.not_true, Bool.not_false] at hc1'
    refine AW.seq ?_
    refine AW.region ?_
    refine AWl.sg rfl (OpT.move (A := .cel _ _) (.inr rfl) rfl (okd rfl rfl) (I rfl) rfl) (Kc 6 (.cel _ _) rfl <| Kc 13 (.cel _ _) rfl <| Kc 7 (.cel _ _) rfl <| Kc 3 (.cel _ _) rfl <| Kc 1 (.cel _ _) rfl <| Kc 2 (.cel _ _) rfl <| Kn) ?_
    refine AWl.sg rfl (OpT.move (A := .cel _ _) (.inr rfl) rfl (okd rfl rfl) (I rfl) rfl) (Kc 7 (.cel _ _) rfl <| Kc 6 (.cel _ _) rfl <| Kc 13 (.cel _ _) rfl <| Kc 3 (.cel _ _) rfl <| Kc 1 (.cel _ _) rfl <| Kc 2 (.cel _ _) rfl <| Kn) ?_
    refine AWl.nil ?_
    refine AX.pr (Kc 7 (.cel _ _) rfl <| Kc 6 (.cel _ _) rfl <| Kc 3 (.cel _ _) rfl <| Kc 1 (.cel _ _) rfl <| Kc 2 (.cel _ _) rfl <| Kn) ?_
    refine AX.go ?_
    refine AW.ret ?_
    refine AX.ret_then ?_
    exact AX.rt (rs := [.tmp 6, .tmp 7]) (ts := [some 6, some 7]) (.inl rfl) rfl (ROs.cons (RO.tmp (At.self (by decide)) (Kv rfl (by first | (rw [expS_mix (by rw [← hsame]; simpa using hc1)]; done) | (rw [expS_no hmix hno]; done) | (rw [expS_yes hmix ⟨hlot, by omega⟩]; first | done | rw [List.take_of_length_le (by omega)]))) rfl) <| ROs.cons (RO.tmp (At.self (by decide)) (Kv rfl (by first | (rw [expS_mix (by rw [← hsame]; simpa using hc1)]; done) | (rw [expS_no hmix hno]; done) | (rw [expS_yes hmix ⟨hlot, by omega⟩]; first | done | rw [List.take_of_length_le (by omega)]))) rfl) <| ROs.nil) (by decide) OutsOK.nil
  ·
    try simp only [decide_eq_true_eq, decide_eq_false_iff_not, Bool.not_eq_true', Bool.not_eq_false'] at hc1
    have hc1' := hc1; try simp only [decide_eq_true_eq, decide_eq_false_iff_not, beq_iff_eq, beq_eq_false_iff_ne, bne_iff_ne, bne_eq_false_iff_eq, ne_eq, Bool.not_eq_true', Bool.not_eq_false', Bool.and_eq_true, Bool.or_eq_true, Bool.or_eq_false_iff, Bool.and_eq_false_iff, Bool.not_true, Bool.not_false] at hc1'
    have hmix : mixS mx = true := by rw [← hsame]; simpa using hc1
    have hab := mix_ab hmix
    refine AW.skip ?_
    refine AX.pr (Kc 7 (.cel _ _) rfl <| Kc 6 (.cel _ _) rfl <| Kc 3 (.cel _ _) rfl <| Kc 1 (.cel _ _) rfl <| Kc 2 (.cel _ _) rfl <| Kn) ?_
    refine AX.go ?_
    refine AW.seq ?_
    refine AW.seq ?_
    refine AW.region ?_
    refine AWl.st rfl (OpT.move (A := .cel _ _) (.inl rfl) rfl (okd rfl rfl) (Tm rfl rfl rfl) rfl) rfl ?_
    refine AWl.st rfl (OpT.c1 (ms := [.flat]) (c_impl_isLot _) rfl rfl (okd rfl rfl) (Af (Tm rfl rfl rfl) rfl rfl <| An) rfl rfl) rfl ?_
    refine AWl.st rfl (OpT.not rfl rfl (okd rfl rfl) (Tm rfl rfl rfl)) rfl ?_
    refine AWl.st rfl (OpT.move (A := .cel _ _) (.inl rfl) rfl (okd rfl rfl) (Tm rfl rfl rfl) rfl) rfl ?_
    apply AWl.or (d := 20) (t := 17) rfl
    · intro hb1 Q1 k1
      have hb1' := hb1; try simp only [decide_eq_true_eq, decide_eq_false_iff_not, beq_iff_eq, beq_eq_false_iff_ne, bne_iff_ne, bne_eq_false_iff_eq, ne_eq, Bool.not_eq_true', Bool.not_eq_false', Bool.and_eq_true, Bool.or_eq_true, Bool.or_eq_false_iff, Bool.and_eq_false_iff, Bool.not_true, Bool.not_false] at hb1'
      refine AWl.rs rfl rfl rfl rfl hb1 (OpT.move (A := .cel _ _) (.inl rfl) rfl (okd rfl rfl) (Tm rfl rfl rfl) rfl) rfl ?_
      refine AWl.rs rfl rfl rfl rfl hb1 (OpT.lss rfl rfl (okd rfl rfl) (Tm rfl rfl rfl) (I rfl)) rfl ?_
      refine AWl.st rfl (OpT.pickF (A := .cel _ _) rfl rfl (okd rfl rfl) (Tm rfl rfl rfl) hb1 (Tm rfl rfl rfl) rfl) rfl ?_
      exact AWl.to (junk 2 rfl) k1
    · intro hb1 Q1 k1
      refine AWl.pas rfl rfl rfl rfl hb1 rfl (okd rfl rfl) rfl ?_
      refine AWl.pas rfl rfl rfl rfl hb1 rfl (okd rfl rfl) rfl ?_
      refine AWl.st rfl (OpT.pickT (A := .cel _ _) rfl rfl (okd rfl rfl) (Tm rfl rfl rfl) hb1 Opd.bool rfl) rfl ?_
      exact k1
    refine AWl.st rfl (OpT.move (A := .cel _ _) (.inl rfl) rfl (okd rfl rfl) (Tm rfl rfl rfl) rfl) rfl ?_
    apply AWl.or (d := 24) (t := 21) rfl
    · intro hb2 Q1 k1
      have hb2' := hb2; try simp only [decide_eq_true_eq, decide_eq_false_iff_not, beq_iff_eq, beq_eq_false_iff_ne, bne_iff_ne, bne_eq_false_iff_eq, ne_eq, Bool.not_eq_true', Bool.not_eq_false', Bool.and_eq_true, Bool.or_eq_true, Bool.or_eq_false_iff, Bool.and_eq_false_iff, Bool.not_true, Bool.not_false] at hb2'
      refine AWl.rs rfl rfl rfl rfl hb2 (OpT.move (A := .cel _ _) (.inl rfl) rfl (okd rfl rfl) (Tm rfl rfl rfl) rfl) rfl ?_
      refine AWl.rs rfl rfl rfl rfl hb2 (OpT.gtr rfl rfl (okd rfl rfl) (Tm rfl rfl rfl) (I rfl)) rfl ?_
      refine AWl.st rfl (OpT.pickF (A := .cel _ _) rfl rfl (okd rfl rfl) (Tm rfl rfl rfl) hb2 (Tm rfl rfl rfl) rfl) rfl ?_
      exact AWl.to (junk 2 rfl) k1
    · intro hb2 Q1 k1
      refine AWl.pas rfl rfl rfl rfl hb2 rfl (okd rfl rfl) rfl ?_
      refine AWl.pas rfl rfl rfl rfl hb2 rfl (okd rfl rfl) rfl ?_
      refine AWl.st rfl (OpT.pickT (A := .cel _ _) rfl rfl (okd rfl rfl) (Tm rfl rfl rfl) hb2 Opd.bool rfl) rfl ?_
      exact k1
    refine AWl.nil ?_
    refine AX.pr (Kc 24 (.cel _ _) rfl <| Kc 7 (.cel _ _) rfl <| Kc 6 (.cel _ _) rfl <| Kc 3 (.cel _ _) rfl <| Kc 1 (.cel _ _) rfl <| Kc 2 (.cel _ _) rfl <| Kn) ?_
    refine AX.go ?_
    refine AW.cond (t := 24) rfl (by decide) (fun hc2 => ?_) (fun hc2 => ?_)
    ·
      try simp only [decide_eq_true_eq, decide_eq_false_iff_not, Bool.not_eq_true', Bool.not_eq_false'] at hc2
      have hc2' := hc2; try simp only [decide_eq_true_eq, decide_eq_false_iff_not, beq_iff_eq, beq_eq_false_iff_ne, bne_iff_ne, bne_eq_false_iff_eq, ne_eq, Bool.not_eq_true', Bool.not_eq_false', Bool.and_eq_true, Bool.or_eq_true, Bool.or_eq_false_iff, Bool.and_eq_false_iff, Bool.not_true, Bool.not_false] at hc2'
      have hno : ¬ (lotOK x ∧ 0 ≤ m ∧ m ≤ 12) := fun h => by rcases hc2' with (h1 | h1) | h1; exact tt_false.1 h1 h.1; omega; omega
      refine AW.seq ?_
      refine AW.region ?_
      refine AWl.sg rfl (OpT.move (A := .cel _ _) (.inr rfl) rfl (okd rfl rfl) (I rfl) rfl) (Kc 6 (.cel _ _) rfl <| Kc 24 (.cel _ _) rfl <| Kc 7 (.cel _ _) rfl <| Kc 3 (.cel _ _) rfl <| Kc 1 (.cel _ _) rfl <| Kc 2 (.cel _ _) rfl <| Kn) ?_
      refine AWl.sg rfl (OpT.move (A := .cel _ _) (.inr rfl) rfl (okd rfl rfl) (I rfl) rfl) (Kc 7 (.cel _ _) rfl <| Kc 6 (.cel _ _) rfl <| Kc 24 (.cel _ _) rfl <| Kc 3 (.cel _ _) rfl <| Kc 1 (.cel _ _) rfl <| Kc 2 (.cel _ _) rfl <| Kn) ?_
      refine AWl.nil ?_
      refine AX.pr (Kc 7 (.cel _ _) rfl <| Kc 6 (.cel _ _) rfl <| Kc 3 (.cel _ _) rfl <| Kc 1 (.cel _ _) rfl <| Kc 2 (.cel _ _) rfl <| Kn) ?_
      refine AX.go ?_
      refine AW.ret ?_
      refine AX.ret_then ?_
      exact AX.rt (rs := [.tmp 6, .tmp 7]) (ts := [some 6, some 7]) (.inl rfl) rfl (ROs.cons (RO.tmp (At.self (by decide)) (Kv rfl (by first | (rw [expS_mix (by rw [← hsame]; simpa using hc1)]; done) | (rw [expS_no hmix hno]; done) | (rw [expS_yes hmix ⟨hlot, by omega⟩]; first | done | rw [List.take_of_length_le (by omega)]))) rfl) <| ROs.cons (RO.tmp (At.self (by decide)) (Kv rfl (by first | (rw [expS_mix (by rw [← hsame]; simpa using hc1)]; done) | (rw [expS_no hmix hno]; done) | (rw [expS_yes hmix ⟨hlot, by omega⟩]; first | done | rw [List.take_of_length_le (by omega)]))) rfl) <| ROs.nil) (by decide) OutsOK.nil
    ·
      try simp only [decide_eq_true_eq, decide_eq_false_iff_not, Bool.not_eq_true', Bool.not_eq_false'] at hc2
      have hc2' := hc2; try simp only [decide_eq_true_eq, decide_eq_false_iff_not, beq_iff_eq, beq_eq_false_iff_ne, bne_iff_ne, bne_eq_false_iff_eq, ne_eq, Bool.not_eq_true', Bool.not_eq_false', Bool.and_eq_true, Bool.or_eq_true, Bool.or_eq_false_iff, Bool.and_eq_false_iff, Bool.not_true, Bool.not_false] at hc2'
      have hlot : lotOK x := tt_iff.1 hc2'.1.1
      have hlt := hlot.1
      refine AW.skip ?_
      refine AX.pr (Kc 7 (.cel _ _) rfl <| Kc 6 (.cel _ _) rfl <| Kc 3 (.cel _ _) rfl <| Kc 1 (.cel _ _) rfl <| Kc 2 (.cel _ _) rfl <| Kn) ?_
      refine AX.go ?_
      refine AW.seq ?_
      refine AW.region ?_
      refine AWl.st rfl (OpT.move (A := .cel _ _) (.inr rfl) rfl (okd rfl rfl) (I rfl) rfl) rfl ?_
      refine AWl.nil ?_
      refine AX.go ?_
      refine AW.seq ?_
      refine AW.seq ?_
      refine AW.region ?_
      refine AWl.st rfl (OpT.move (A := .cel _ _) (.inl rfl) rfl (okd rfl rfl) (Tm rfl rfl rfl) rfl) rfl ?_
      refine AWl.st rfl (OpT.len rfl rfl (okd rfl rfl) (Tm rfl rfl rfl) el78) rfl ?_
      refine AWl.st rfl (OpT.move (A := .cel _ _) (.inl rfl) rfl (okd rfl rfl) (I rfl) rfl) rfl ?_
      refine AWl.nil ?_
      refine AX.pr (Kc 27 (.cel _ _) rfl <| Kc 26 (.cel _ _) rfl <| Kc 25 (.cel _ _) rfl <| Kc 8 (.cel _ _) rfl <| Kc 7 (.cel _ _) rfl <| Kc 6 (.cel _ _) rfl <| Kc 3 (.cel _ _) rfl <| Kc 2 (.cel _ _) rfl <| Kn) ?_
      refine AX.go ?_
      refine AW.block ?_
      refine AW.loop (fun z : Nat => z ≤ x.length) (fun z : Nat => keep [(2, .cel (Kd.int .i64) m), (3, .cel (Kd.ptr kMix) mx), (25, .cel (Kd.slice (Kd.slice Kd.str)) x), (26, .cel (Kd.int .i64) (x.length : Int)), (8, .cel (Kd.int .i64) (sumE mx m (x.take z))), (27, .cel (Kd.int .i64) (z : Int))]) (fun z : Nat => x.length - z) (0) (Nat.zero_le _) (Kc 2 _ (Kv rfl rfl) <| Kc 3 _ (Kv rfl rfl) <| Kc 25 _ (Kv rfl rfl) <| Kc 26 _ (Kv rfl rfl) <| Kc 8 _ (Kv rfl rfl) <| Kc 27 _ (Kv rfl rfl) <| Kn) ?_
      intro z hI
      refine AW.seq ?_
      refine AW.region ?_
      refine AWl.st rfl (OpT.lss rfl rfl (okd rfl rfl) (Tm rfl rfl rfl) (Tm rfl rfl rfl)) rfl ?_
      refine AWl.nil ?_
      refine AX.go ?_
      refine AW.seq ?_
      refine AW.cond (t := 28) rfl (by decide) (fun hc3 => ?_) (fun hc3 => ?_)
      ·
        try simp only [decide_eq_true_eq, decide_eq_false_iff_not, Bool.not_eq_true', Bool.not_eq_false'] at hc3
        have hc3' := hc3; try simp only [decide_eq_true_eq, decide_eq_false_iff_not, beq_iff_eq, beq_eq_false_iff_ne, bne_iff_ne, bne_eq_false_iff_eq, ne_eq, Bool.not_eq_true', Bool.not_eq_false', Bool.and_eq_true, Bool.or_eq_true, Bool.or_eq_false_iff, Bool.and_eq_false_iff, Bool.not_true, Bool.not_false] at hc3'
        obtain ⟨k, hk⟩ := getI (x := x) (z := z) (by omega)
        have hkl := lot_len hlot hk
        have hse := sumE_in (m := m) hab x z
        have hch := chance_in mx.2.1 mx.2.2 k.length m hab
        refine AW.skip ?_
        refine AX.go ?_
        refine AW.seq ?_
        refine AW.block ?_
        refine AW.seq ?_
        refine AW.region ?_
        refine AWl.st rfl (OpT.indexAddr rfl rfl (okd rfl rfl) (Tm rfl rfl rfl) (Tm rfl rfl rfl) el78 sz139 (by omega) (by assumption)) rfl ?_
        refine AWl.st rfl (OpT.load rfl rfl (okd rfl rfl) (Tm rfl rfl rfl) ag139 rfl) rfl ?_
        refine AWl.st rfl (OpT.move (A := .cel _ _) (.inr rfl) rfl (okd rfl rfl) (Tm rfl rfl rfl) rfl) rfl ?_
        refine AWl.nil ?_
        refine AX.go ?_
        refine AW.region ?_
        refine AWl.st rfl (OpT.move (A := .cel _ _) (.inl rfl) rfl (okd rfl rfl) (Tm rfl rfl rfl) rfl) rfl ?_
        refine AWl.st rfl (OpT.fieldAddr rfl rfl (okd rfl rfl) (Tm rfl rfl rfl) fd81_1 sz51 (by decide) sb81_1) rfl ?_
        refine AWl.st rfl (OpT.load rfl rfl (okd rfl rfl) (Tm rfl rfl rfl) ag51 rfl) rfl ?_
        refine AWl.st rfl (OpT.conv rfl rfl (okd rfl rfl) us51 Tryd.underlying2 (Tm rfl rfl rfl) (nw (by omega))) rfl ?_
        refine AWl.st rfl (OpT.fieldAddr rfl rfl (okd rfl rfl) (Tm rfl rfl rfl) fd81_2 sz51 (by decide) sb81_2) rfl ?_
        refine AWl.st rfl (OpT.load rfl rfl (okd rfl rfl) (Tm rfl rfl rfl) ag51 rfl) rfl ?_
        refine AWl.st rfl (OpT.conv rfl rfl (okd rfl rfl) us51 Tryd.underlying2 (Tm rfl rfl rfl) (nw (by omega))) rfl ?_
        refine AWl.st rfl (OpT.move (A := .cel _ _) (.inl rfl) rfl (okd rfl rfl) (Tm rfl rfl rfl) rfl) rfl ?_
        refine AWl.st rfl (OpT.len rfl rfl (okd rfl rfl) (Tm rfl rfl rfl) el139) rfl ?_
        refine AWl.st rfl (OpT.move (A := .cel _ _) (.inl rfl) rfl (okd rfl rfl) (Tm rfl rfl rfl) rfl) rfl ?_
        refine AWl.st rfl (OpT.c1 (ms := [.flat, .flat, .flat, .flat]) (c_impl_falseChance _ _ _ _ (by omega)) rfl rfl (okd rfl rfl) (Af (Tm rfl rfl rfl) rfl rfl <| Af (Tm rfl rfl rfl) rfl rfl <| Af (Tm rfl rfl rfl) rfl rfl <| Af (Tm rfl rfl rfl) rfl rfl <| An) rfl rfl) rfl ?_
        refine AWl.st rfl (OpT.add rfl rfl (okd rfl rfl) (Tm rfl rfl rfl) (Tm rfl rfl rfl) (nw (by omega))) rfl ?_
        refine AWl.sg rfl (OpT.move (A := .cel _ _) (.inr rfl) rfl (okd rfl rfl) (Tm rfl rfl rfl) rfl) (Kc 8 (.cel _ _) rfl <| Kc 42 (.cel _ _) rfl <| Kc 41 (.cel _ _) rfl <| Kc 40 (.cel _ _) rfl <| Kc 39 (.cel _ _) rfl <| Kc 38 (.cel _ _) rfl <| Kc 37 (.cel _ _) rfl <| Kc 36 (.cel _ _) rfl <| Kc 35 (.cel _ _) rfl <| Kc 34 (.cel _ _) rfl <| Kc 33 (.cel _ _) rfl <| Kc 32 (.cel _ _) rfl <| Kc 31 (.cel _ _) rfl <| Kc 10 (.cel _ _) rfl <| Kc 30 (.cel _ _) rfl <| Kc 29 (.cel _ _) rfl <| Kc 28 (.cel _ _) rfl <| Kc 2 (.cel _ _) rfl <| Kc 3 (.cel _ _) rfl <| Kc 25 (.cel _ _) rfl <| Kc 26 (.cel _ _) rfl <| Kc 27 (.cel _ _) rfl <| Kn) ?_
        refine AWl.nil ?_
        refine AX.normal_block ?_
        refine AX.go ?_
        refine AW.region ?_
        refine AWl.st rfl (OpT.add rfl rfl (okd rfl rfl) (Tm rfl rfl rfl) (I rfl) (nw (by omega))) rfl ?_
        refine AWl.sg rfl (OpT.move (A := .cel _ _) (.inl rfl) rfl (okd rfl rfl) (Tm rfl rfl rfl) rfl) (Kc 27 (.cel _ _) rfl <| Kc 43 (.cel _ _) rfl <| Kc 8 (.cel _ _) rfl <| Kc 42 (.cel _ _) rfl <| Kc 41 (.cel _ _) rfl <| Kc 40 (.cel _ _) rfl <| Kc 39 (.cel _ _) rfl <| Kc 38 (.cel _ _) rfl <| Kc 37 (.cel _ _) rfl <| Kc 36 (.cel _ _) rfl <| Kc 35 (.cel _ _) rfl <| Kc 34 (.cel _ _) rfl <| Kc 33 (.cel _ _) rfl <| Kc 32 (.cel _ _) rfl <| Kc 31 (.cel _ _) rfl <| Kc 10 (.cel _ _) rfl <| Kc 30 (.cel _ _) rfl <| Kc 29 (.cel _ _) rfl <| Kc 28 (.cel _ _) rfl <| Kc 2 (.cel _ _) rfl <| Kc 3 (.cel _ _) rfl <| Kc 25 (.cel _ _) rfl <| Kc 26 (.cel _ _) rfl <| Kn) ?_
        refine AWl.nil ?_
        exact AX.again (z + 1) (by omega) (by omega) (Kc 2 _ (Kv rfl rfl) <| Kc 3 _ (Kv rfl rfl) <| Kc 25 _ (Kv rfl rfl) <| Kc 26 _ (Kv rfl rfl) <| Kc 8 _ (Kv rfl (sumE_next hk)) <| Kc 27 _ (Kv rfl (by omega)) <| Kn)
      ·
        try simp only [decide_eq_true_eq, decide_eq_false_iff_not, Bool.not_eq_true', Bool.not_eq_false'] at hc3
        have hc3' := hc3; try simp only [decide_eq_true_eq, decide_eq_false_iff_not, beq_iff_eq, beq_eq_false_iff_ne, bne_iff_ne, bne_eq_false_iff_eq, ne_eq, Bool.not_eq_true', Bool.not_eq_false', Bool.and_eq_true, Bool.or_eq_true, Bool.or_eq_false_iff, Bool.and_eq_false_iff, Bool.not_true, Bool.not_false] at hc3'
        refine AW.exit ?_
        refine AX.exit_then ?_
        refine AX.exit_then ?_
        refine AX.exit_hit ?_
        refine AX.pr (Kc 8 (.cel _ _) rfl <| Kn) ?_
        refine AX.go ?_
        refine AW.seq ?_
        refine AW.region ?_
        refine AWl.st rfl (OpT.move (A := .cel _ _) (.inl rfl) rfl (okd rfl rfl) (Tm rfl rfl rfl) rfl) rfl ?_
        refine AWl.st rfl (OpT.move (A := .cel _ _) (.inr rfl) rfl (okd rfl rfl) (Tm rfl rfl rfl) rfl) rfl ?_
        refine AWl.st rfl (OpT.move (A := .cel _ _) (.inr rfl) rfl (okd rfl rfl) (I rfl) rfl) rfl ?_
        refine AWl.nil ?_
        refine AX.pr (Kc 7 (.cel _ _) rfl <| Kc 6 (.cel _ _) rfl <| Kn) ?_
        refine AX.go ?_
        refine AW.ret ?_
        exact AX.rt (rs := [.tmp 6, .tmp 7]) (ts := [some 6, some 7]) (.inl rfl) rfl (ROs.cons (RO.tmp (At.self (by decide)) (Kv rfl (by first | (rw [expS_mix (by rw [← hsame]; simpa using hc1)]; done) | (rw [expS_no hmix hno]; done) | (rw [expS_yes hmix ⟨hlot, by omega⟩]; first | done | rw [List.take_of_length_le (by omega)]))) rfl) <| ROs.cons (RO.tmp (At.self (by decide)) (Kv rfl (by first | (rw [expS_mix (by rw [← hsame]; simpa using hc1)]; done) | (rw [expS_no hmix hno]; done) | (rw [expS_yes hmix ⟨hlot, by omega⟩]; first | done | rw [List.take_of_length_le (by omega)]))) rfl) <| ROs.nil) (by decide) OutsOK.nil

/-- laws.FnExactExpectedFalse -/
theorem c_laws_FnExactExpectedFalse (mx : Int × Int × Int) (x : List (List ByteArray)) (m : Int) : AC Tryd.prog 11 [.agg kMix mx, .cel (Kd.slice (Kd.slice Kd.str)) x, .cel (Kd.int .i64) m] [.cel Kd.bool true] [] := by
  refine ⟨ACall.intro (N := 50) Tryd.func11 (c := _) (rfl : Func.body _ = some _) rfl (Nat.le_of_ble_eq_true rfl) (Nat.le_of_ble_eq_true rfl) rfl (Nat.le_of_ble_eq_true rfl) fun w0 hd s0 ar har => ?_, _, Tryd.func11, rfl, by decide⟩
  refine AW.to (Kc 0 (.agg _ _) rfl <| Kc 1 (.cel _ _) rfl <| Kc 2 (.cel _ _) rfl <| Kn) ?_
  refine AW.seq ?_
  refine AW.region ?_
  refine AWl.st rfl (OpT.frz (OpT.boxA (E := 77) rfl rfl (okd rfl rfl) (Tm rfl rfl rfl))) rfl ?_
  refine AWl.st rfl (OpT.move (A := .cel _ _) (.inr rfl) rfl (okd rfl rfl) Opd.bool rfl) rfl ?_
  refine AWl.nil ?_
  refine AX.pr (Kc 6 (.cel _ _) rfl <| Kc 3 (.cel _ _) rfl <| Kc 1 (.cel _ _) rfl <| Kc 2 (.cel _ _) rfl <| Kn) ?_
  refine AX.go ?_
  refine AW.seq ?_
  refine AW.region ?_
  refine AWl.st rfl (OpT.move (A := .cel _ _) (.inr rfl) rfl (okd rfl rfl) (I rfl) rfl) rfl ?_
  refine AWl.nil ?_
  refine AX.go ?_
  refine AW.seq ?_
  refine AW.region ?_
  refine AWl.st rfl (OpT.move (A := .cel _ _) (.inl rfl) rfl (okd rfl rfl) (Tm rfl rfl rfl) rfl) rfl ?_
  refine AWl.st rfl (OpT.move (A := .cel _ _) (.inl rfl) rfl (okd rfl rfl) (Tm rfl rfl rfl) rfl) rfl ?_
  refine AWl.st rfl (OpT.c1 (ms := [.flat, .flat]) (c_laws_szStringSS _ _ (by omega)) rfl rfl (okd rfl rfl) (Af (Tm rfl rfl rfl) rfl rfl <| Af (Tm rfl rfl rfl) rfl rfl <| An) rfl rfl) rfl ?_
  refine AWl.sg rfl (OpT.move (A := .cel _ _) (.inr rfl) rfl (okd rfl rfl) (Tm rfl rfl rfl) rfl) (Kc 7 (.cel _ _) rfl <| Kc 15 (.cel _ _) rfl <| Kc 14 (.cel _ _) rfl <| Kc 13 (.cel _ _) rfl <| Kc 6 (.cel _ _) rfl <| Kc 3 (.cel _ _) rfl <| Kc 1 (.cel _ _) rfl <| Kc 2 (.cel _ _) rfl <| Kn) ?_
  refine AWl.nil ?_
  refine AX.pr (Kc 7 (.cel _ _) rfl <| Kc 6 (.cel _ _) rfl <| Kc 3 (.cel _ _) rfl <| Kc 1 (.cel _ _) rfl <| Kc 2 (.cel _ _) rfl <| Kn) ?_
  refine AX.go ?_
  refine AW.seq ?_
  refine AW.seq ?_
  refine AW.region ?_
  refine AWl.st rfl (OpT.move (A := .cel _ _) (.inl rfl) rfl (okd rfl rfl) (Tm rfl rfl rfl) rfl) rfl ?_
  refine AWl.st rfl (OpT.lss rfl rfl (okd rfl rfl) (Tm rfl rfl rfl) (I rfl)) rfl ?_
  refine AWl.nil ?_
  refine AX.pr (Kc 17 (.cel _ _) rfl <| Kc 6 (.cel _ _) rfl <| Kc 3 (.cel _ _) rfl <| Kc 1 (.cel _ _) rfl <| Kc 2 (.cel _ _) rfl <| Kn) ?_
  refine AX.go ?_
  refine AW.cond (t := 17) rfl (by decide) (fun hc1 => ?_) (fun hc1 => ?_)
  ·
    try simp only [decide_eq_true_eq, decide_eq_false_iff_not, Bool.not_eq_true', Bool.not_eq_false'] at hc1
    refine AW.seq ?_
    refine AW.region ?_
    refine AWl.sg rfl (OpT.move (A := .cel _ _) (.inr rfl) rfl (okd rfl rfl) Opd.bool rfl) (Kc 6 (.cel _ _) rfl <| Kc 17 (.cel _ _) rfl <| Kc 3 (.cel _ _) rfl <| Kc 1 (.cel _ _) rfl <| Kc 2 (.cel _ _) rfl <| Kn) ?_
    refine AWl.nil ?_
    refine AX.pr (Kc 6 (.cel _ _) rfl <| Kc 3 (.cel _ _) rfl <| Kc 1 (.cel _ _) rfl <| Kc 2 (.cel _ _) rfl <| Kn) ?_
    refine AX.go ?_
    refine AW.ret ?_
    refine AX.ret_then ?_
    exact AX.rt (rs := [.tmp 6]) (ts := [some 6]) (.inl rfl) rfl (ROs.cons (RO.tmp (At.self (by decide)) (Kv rfl (by simp_all [eqv_self])) rfl) <| ROs.nil) (by decide) OutsOK.nil
  ·
    try simp only [decide_eq_true_eq, decide_eq_false_iff_not, Bool.not_eq_true', Bool.not_eq_false'] at hc1
    have k0 := okSz_list (okSz_list szB_in) x 1048576 (by omega)
    have k1 := k0.2.2 (by omega)
    have k2 : x.length ≤ 1048576 ∧ ∀ k ∈ x, k.length ≤ 1048576 := ⟨k1.1, fun k hk => (k1.2 k hk).1⟩
    refine AW.skip ?_
    refine AX.pr (Kc 6 (.cel _ _) rfl <| Kc 3 (.cel _ _) rfl <| Kc 1 (.cel _ _) rfl <| Kc 2 (.cel _ _) rfl <| Kn) ?_
    refine AX.go ?_
    refine AW.seq ?_
    refine AW.region ?_
    refine AWl.st rfl (OpT.loadA rfl rfl (okd rfl rfl) (Tm rfl rfl rfl) ag77 sz77) rfl ?_
    refine AWl.st rfl (OpT.c1 (ms := [.flat]) (c_laws_toMix _) rfl rfl (okd rfl rfl) (Af (Tm rfl rfl rfl) rfl rfl <| An) rfl rfl) rfl ?_
    refine AWl.st rfl (OpT.move (A := .cel _ _) (.inl rfl) rfl (okd rfl rfl) (Tm rfl rfl rfl) rfl) rfl ?_
    refine AWl.st rfl (OpT.c1 (ms := [.flat]) (c_laws_toStringSS x k2) rfl rfl (okd rfl rfl) (Af (Tm rfl rfl rfl) rfl rfl <| An) rfl rfl) rfl ?_
    refine AWl.st rfl (OpT.move (A := .cel _ _) (.inl rfl) rfl (okd rfl rfl) (Tm rfl rfl rfl) rfl) rfl ?_
    refine AWl.st2 rfl (OpT.c2 (ms := [.flat, .flat, .flat]) (c_spec_ExpectedFalse _ _ _) rfl rfl (okd rfl rfl) (Af (Tm rfl rfl rfl) rfl rfl <| Af (Tm rfl rfl rfl) rfl rfl <| Af (Tm rfl rfl rfl) rfl rfl <| An) rfl rfl rfl) rfl rfl ?_
    refine AWl.st rfl (OpT.alias rfl rfl (okd rfl rfl) (by decide) (by decide)) rfl ?_
    refine AWl.st rfl (OpT.extractV (m := 10024) rfl rfl (okd rfl rfl) rfl rfl rfl rfl rfl rfl rfl) rfl ?_
    refine AWl.st rfl (OpT.extractV (m := 20024) rfl rfl (okd rfl rfl) rfl rfl rfl rfl rfl rfl rfl) rfl ?_
    refine AWl.st rfl (OpT.move (A := .cel _ _) (.inr rfl) rfl (okd rfl rfl) (Tm rfl rfl rfl) rfl) rfl ?_
    refine AWl.st rfl (OpT.move (A := .cel _ _) (.inr rfl) rfl (okd rfl rfl) (Tm rfl rfl rfl) rfl) rfl ?_
    refine AWl.nil ?_
    refine AX.pr (Kc 9 (.cel _ _) rfl <| Kc 8 (.cel _ _) rfl <| Kc 6 (.cel _ _) rfl <| Kc 3 (.cel _ _) rfl <| Kc 1 (.cel _ _) rfl <| Kc 2 (.cel _ _) rfl <| Kn) ?_
    refine AX.go ?_
    refine AW.seq ?_
    refine AW.region ?_
    refine AWl.st rfl (OpT.move (A := .cel _ _) (.inl rfl) rfl (okd rfl rfl) (Tm rfl rfl rfl) rfl) rfl ?_
    refine AWl.st rfl (OpT.c1 (ms := [.flat]) (c_laws_toStringSS x k2) rfl rfl (okd rfl rfl) (Af (Tm rfl rfl rfl) rfl rfl <| An) rfl rfl) rfl ?_
    refine AWl.st rfl (OpT.move (A := .cel _ _) (.inr rfl) rfl (okd rfl rfl) (Tm rfl rfl rfl) rfl) rfl ?_
    refine AWl.nil ?_
    refine AX.pr (Kc 10 (.cel _ _) rfl <| Kc 9 (.cel _ _) rfl <| Kc 8 (.cel _ _) rfl <| Kc 6 (.cel _ _) rfl <| Kc 3 (.cel _ _) rfl <| Kc 1 (.cel _ _) rfl <| Kc 2 (.cel _ _) rfl <| Kn) ?_
    refine AX.go ?_
    refine AW.seq ?_
    refine AW.region ?_
    refine AWl.st rfl (OpT.loadA rfl rfl (okd rfl rfl) (Tm rfl rfl rfl) ag77 sz77) rfl ?_
    refine AWl.st rfl (OpT.c1 (ms := [.flat]) (c_laws_toMix _) rfl rfl (okd rfl rfl) (Af (Tm rfl rfl rfl) rfl rfl <| An) rfl rfl) rfl ?_
    refine AWl.st rfl (OpT.move (A := .cel _ _) (.inl rfl) rfl (okd rfl rfl) (Tm rfl rfl rfl) rfl) rfl ?_
    refine AWl.st rfl (OpT.move (A := .cel _ _) (.inl rfl) rfl (okd rfl rfl) (Tm rfl rfl rfl) rfl) rfl ?_
    refine AWl.st2 rfl (OpT.c2 (ms := [.flat, .flat, .flat]) (c_impl_ExpectedFalse _ _ _) rfl rfl (okd rfl rfl) (Af (Tm rfl rfl rfl) rfl rfl <| Af (Tm rfl rfl rfl) rfl rfl <| Af (Tm rfl rfl rfl) rfl rfl <| An) rfl rfl rfl) rfl rfl ?_
    refine AWl.st rfl (OpT.alias rfl rfl (okd rfl rfl) (by decide) (by decide)) rfl ?_
    refine AWl.st rfl (OpT.extractV (m := 10034) rfl rfl (okd rfl rfl) rfl rfl rfl rfl rfl rfl rfl) rfl ?_
    refine AWl.st rfl (OpT.extractV (m := 20034) rfl rfl (okd rfl rfl) rfl rfl rfl rfl rfl rfl rfl) rfl ?_
    refine AWl.st rfl (OpT.move (A := .cel _ _) (.inr rfl) rfl (okd rfl rfl) (Tm rfl rfl rfl) rfl) rfl ?_
    refine AWl.st rfl (OpT.move (A := .cel _ _) (.inr rfl) rfl (okd rfl rfl) (Tm rfl rfl rfl) rfl) rfl ?_
    refine AWl.nil ?_
    refine AX.pr (Kc 12 (.cel _ _) rfl <| Kc 11 (.cel _ _) rfl <| Kc 10 (.cel _ _) rfl <| Kc 9 (.cel _ _) rfl <| Kc 8 (.cel _ _) rfl <| Kc 6 (.cel _ _) rfl <| Kc 1 (.cel _ _) rfl <| Kn) ?_
    refine AX.go ?_
    refine AW.seq ?_
    refine AW.seq ?_
    refine AW.region ?_
    refine AWl.st rfl (OpT.move (A := .cel _ _) (.inl rfl) rfl (okd rfl rfl) (Tm rfl rfl rfl) rfl) rfl ?_
    refine AWl.st rfl (OpT.move (A := .cel _ _) (.inl rfl) rfl (okd rfl rfl) (Tm rfl rfl rfl) rfl) rfl ?_
    refine AWl.st rfl (OpT.neq rfl rfl (okd rfl rfl) (Tm rfl rfl rfl) (Tm rfl rfl rfl)) rfl ?_
    refine AWl.st rfl (OpT.move (A := .cel _ _) (.inl rfl) rfl (okd rfl rfl) (Tm rfl rfl rfl) rfl) rfl ?_
    apply AWl.or (d := 44) (t := 40) rfl
    · intro hb1 Q1 k1
      refine AWl.rs rfl rfl rfl rfl hb1 (OpT.move (A := .cel _ _) (.inl rfl) rfl (okd rfl rfl) (Tm rfl rfl rfl) rfl) rfl ?_
      refine AWl.rs rfl rfl rfl rfl hb1 (OpT.move (A := .cel _ _) (.inl rfl) rfl (okd rfl rfl) (Tm rfl rfl rfl) rfl) rfl ?_
      refine AWl.rs rfl rfl rfl rfl hb1 (OpT.neq rfl rfl (okd rfl rfl) (Tm rfl rfl rfl) (Tm rfl rfl rfl)) rfl ?_
      refine AWl.st rfl (OpT.pickF (A := .cel _ _) rfl rfl (okd rfl rfl) (Tm rfl rfl rfl) hb1 (Tm rfl rfl rfl) rfl) rfl ?_
      exact AWl.to (junk 3 rfl) k1
    · intro hb1 Q1 k1
      refine AWl.pas rfl rfl rfl rfl hb1 rfl (okd rfl rfl) rfl ?_
      refine AWl.pas rfl rfl rfl rfl hb1 rfl (okd rfl rfl) rfl ?_
      refine AWl.pas rfl rfl rfl rfl hb1 rfl (okd rfl rfl) rfl ?_
      refine AWl.st rfl (OpT.pickT (A := .cel _ _) rfl rfl (okd rfl rfl) (Tm rfl rfl rfl) hb1 Opd.bool rfl) rfl ?_
      exact k1
    refine AWl.nil ?_
    refine AX.pr (Kc 44 (.cel _ _) rfl <| Kc 10 (.cel _ _) rfl <| Kc 6 (.cel _ _) rfl <| Kc 1 (.cel _ _) rfl <| Kn) ?_
    refine AX.go ?_
    refine AW.cond (t := 44) rfl (by decide) (fun hc2 => ?_) (fun hc2 => ?_)
    ·
      try simp only [decide_eq_true_eq, decide_eq_false_iff_not, Bool.not_eq_true', Bool.not_eq_false'] at hc2
      refine AW.seq ?_
      refine AW.region ?_
      refine AWl.sg rfl (OpT.move (A := .cel _ _) (.inr rfl) rfl (okd rfl rfl) Opd.bool rfl) (Kc 6 (.cel _ _) rfl <| Kc 44 (.cel _ _) rfl <| Kc 10 (.cel _ _) rfl <| Kc 1 (.cel _ _) rfl <| Kn) ?_
      refine AWl.nil ?_
      refine AX.pr (Kc 6 (.cel _ _) rfl <| Kc 10 (.cel _ _) rfl <| Kc 1 (.cel _ _) rfl <| Kn) ?_
      refine AX.go ?_
      refine AW.ret ?_
      refine AX.ret_then ?_
      exact AX.rt (rs := [.tmp 6]) (ts := [some 6]) (.inl rfl) rfl (ROs.cons (RO.tmp (At.self (by decide)) (Kv rfl (by simp_all [eqv_self])) rfl) <| ROs.nil) (by decide) OutsOK.nil
    ·
      try simp only [decide_eq_true_eq, decide_eq_false_iff_not, Bool.not_eq_true', Bool.not_eq_false'] at hc2
      refine AW.skip ?_
      refine AX.pr (Kc 10 (.cel _ _) rfl <| Kc 6 (.cel _ _) rfl <| Kc 1 (.cel _ _) rfl <| Kn) ?_
      refine AX.go ?_
      refine AW.seq ?_
      refine AW.seq ?_
      refine AW.region ?_
      refine AWl.st rfl (OpT.move (A := .cel _ _) (.inl rfl) rfl (okd rfl rfl) (Tm rfl rfl rfl) rfl) rfl ?_
      refine AWl.st rfl (OpT.move (A := .cel _ _) (.inl rfl) rfl (okd rfl rfl) (Tm rfl rfl rfl) rfl) rfl ?_
      refine AWl.st rfl (OpT.c1 (ms := [.flat]) (c_laws_toStringSS x k2) rfl rfl (okd rfl rfl) (Af (Tm rfl rfl rfl) rfl rfl <| An) rfl rfl) rfl ?_
      refine AWl.st rfl (OpT.c1 (ms := [.flat, .flat]) (c_laws_eqStringSS _ _) rfl rfl (okd rfl rfl) (Af (Tm rfl rfl rfl) rfl rfl <| Af (Tm rfl rfl rfl) rfl rfl <| An) rfl rfl) rfl ?_
      refine AWl.st rfl (OpT.not rfl rfl (okd rfl rfl) (Tm rfl rfl rfl)) rfl ?_
      refine AWl.nil ?_
      refine AX.pr (Kc 49 (.cel _ _) rfl <| Kc 6 (.cel _ _) rfl <| Kn) ?_
      refine AX.go ?_
      refine AW.cond (t := 49) rfl (by decide) (fun hc3 => ?_) (fun hc3 => ?_)
      ·
        try simp only [decide_eq_true_eq, decide_eq_false_iff_not, Bool.not_eq_true', Bool.not_eq_false'] at hc3
        refine AW.seq ?_
        refine AW.region ?_
        refine AWl.sg rfl (OpT.move (A := .cel _ _) (.inr rfl) rfl (okd rfl rfl) Opd.bool rfl) (Kc 6 (.cel _ _) rfl <| Kc 49 (.cel _ _) rfl <| Kn) ?_
        refine AWl.nil ?_
        refine AX.pr (Kc 6 (.cel _ _) rfl <| Kn) ?_
        refine AX.go ?_
        refine AW.ret ?_
        refine AX.ret_then ?_
        exact AX.rt (rs := [.tmp 6]) (ts := [some 6]) (.inl rfl) rfl (ROs.cons (RO.tmp (At.self (by decide)) (Kv rfl (by simp_all [eqv_self])) rfl) <| ROs.nil) (by decide) OutsOK.nil
      ·
        try simp only [decide_eq_true_eq, decide_eq_false_iff_not, Bool.not_eq_true', Bool.not_eq_false'] at hc3
        refine AW.skip ?_
        refine AX.pr (Kc 6 (.cel _ _) rfl <| Kn) ?_
        refine AX.go ?_
        refine AW.seq ?_
        refine AW.region ?_
        refine AWl.sg rfl (OpT.move (A := .cel _ _) (.inr rfl) rfl (okd rfl rfl) Opd.bool rfl) (Kc 6 (.cel _ _) rfl <| Kn) ?_
        refine AWl.nil ?_
        refine AX.go ?_
        refine AW.ret ?_
        exact AX.rt (rs := [.tmp 6]) (ts := [some 6]) (.inl rfl) rfl (ROs.cons (RO.tmp (At.self (by decide)) (Kv rfl (by simp_all [eqv_self])) rfl) <| ROs.nil) (by decide) OutsOK.nil
end Go.Proofs.YtcaeabgfgofefaaDoor.VL
