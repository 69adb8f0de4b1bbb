/- Proved here: what some functions of the program take and give: walks with the words of VA..VQ. Printed by program. -/
import Derived.Test.YtconciibbhpigaaDoorWT
import Derived.Test.YtconciibbhpigaaDoorPXE
import Derived.Test.YtconciibbhpigaaDoorPXS
import Derived.Test.YtconciibbhpigaaDoorVLP
import Derived.Test.YtconciibbhpigaaDoorLSP
import Derived.Test.YtconciibbhpigaaDoorWSP
set_option linter.unusedVariables false
set_option linter.unusedSimpArgs false
set_option maxRecDepth 4000
namespace Go.Proofs.YtconciibbhpigaaDoor.VL
open Go
/-- stringslite.Cut -/
theorem c_internal_stringslite_Cut (x : ByteArray) (c : UInt8) (hx : x.size ≤ 1000000000) : AC Tryd.prog 49 [.cel Kd.str x, .cel Kd.str ⟨#[c]⟩] [.cel Kd.str (cutP c x).1, .cel Kd.str (cutP c x).2.1, .cel Kd.bool (cutP c x).2.2] [] := by
 refine acI (N := 23) Tryd.func49 (Nat.le_of_ble_eq_true rfl) rfl fun w0 hd s0 ar => ?_
 refine AW.to (kc2 0 1 rfl <| Kn) ?_
 have hc1s : (⟨#[c]⟩ : ByteArray).size = 1 := rfl
 have hrx := ixB_range c x
 refine sr ?_
 refine st (OpT.move (A := .cel _ _) (.inr rfl) rfl (ok' rfl) (Opd.str (by decide)) rfl) rfl ?_
 refine st (OpT.move (A := .cel _ _) (.inr rfl) rfl (ok' rfl) (Opd.str (by decide)) rfl) rfl ?_
 refine st (asB rfl) rfl ?_
 refine ng ?_
 refine AW.seq ?_
 refine sr ?_
 refine st (mvT rfl) rfl ?_
 refine st (mvT rfl) rfl ?_
 refine st (OpT.c1 (ms := [.flat, .flat]) (c_internal_stringslite_Index x c) (H rfl) (Af (T1 rfl) rfl rfl <| Af (T1 rfl) rfl rfl <| An) rfl rfl) rfl ?_
 refine st (asT rfl) rfl ?_
 refine ng ?_
 refine sr ?_
 refine st (mvT rfl) rfl ?_
 refine st (OpT.geq (H rfl) (T1 rfl) (I rfl)) rfl ?_
 refine AWl.to (kc4 12 7 6 5 rfl <| kc3 4 0 1 rfl <| Kn) ?_
 refine ng ?_
 refine cd rfl (fun hc1 => ?_) fun hc1 => ?_
 ·
  obtain ⟨hc1, hc1'⟩ := pT hc1
  have hok := ix_ok (c := c) (x := x) (by have h9 := ix_pos (c := c) (x := x) (by omega); omega)
  have he := cutP_yes (c := c) (x := x) (by omega)
  refine AW.seq ?_
  refine dhm [0, 0, 3, 0, 0, 0, 32, 112, 248, 7, 1023, 2047] [] fomo ?_
  refine d1 [0] (fun ve h => OpT.move (A := .cel _ _) (.inl rfl) rfl (ok' rfl) (D1 h rfl) rfl) rfl ?_
  refine d1 [7] (fun ve h => OpT.move (A := .cel _ _) (.inl rfl) rfl (ok' rfl) (D1 h rfl) rfl) rfl ?_
  refine d1 [13, 14] (fun ve h => OpT.cutSH (H rfl) (D1 h rfl) (D1 h rfl) Tryd.underlying9 (by omega)) rfl ?_
  refine d1 [0] (fun ve h => OpT.move (A := .cel _ _) (.inl rfl) rfl (ok' rfl) (D1 h rfl) rfl) rfl ?_
  refine d1 [7] (fun ve h => OpT.move (A := .cel _ _) (.inl rfl) rfl (ok' rfl) (D1 h rfl) rfl) rfl ?_
  refine d1 [1] (fun ve h => OpT.move (A := .cel _ _) (.inl rfl) rfl (ok' rfl) (D1 h rfl) rfl) rfl ?_
  refine d1 [18] (fun ve h => OpT.lenS (H rfl) (D1 h rfl) Tryd.underlying9) rfl ?_
  refine d1 [17, 19] (fun ve h => OpT.add (H rfl) (D1 h rfl) (D1 h rfl) (nw (by omega))) rfl ?_
  refine d1 [16, 20] (fun ve h => OpT.cutSL (H rfl) (D1 h rfl) (D1 h rfl) Tryd.underlying9 (by omega)) rfl ?_
  refine d1 [15] (fun ve h => OpT.move (A := .cel _ _) (.inr rfl) rfl (ok' rfl) (D1 h rfl) rfl) rfl ?_
  refine d1 [21] (fun ve h => OpT.move (A := .cel _ _) (.inr rfl) rfl (ok' rfl) (D1 h rfl) rfl) rfl ?_
  refine d1 [] (fun ve h => asB rfl) rfl ?_
  refine dn ⟨by kernel_rfl, by kernel_rfl, ?_⟩
  refine AX.pr (kc4 6 5 4 0 rfl <| Kn) ?_
  refine AX.go ?_
  refine AW.ret ?_
  refine rT ?_
  exact AX.rt (rs := [.tmp 4, .tmp 5, .tmp 6]) (ts := [some 4, some 5, some 6]) (.inl rfl) rfl (ROs.cons (RO.tmp (At.self (by decide)) (Kv rfl (by rw [he]; first | done | rfl)) rfl) <| ROs.cons (RO.tmp (At.self (by decide)) (Kv rfl (by rw [he]; first | done | rfl)) rfl) <| ROs.cons (RO.tmp (At.self (by decide)) (Kv rfl (by rw [he]; first | done | rfl)) rfl) <| ROs.nil) (by decide) OutsOK.nil
 ·
  obtain ⟨hc1, hc1'⟩ := pF hc1
  have he := cutP_no (c := c) (x := x) (by omega)
  refine AW.skip ?_
  refine AX.go ?_
  refine sr ?_
  refine st (mvT rfl) rfl ?_
  refine st (asT rfl) rfl ?_
  refine st (OpT.move (A := .cel _ _) (.inr rfl) rfl (ok' rfl) (Opd.str (by decide)) rfl) rfl ?_
  refine st (asB rfl) rfl ?_
  refine ng ?_
  refine AW.ret ?_
  exact AX.rt (rs := [.tmp 4, .tmp 5, .tmp 6]) (ts := [some 4, some 5, some 6]) (.inl rfl) rfl (ROs.cons (RO.tmp (At.self (by decide)) (Kv rfl (by rw [he]; first | done | rfl)) rfl) <| ROs.cons (RO.tmp (At.self (by decide)) (Kv rfl (by rw [he]; first | done | rfl)) rfl) <| ROs.cons (RO.tmp (At.self (by decide)) (Kv rfl (by rw [he]; first | done | rfl)) rfl) <| ROs.nil) (by decide) OutsOK.nil

/-- strings.Cut -/
theorem c_strings_Cut (x : ByteArray) (c : UInt8) (hx : x.size ≤ 1000000000) : AC Tryd.prog 28 [.cel Kd.str x, .cel Kd.str ⟨#[c]⟩] [.cel Kd.str (cutP c x).1, .cel Kd.str (cutP c x).2.1, .cel Kd.bool (cutP c x).2.2] [] := by
 refine acI (N := 13) Tryd.func28 (Nat.le_of_ble_eq_true rfl) rfl fun w0 hd s0 ar => ?_
 refine AW.to (kc2 0 1 rfl <| Kn) ?_
 refine sr ?_
 refine st (OpT.move (A := .cel _ _) (.inr rfl) rfl (ok' rfl) (Opd.str (by decide)) rfl) rfl ?_
 refine st (OpT.move (A := .cel _ _) (.inr rfl) rfl (ok' rfl) (Opd.str (by decide)) rfl) rfl ?_
 refine st (asB rfl) rfl ?_
 refine ng ?_
 refine sr ?_
 refine st (mvT rfl) rfl ?_
 refine st (mvT rfl) rfl ?_
 refine s3 (cN (ms := [.flat, .flat]) (c_internal_stringslite_Cut x c hx) (H rfl) (Af (T1 rfl) rfl rfl <| Af (T1 rfl) rfl rfl <| An) rfl (.inl rfl)) rfl ?_
 refine st (OpT.extract (m := 10009) (H rfl) (by decide) rfl rfl rfl rfl) rfl ?_
 refine st (OpT.extract (m := 20009) (H rfl) (by decide) rfl rfl rfl rfl) rfl ?_
 refine st (OpT.extract (m := 30009) (H rfl) (by decide) rfl rfl rfl rfl) rfl ?_
 refine st (asT rfl) rfl ?_
 refine st (asT rfl) rfl ?_
 refine st (asT rfl) rfl ?_
 refine AWl.to (kc3 6 5 4 rfl <| Kn) ?_
 refine ng ?_
 refine AW.ret ?_
 exact AX.rt (rs := [.tmp 4, .tmp 5, .tmp 6]) (ts := [some 4, some 5, some 6]) (.inl rfl) rfl (ROs.cons (RO.tmp (At.self (by decide)) (Kv rfl rfl) rfl) <| ROs.cons (RO.tmp (At.self (by decide)) (Kv rfl rfl) rfl) <| ROs.cons (RO.tmp (At.self (by decide)) (Kv rfl rfl) rfl) <| ROs.nil) (by decide) OutsOK.nil
end Go.Proofs.YtconciibbhpigaaDoor.VL
