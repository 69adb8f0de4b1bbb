/- Proved here: what some functions of the program take and give: walks with the words of VA..VQ. Printed by program. -/
import Derived.Test.YtohcpnobmknglaaGreatDoorWT
import Derived.Test.YtohcpnobmknglaaGreatDoorPZS
import Derived.Test.YtohcpnobmknglaaGreatDoorBpa
import Derived.Test.YtohcpnobmknglaaGreatDoorWSM
import Derived.Test.YtohcpnobmknglaaGreatDoorWSR
import Derived.Test.YtohcpnobmknglaaGreatDoorWN1
set_option linter.unusedVariables false
set_option linter.unusedSimpArgs false
set_option maxRecDepth 4000
namespace Go.Proofs.YtohcpnobmknglaaGreatDoor.VL
open Go
attribute [local irreducible] pick nxt

/-- spec.P6Table -/
theorem c_spec_P6Table (l : List Int) (h : (∀ b ∈ l, 0 ≤ b ∧ b ≤ 255) ∧ l.length ≤ 1000000) : AC Tryz.prog 10 [.cel (Kd.slice (Kd.int .u8)) l] [.deep (OSh.ex (fun x : List (ByteArray × Int × Int × Int) => .cel (Kd.slice kField) x) (fun x => schemeOK x ∧ 1 ≤ x.length ∧ x.length ≤ 4)), .deep (OSh.ex (fun x : List (ByteArray × (BitVec 64 × BitVec 64)) => .cel (Kd.slice kCard) x) (fun x => deckOK x ∧ x.length ≤ 10))] [] := by
 refine acI (N := 9) Tryz.func10 (Nat.le_of_ble_eq_true rfl) rfl fun w0 hd s0 ar => ?_
 refine AW.to (kc 0 rfl <| Kn) ?_
 refine sr ?_
 refine st (OpT.move (A := .cel _ _) (.inr rfl) rfl (ok' rfl) (Opd.nilslice kField) rfl) rfl ?_
 refine st (OpT.move (A := .cel _ _) (.inr rfl) rfl (ok' rfl) (Opd.nilslice kCard) rfl) rfl ?_
 refine ng ?_
 refine sr ?_
 refine st (mvT rfl) rfl ?_
 refine st (OpT.c1 (ms := [.flat]) (c_spec_l00From _) (H rfl) (Af (T1 rfl) rfl rfl <| An) rfl rfl) rfl ?_
 refine sg (OpT.crn (ms := [.root 5]) (c_spec_l06Small _ ⟨h.1, h.2, Int.le_refl 0, (by show (0 : Int) ≤ 1000000; omega)⟩) (H rfl) (Ar (O := .any) (Root.self (t := 5) (by decide)) rfl rfl rfl <| An) rfl rfl (.inl rfl) rfl) (Kc 10006 (.deep _) rfl <| Kc 20006 (.deep _) rfl <| kc4 4 3 2 0 rfl <| Kn) rfl ?_
 refine AWl.vw (vex 10006 9097 rfl rfl (by decide) (fun _ => rfl)) fun xh => ?_
 obtain ⟨x1, hx1⟩ := xh
 refine AWl.to (kc 10006 rfl <| Kc 20006 (.deep _) rfl <| kc4 4 3 2 0 rfl <| Kn) ?_
 refine AWl.vw (vex 20006 9097 rfl rfl (by decide) (fun _ => rfl)) fun xh => ?_
 obtain ⟨x2, hx2⟩ := xh
 refine AWl.to (kc4 20006 10006 4 3 rfl <| kc2 2 0 rfl <| Kn) ?_
 refine st (OpT.extract (m := 10006) (H rfl) (by decide) rfl rfl rfl rfl) rfl ?_
 refine st (OpT.extract (m := 20006) (H rfl) (by decide) rfl rfl rfl rfl) rfl ?_
 refine st (asT rfl) rfl ?_
 refine st (asT rfl) rfl ?_
 refine ng ?_
 refine AW.ret ?_
 refine AX.vw (vclo (A := fun x : List (ByteArray × Int × Int × Int) => .cel (Kd.slice kField) x) (p := fun x => schemeOK x ∧ 1 ≤ x.length ∧ x.length ≤ 4) _ hx1 2 9097 rfl rfl (by decide) rfl) fun _ => ?_
 refine AX.pr (Kc 2 (.deep _) rfl <| kc4 3 8 7 20006 rfl <| kc3 10006 4 0 rfl <| Kn) ?_
 refine AX.vw (vclo (A := fun x : List (ByteArray × (BitVec 64 × BitVec 64)) => .cel (Kd.slice kCard) x) (p := fun x => deckOK x ∧ x.length ≤ 10) _ hx2 3 9097 rfl rfl (by decide) rfl) fun _ => ?_
 refine AX.pr (Kc 3 (.deep _) rfl <| Kc 2 (.deep _) rfl <| kc4 8 7 20006 10006 rfl <| kc2 4 0 rfl <| Kn) ?_
 exact AX.rt (rs := [.tmp 2, .tmp 3]) (ts := [some 2, some 3]) (.inl rfl) rfl (ROs.cons (RO.tmp (At.self (by decide)) (Ke rfl rfl) rfl) <| ROs.cons (RO.tmp (At.self (by decide)) (Ke rfl rfl) rfl) <| ROs.nil) (by decide) OutsOK.nil

/-- spec.l03Drawn -/
theorem c_spec_l03Drawn (ss : DSrc) (h : srcI 100 ss) : AC Tryz.prog 67 [.box 148 (Kd.pair (Kd.slice (Kd.int .u8)) (Kd.pair (Kd.int .i64) Kd.u64)) ss] [.agg kMix (mixD ss)] [] := by
 refine acI (N := 25) Tryz.func67 (Nat.le_of_ble_eq_true rfl) rfl fun w0 hd s0 ar => ?_
 refine AW.to (kb 0 rfl <| Kn) ?_
 have ha := amg_in h
 have h1 := pick_src h (mixL.length : Int)
 have hp := pick_in h1 (97 - amg ss mixL)
 have h2 := pick_src h1 (97 - amg ss mixL)
 have hq := pick_in h2 (min 5 ((amg ss mixL).tdiv 2))
 have htd : 4 ≤ (amg ss mixL).tdiv 2 ∧ (amg ss mixL).tdiv 2 ≤ 48 := by rw [Int.tdiv_eq_ediv_of_nonneg (by omega)]; omega
 refine sr ?_
 refine st (OpT.alloc (H rfl) zr47 zk47) rfl ?_
 refine ng ?_
 refine sr ?_
 refine st (OpT.alias (H rfl) (by decide) (by decide)) rfl ?_
 refine st (OpT.buildSlice (H rfl) el28 zr2 sz2 rfl (by decide) zk2 (by decide) (Built.cel (I rfl) rfl rfl (sub_arr (by decide) (0 : Int)) (Built.cel (I rfl) rfl rfl (sub_arr (by decide) (0 : Int)) (Built.cel (I rfl) rfl rfl (sub_arr (by decide) (0 : Int)) (Built.cel (I rfl) rfl rfl (sub_arr (by decide) (0 : Int)) (Built.cel (I rfl) rfl rfl (sub_arr (by decide) (0 : Int)) (Built.cel (I rfl) rfl rfl (sub_arr (by decide) (0 : Int)) (Built.cel (I rfl) rfl rfl (sub_arr (by decide) (0 : Int)) (Built.nil _))))))))) rfl ?_
 refine AWl.freeze (t := 6) rfl ?_
 refine AWl.to (kc 6 rfl <| Kc 5 (.ali _) rfl <| kb 2 rfl <| kb 0 rfl <| Kn) ?_
 refine sg (OpT.cr (ms := [.root 0, .flat]) (c_spec_l00Src_among _ mixL ⟨h.le (by omega), by decide⟩) (H rfl) (Ar (Root.ali rfl (by decide) (by decide)) rfl rfl rfl <| Af (T1 rfl) rfl rfl <| An) rfl (.inl rfl) rfl) (kc2 7 6 rfl <| Kc 5 (.ali _) rfl <| kb 2 rfl <| kb 0 rfl <| Kn) rfl ?_
 refine st (asT rfl) rfl ?_
 refine ng ?_
 refine sr ?_
 refine st (mvT rfl) rfl ?_
 refine st (OpT.conv (H rfl) us2 Tryz.underlying45 (T1 rfl) (nw16 (by omega))) rfl ?_
 refine st (OpT.alias (H rfl) (by decide) (by decide)) rfl ?_
 refine st (mvT rfl) rfl ?_
 refine st (OpT.sub (H rfl) (I rfl) (T1 rfl) (nw (by omega))) rfl ?_
 refine sg (OpT.cr (ms := [.root 0, .flat]) (c_spec_l00Src_pick _ _ (h1.le (by omega))) (H rfl) (Ar (Root.ali rfl (by decide) (by decide)) rfl rfl rfl <| Af (T1 rfl) rfl rfl <| An) rfl (.inl rfl) rfl) (kc3 13 12 11 rfl <| Kc 10 (.ali _) rfl <| kc4 9 8 3 7 rfl <| kc 6 rfl <| Kc 5 (.ali _) rfl <| kb 2 rfl <| kb 0 rfl <| Kn) rfl ?_
 refine st (OpT.conv (H rfl) us2 Tryz.underlying45 (T1 rfl) (nw16 (by omega))) rfl ?_
 refine st (OpT.build (H rfl) pl47 zr47 zk47 (Built.cel (T1 rfl) rfl rfl sb47_1 (Built.cel (T1 rfl) rfl rfl sb47_0 (Built.nil _)))) rfl ?_
 refine st (OpT.alloc (H rfl) zr47 zk47) rfl ?_
 refine sk (OpT.storeBA rfl rfl (Opd.whole (Root.self (t := 4) (by decide)) rfl) rfl sz47 (by decide) (T1 rfl)) rfl ?_
 refine AWl.to (kb 4 rfl <| kc 3 rfl <| kb 2 rfl <| kb 0 rfl <| Kn) ?_
 refine ng ?_
 refine sr ?_
 refine st (OpT.alias (H rfl) (by decide) (by decide)) rfl ?_
 refine st (mvT rfl) rfl ?_
 refine st (OpT.quo (H rfl) (T1 rfl) (I rfl) (by decide) (nw (by omega))) rfl ?_
 refine st (OpT.c1 (ms := [.flat, .flat]) (c_spec_l00Min _ _) (H rfl) (Af (I rfl) rfl rfl <| Af (T1 rfl) rfl rfl <| An) rfl rfl) rfl ?_
 refine sg (OpT.cr (ms := [.root 0, .flat]) (c_spec_l00Src_pick _ _ (h2.le (by omega))) (H rfl) (Ar (Root.ali rfl (by decide) (by decide)) rfl rfl rfl <| Af (T1 rfl) rfl rfl <| An) rfl (.inl rfl) rfl) (kc4 20 19 18 17 rfl <| Kc 16 (.ali _) rfl <| kb 4 rfl <| kc 3 rfl <| kb 2 rfl <| kb 0 rfl <| Kn) rfl ?_
 refine st (OpT.add (H rfl) (I rfl) (T1 rfl) (nw (by omega))) rfl ?_
 refine st (OpT.conv (H rfl) us2 Tryz.underlying45 (T1 rfl) (nw16 (by omega))) rfl ?_
 refine st (OpT.fieldAddrB (H rfl) (Root.self (t := 4) (by decide)) rfl (by decide) fd47_2 sz45 (by decide) sb47_2) rfl ?_
 refine sk (OpT.storeB rfl rfl (T1 rfl) rfl sz45 rfl (T1 rfl)) rfl ?_
 refine AWl.to (kb 4 rfl <| kb 2 rfl <| Kn) ?_
 refine ng ?_
 refine sr ?_
 refine st (OpT.loadB (H rfl) (Root.self (t := 4) (by decide)) rfl ag47 sz47) rfl ?_
 refine sk (OpT.storeBA rfl rfl (Opd.whole (Root.self (t := 2) (by decide)) rfl) rfl sz47 (by decide) (T1 rfl)) rfl ?_
 refine ng ?_
 refine AW.ret ?_
 exact AX.rt (rs := [.cell 2 47]) (ts := [none]) (.inl rfl) rfl (ROs.cons (RO.cellA (by decide) (Kb rfl rfl) ag47 sz47) <| ROs.nil) (by decide) OutsOK.nil

/-- spec.P6Mix -/
theorem c_spec_P6Mix (l : List Int) (h : (∀ b ∈ l, 0 ≤ b ∧ b ≤ 255) ∧ l.length ≤ 1000000) : AC Tryz.prog 20 [.cel (Kd.slice (Kd.int .u8)) l] [.agg kMix (mixD (l, 0, 0#64))] [] := by
 refine acI (N := 6) Tryz.func20 (Nat.le_of_ble_eq_true rfl) rfl fun w0 hd s0 ar => ?_
 refine AW.to (kc 0 rfl <| Kn) ?_
 refine sr ?_
 refine st (OpT.alloc (H rfl) zr47 zk47) rfl ?_
 refine ng ?_
 refine sr ?_
 refine st (mvT rfl) rfl ?_
 refine st (OpT.c1 (ms := [.flat]) (c_spec_l00From _) (H rfl) (Af (T1 rfl) rfl rfl <| An) rfl rfl) rfl ?_
 refine sg (OpT.crn (ms := [.root 4]) (c_spec_l03Drawn _ ⟨h.1, h.2, Int.le_refl 0, (by show (0 : Int) ≤ 100; omega)⟩) (H rfl) (Ar (O := .any) (Root.self (t := 4) (by decide)) rfl rfl rfl <| An) rfl rfl (.inl rfl) rfl) (ka 5 rfl <| kc 3 rfl <| kb 2 rfl <| kc 0 rfl <| Kn) rfl ?_
 refine sk (OpT.storeBA rfl rfl (Opd.whole (Root.self (t := 2) (by decide)) rfl) rfl sz47 (by decide) (T1 rfl)) rfl ?_
 refine ng ?_
 refine AW.ret ?_
 exact AX.rt (rs := [.cell 2 47]) (ts := [none]) (.inl rfl) rfl (ROs.cons (RO.cellA (by decide) (Kb rfl rfl) ag47 sz47) <| ROs.nil) (by decide) OutsOK.nil
end Go.Proofs.YtohcpnobmknglaaGreatDoor.VL
