/- Proved here: what some functions of the program take and give: walks with the words of VA..VQ. Printed by program. -/
import Derived.Test.YtkgboidjghcegaaGreatDoorWT
import Derived.Test.YtkgboidjghcegaaGreatDoorPZS
import Derived.Test.YtkgboidjghcegaaGreatDoorBpa
import Derived.Test.YtkgboidjghcegaaGreatDoorWSM
import Derived.Test.YtkgboidjghcegaaGreatDoorWSR
set_option linter.unusedVariables false
set_option linter.unusedSimpArgs false
set_option maxRecDepth 4000
namespace Go.Proofs.YtkgboidjghcegaaGreatDoor.VL
open Go
attribute [local irreducible] pick nxt

/-- spec.P6Table -/
theorem c_spec_P6Table (l : List Int) (h : (∀ b ∈ l, 0 ≤ b ∧ b ≤ 255) ∧ l.length ≤ 1000000) : AC Tryz.prog 19 [.cel (Kd.slice (Kd.int .u8)) l] [.deep (OSh.ex (fun x : List (ByteArray × Int × Int × Int) => .cel (Kd.slice kField) x) (fun x => schemeOK x ∧ 1 ≤ x.length ∧ x.length ≤ 4)), .deep (OSh.ex (fun x : List (ByteArray × (BitVec 64 × BitVec 64)) => .cel (Kd.slice kCard) x) (fun x => deckOK x ∧ x.length ≤ 10))] [] := by
 refine acI (N := 9) Tryz.func19 (Nat.le_of_ble_eq_true rfl) rfl fun w0 hd s0 ar => ?_
 refine AW.to (kc 0 rfl <| Kn) ?_
 refine sr ?_
 refine st (OpT.move (A := .cel _ _) (.inr rfl) rfl (ok' rfl) (Opd.nilslice kField) rfl) rfl ?_
 refine st (OpT.move (A := .cel _ _) (.inr rfl) rfl (ok' rfl) (Opd.nilslice kCard) rfl) rfl ?_
 refine ng ?_
 refine sr ?_
 refine st (mvT rfl) rfl ?_
 refine st (OpT.c1 (ms := [.flat]) (c_spec_l00From _) (H rfl) (Af (T1 rfl) rfl rfl <| An) rfl rfl) rfl ?_
 refine sg (OpT.crn (ms := [.root 5]) (c_spec_l06Small _ ⟨h.1, h.2, Int.le_refl 0, (by show (0 : Int) ≤ 1000000; omega)⟩) (H rfl) (Ar (O := .any) (Root.self (t := 5) (by decide)) rfl rfl rfl <| An) rfl rfl (.inl rfl) rfl) (Kc 10006 (.deep _) rfl <| Kc 20006 (.deep _) rfl <| kc4 4 3 2 0 rfl <| Kn) rfl ?_
 refine AWl.vw (vex 10006 9097 rfl rfl (by decide) (fun _ => rfl)) fun xh => ?_
 obtain ⟨x1, hx1⟩ := xh
 refine AWl.to (kc 10006 rfl <| Kc 20006 (.deep _) rfl <| kc4 4 3 2 0 rfl <| Kn) ?_
 refine AWl.vw (vex 20006 9097 rfl rfl (by decide) (fun _ => rfl)) fun xh => ?_
 obtain ⟨x2, hx2⟩ := xh
 refine AWl.to (kc4 20006 10006 4 3 rfl <| kc2 2 0 rfl <| Kn) ?_
 refine st (OpT.extract (m := 10006) (H rfl) (by decide) rfl rfl rfl rfl) rfl ?_
 refine st (OpT.extract (m := 20006) (H rfl) (by decide) rfl rfl rfl rfl) rfl ?_
 refine st (asT rfl) rfl ?_
 refine st (asT rfl) rfl ?_
 refine ng ?_
 refine AW.ret ?_
 refine AX.vw (vclo (A := fun x : List (ByteArray × Int × Int × Int) => .cel (Kd.slice kField) x) (p := fun x => schemeOK x ∧ 1 ≤ x.length ∧ x.length ≤ 4) _ hx1 2 9097 rfl rfl (by decide) rfl) fun _ => ?_
 refine AX.pr (Kc 2 (.deep _) rfl <| kc4 3 8 7 20006 rfl <| kc3 10006 4 0 rfl <| Kn) ?_
 refine AX.vw (vclo (A := fun x : List (ByteArray × (BitVec 64 × BitVec 64)) => .cel (Kd.slice kCard) x) (p := fun x => deckOK x ∧ x.length ≤ 10) _ hx2 3 9097 rfl rfl (by decide) rfl) fun _ => ?_
 refine AX.pr (Kc 3 (.deep _) rfl <| Kc 2 (.deep _) rfl <| kc4 8 7 20006 10006 rfl <| kc2 4 0 rfl <| Kn) ?_
 exact AX.rt (rs := [.tmp 2, .tmp 3]) (ts := [some 2, some 3]) (.inl rfl) rfl (ROs.cons (RO.tmp (At.self (by decide)) (Ke rfl rfl) rfl) <| ROs.cons (RO.tmp (At.self (by decide)) (Ke rfl rfl) rfl) <| ROs.nil) (by decide) OutsOK.nil
end Go.Proofs.YtkgboidjghcegaaGreatDoor.VL
