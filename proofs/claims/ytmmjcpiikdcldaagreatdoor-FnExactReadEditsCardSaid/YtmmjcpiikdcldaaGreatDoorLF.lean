/- Proved here: closed facts of the program that all laws of the seat share. -/
import Derived.Test.YtmmjcpiikdcldaaGreatDoorRows
import Derived.Test.YtmmjcpiikdcldaaGreatDoorBvb
import Derived.LaidMore
import Derived.Lay
import Derived.SevenTiedAt
import Derived.Stop.Joined
set_option linter.unusedVariables false
set_option maxRecDepth 100000
namespace Go.Proofs.YtmmjcpiikdcldaaGreatDoor.VL
open Go
theorem own_seat : ownKnob Tryz.prog.godebug = none := by kernel_rfl
theorem may_seat : Tryz.prog.mayEnter = true := by kernel_rfl
theorem lift_seat : (Rows.fnPassesRow.lifted == Tryz.prog.liftsFinal) = true := by kernel_rfl
theorem make_seat : (Tryz.prog.make == some Rows.fnPassesRow.make) = true := by kernel_rfl
theorem shaped_seat (os : Os) (args : Array Value) : ((World.laidAll Tryz.prog os Rows.fnPassesRow.laid).forCall (fun _ _ => 0) ⟨#[], args, []⟩).Shaped Tryz.prog := World.shaped_of_ZipB (by kernel_rfl) (by kernel_rfl)
theorem laid_seat (os : Os) (args : Array Value) : laidMetH Tryz.prog Rows.fnPassesRow.laid ((World.laidAll Tryz.prog os Rows.fnPassesRow.laid).forCall (fun _ _ => 0) ⟨#[], args, []⟩).memory := by rw [MakeChecks.laidMetH_plain _ _ _ (by kernel_rfl)]; exact laidMet_laidAll _ (by kernel_rfl) (by kernel_rfl)
theorem main_seat : Tryz.prog.mainIs = some (true, ("cfd40914d2bf50940549f2d15538c91cfe2c924c174bce5acfa0f63ab2638ec7").toList) := by kernel_rfl
theorem looks_seat : true = Tryz.prog.looks [] := by kernel_rfl
end Go.Proofs.YtmmjcpiikdcldaaGreatDoor.VL
