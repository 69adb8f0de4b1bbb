/-
  DERIVED. GIVEN WITH THE SEED: THE CARDS: each row of YtmmjcpiikdcldaaGreatDoorRows.lean that lists a variable, with what it lists TIED to the program's text (the seventh form; the later family's looks); each row that meets fmt, with fmt's text TOLD by the authors' own Lean function (tested against real Go, not proved from fmt's source: count such statements apart). THE CARD IS WHAT COUNTS. Prove the row's statement (the work); the ties are given (YtmmjcpiikdcldaaGreatDoorTie.lean); close each card by the builder's one call (the guide's Derived/Test/ToyasCard.lean, 'card_holds'). Laid BY PROGRAM, IN A SANDBOX (cutbox-door.mjs). By AI agents, Wed Nov 11 2026. No macro, syntax, notation, axiom, sorry.
-/
import Derived.Test.YtmmjcpiikdcldaaGreatDoorRows
import GoSem.ClaimSeven
namespace Go.Proofs.YtmmjcpiikdcldaaGreatDoor
namespace Rows

/-- THE TIED CARD OF 'laws.FnPasses'. -/
def fnPassesCard : Claim7 := { stood := { row := fnPassesRow, standIns := [], harness := (true, "cfd40914d2bf50940549f2d15538c91cfe2c924c174bce5acfa0f63ab2638ec7"), looks := true }, kinds := [], alts := [], laidByText := true, laidKinds := [.data, .data, .data, .data, .sentinel, .sentinel, .pinned], laidTests := true, laidLooks := .later }
def FnPassesCardSaid : Prop := Claim7.holds Tryz.pinned (.plain (OpenSpec.ofChange fnPassesSpec)) fnPassesCard

/-- THE TIED CARD OF 'laws.FnEdits'. -/
def fnEditsCard : Claim7 := { stood := { row := fnEditsRow, standIns := [], harness := (true, "cfd40914d2bf50940549f2d15538c91cfe2c924c174bce5acfa0f63ab2638ec7"), looks := true }, kinds := [], alts := [], laidByText := true, laidKinds := [.data, .data, .data, .data, .sentinel, .sentinel, .pinned], laidTests := true, laidLooks := .later }
def FnEditsCardSaid : Prop := Claim7.holds Tryz.pinned (.plain (OpenSpec.ofChange fnEditsSpec)) fnEditsCard

/-- THE TIED CARD OF 'laws.FnExactReadEdits'. -/
def fnExactReadEditsCard : Claim7 := { stood := { row := fnExactReadEditsRow, standIns := [], harness := (true, "cfd40914d2bf50940549f2d15538c91cfe2c924c174bce5acfa0f63ab2638ec7"), looks := true }, kinds := [], alts := [], laidByText := true, laidKinds := [.data, .data, .data, .data, .sentinel, .sentinel, .pinned], laidTests := true, laidLooks := .later }
def FnExactReadEditsCardSaid : Prop := Claim7.holds Tryz.pinned (.plain (OpenSpec.ofChange fnExactReadEditsSpec)) fnExactReadEditsCard

/-- THE SECOND FORM's CARD OF 'laws.FnPasses'. -/
def fnPassesUptoCard : Claim7 := { stood := { row := fnPassesUptoRow, standIns := [], harness := (true, "cfd40914d2bf50940549f2d15538c91cfe2c924c174bce5acfa0f63ab2638ec7"), looks := true }, kinds := [], alts := [], laidByText := true, laidKinds := [.data, .data, .data, .data, .sentinel, .sentinel, .pinned], laidTests := true, laidLooks := .later }
def FnPassesUptoCardSaid : Prop := Claim7.holds Tryz.pinned (.plain (OpenSpec.upto fnPassesSpec)) fnPassesUptoCard

/-- THE SECOND FORM's CARD OF 'laws.FnEdits'. -/
def fnEditsUptoCard : Claim7 := { stood := { row := fnEditsUptoRow, standIns := [], harness := (true, "cfd40914d2bf50940549f2d15538c91cfe2c924c174bce5acfa0f63ab2638ec7"), looks := true }, kinds := [], alts := [], laidByText := true, laidKinds := [.data, .data, .data, .data, .sentinel, .sentinel, .pinned], laidTests := true, laidLooks := .later }
def FnEditsUptoCardSaid : Prop := Claim7.holds Tryz.pinned (.plain (OpenSpec.upto fnEditsSpec)) fnEditsUptoCard

/-- THE SECOND FORM's CARD OF 'laws.FnExactReadEdits'. -/
def fnExactReadEditsUptoCard : Claim7 := { stood := { row := fnExactReadEditsUptoRow, standIns := [], harness := (true, "cfd40914d2bf50940549f2d15538c91cfe2c924c174bce5acfa0f63ab2638ec7"), looks := true }, kinds := [], alts := [], laidByText := true, laidKinds := [.data, .data, .data, .data, .sentinel, .sentinel, .pinned], laidTests := true, laidLooks := .later }
def FnExactReadEditsUptoCardSaid : Prop := Claim7.holds Tryz.pinned (.plain (OpenSpec.upto fnExactReadEditsSpec)) fnExactReadEditsUptoCard
end Rows
end Go.Proofs.YtmmjcpiikdcldaaGreatDoor
