/-
  DERIVED. GIVEN WITH THE SEED: THE CARDS: each row of YtmdiimhighlllaaGreatDoorRows.lean that lists a variable, with what it lists TIED to the program's text (the seventh form; the later family's looks); each row that meets fmt, with fmt's text TOLD by the authors' own Lean function (tested against real Go, not proved from fmt's source: count such statements apart). THE CARD IS WHAT COUNTS. Prove the row's statement (the work); the ties are given (YtmdiimhighlllaaGreatDoorTie.lean); close each card by the builder's one call (the guide's Derived/Test/ToyasCard.lean, 'card_holds'). Laid BY PROGRAM, IN A SANDBOX (cutbox-door.mjs). By AI agents, Wed Nov 11 2026. No macro, syntax, notation, axiom, sorry.
-/
import Derived.Test.YtmdiimhighlllaaGreatDoorRows
import GoSem.ClaimSeven
namespace Go.Proofs.YtmdiimhighlllaaGreatDoor
namespace Rows

/-- THE TIED CARD OF 'laws.FnRepairs'. -/
def fnRepairsCard : Claim7 := { stood := { row := fnRepairsRow, standIns := [], harness := (true, "924b293b53052b4a4e85537b0d78ae7b23176176c21cb82df4028e2ba26250cf"), looks := false }, kinds := [], alts := [], laidByText := true, laidKinds := [.data, .pinned], laidTests := true, laidLooks := .later }
def FnRepairsCardSaid : Prop := Claim7.holds Tryz.pinned (.plain (OpenSpec.ofChange fnRepairsSpec)) fnRepairsCard

/-- THE TIED CARD OF 'laws.FnTop'. -/
def fnTopCard : Claim7 := { stood := { row := fnTopRow, standIns := [], harness := (true, "924b293b53052b4a4e85537b0d78ae7b23176176c21cb82df4028e2ba26250cf"), looks := false }, kinds := [], alts := [], laidByText := true, laidKinds := [.data, .pinned], laidTests := true, laidLooks := .later }
def FnTopCardSaid : Prop := Claim7.holds Tryz.pinned (.plain (OpenSpec.ofChange fnTopSpec)) fnTopCard

/-- THE SECOND FORM's CARD OF 'laws.FnRepairs'. -/
def fnRepairsUptoCard : Claim7 := { stood := { row := fnRepairsUptoRow, standIns := [], harness := (true, "924b293b53052b4a4e85537b0d78ae7b23176176c21cb82df4028e2ba26250cf"), looks := false }, kinds := [], alts := [], laidByText := true, laidKinds := [.data, .pinned], laidTests := true, laidLooks := .later }
def FnRepairsUptoCardSaid : Prop := Claim7.holds Tryz.pinned (.plain (OpenSpec.upto fnRepairsSpec)) fnRepairsUptoCard

/-- THE SECOND FORM's CARD OF 'laws.FnTop'. -/
def fnTopUptoCard : Claim7 := { stood := { row := fnTopUptoRow, standIns := [], harness := (true, "924b293b53052b4a4e85537b0d78ae7b23176176c21cb82df4028e2ba26250cf"), looks := false }, kinds := [], alts := [], laidByText := true, laidKinds := [.data, .pinned], laidTests := true, laidLooks := .later }
def FnTopUptoCardSaid : Prop := Claim7.holds Tryz.pinned (.plain (OpenSpec.upto fnTopSpec)) fnTopUptoCard
end Rows
end Go.Proofs.YtmdiimhighlllaaGreatDoor
