/-
  DERIVED. GIVEN WITH THE SEED: THE CARDS: each row of YtlhfmcbmlmhgaaaGreatDoorRows.lean that lists a variable, with what it lists TIED to the program's text (the seventh form; the later family's looks); each row that meets fmt, with fmt's text TOLD by the authors' own Lean function (tested against real Go, not proved from fmt's source: count such statements apart). THE CARD IS WHAT COUNTS. Prove the row's statement (the work); the ties are given (YtlhfmcbmlmhgaaaGreatDoorTie.lean); close each card by the builder's one call (the guide's Derived/Test/ToyasCard.lean, 'card_holds'). Laid BY PROGRAM, IN A SANDBOX (cutbox-door.mjs). By AI agents, Wed Nov 11 2026. No macro, syntax, notation, axiom, sorry.
-/
import Derived.Test.YtlhfmcbmlmhgaaaGreatDoorRows
import GoSem.ClaimSeven
namespace Go.Proofs.YtlhfmcbmlmhgaaaGreatDoor
namespace Rows

/-- THE TIED CARD OF 'laws.FnTopOfAll'. -/
def fnTopOfAllCard : Claim7 := { stood := { row := fnTopOfAllRow, standIns := [], harness := (true, "f4ede92ce11079b725545c95e823d984d2d590d40deaa19457f0534b94aabf07"), looks := false }, kinds := [], alts := [], laidByText := true, laidKinds := [.data, .pinned], laidTests := true, laidLooks := .later }
def FnTopOfAllCardSaid : Prop := Claim7.holds Tryz.pinned (.plain (OpenSpec.ofChange fnTopOfAllSpec)) fnTopOfAllCard

/-- THE SECOND FORM's CARD OF 'laws.FnTopOfAll'. -/
def fnTopOfAllUptoCard : Claim7 := { stood := { row := fnTopOfAllUptoRow, standIns := [], harness := (true, "f4ede92ce11079b725545c95e823d984d2d590d40deaa19457f0534b94aabf07"), looks := false }, kinds := [], alts := [], laidByText := true, laidKinds := [.data, .pinned], laidTests := true, laidLooks := .later }
def FnTopOfAllUptoCardSaid : Prop := Claim7.holds Tryz.pinned (.plain (OpenSpec.upto fnTopOfAllSpec)) fnTopOfAllUptoCard
end Rows
end Go.Proofs.YtlhfmcbmlmhgaaaGreatDoor
