/-
  DERIVED. GIVEN WITH THE SEED: THE CARDS: each row of YtkgboidjghcegaaGreatDoorRows.lean that lists a variable, with what it lists TIED to the program's text (the seventh form; the later family's looks); each row that meets fmt, with fmt's text TOLD by the authors' own Lean function (tested against real Go, not proved from fmt's source: count such statements apart). THE CARD IS WHAT COUNTS. Prove the row's statement (the work); the ties are given (YtkgboidjghcegaaGreatDoorTie.lean); close each card by the builder's one call (the guide's Derived/Test/ToyasCard.lean, 'card_holds'). Laid BY PROGRAM, IN A SANDBOX (cutbox-door.mjs). By AI agents, Wed Nov 11 2026. No macro, syntax, notation, axiom, sorry.
-/
import Derived.Test.YtkgboidjghcegaaGreatDoorRows
import GoSem.ClaimSeven
namespace Go.Proofs.YtkgboidjghcegaaGreatDoor
namespace Rows

/-- THE TIED CARD OF 'laws.FnExactCrossOf'. -/
def fnExactCrossOfCard : Claim7 := { stood := { row := fnExactCrossOfRow, standIns := [], harness := (true, "9856475878e8d5f77b411eb633d4a7cc4f43ce5350ce5f2fb4a5a242e5bfb599"), looks := false }, kinds := [], alts := [], laidByText := true, laidKinds := [.data, .pinned], laidTests := true, laidLooks := .later }
def FnExactCrossOfCardSaid : Prop := Claim7.holds Tryz.pinned (.plain (OpenSpec.ofChange fnExactCrossOfSpec)) fnExactCrossOfCard

/-- THE TIED CARD OF 'laws.FnCounts'. -/
def fnCountsCard : Claim7 := { stood := { row := fnCountsRow, standIns := [], harness := (true, "9856475878e8d5f77b411eb633d4a7cc4f43ce5350ce5f2fb4a5a242e5bfb599"), looks := false }, kinds := [], alts := [], laidByText := true, laidKinds := [.data, .pinned], laidTests := true, laidLooks := .later }
def FnCountsCardSaid : Prop := Claim7.holds Tryz.pinned (.plain (OpenSpec.ofChange fnCountsSpec)) fnCountsCard

/-- THE SECOND FORM's CARD OF 'laws.FnExactCrossOf'. -/
def fnExactCrossOfUptoCard : Claim7 := { stood := { row := fnExactCrossOfUptoRow, standIns := [], harness := (true, "9856475878e8d5f77b411eb633d4a7cc4f43ce5350ce5f2fb4a5a242e5bfb599"), looks := false }, kinds := [], alts := [], laidByText := true, laidKinds := [.data, .pinned], laidTests := true, laidLooks := .later }
def FnExactCrossOfUptoCardSaid : Prop := Claim7.holds Tryz.pinned (.plain (OpenSpec.upto fnExactCrossOfSpec)) fnExactCrossOfUptoCard

/-- THE SECOND FORM's CARD OF 'laws.FnCounts'. -/
def fnCountsUptoCard : Claim7 := { stood := { row := fnCountsUptoRow, standIns := [], harness := (true, "9856475878e8d5f77b411eb633d4a7cc4f43ce5350ce5f2fb4a5a242e5bfb599"), looks := false }, kinds := [], alts := [], laidByText := true, laidKinds := [.data, .pinned], laidTests := true, laidLooks := .later }
def FnCountsUptoCardSaid : Prop := Claim7.holds Tryz.pinned (.plain (OpenSpec.upto fnCountsSpec)) fnCountsUptoCard
end Rows
end Go.Proofs.YtkgboidjghcegaaGreatDoor
