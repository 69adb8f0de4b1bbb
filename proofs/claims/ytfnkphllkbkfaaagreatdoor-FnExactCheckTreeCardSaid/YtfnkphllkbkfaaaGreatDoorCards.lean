/-
  DERIVED. GIVEN WITH THE SEED: THE CARDS: each row of YtfnkphllkbkfaaaGreatDoorRows.lean that lists a variable, with what it lists TIED to the program's text (the seventh form; the later family's looks); each row that meets fmt, with fmt's text TOLD by the authors' own Lean function (tested against real Go, not proved from fmt's source: count such statements apart). THE CARD IS WHAT COUNTS. Prove the row's statement (the work); the ties are given (YtfnkphllkbkfaaaGreatDoorTie.lean); close each card by the builder's one call (the guide's Derived/Test/ToyasCard.lean, 'card_holds'). Laid BY PROGRAM, IN A SANDBOX (cutbox-door.mjs). By AI agents, Wed Nov 11 2026. No macro, syntax, notation, axiom, sorry.
-/
import Derived.Test.YtfnkphllkbkfaaaGreatDoorRows
import GoSem.ClaimSeven
namespace Go.Proofs.YtfnkphllkbkfaaaGreatDoor
namespace Rows

/-- THE TIED CARD OF 'laws.FnExactCheckTree'. -/
def fnExactCheckTreeCard : Claim7 := { stood := { row := fnExactCheckTreeRow, standIns := [], harness := (true, "6b937b2fdd03c8628cc399462d714f93d5d5148329ae9f0f616be446abcfcc18"), looks := false }, kinds := [], alts := [], laidByText := true, laidKinds := [.data, .pinned], laidTests := true, laidLooks := .later }
def FnExactCheckTreeCardSaid : Prop := Claim7.holds Tryz.pinned (.plain (OpenSpec.ofChange fnExactCheckTreeSpec)) fnExactCheckTreeCard

/-- THE SECOND FORM's CARD OF 'laws.FnExactCheckTree'. -/
def fnExactCheckTreeUptoCard : Claim7 := { stood := { row := fnExactCheckTreeUptoRow, standIns := [], harness := (true, "6b937b2fdd03c8628cc399462d714f93d5d5148329ae9f0f616be446abcfcc18"), looks := false }, kinds := [], alts := [], laidByText := true, laidKinds := [.data, .pinned], laidTests := true, laidLooks := .later }
def FnExactCheckTreeUptoCardSaid : Prop := Claim7.holds Tryz.pinned (.plain (OpenSpec.upto fnExactCheckTreeSpec)) fnExactCheckTreeUptoCard
end Rows
end Go.Proofs.YtfnkphllkbkfaaaGreatDoor
