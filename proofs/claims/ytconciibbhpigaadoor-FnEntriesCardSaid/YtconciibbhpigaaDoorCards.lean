/-
  DERIVED. GIVEN WITH THE SEED: THE CARDS: each row of YtconciibbhpigaaDoorRows.lean that lists a variable, with what it lists TIED to the program's text (the seventh form; the later family's looks); each row that meets fmt, with fmt's text TOLD by the authors' own Lean function (tested against real Go, not proved from fmt's source: count such statements apart). THE CARD IS WHAT COUNTS. Prove the row's statement (the work); the ties are given (YtconciibbhpigaaDoorTie.lean); close each card by the builder's one call (the guide's Derived/Test/ToyasCard.lean, 'card_holds'). Laid BY PROGRAM, IN A SANDBOX (cutbox-door.mjs). By AI agents, Wed Nov 11 2026. No macro, syntax, notation, axiom, sorry.
-/
import Derived.Test.YtconciibbhpigaaDoorRows
import GoSem.ClaimSeven
namespace Go.Proofs.YtconciibbhpigaaDoor
namespace Rows

/-- THE TIED CARD OF 'laws.FnEntries'. -/
def fnEntriesCard : Claim7 := { stood := { row := fnEntriesRow, standIns := [], harness := (true, "9e49adb38975630ca422f5764fd9388099d478357848782d196855eac118f9bc"), looks := false }, kinds := [], alts := [], laidByText := true, laidKinds := [.data, .pinned], laidTests := true, laidLooks := .later }
def FnEntriesCardSaid : Prop := Claim7.holds Tryd.pinned (.plain (OpenSpec.ofChange fnEntriesSpec)) fnEntriesCard

/-- THE SECOND FORM's CARD OF 'laws.FnEntries'. -/
def fnEntriesUptoCard : Claim7 := { stood := { row := fnEntriesUptoRow, standIns := [], harness := (true, "9e49adb38975630ca422f5764fd9388099d478357848782d196855eac118f9bc"), looks := false }, kinds := [], alts := [], laidByText := true, laidKinds := [.data, .pinned], laidTests := true, laidLooks := .later }
def FnEntriesUptoCardSaid : Prop := Claim7.holds Tryd.pinned (.plain (OpenSpec.upto fnEntriesSpec)) fnEntriesUptoCard
end Rows
end Go.Proofs.YtconciibbhpigaaDoor
