/-
  DERIVED. GIVEN WITH THE SEED: THE CARDS: each row of YtbckpmjiimiceaaDoorRows.lean that lists a variable, with what it lists TIED to the program's text (the seventh form; the later family's looks); each row that meets fmt, with fmt's text TOLD by the authors' own Lean function (tested against real Go, not proved from fmt's source: count such statements apart). THE CARD IS WHAT COUNTS. Prove the row's statement (the work); the ties are given (YtbckpmjiimiceaaDoorTie.lean); close each card by the builder's one call (the guide's Derived/Test/ToyasCard.lean, 'card_holds'). Laid BY PROGRAM, IN A SANDBOX (cutbox-door.mjs). By AI agents, Wed Nov 11 2026. No macro, syntax, notation, axiom, sorry.
-/
import Derived.Test.YtbckpmjiimiceaaDoorRows
import GoSem.ClaimSeven
namespace Go.Proofs.YtbckpmjiimiceaaDoor
namespace Rows

/-- THE TIED CARD OF 'laws.FnFiled'. -/
def fnFiledCard : Claim7 := { stood := { row := fnFiledRow, standIns := [], harness := (true, "afb7d57842aadef7bac16630cb5d31354e8617b8c5265f9b74f4831abb7b1196"), looks := false }, kinds := [], alts := [], laidByText := true, laidKinds := [.data, .pinned], laidTests := true, laidLooks := .later }
def FnFiledCardSaid : Prop := Claim7.holds Tryd.pinned (.plain (OpenSpec.ofChange fnFiledSpec)) fnFiledCard

/-- THE TIED CARD OF 'laws.FnExactFileOrder'. -/
def fnExactFileOrderCard : Claim7 := { stood := { row := fnExactFileOrderRow, standIns := [], harness := (true, "afb7d57842aadef7bac16630cb5d31354e8617b8c5265f9b74f4831abb7b1196"), looks := false }, kinds := [], alts := [], laidByText := true, laidKinds := [.data, .pinned], laidTests := true, laidLooks := .later }
def FnExactFileOrderCardSaid : Prop := Claim7.holds Tryd.pinned (.plain (OpenSpec.ofChange fnExactFileOrderSpec)) fnExactFileOrderCard

/-- THE TIED CARD OF 'laws.FnExactGuidesFor'. -/
def fnExactGuidesForCard : Claim7 := { stood := { row := fnExactGuidesForRow, standIns := [], harness := (true, "afb7d57842aadef7bac16630cb5d31354e8617b8c5265f9b74f4831abb7b1196"), looks := false }, kinds := [], alts := [], laidByText := true, laidKinds := [.data, .pinned], laidTests := true, laidLooks := .later }
def FnExactGuidesForCardSaid : Prop := Claim7.holds Tryd.pinned (.plain (OpenSpec.ofChange fnExactGuidesForSpec)) fnExactGuidesForCard

/-- THE TIED CARD OF 'laws.FnExactDrawerOf'. -/
def fnExactDrawerOfCard : Claim7 := { stood := { row := fnExactDrawerOfRow, standIns := [], harness := (true, "afb7d57842aadef7bac16630cb5d31354e8617b8c5265f9b74f4831abb7b1196"), looks := false }, kinds := [], alts := [], laidByText := true, laidKinds := [.data, .pinned], laidTests := true, laidLooks := .later }
def FnExactDrawerOfCardSaid : Prop := Claim7.holds Tryd.pinned (.plain (OpenSpec.ofChange fnExactDrawerOfSpec)) fnExactDrawerOfCard

/-- THE SECOND FORM's CARD OF 'laws.FnFiled'. -/
def fnFiledUptoCard : Claim7 := { stood := { row := fnFiledUptoRow, standIns := [], harness := (true, "afb7d57842aadef7bac16630cb5d31354e8617b8c5265f9b74f4831abb7b1196"), looks := false }, kinds := [], alts := [], laidByText := true, laidKinds := [.data, .pinned], laidTests := true, laidLooks := .later }
def FnFiledUptoCardSaid : Prop := Claim7.holds Tryd.pinned (.plain (OpenSpec.upto fnFiledSpec)) fnFiledUptoCard

/-- THE SECOND FORM's CARD OF 'laws.FnExactFileOrder'. -/
def fnExactFileOrderUptoCard : Claim7 := { stood := { row := fnExactFileOrderUptoRow, standIns := [], harness := (true, "afb7d57842aadef7bac16630cb5d31354e8617b8c5265f9b74f4831abb7b1196"), looks := false }, kinds := [], alts := [], laidByText := true, laidKinds := [.data, .pinned], laidTests := true, laidLooks := .later }
def FnExactFileOrderUptoCardSaid : Prop := Claim7.holds Tryd.pinned (.plain (OpenSpec.upto fnExactFileOrderSpec)) fnExactFileOrderUptoCard

/-- THE SECOND FORM's CARD OF 'laws.FnExactGuidesFor'. -/
def fnExactGuidesForUptoCard : Claim7 := { stood := { row := fnExactGuidesForUptoRow, standIns := [], harness := (true, "afb7d57842aadef7bac16630cb5d31354e8617b8c5265f9b74f4831abb7b1196"), looks := false }, kinds := [], alts := [], laidByText := true, laidKinds := [.data, .pinned], laidTests := true, laidLooks := .later }
def FnExactGuidesForUptoCardSaid : Prop := Claim7.holds Tryd.pinned (.plain (OpenSpec.upto fnExactGuidesForSpec)) fnExactGuidesForUptoCard

/-- THE SECOND FORM's CARD OF 'laws.FnExactDrawerOf'. -/
def fnExactDrawerOfUptoCard : Claim7 := { stood := { row := fnExactDrawerOfUptoRow, standIns := [], harness := (true, "afb7d57842aadef7bac16630cb5d31354e8617b8c5265f9b74f4831abb7b1196"), looks := false }, kinds := [], alts := [], laidByText := true, laidKinds := [.data, .pinned], laidTests := true, laidLooks := .later }
def FnExactDrawerOfUptoCardSaid : Prop := Claim7.holds Tryd.pinned (.plain (OpenSpec.upto fnExactDrawerOfSpec)) fnExactDrawerOfUptoCard
end Rows
end Go.Proofs.YtbckpmjiimiceaaDoor
