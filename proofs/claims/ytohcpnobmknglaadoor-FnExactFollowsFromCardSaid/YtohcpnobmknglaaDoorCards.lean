/-
  DERIVED. GIVEN WITH THE SEED: THE CARDS: each row of YtohcpnobmknglaaDoorRows.lean that lists a variable, with what it lists TIED to the program's text (the seventh form; the later family's looks); each row that meets fmt, with fmt's text TOLD by the authors' own Lean function (tested against real Go, not proved from fmt's source: count such statements apart). THE CARD IS WHAT COUNTS. Prove the row's statement (the work); the ties are given (YtohcpnobmknglaaDoorTie.lean); close each card by the builder's one call (the guide's Derived/Test/ToyasCard.lean, 'card_holds'). Laid BY PROGRAM, IN A SANDBOX (cutbox-door.mjs). By AI agents, Wed Nov 11 2026. No macro, syntax, notation, axiom, sorry.
-/
import Derived.Test.YtohcpnobmknglaaDoorRows
import GoSem.ClaimSeven
namespace Go.Proofs.YtohcpnobmknglaaDoor
namespace Rows

/-- THE TIED CARD OF 'laws.FnNear'. -/
def fnNearCard : Claim7 := { stood := { row := fnNearRow, standIns := [], harness := (true, "7c5a936455e09dc7de3c96bb8bee1906508b6741c99463d0da82f3263e08c8e6"), looks := false }, kinds := [], alts := [], laidByText := true, laidKinds := [.data, .pinned], laidTests := true, laidLooks := .later }
def FnNearCardSaid : Prop := Claim7.holds Tryd.pinned (.plain (OpenSpec.ofChange fnNearSpec)) fnNearCard

/-- THE TIED CARD OF 'laws.FnThree'. -/
def fnThreeCard : Claim7 := { stood := { row := fnThreeRow, standIns := [], harness := (true, "7c5a936455e09dc7de3c96bb8bee1906508b6741c99463d0da82f3263e08c8e6"), looks := false }, kinds := [], alts := [], laidByText := true, laidKinds := [.data, .pinned], laidTests := true, laidLooks := .later }
def FnThreeCardSaid : Prop := Claim7.holds Tryd.pinned (.plain (OpenSpec.ofChange fnThreeSpec)) fnThreeCard

/-- THE TIED CARD OF 'laws.FnAnswers'. -/
def fnAnswersCard : Claim7 := { stood := { row := fnAnswersRow, standIns := [], harness := (true, "7c5a936455e09dc7de3c96bb8bee1906508b6741c99463d0da82f3263e08c8e6"), looks := false }, kinds := [], alts := [], laidByText := true, laidKinds := [.data, .pinned], laidTests := true, laidLooks := .later }
def FnAnswersCardSaid : Prop := Claim7.holds Tryd.pinned (.plain (OpenSpec.ofChange fnAnswersSpec)) fnAnswersCard

/-- THE TIED CARD OF 'laws.FnExactFollowsFrom'. -/
def fnExactFollowsFromCard : Claim7 := { stood := { row := fnExactFollowsFromRow, standIns := [], harness := (true, "7c5a936455e09dc7de3c96bb8bee1906508b6741c99463d0da82f3263e08c8e6"), looks := false }, kinds := [], alts := [], laidByText := true, laidKinds := [.data, .pinned], laidTests := true, laidLooks := .later }
def FnExactFollowsFromCardSaid : Prop := Claim7.holds Tryd.pinned (.plain (OpenSpec.ofChange fnExactFollowsFromSpec)) fnExactFollowsFromCard

/-- THE TIED CARD OF 'laws.FnExactFileOrder'. -/
def fnExactFileOrderCard : Claim7 := { stood := { row := fnExactFileOrderRow, standIns := [], harness := (true, "7c5a936455e09dc7de3c96bb8bee1906508b6741c99463d0da82f3263e08c8e6"), looks := false }, kinds := [], alts := [], laidByText := true, laidKinds := [.data, .pinned], laidTests := true, laidLooks := .later }
def FnExactFileOrderCardSaid : Prop := Claim7.holds Tryd.pinned (.plain (OpenSpec.ofChange fnExactFileOrderSpec)) fnExactFileOrderCard

/-- THE TIED CARD OF 'laws.FnExactDrawerOf'. -/
def fnExactDrawerOfCard : Claim7 := { stood := { row := fnExactDrawerOfRow, standIns := [], harness := (true, "7c5a936455e09dc7de3c96bb8bee1906508b6741c99463d0da82f3263e08c8e6"), looks := false }, kinds := [], alts := [], laidByText := true, laidKinds := [.data, .pinned], laidTests := true, laidLooks := .later }
def FnExactDrawerOfCardSaid : Prop := Claim7.holds Tryd.pinned (.plain (OpenSpec.ofChange fnExactDrawerOfSpec)) fnExactDrawerOfCard

/-- THE SECOND FORM's CARD OF 'laws.FnNear'. -/
def fnNearUptoCard : Claim7 := { stood := { row := fnNearUptoRow, standIns := [], harness := (true, "7c5a936455e09dc7de3c96bb8bee1906508b6741c99463d0da82f3263e08c8e6"), looks := false }, kinds := [], alts := [], laidByText := true, laidKinds := [.data, .pinned], laidTests := true, laidLooks := .later }
def FnNearUptoCardSaid : Prop := Claim7.holds Tryd.pinned (.plain (OpenSpec.upto fnNearSpec)) fnNearUptoCard

/-- THE SECOND FORM's CARD OF 'laws.FnThree'. -/
def fnThreeUptoCard : Claim7 := { stood := { row := fnThreeUptoRow, standIns := [], harness := (true, "7c5a936455e09dc7de3c96bb8bee1906508b6741c99463d0da82f3263e08c8e6"), looks := false }, kinds := [], alts := [], laidByText := true, laidKinds := [.data, .pinned], laidTests := true, laidLooks := .later }
def FnThreeUptoCardSaid : Prop := Claim7.holds Tryd.pinned (.plain (OpenSpec.upto fnThreeSpec)) fnThreeUptoCard

/-- THE SECOND FORM's CARD OF 'laws.FnAnswers'. -/
def fnAnswersUptoCard : Claim7 := { stood := { row := fnAnswersUptoRow, standIns := [], harness := (true, "7c5a936455e09dc7de3c96bb8bee1906508b6741c99463d0da82f3263e08c8e6"), looks := false }, kinds := [], alts := [], laidByText := true, laidKinds := [.data, .pinned], laidTests := true, laidLooks := .later }
def FnAnswersUptoCardSaid : Prop := Claim7.holds Tryd.pinned (.plain (OpenSpec.upto fnAnswersSpec)) fnAnswersUptoCard

/-- THE SECOND FORM's CARD OF 'laws.FnExactFollowsFrom'. -/
def fnExactFollowsFromUptoCard : Claim7 := { stood := { row := fnExactFollowsFromUptoRow, standIns := [], harness := (true, "7c5a936455e09dc7de3c96bb8bee1906508b6741c99463d0da82f3263e08c8e6"), looks := false }, kinds := [], alts := [], laidByText := true, laidKinds := [.data, .pinned], laidTests := true, laidLooks := .later }
def FnExactFollowsFromUptoCardSaid : Prop := Claim7.holds Tryd.pinned (.plain (OpenSpec.upto fnExactFollowsFromSpec)) fnExactFollowsFromUptoCard

/-- THE SECOND FORM's CARD OF 'laws.FnExactFileOrder'. -/
def fnExactFileOrderUptoCard : Claim7 := { stood := { row := fnExactFileOrderUptoRow, standIns := [], harness := (true, "7c5a936455e09dc7de3c96bb8bee1906508b6741c99463d0da82f3263e08c8e6"), looks := false }, kinds := [], alts := [], laidByText := true, laidKinds := [.data, .pinned], laidTests := true, laidLooks := .later }
def FnExactFileOrderUptoCardSaid : Prop := Claim7.holds Tryd.pinned (.plain (OpenSpec.upto fnExactFileOrderSpec)) fnExactFileOrderUptoCard

/-- THE SECOND FORM's CARD OF 'laws.FnExactDrawerOf'. -/
def fnExactDrawerOfUptoCard : Claim7 := { stood := { row := fnExactDrawerOfUptoRow, standIns := [], harness := (true, "7c5a936455e09dc7de3c96bb8bee1906508b6741c99463d0da82f3263e08c8e6"), looks := false }, kinds := [], alts := [], laidByText := true, laidKinds := [.data, .pinned], laidTests := true, laidLooks := .later }
def FnExactDrawerOfUptoCardSaid : Prop := Claim7.holds Tryd.pinned (.plain (OpenSpec.upto fnExactDrawerOfSpec)) fnExactDrawerOfUptoCard
end Rows
end Go.Proofs.YtohcpnobmknglaaDoor
