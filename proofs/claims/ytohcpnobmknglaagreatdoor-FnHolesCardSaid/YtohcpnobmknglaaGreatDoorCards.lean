/-
  DERIVED. GIVEN WITH THE SEED: THE CARDS: each row of YtohcpnobmknglaaGreatDoorRows.lean that lists a variable, with what it lists TIED to the program's text (the seventh form; the later family's looks); each row that meets fmt, with fmt's text TOLD by the authors' own Lean function (tested against real Go, not proved from fmt's source: count such statements apart). THE CARD IS WHAT COUNTS. Prove the row's statement (the work); the ties are given (YtohcpnobmknglaaGreatDoorTie.lean); close each card by the builder's one call (the guide's Derived/Test/ToyasCard.lean, 'card_holds'). Laid BY PROGRAM, IN A SANDBOX (cutbox-door.mjs). By AI agents, Wed Nov 11 2026. No macro, syntax, notation, axiom, sorry.
-/
import Derived.Test.YtohcpnobmknglaaGreatDoorRows
import GoSem.ClaimSeven
namespace Go.Proofs.YtohcpnobmknglaaGreatDoor
namespace Rows

/-- THE TIED CARD OF 'laws.FnHoles'. -/
def fnHolesCard : Claim7 := { stood := { row := fnHolesRow, standIns := [], harness := (true, "71131991a124994ab50f427dda738a3ee91f03a4dd38f129dd92b3b7d6da64f8"), looks := false }, kinds := [], alts := [], laidByText := true, laidKinds := [.data, .pinned], laidTests := true, laidLooks := .later }
def FnHolesCardSaid : Prop := Claim7.holds Tryz.pinned (.plain (OpenSpec.ofChange fnHolesSpec)) fnHolesCard

/-- THE TIED CARD OF 'laws.FnExactTallyOf'. -/
def fnExactTallyOfCard : Claim7 := { stood := { row := fnExactTallyOfRow, standIns := [], harness := (true, "71131991a124994ab50f427dda738a3ee91f03a4dd38f129dd92b3b7d6da64f8"), looks := false }, kinds := [], alts := [], laidByText := true, laidKinds := [.data, .pinned], laidTests := true, laidLooks := .later }
def FnExactTallyOfCardSaid : Prop := Claim7.holds Tryz.pinned (.plain (OpenSpec.ofChange fnExactTallyOfSpec)) fnExactTallyOfCard

/-- THE TIED CARD OF 'laws.FnExactSplitOf'. -/
def fnExactSplitOfCard : Claim7 := { stood := { row := fnExactSplitOfRow, standIns := [], harness := (true, "71131991a124994ab50f427dda738a3ee91f03a4dd38f129dd92b3b7d6da64f8"), looks := false }, kinds := [], alts := [], laidByText := true, laidKinds := [.data, .pinned], laidTests := true, laidLooks := .later }
def FnExactSplitOfCardSaid : Prop := Claim7.holds Tryz.pinned (.plain (OpenSpec.ofChange fnExactSplitOfSpec)) fnExactSplitOfCard

/-- THE TIED CARD OF 'laws.FnExactBestField'. -/
def fnExactBestFieldCard : Claim7 := { stood := { row := fnExactBestFieldRow, standIns := [], harness := (true, "71131991a124994ab50f427dda738a3ee91f03a4dd38f129dd92b3b7d6da64f8"), looks := false }, kinds := [], alts := [], laidByText := true, laidKinds := [.data, .pinned], laidTests := true, laidLooks := .later }
def FnExactBestFieldCardSaid : Prop := Claim7.holds Tryz.pinned (.plain (OpenSpec.ofChange fnExactBestFieldSpec)) fnExactBestFieldCard

/-- THE TIED CARD OF 'laws.FnExactCommonValue'. -/
def fnExactCommonValueCard : Claim7 := { stood := { row := fnExactCommonValueRow, standIns := [], harness := (true, "71131991a124994ab50f427dda738a3ee91f03a4dd38f129dd92b3b7d6da64f8"), looks := false }, kinds := [], alts := [], laidByText := true, laidKinds := [.data, .pinned], laidTests := true, laidLooks := .later }
def FnExactCommonValueCardSaid : Prop := Claim7.holds Tryz.pinned (.plain (OpenSpec.ofChange fnExactCommonValueSpec)) fnExactCommonValueCard

/-- THE TIED CARD OF 'laws.FnExactCrossOf'. -/
def fnExactCrossOfCard : Claim7 := { stood := { row := fnExactCrossOfRow, standIns := [], harness := (true, "71131991a124994ab50f427dda738a3ee91f03a4dd38f129dd92b3b7d6da64f8"), looks := false }, kinds := [], alts := [], laidByText := true, laidKinds := [.data, .pinned], laidTests := true, laidLooks := .later }
def FnExactCrossOfCardSaid : Prop := Claim7.holds Tryz.pinned (.plain (OpenSpec.ofChange fnExactCrossOfSpec)) fnExactCrossOfCard

/-- THE SECOND FORM's CARD OF 'laws.FnHoles'. -/
def fnHolesUptoCard : Claim7 := { stood := { row := fnHolesUptoRow, standIns := [], harness := (true, "71131991a124994ab50f427dda738a3ee91f03a4dd38f129dd92b3b7d6da64f8"), looks := false }, kinds := [], alts := [], laidByText := true, laidKinds := [.data, .pinned], laidTests := true, laidLooks := .later }
def FnHolesUptoCardSaid : Prop := Claim7.holds Tryz.pinned (.plain (OpenSpec.upto fnHolesSpec)) fnHolesUptoCard

/-- THE SECOND FORM's CARD OF 'laws.FnExactTallyOf'. -/
def fnExactTallyOfUptoCard : Claim7 := { stood := { row := fnExactTallyOfUptoRow, standIns := [], harness := (true, "71131991a124994ab50f427dda738a3ee91f03a4dd38f129dd92b3b7d6da64f8"), looks := false }, kinds := [], alts := [], laidByText := true, laidKinds := [.data, .pinned], laidTests := true, laidLooks := .later }
def FnExactTallyOfUptoCardSaid : Prop := Claim7.holds Tryz.pinned (.plain (OpenSpec.upto fnExactTallyOfSpec)) fnExactTallyOfUptoCard

/-- THE SECOND FORM's CARD OF 'laws.FnExactSplitOf'. -/
def fnExactSplitOfUptoCard : Claim7 := { stood := { row := fnExactSplitOfUptoRow, standIns := [], harness := (true, "71131991a124994ab50f427dda738a3ee91f03a4dd38f129dd92b3b7d6da64f8"), looks := false }, kinds := [], alts := [], laidByText := true, laidKinds := [.data, .pinned], laidTests := true, laidLooks := .later }
def FnExactSplitOfUptoCardSaid : Prop := Claim7.holds Tryz.pinned (.plain (OpenSpec.upto fnExactSplitOfSpec)) fnExactSplitOfUptoCard

/-- THE SECOND FORM's CARD OF 'laws.FnExactBestField'. -/
def fnExactBestFieldUptoCard : Claim7 := { stood := { row := fnExactBestFieldUptoRow, standIns := [], harness := (true, "71131991a124994ab50f427dda738a3ee91f03a4dd38f129dd92b3b7d6da64f8"), looks := false }, kinds := [], alts := [], laidByText := true, laidKinds := [.data, .pinned], laidTests := true, laidLooks := .later }
def FnExactBestFieldUptoCardSaid : Prop := Claim7.holds Tryz.pinned (.plain (OpenSpec.upto fnExactBestFieldSpec)) fnExactBestFieldUptoCard

/-- THE SECOND FORM's CARD OF 'laws.FnExactCommonValue'. -/
def fnExactCommonValueUptoCard : Claim7 := { stood := { row := fnExactCommonValueUptoRow, standIns := [], harness := (true, "71131991a124994ab50f427dda738a3ee91f03a4dd38f129dd92b3b7d6da64f8"), looks := false }, kinds := [], alts := [], laidByText := true, laidKinds := [.data, .pinned], laidTests := true, laidLooks := .later }
def FnExactCommonValueUptoCardSaid : Prop := Claim7.holds Tryz.pinned (.plain (OpenSpec.upto fnExactCommonValueSpec)) fnExactCommonValueUptoCard

/-- THE SECOND FORM's CARD OF 'laws.FnExactCrossOf'. -/
def fnExactCrossOfUptoCard : Claim7 := { stood := { row := fnExactCrossOfUptoRow, standIns := [], harness := (true, "71131991a124994ab50f427dda738a3ee91f03a4dd38f129dd92b3b7d6da64f8"), looks := false }, kinds := [], alts := [], laidByText := true, laidKinds := [.data, .pinned], laidTests := true, laidLooks := .later }
def FnExactCrossOfUptoCardSaid : Prop := Claim7.holds Tryz.pinned (.plain (OpenSpec.upto fnExactCrossOfSpec)) fnExactCrossOfUptoCard
end Rows
end Go.Proofs.YtohcpnobmknglaaGreatDoor
