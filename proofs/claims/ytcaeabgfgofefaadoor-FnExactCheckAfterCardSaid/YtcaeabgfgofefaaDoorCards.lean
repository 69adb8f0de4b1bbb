/-
  DERIVED. GIVEN WITH THE SEED: THE CARDS: each row of YtcaeabgfgofefaaDoorRows.lean that lists a variable, with what it lists TIED to the program's text (the seventh form; the later family's looks); each row that meets fmt, with fmt's text TOLD by the authors' own Lean function (tested against real Go, not proved from fmt's source: count such statements apart). THE CARD IS WHAT COUNTS. Prove the row's statement (the work); the ties are given (YtcaeabgfgofefaaDoorTie.lean); close each card by the builder's one call (the guide's Derived/Test/ToyasCard.lean, 'card_holds'). Laid BY PROGRAM, IN A SANDBOX (cutbox-door.mjs). By AI agents, Wed Nov 11 2026. No macro, syntax, notation, axiom, sorry.
-/
import Derived.Test.YtcaeabgfgofefaaDoorRows
import GoSem.ClaimSeven
namespace Go.Proofs.YtcaeabgfgofefaaDoor
namespace Rows

/-- THE TIED CARD OF 'laws.FnExactHashCard'. -/
def fnExactHashCardCard : Claim7 := { stood := { row := fnExactHashCardRow, standIns := [], harness := (true, "412c60e8ed7c506071ce7fd8c1ce45ae76393dee1f0714938873f45079763b84"), looks := false }, kinds := [], alts := [], laidByText := true, laidKinds := [.data, .pinned], laidTests := true, laidLooks := .later }
def FnExactHashCardCardSaid : Prop := Claim7.holds Tryd.pinned (.plain (OpenSpec.ofChange fnExactHashCardSpec)) fnExactHashCardCard

/-- THE TIED CARD OF 'laws.FnExactSameCards'. -/
def fnExactSameCardsCard : Claim7 := { stood := { row := fnExactSameCardsRow, standIns := [], harness := (true, "412c60e8ed7c506071ce7fd8c1ce45ae76393dee1f0714938873f45079763b84"), looks := false }, kinds := [], alts := [], laidByText := true, laidKinds := [.data, .pinned], laidTests := true, laidLooks := .later }
def FnExactSameCardsCardSaid : Prop := Claim7.holds Tryd.pinned (.plain (OpenSpec.ofChange fnExactSameCardsSpec)) fnExactSameCardsCard

/-- THE TIED CARD OF 'laws.FnExactCheckOfDeck'. -/
def fnExactCheckOfDeckCard : Claim7 := { stood := { row := fnExactCheckOfDeckRow, standIns := [], harness := (true, "412c60e8ed7c506071ce7fd8c1ce45ae76393dee1f0714938873f45079763b84"), looks := false }, kinds := [], alts := [], laidByText := true, laidKinds := [.data, .pinned], laidTests := true, laidLooks := .later }
def FnExactCheckOfDeckCardSaid : Prop := Claim7.holds Tryd.pinned (.plain (OpenSpec.ofChange fnExactCheckOfDeckSpec)) fnExactCheckOfDeckCard

/-- THE TIED CARD OF 'laws.FnExactTogetherOf'. -/
def fnExactTogetherOfCard : Claim7 := { stood := { row := fnExactTogetherOfRow, standIns := [], harness := (true, "412c60e8ed7c506071ce7fd8c1ce45ae76393dee1f0714938873f45079763b84"), looks := false }, kinds := [], alts := [], laidByText := true, laidKinds := [.data, .pinned], laidTests := true, laidLooks := .later }
def FnExactTogetherOfCardSaid : Prop := Claim7.holds Tryd.pinned (.plain (OpenSpec.ofChange fnExactTogetherOfSpec)) fnExactTogetherOfCard

/-- THE TIED CARD OF 'laws.FnExactIdleHoles'. -/
def fnExactIdleHolesCard : Claim7 := { stood := { row := fnExactIdleHolesRow, standIns := [], harness := (true, "412c60e8ed7c506071ce7fd8c1ce45ae76393dee1f0714938873f45079763b84"), looks := false }, kinds := [], alts := [], laidByText := true, laidKinds := [.data, .pinned], laidTests := true, laidLooks := .later }
def FnExactIdleHolesCardSaid : Prop := Claim7.holds Tryd.pinned (.plain (OpenSpec.ofChange fnExactIdleHolesSpec)) fnExactIdleHolesCard

/-- THE TIED CARD OF 'laws.FnExactValueIn'. -/
def fnExactValueInCard : Claim7 := { stood := { row := fnExactValueInRow, standIns := [], harness := (true, "412c60e8ed7c506071ce7fd8c1ce45ae76393dee1f0714938873f45079763b84"), looks := false }, kinds := [], alts := [], laidByText := true, laidKinds := [.data, .pinned], laidTests := true, laidLooks := .later }
def FnExactValueInCardSaid : Prop := Claim7.holds Tryd.pinned (.plain (OpenSpec.ofChange fnExactValueInSpec)) fnExactValueInCard

/-- THE TIED CARD OF 'laws.FnExactCheckAnswer'. -/
def fnExactCheckAnswerCard : Claim7 := { stood := { row := fnExactCheckAnswerRow, standIns := [], harness := (true, "412c60e8ed7c506071ce7fd8c1ce45ae76393dee1f0714938873f45079763b84"), looks := false }, kinds := [], alts := [], laidByText := true, laidKinds := [.data, .pinned], laidTests := true, laidLooks := .later }
def FnExactCheckAnswerCardSaid : Prop := Claim7.holds Tryd.pinned (.plain (OpenSpec.ofChange fnExactCheckAnswerSpec)) fnExactCheckAnswerCard

/-- THE TIED CARD OF 'laws.FnExactFirstFault'. -/
def fnExactFirstFaultCard : Claim7 := { stood := { row := fnExactFirstFaultRow, standIns := [], harness := (true, "412c60e8ed7c506071ce7fd8c1ce45ae76393dee1f0714938873f45079763b84"), looks := false }, kinds := [], alts := [], laidByText := true, laidKinds := [.data, .pinned], laidTests := true, laidLooks := .later }
def FnExactFirstFaultCardSaid : Prop := Claim7.holds Tryd.pinned (.plain (OpenSpec.ofChange fnExactFirstFaultSpec)) fnExactFirstFaultCard

/-- THE TIED CARD OF 'laws.FnExactExpectedFalse'. -/
def fnExactExpectedFalseCard : Claim7 := { stood := { row := fnExactExpectedFalseRow, standIns := [], harness := (true, "412c60e8ed7c506071ce7fd8c1ce45ae76393dee1f0714938873f45079763b84"), looks := false }, kinds := [], alts := [], laidByText := true, laidKinds := [.data, .pinned], laidTests := true, laidLooks := .later }
def FnExactExpectedFalseCardSaid : Prop := Claim7.holds Tryd.pinned (.plain (OpenSpec.ofChange fnExactExpectedFalseSpec)) fnExactExpectedFalseCard

/-- THE TIED CARD OF 'laws.FnExactNearestCards'. -/
def fnExactNearestCardsCard : Claim7 := { stood := { row := fnExactNearestCardsRow, standIns := [], harness := (true, "412c60e8ed7c506071ce7fd8c1ce45ae76393dee1f0714938873f45079763b84"), looks := false }, kinds := [], alts := [], laidByText := true, laidKinds := [.data, .pinned], laidTests := true, laidLooks := .later }
def FnExactNearestCardsCardSaid : Prop := Claim7.holds Tryd.pinned (.plain (OpenSpec.ofChange fnExactNearestCardsSpec)) fnExactNearestCardsCard

/-- THE TIED CARD OF 'laws.FnExactHoleTally'. -/
def fnExactHoleTallyCard : Claim7 := { stood := { row := fnExactHoleTallyRow, standIns := [], harness := (true, "412c60e8ed7c506071ce7fd8c1ce45ae76393dee1f0714938873f45079763b84"), looks := false }, kinds := [], alts := [], laidByText := true, laidKinds := [.data, .pinned], laidTests := true, laidLooks := .later }
def FnExactHoleTallyCardSaid : Prop := Claim7.holds Tryd.pinned (.plain (OpenSpec.ofChange fnExactHoleTallySpec)) fnExactHoleTallyCard

/-- THE TIED CARD OF 'laws.FnExactCheckAfter'. -/
def fnExactCheckAfterCard : Claim7 := { stood := { row := fnExactCheckAfterRow, standIns := [], harness := (true, "412c60e8ed7c506071ce7fd8c1ce45ae76393dee1f0714938873f45079763b84"), looks := false }, kinds := [], alts := [], laidByText := true, laidKinds := [.data, .pinned], laidTests := true, laidLooks := .later }
def FnExactCheckAfterCardSaid : Prop := Claim7.holds Tryd.pinned (.plain (OpenSpec.ofChange fnExactCheckAfterSpec)) fnExactCheckAfterCard

/-- THE SECOND FORM's CARD OF 'laws.FnExactHashCard'. -/
def fnExactHashCardUptoCard : Claim7 := { stood := { row := fnExactHashCardUptoRow, standIns := [], harness := (true, "412c60e8ed7c506071ce7fd8c1ce45ae76393dee1f0714938873f45079763b84"), looks := false }, kinds := [], alts := [], laidByText := true, laidKinds := [.data, .pinned], laidTests := true, laidLooks := .later }
def FnExactHashCardUptoCardSaid : Prop := Claim7.holds Tryd.pinned (.plain (OpenSpec.upto fnExactHashCardSpec)) fnExactHashCardUptoCard

/-- THE SECOND FORM's CARD OF 'laws.FnExactSameCards'. -/
def fnExactSameCardsUptoCard : Claim7 := { stood := { row := fnExactSameCardsUptoRow, standIns := [], harness := (true, "412c60e8ed7c506071ce7fd8c1ce45ae76393dee1f0714938873f45079763b84"), looks := false }, kinds := [], alts := [], laidByText := true, laidKinds := [.data, .pinned], laidTests := true, laidLooks := .later }
def FnExactSameCardsUptoCardSaid : Prop := Claim7.holds Tryd.pinned (.plain (OpenSpec.upto fnExactSameCardsSpec)) fnExactSameCardsUptoCard

/-- THE SECOND FORM's CARD OF 'laws.FnExactCheckOfDeck'. -/
def fnExactCheckOfDeckUptoCard : Claim7 := { stood := { row := fnExactCheckOfDeckUptoRow, standIns := [], harness := (true, "412c60e8ed7c506071ce7fd8c1ce45ae76393dee1f0714938873f45079763b84"), looks := false }, kinds := [], alts := [], laidByText := true, laidKinds := [.data, .pinned], laidTests := true, laidLooks := .later }
def FnExactCheckOfDeckUptoCardSaid : Prop := Claim7.holds Tryd.pinned (.plain (OpenSpec.upto fnExactCheckOfDeckSpec)) fnExactCheckOfDeckUptoCard

/-- THE SECOND FORM's CARD OF 'laws.FnExactTogetherOf'. -/
def fnExactTogetherOfUptoCard : Claim7 := { stood := { row := fnExactTogetherOfUptoRow, standIns := [], harness := (true, "412c60e8ed7c506071ce7fd8c1ce45ae76393dee1f0714938873f45079763b84"), looks := false }, kinds := [], alts := [], laidByText := true, laidKinds := [.data, .pinned], laidTests := true, laidLooks := .later }
def FnExactTogetherOfUptoCardSaid : Prop := Claim7.holds Tryd.pinned (.plain (OpenSpec.upto fnExactTogetherOfSpec)) fnExactTogetherOfUptoCard

/-- THE SECOND FORM's CARD OF 'laws.FnExactIdleHoles'. -/
def fnExactIdleHolesUptoCard : Claim7 := { stood := { row := fnExactIdleHolesUptoRow, standIns := [], harness := (true, "412c60e8ed7c506071ce7fd8c1ce45ae76393dee1f0714938873f45079763b84"), looks := false }, kinds := [], alts := [], laidByText := true, laidKinds := [.data, .pinned], laidTests := true, laidLooks := .later }
def FnExactIdleHolesUptoCardSaid : Prop := Claim7.holds Tryd.pinned (.plain (OpenSpec.upto fnExactIdleHolesSpec)) fnExactIdleHolesUptoCard

/-- THE SECOND FORM's CARD OF 'laws.FnExactValueIn'. -/
def fnExactValueInUptoCard : Claim7 := { stood := { row := fnExactValueInUptoRow, standIns := [], harness := (true, "412c60e8ed7c506071ce7fd8c1ce45ae76393dee1f0714938873f45079763b84"), looks := false }, kinds := [], alts := [], laidByText := true, laidKinds := [.data, .pinned], laidTests := true, laidLooks := .later }
def FnExactValueInUptoCardSaid : Prop := Claim7.holds Tryd.pinned (.plain (OpenSpec.upto fnExactValueInSpec)) fnExactValueInUptoCard

/-- THE SECOND FORM's CARD OF 'laws.FnExactCheckAnswer'. -/
def fnExactCheckAnswerUptoCard : Claim7 := { stood := { row := fnExactCheckAnswerUptoRow, standIns := [], harness := (true, "412c60e8ed7c506071ce7fd8c1ce45ae76393dee1f0714938873f45079763b84"), looks := false }, kinds := [], alts := [], laidByText := true, laidKinds := [.data, .pinned], laidTests := true, laidLooks := .later }
def FnExactCheckAnswerUptoCardSaid : Prop := Claim7.holds Tryd.pinned (.plain (OpenSpec.upto fnExactCheckAnswerSpec)) fnExactCheckAnswerUptoCard

/-- THE SECOND FORM's CARD OF 'laws.FnExactFirstFault'. -/
def fnExactFirstFaultUptoCard : Claim7 := { stood := { row := fnExactFirstFaultUptoRow, standIns := [], harness := (true, "412c60e8ed7c506071ce7fd8c1ce45ae76393dee1f0714938873f45079763b84"), looks := false }, kinds := [], alts := [], laidByText := true, laidKinds := [.data, .pinned], laidTests := true, laidLooks := .later }
def FnExactFirstFaultUptoCardSaid : Prop := Claim7.holds Tryd.pinned (.plain (OpenSpec.upto fnExactFirstFaultSpec)) fnExactFirstFaultUptoCard

/-- THE SECOND FORM's CARD OF 'laws.FnExactExpectedFalse'. -/
def fnExactExpectedFalseUptoCard : Claim7 := { stood := { row := fnExactExpectedFalseUptoRow, standIns := [], harness := (true, "412c60e8ed7c506071ce7fd8c1ce45ae76393dee1f0714938873f45079763b84"), looks := false }, kinds := [], alts := [], laidByText := true, laidKinds := [.data, .pinned], laidTests := true, laidLooks := .later }
def FnExactExpectedFalseUptoCardSaid : Prop := Claim7.holds Tryd.pinned (.plain (OpenSpec.upto fnExactExpectedFalseSpec)) fnExactExpectedFalseUptoCard

/-- THE SECOND FORM's CARD OF 'laws.FnExactNearestCards'. -/
def fnExactNearestCardsUptoCard : Claim7 := { stood := { row := fnExactNearestCardsUptoRow, standIns := [], harness := (true, "412c60e8ed7c506071ce7fd8c1ce45ae76393dee1f0714938873f45079763b84"), looks := false }, kinds := [], alts := [], laidByText := true, laidKinds := [.data, .pinned], laidTests := true, laidLooks := .later }
def FnExactNearestCardsUptoCardSaid : Prop := Claim7.holds Tryd.pinned (.plain (OpenSpec.upto fnExactNearestCardsSpec)) fnExactNearestCardsUptoCard

/-- THE SECOND FORM's CARD OF 'laws.FnExactHoleTally'. -/
def fnExactHoleTallyUptoCard : Claim7 := { stood := { row := fnExactHoleTallyUptoRow, standIns := [], harness := (true, "412c60e8ed7c506071ce7fd8c1ce45ae76393dee1f0714938873f45079763b84"), looks := false }, kinds := [], alts := [], laidByText := true, laidKinds := [.data, .pinned], laidTests := true, laidLooks := .later }
def FnExactHoleTallyUptoCardSaid : Prop := Claim7.holds Tryd.pinned (.plain (OpenSpec.upto fnExactHoleTallySpec)) fnExactHoleTallyUptoCard

/-- THE SECOND FORM's CARD OF 'laws.FnExactCheckAfter'. -/
def fnExactCheckAfterUptoCard : Claim7 := { stood := { row := fnExactCheckAfterUptoRow, standIns := [], harness := (true, "412c60e8ed7c506071ce7fd8c1ce45ae76393dee1f0714938873f45079763b84"), looks := false }, kinds := [], alts := [], laidByText := true, laidKinds := [.data, .pinned], laidTests := true, laidLooks := .later }
def FnExactCheckAfterUptoCardSaid : Prop := Claim7.holds Tryd.pinned (.plain (OpenSpec.upto fnExactCheckAfterSpec)) fnExactCheckAfterUptoCard
end Rows
end Go.Proofs.YtcaeabgfgofefaaDoor
