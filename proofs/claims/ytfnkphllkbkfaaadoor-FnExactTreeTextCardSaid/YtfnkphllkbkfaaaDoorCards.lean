/-
  DERIVED. GIVEN WITH THE SEED: THE CARDS: each row of YtfnkphllkbkfaaaDoorRows.lean that lists a variable, with what it lists TIED to the program's text (the seventh form; the later family's looks); each row that meets fmt, with fmt's text TOLD by the authors' own Lean function (tested against real Go, not proved from fmt's source: count such statements apart). THE CARD IS WHAT COUNTS. Prove the row's statement (the work); the ties are given (YtfnkphllkbkfaaaDoorTie.lean); close each card by the builder's one call (the guide's Derived/Test/ToyasCard.lean, 'card_holds'). Laid BY PROGRAM, IN A SANDBOX (cutbox-door.mjs). By AI agents, Wed Nov 11 2026. No macro, syntax, notation, axiom, sorry.
-/
import Derived.Test.YtfnkphllkbkfaaaDoorRows
import GoSem.ClaimSeven
namespace Go.Proofs.YtfnkphllkbkfaaaDoor
namespace Rows

/-- THE TIED CARD OF 'laws.FnExactUndoEdits'. -/
def fnExactUndoEditsCard : Claim7 := { stood := { row := fnExactUndoEditsRow, standIns := [], harness := (true, "4dc1a625074d2aa0a8c3d26eaed0d73b4cd06da793638868688bacf935ab753c"), looks := false }, kinds := [], alts := [], laidByText := true, laidKinds := [.data, .pinned], laidTests := true, laidLooks := .later }
def FnExactUndoEditsCardSaid : Prop := Claim7.holds Tryd.pinned (.plain (OpenSpec.ofChange fnExactUndoEditsSpec)) fnExactUndoEditsCard

/-- THE TIED CARD OF 'laws.FnExactConflictsOf'. -/
def fnExactConflictsOfCard : Claim7 := { stood := { row := fnExactConflictsOfRow, standIns := [], harness := (true, "4dc1a625074d2aa0a8c3d26eaed0d73b4cd06da793638868688bacf935ab753c"), looks := false }, kinds := [], alts := [], laidByText := true, laidKinds := [.data, .pinned], laidTests := true, laidLooks := .later }
def FnExactConflictsOfCardSaid : Prop := Claim7.holds Tryd.pinned (.plain (OpenSpec.ofChange fnExactConflictsOfSpec)) fnExactConflictsOfCard

/-- THE TIED CARD OF 'laws.FnExactMergeThree'. -/
def fnExactMergeThreeCard : Claim7 := { stood := { row := fnExactMergeThreeRow, standIns := [], harness := (true, "4dc1a625074d2aa0a8c3d26eaed0d73b4cd06da793638868688bacf935ab753c"), looks := false }, kinds := [], alts := [], laidByText := true, laidKinds := [.data, .pinned], laidTests := true, laidLooks := .later }
def FnExactMergeThreeCardSaid : Prop := Claim7.holds Tryd.pinned (.plain (OpenSpec.ofChange fnExactMergeThreeSpec)) fnExactMergeThreeCard

/-- THE TIED CARD OF 'laws.FnExactEditsBetween'. -/
def fnExactEditsBetweenCard : Claim7 := { stood := { row := fnExactEditsBetweenRow, standIns := [], harness := (true, "4dc1a625074d2aa0a8c3d26eaed0d73b4cd06da793638868688bacf935ab753c"), looks := false }, kinds := [], alts := [], laidByText := true, laidKinds := [.data, .pinned], laidTests := true, laidLooks := .later }
def FnExactEditsBetweenCardSaid : Prop := Claim7.holds Tryd.pinned (.plain (OpenSpec.ofChange fnExactEditsBetweenSpec)) fnExactEditsBetweenCard

/-- THE TIED CARD OF 'laws.FnExactApplyEdit'. -/
def fnExactApplyEditCard : Claim7 := { stood := { row := fnExactApplyEditRow, standIns := [], harness := (true, "4dc1a625074d2aa0a8c3d26eaed0d73b4cd06da793638868688bacf935ab753c"), looks := false }, kinds := [], alts := [], laidByText := true, laidKinds := [.data, .pinned], laidTests := true, laidLooks := .later }
def FnExactApplyEditCardSaid : Prop := Claim7.holds Tryd.pinned (.plain (OpenSpec.ofChange fnExactApplyEditSpec)) fnExactApplyEditCard

/-- THE TIED CARD OF 'laws.FnExactApplyEdits'. -/
def fnExactApplyEditsCard : Claim7 := { stood := { row := fnExactApplyEditsRow, standIns := [], harness := (true, "4dc1a625074d2aa0a8c3d26eaed0d73b4cd06da793638868688bacf935ab753c"), looks := false }, kinds := [], alts := [], laidByText := true, laidKinds := [.data, .pinned], laidTests := true, laidLooks := .later }
def FnExactApplyEditsCardSaid : Prop := Claim7.holds Tryd.pinned (.plain (OpenSpec.ofChange fnExactApplyEditsSpec)) fnExactApplyEditsCard

/-- THE TIED CARD OF 'laws.FnExactEditsText'. -/
def fnExactEditsTextCard : Claim7 := { stood := { row := fnExactEditsTextRow, standIns := [], harness := (true, "4dc1a625074d2aa0a8c3d26eaed0d73b4cd06da793638868688bacf935ab753c"), looks := false }, kinds := [], alts := [], laidByText := true, laidKinds := [.data, .data, .data, .data, .pinned], laidTests := true, laidLooks := .later }
def FnExactEditsTextCardSaid : Prop := Claim7.holds Tryd.pinned (.plain (OpenSpec.ofChange fnExactEditsTextSpec)) fnExactEditsTextCard

/-- THE TIED CARD OF 'laws.FnExactTreeText'. -/
def fnExactTreeTextCard : Claim7 := { stood := { row := fnExactTreeTextRow, standIns := [], harness := (true, "4dc1a625074d2aa0a8c3d26eaed0d73b4cd06da793638868688bacf935ab753c"), looks := false }, kinds := [], alts := [], laidByText := true, laidKinds := [.data, .data, .data], laidTests := true, laidLooks := .later }
def FnExactTreeTextCardSaid : Prop := Claim7.holds Tryd.pinned (.plain (OpenSpec.ofChange fnExactTreeTextSpec)) fnExactTreeTextCard

/-- THE TIED CARD OF 'laws.FnExactMakeAnswer'. -/
def fnExactMakeAnswerCard : Claim7 := { stood := { row := fnExactMakeAnswerRow, standIns := [], harness := (true, "4dc1a625074d2aa0a8c3d26eaed0d73b4cd06da793638868688bacf935ab753c"), looks := false }, kinds := [], alts := [], laidByText := true, laidKinds := [.data, .pinned], laidTests := true, laidLooks := .later }
def FnExactMakeAnswerCardSaid : Prop := Claim7.holds Tryd.pinned (.plain (OpenSpec.ofChange fnExactMakeAnswerSpec)) fnExactMakeAnswerCard

/-- THE TIED CARD OF 'laws.FnExactDuplicatesOf'. -/
def fnExactDuplicatesOfCard : Claim7 := { stood := { row := fnExactDuplicatesOfRow, standIns := [], harness := (true, "4dc1a625074d2aa0a8c3d26eaed0d73b4cd06da793638868688bacf935ab753c"), looks := false }, kinds := [], alts := [], laidByText := true, laidKinds := [.data, .pinned], laidTests := true, laidLooks := .later }
def FnExactDuplicatesOfCardSaid : Prop := Claim7.holds Tryd.pinned (.plain (OpenSpec.ofChange fnExactDuplicatesOfSpec)) fnExactDuplicatesOfCard

/-- THE SECOND FORM's CARD OF 'laws.FnExactUndoEdits'. -/
def fnExactUndoEditsUptoCard : Claim7 := { stood := { row := fnExactUndoEditsUptoRow, standIns := [], harness := (true, "4dc1a625074d2aa0a8c3d26eaed0d73b4cd06da793638868688bacf935ab753c"), looks := false }, kinds := [], alts := [], laidByText := true, laidKinds := [.data, .pinned], laidTests := true, laidLooks := .later }
def FnExactUndoEditsUptoCardSaid : Prop := Claim7.holds Tryd.pinned (.plain (OpenSpec.upto fnExactUndoEditsSpec)) fnExactUndoEditsUptoCard

/-- THE SECOND FORM's CARD OF 'laws.FnExactConflictsOf'. -/
def fnExactConflictsOfUptoCard : Claim7 := { stood := { row := fnExactConflictsOfUptoRow, standIns := [], harness := (true, "4dc1a625074d2aa0a8c3d26eaed0d73b4cd06da793638868688bacf935ab753c"), looks := false }, kinds := [], alts := [], laidByText := true, laidKinds := [.data, .pinned], laidTests := true, laidLooks := .later }
def FnExactConflictsOfUptoCardSaid : Prop := Claim7.holds Tryd.pinned (.plain (OpenSpec.upto fnExactConflictsOfSpec)) fnExactConflictsOfUptoCard

/-- THE SECOND FORM's CARD OF 'laws.FnExactMergeThree'. -/
def fnExactMergeThreeUptoCard : Claim7 := { stood := { row := fnExactMergeThreeUptoRow, standIns := [], harness := (true, "4dc1a625074d2aa0a8c3d26eaed0d73b4cd06da793638868688bacf935ab753c"), looks := false }, kinds := [], alts := [], laidByText := true, laidKinds := [.data, .pinned], laidTests := true, laidLooks := .later }
def FnExactMergeThreeUptoCardSaid : Prop := Claim7.holds Tryd.pinned (.plain (OpenSpec.upto fnExactMergeThreeSpec)) fnExactMergeThreeUptoCard

/-- THE SECOND FORM's CARD OF 'laws.FnExactEditsBetween'. -/
def fnExactEditsBetweenUptoCard : Claim7 := { stood := { row := fnExactEditsBetweenUptoRow, standIns := [], harness := (true, "4dc1a625074d2aa0a8c3d26eaed0d73b4cd06da793638868688bacf935ab753c"), looks := false }, kinds := [], alts := [], laidByText := true, laidKinds := [.data, .pinned], laidTests := true, laidLooks := .later }
def FnExactEditsBetweenUptoCardSaid : Prop := Claim7.holds Tryd.pinned (.plain (OpenSpec.upto fnExactEditsBetweenSpec)) fnExactEditsBetweenUptoCard

/-- THE SECOND FORM's CARD OF 'laws.FnExactApplyEdit'. -/
def fnExactApplyEditUptoCard : Claim7 := { stood := { row := fnExactApplyEditUptoRow, standIns := [], harness := (true, "4dc1a625074d2aa0a8c3d26eaed0d73b4cd06da793638868688bacf935ab753c"), looks := false }, kinds := [], alts := [], laidByText := true, laidKinds := [.data, .pinned], laidTests := true, laidLooks := .later }
def FnExactApplyEditUptoCardSaid : Prop := Claim7.holds Tryd.pinned (.plain (OpenSpec.upto fnExactApplyEditSpec)) fnExactApplyEditUptoCard

/-- THE SECOND FORM's CARD OF 'laws.FnExactApplyEdits'. -/
def fnExactApplyEditsUptoCard : Claim7 := { stood := { row := fnExactApplyEditsUptoRow, standIns := [], harness := (true, "4dc1a625074d2aa0a8c3d26eaed0d73b4cd06da793638868688bacf935ab753c"), looks := false }, kinds := [], alts := [], laidByText := true, laidKinds := [.data, .pinned], laidTests := true, laidLooks := .later }
def FnExactApplyEditsUptoCardSaid : Prop := Claim7.holds Tryd.pinned (.plain (OpenSpec.upto fnExactApplyEditsSpec)) fnExactApplyEditsUptoCard

/-- THE SECOND FORM's CARD OF 'laws.FnExactEditsText'. -/
def fnExactEditsTextUptoCard : Claim7 := { stood := { row := fnExactEditsTextUptoRow, standIns := [], harness := (true, "4dc1a625074d2aa0a8c3d26eaed0d73b4cd06da793638868688bacf935ab753c"), looks := false }, kinds := [], alts := [], laidByText := true, laidKinds := [.data, .data, .data, .data, .pinned], laidTests := true, laidLooks := .later }
def FnExactEditsTextUptoCardSaid : Prop := Claim7.holds Tryd.pinned (.plain (OpenSpec.upto fnExactEditsTextSpec)) fnExactEditsTextUptoCard

/-- THE SECOND FORM's CARD OF 'laws.FnExactTreeText'. -/
def fnExactTreeTextUptoCard : Claim7 := { stood := { row := fnExactTreeTextUptoRow, standIns := [], harness := (true, "4dc1a625074d2aa0a8c3d26eaed0d73b4cd06da793638868688bacf935ab753c"), looks := false }, kinds := [], alts := [], laidByText := true, laidKinds := [.data, .data, .data], laidTests := true, laidLooks := .later }
def FnExactTreeTextUptoCardSaid : Prop := Claim7.holds Tryd.pinned (.plain (OpenSpec.upto fnExactTreeTextSpec)) fnExactTreeTextUptoCard

/-- THE SECOND FORM's CARD OF 'laws.FnExactMakeAnswer'. -/
def fnExactMakeAnswerUptoCard : Claim7 := { stood := { row := fnExactMakeAnswerUptoRow, standIns := [], harness := (true, "4dc1a625074d2aa0a8c3d26eaed0d73b4cd06da793638868688bacf935ab753c"), looks := false }, kinds := [], alts := [], laidByText := true, laidKinds := [.data, .pinned], laidTests := true, laidLooks := .later }
def FnExactMakeAnswerUptoCardSaid : Prop := Claim7.holds Tryd.pinned (.plain (OpenSpec.upto fnExactMakeAnswerSpec)) fnExactMakeAnswerUptoCard

/-- THE SECOND FORM's CARD OF 'laws.FnExactDuplicatesOf'. -/
def fnExactDuplicatesOfUptoCard : Claim7 := { stood := { row := fnExactDuplicatesOfUptoRow, standIns := [], harness := (true, "4dc1a625074d2aa0a8c3d26eaed0d73b4cd06da793638868688bacf935ab753c"), looks := false }, kinds := [], alts := [], laidByText := true, laidKinds := [.data, .pinned], laidTests := true, laidLooks := .later }
def FnExactDuplicatesOfUptoCardSaid : Prop := Claim7.holds Tryd.pinned (.plain (OpenSpec.upto fnExactDuplicatesOfSpec)) fnExactDuplicatesOfUptoCard
end Rows
end Go.Proofs.YtfnkphllkbkfaaaDoor
