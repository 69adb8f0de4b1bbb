/-
  NARROWER THAN 'FOR EVERY INPUT', by the rows' own cells (each row's printed sentence says how): FnExactUndoEdits: laid · FnExactConflictsOf: laid · FnExactMergeThree: laid · FnExactEditsBetween: laid · FnExactApplyEdit: laid · FnExactApplyEdits: laid · FnExactEditsText: laid · FnExactTreeText: laid · FnExactMakeAnswer: laid · FnExactDuplicatesOf: laid.
  DERIVED. THE GIVEN ROWS OF THIS SEAT. 10 by the template 'for every input the law returns true; each argument reads behind the call as it read before'; 0 by the template 'total and deterministic' (their statements: YtfnkphllkbkfaaaDoorTotals.lean).
  GIVEN WITH THE SEED: the statements are not yours to turn. If you find one false, say at which input.
  Laid BY PROGRAM, IN A SANDBOX (cutbox-rows.mjs): the forced cells as the released guide's own fill.sh prints them over the translation 88d8edeb9f6ef688… (all of the seat's roots in one cut). By AI agents, Wed Nov 11 2026. No macro, syntax, notation, axiom, sorry.
-/
import Derived.Test.YtfnkphllkbkfaaaDoorChecked
import GoSem.PinnedTables
import GoSem.Claim
import GoSem.ClaimJoined
import GoSem.ClaimMapViews
import Derived.JoinedTies
import Derived.KernelRfl
namespace Go.Proofs.YtfnkphllkbkfaaaDoor
/- THE CELL 'sum', in the pinned program and in every row, IS THE sha256 OF THE DUMP (.gsa) THAT YtfnkphllkbkfaaaDoorProg.lean LOADS. Nothing in Lean hashes anything: it is a label: what it is worth is what the hold of that sum in a sandbox is worth. -/
noncomputable def Tryd.pinned : Pinned := { name := "ytfnkphllkbkfaaadoor", sum := "88d8edeb9f6ef688d4298c418ef9dc3f516bed3208d8f9021cfe30ba93ebf68d", checked := Tryd.checked }
namespace Rows
def none {H : Type} : Left H := { results := [], args := [] }

/- WHAT THE LISTED PACKAGE-LEVEL VARIABLES READ AS WHEN THE CALL BEGINS. Each datum BY PROGRAM (the guide's laid-datum.mjs) off the statement by which the dump's own 'gosem.cut.vars' lays the variable. In a bare row this is a premise. The card (YtfnkphllkbkfaaaDoorCards.lean) ties it to the program's text. -/
def laid_unicode_utf8_acceptRanges {H : Type} : DataW H := .agg [.agg [.lit (.int .u8 128), .lit (.int .u8 191)], .agg [.lit (.int .u8 160), .lit (.int .u8 191)], .agg [.lit (.int .u8 128), .lit (.int .u8 159)], .agg [.lit (.int .u8 144), .lit (.int .u8 191)], .agg [.lit (.int .u8 128), .lit (.int .u8 143)], .agg [.lit (.int .u8 0), .lit (.int .u8 0)], .agg [.lit (.int .u8 0), .lit (.int .u8 0)], .agg [.lit (.int .u8 0), .lit (.int .u8 0)], .agg [.lit (.int .u8 0), .lit (.int .u8 0)], .agg [.lit (.int .u8 0), .lit (.int .u8 0)], .agg [.lit (.int .u8 0), .lit (.int .u8 0)], .agg [.lit (.int .u8 0), .lit (.int .u8 0)], .agg [.lit (.int .u8 0), .lit (.int .u8 0)], .agg [.lit (.int .u8 0), .lit (.int .u8 0)], .agg [.lit (.int .u8 0), .lit (.int .u8 0)], .agg [.lit (.int .u8 0), .lit (.int .u8 0)]]
/-- One of Go's own tables, pinned by name: the form's constant. -/
def laid_unicode_utf8_first : DataW Unit := Go.Pinned.utf8First
def laid_math_bits_deBruijn32tab {H : Type} : DataW H := .agg [.lit (.int .u8 0), .lit (.int .u8 1), .lit (.int .u8 28), .lit (.int .u8 2), .lit (.int .u8 29), .lit (.int .u8 14), .lit (.int .u8 24), .lit (.int .u8 3), .lit (.int .u8 30), .lit (.int .u8 22), .lit (.int .u8 20), .lit (.int .u8 15), .lit (.int .u8 25), .lit (.int .u8 17), .lit (.int .u8 4), .lit (.int .u8 8), .lit (.int .u8 31), .lit (.int .u8 27), .lit (.int .u8 13), .lit (.int .u8 23), .lit (.int .u8 21), .lit (.int .u8 19), .lit (.int .u8 16), .lit (.int .u8 7), .lit (.int .u8 26), .lit (.int .u8 12), .lit (.int .u8 18), .lit (.int .u8 6), .lit (.int .u8 11), .lit (.int .u8 5), .lit (.int .u8 10), .lit (.int .u8 9)]
def laid_math_bits_deBruijn64tab {H : Type} : DataW H := .agg [.lit (.int .u8 0), .lit (.int .u8 1), .lit (.int .u8 56), .lit (.int .u8 2), .lit (.int .u8 57), .lit (.int .u8 49), .lit (.int .u8 28), .lit (.int .u8 3), .lit (.int .u8 61), .lit (.int .u8 58), .lit (.int .u8 42), .lit (.int .u8 50), .lit (.int .u8 38), .lit (.int .u8 29), .lit (.int .u8 17), .lit (.int .u8 4), .lit (.int .u8 62), .lit (.int .u8 47), .lit (.int .u8 59), .lit (.int .u8 36), .lit (.int .u8 45), .lit (.int .u8 43), .lit (.int .u8 51), .lit (.int .u8 22), .lit (.int .u8 53), .lit (.int .u8 39), .lit (.int .u8 33), .lit (.int .u8 30), .lit (.int .u8 24), .lit (.int .u8 18), .lit (.int .u8 12), .lit (.int .u8 5), .lit (.int .u8 63), .lit (.int .u8 55), .lit (.int .u8 48), .lit (.int .u8 27), .lit (.int .u8 60), .lit (.int .u8 41), .lit (.int .u8 37), .lit (.int .u8 16), .lit (.int .u8 46), .lit (.int .u8 35), .lit (.int .u8 44), .lit (.int .u8 21), .lit (.int .u8 52), .lit (.int .u8 32), .lit (.int .u8 23), .lit (.int .u8 11), .lit (.int .u8 54), .lit (.int .u8 26), .lit (.int .u8 40), .lit (.int .u8 15), .lit (.int .u8 34), .lit (.int .u8 20), .lit (.int .u8 31), .lit (.int .u8 10), .lit (.int .u8 25), .lit (.int .u8 14), .lit (.int .u8 19), .lit (.int .u8 9), .lit (.int .u8 13), .lit (.int .u8 8), .lit (.int .u8 7), .lit (.int .u8 6)]
def laid_internal_strconv_uint64pow10 {H : Type} : DataW H := .agg [.lit (.int .u64 1), .lit (.int .u64 10), .lit (.int .u64 100), .lit (.int .u64 1000), .lit (.int .u64 10000), .lit (.int .u64 100000), .lit (.int .u64 1000000), .lit (.int .u64 10000000), .lit (.int .u64 100000000), .lit (.int .u64 1000000000), .lit (.int .u64 10000000000), .lit (.int .u64 100000000000), .lit (.int .u64 1000000000000), .lit (.int .u64 10000000000000), .lit (.int .u64 100000000000000), .lit (.int .u64 1000000000000000), .lit (.int .u64 10000000000000000), .lit (.int .u64 100000000000000000), .lit (.int .u64 1000000000000000000), .lit (.int .u64 10000000000000000000)]

/-- 'laws.FnExactUndoEdits': WHATEVER THE INPUT: true; the input reads as it did. -/
def fnExactUndoEditsSpec : ChangeSpec := { name := "fnExactUndoEdits", fn := fun _ => fun
  | [d] => { results := [.lit (.bool true)], args := [d] }
  | _ => none }
def fnExactUndoEditsRow : OpenClaim := { program := "ytfnkphllkbkfaaadoor", sum := "88d8edeb9f6ef688d4298c418ef9dc3f516bed3208d8f9021cfe30ba93ebf68d", func := "loop.example/g01261/laws.FnExactUndoEdits", spec := "fnExactUndoEdits", inPlace := ["internal/bytealg.IndexByteString", "internal/bytealg.IndexString"], unfollowed := true, recurses := true, named := ["unicode/utf8.first", "unicode/utf8.acceptRanges", "internal/bytealg.MaxLen"], apart := false, laid := [("unicode/utf8.acceptRanges", laid_unicode_utf8_acceptRanges), ("unicode/utf8.first", laid_unicode_utf8_first)] }
def FnExactUndoEditsSaid : Prop := fnExactUndoEditsRow.holds Tryd.pinned (OpenSpec.ofChange fnExactUndoEditsSpec)

/-- ITS FALSE NEIGHBOUR: 'it returns false'. Refute it at one input. -/
def fnExactUndoEditsWrong : ChangeSpec := { name := "fnExactUndoEdits", fn := fun _ => fun
  | [d] => { results := [.lit (.bool false)], args := [d] }
  | _ => none }
def FnExactUndoEditsWrongFalsely : Prop := fnExactUndoEditsRow.holds Tryd.pinned (OpenSpec.ofChange fnExactUndoEditsWrong)

/-- 'laws.FnExactConflictsOf': WHATEVER THE INPUT: true; the input reads as it did. -/
def fnExactConflictsOfSpec : ChangeSpec := { name := "fnExactConflictsOf", fn := fun _ => fun
  | [d1, d2, d3] => { results := [.lit (.bool true)], args := [d1, d2, d3] }
  | _ => none }
def fnExactConflictsOfRow : OpenClaim := { program := "ytfnkphllkbkfaaadoor", sum := "88d8edeb9f6ef688d4298c418ef9dc3f516bed3208d8f9021cfe30ba93ebf68d", func := "loop.example/g01261/laws.FnExactConflictsOf", spec := "fnExactConflictsOf", inPlace := ["internal/bytealg.IndexByteString", "internal/bytealg.IndexString"], unfollowed := true, recurses := true, named := ["unicode/utf8.first", "unicode/utf8.acceptRanges", "internal/bytealg.MaxLen"], apart := false, laid := [("unicode/utf8.acceptRanges", laid_unicode_utf8_acceptRanges), ("unicode/utf8.first", laid_unicode_utf8_first)] }
def FnExactConflictsOfSaid : Prop := fnExactConflictsOfRow.holds Tryd.pinned (OpenSpec.ofChange fnExactConflictsOfSpec)

/-- ITS FALSE NEIGHBOUR: 'it returns false'. Refute it at one input. -/
def fnExactConflictsOfWrong : ChangeSpec := { name := "fnExactConflictsOf", fn := fun _ => fun
  | [d1, d2, d3] => { results := [.lit (.bool false)], args := [d1, d2, d3] }
  | _ => none }
def FnExactConflictsOfWrongFalsely : Prop := fnExactConflictsOfRow.holds Tryd.pinned (OpenSpec.ofChange fnExactConflictsOfWrong)

/-- 'laws.FnExactMergeThree': WHATEVER THE INPUT: true; the input reads as it did. -/
def fnExactMergeThreeSpec : ChangeSpec := { name := "fnExactMergeThree", fn := fun _ => fun
  | [d1, d2, d3] => { results := [.lit (.bool true)], args := [d1, d2, d3] }
  | _ => none }
def fnExactMergeThreeRow : OpenClaim := { program := "ytfnkphllkbkfaaadoor", sum := "88d8edeb9f6ef688d4298c418ef9dc3f516bed3208d8f9021cfe30ba93ebf68d", func := "loop.example/g01261/laws.FnExactMergeThree", spec := "fnExactMergeThree", inPlace := ["internal/bytealg.IndexByteString", "internal/bytealg.IndexString"], unfollowed := true, recurses := true, named := ["unicode/utf8.first", "unicode/utf8.acceptRanges", "internal/bytealg.MaxLen"], apart := false, laid := [("unicode/utf8.acceptRanges", laid_unicode_utf8_acceptRanges), ("unicode/utf8.first", laid_unicode_utf8_first)] }
def FnExactMergeThreeSaid : Prop := fnExactMergeThreeRow.holds Tryd.pinned (OpenSpec.ofChange fnExactMergeThreeSpec)

/-- ITS FALSE NEIGHBOUR: 'it returns false'. Refute it at one input. -/
def fnExactMergeThreeWrong : ChangeSpec := { name := "fnExactMergeThree", fn := fun _ => fun
  | [d1, d2, d3] => { results := [.lit (.bool false)], args := [d1, d2, d3] }
  | _ => none }
def FnExactMergeThreeWrongFalsely : Prop := fnExactMergeThreeRow.holds Tryd.pinned (OpenSpec.ofChange fnExactMergeThreeWrong)

/-- 'laws.FnExactEditsBetween': WHATEVER THE INPUT: true; the input reads as it did. -/
def fnExactEditsBetweenSpec : ChangeSpec := { name := "fnExactEditsBetween", fn := fun _ => fun
  | [d1, d2] => { results := [.lit (.bool true)], args := [d1, d2] }
  | _ => none }
def fnExactEditsBetweenRow : OpenClaim := { program := "ytfnkphllkbkfaaadoor", sum := "88d8edeb9f6ef688d4298c418ef9dc3f516bed3208d8f9021cfe30ba93ebf68d", func := "loop.example/g01261/laws.FnExactEditsBetween", spec := "fnExactEditsBetween", inPlace := ["internal/bytealg.IndexByteString", "internal/bytealg.IndexString"], unfollowed := true, recurses := true, named := ["unicode/utf8.first", "unicode/utf8.acceptRanges", "internal/bytealg.MaxLen"], apart := false, laid := [("unicode/utf8.acceptRanges", laid_unicode_utf8_acceptRanges), ("unicode/utf8.first", laid_unicode_utf8_first)] }
def FnExactEditsBetweenSaid : Prop := fnExactEditsBetweenRow.holds Tryd.pinned (OpenSpec.ofChange fnExactEditsBetweenSpec)

/-- ITS FALSE NEIGHBOUR: 'it returns false'. Refute it at one input. -/
def fnExactEditsBetweenWrong : ChangeSpec := { name := "fnExactEditsBetween", fn := fun _ => fun
  | [d1, d2] => { results := [.lit (.bool false)], args := [d1, d2] }
  | _ => none }
def FnExactEditsBetweenWrongFalsely : Prop := fnExactEditsBetweenRow.holds Tryd.pinned (OpenSpec.ofChange fnExactEditsBetweenWrong)

/-- 'laws.FnExactApplyEdit': WHATEVER THE INPUT: true; the input reads as it did. -/
def fnExactApplyEditSpec : ChangeSpec := { name := "fnExactApplyEdit", fn := fun _ => fun
  | [d1, d2] => { results := [.lit (.bool true)], args := [d1, d2] }
  | _ => none }
def fnExactApplyEditRow : OpenClaim := { program := "ytfnkphllkbkfaaadoor", sum := "88d8edeb9f6ef688d4298c418ef9dc3f516bed3208d8f9021cfe30ba93ebf68d", func := "loop.example/g01261/laws.FnExactApplyEdit", spec := "fnExactApplyEdit", inPlace := ["internal/bytealg.IndexByteString", "internal/bytealg.IndexString"], unfollowed := true, recurses := true, named := ["unicode/utf8.first", "unicode/utf8.acceptRanges", "internal/bytealg.MaxLen"], apart := false, laid := [("unicode/utf8.acceptRanges", laid_unicode_utf8_acceptRanges), ("unicode/utf8.first", laid_unicode_utf8_first)] }
def FnExactApplyEditSaid : Prop := fnExactApplyEditRow.holds Tryd.pinned (OpenSpec.ofChange fnExactApplyEditSpec)

/-- ITS FALSE NEIGHBOUR: 'it returns false'. Refute it at one input. -/
def fnExactApplyEditWrong : ChangeSpec := { name := "fnExactApplyEdit", fn := fun _ => fun
  | [d1, d2] => { results := [.lit (.bool false)], args := [d1, d2] }
  | _ => none }
def FnExactApplyEditWrongFalsely : Prop := fnExactApplyEditRow.holds Tryd.pinned (OpenSpec.ofChange fnExactApplyEditWrong)

/-- 'laws.FnExactApplyEdits': WHATEVER THE INPUT: true; the input reads as it did. -/
def fnExactApplyEditsSpec : ChangeSpec := { name := "fnExactApplyEdits", fn := fun _ => fun
  | [d1, d2] => { results := [.lit (.bool true)], args := [d1, d2] }
  | _ => none }
def fnExactApplyEditsRow : OpenClaim := { program := "ytfnkphllkbkfaaadoor", sum := "88d8edeb9f6ef688d4298c418ef9dc3f516bed3208d8f9021cfe30ba93ebf68d", func := "loop.example/g01261/laws.FnExactApplyEdits", spec := "fnExactApplyEdits", inPlace := ["internal/bytealg.IndexByteString", "internal/bytealg.IndexString"], unfollowed := true, recurses := true, named := ["unicode/utf8.first", "unicode/utf8.acceptRanges", "internal/bytealg.MaxLen"], apart := false, laid := [("unicode/utf8.acceptRanges", laid_unicode_utf8_acceptRanges), ("unicode/utf8.first", laid_unicode_utf8_first)] }
def FnExactApplyEditsSaid : Prop := fnExactApplyEditsRow.holds Tryd.pinned (OpenSpec.ofChange fnExactApplyEditsSpec)

/-- ITS FALSE NEIGHBOUR: 'it returns false'. Refute it at one input. -/
def fnExactApplyEditsWrong : ChangeSpec := { name := "fnExactApplyEdits", fn := fun _ => fun
  | [d1, d2] => { results := [.lit (.bool false)], args := [d1, d2] }
  | _ => none }
def FnExactApplyEditsWrongFalsely : Prop := fnExactApplyEditsRow.holds Tryd.pinned (OpenSpec.ofChange fnExactApplyEditsWrong)

/-- 'laws.FnExactEditsText': WHATEVER THE INPUT: true; the input reads as it did. -/
def fnExactEditsTextSpec : ChangeSpec := { name := "fnExactEditsText", fn := fun _ => fun
  | [d] => { results := [.lit (.bool true)], args := [d] }
  | _ => none }
def fnExactEditsTextRow : OpenClaim := { program := "ytfnkphllkbkfaaadoor", sum := "88d8edeb9f6ef688d4298c418ef9dc3f516bed3208d8f9021cfe30ba93ebf68d", func := "loop.example/g01261/laws.FnExactEditsText", spec := "fnExactEditsText", inPlace := ["internal/bytealg.IndexByteString", "internal/bytealg.IndexString"], unfollowed := true, recurses := true, named := ["unicode/utf8.first", "unicode/utf8.acceptRanges", "internal/strconv.uint64pow10", "math/bits.deBruijn32tab", "math/bits.deBruijn64tab", "internal/bytealg.MaxLen"], apart := false, laid := [("math/bits.deBruijn32tab", laid_math_bits_deBruijn32tab), ("math/bits.deBruijn64tab", laid_math_bits_deBruijn64tab), ("internal/strconv.uint64pow10", laid_internal_strconv_uint64pow10), ("unicode/utf8.acceptRanges", laid_unicode_utf8_acceptRanges), ("unicode/utf8.first", laid_unicode_utf8_first)] }
def FnExactEditsTextSaid : Prop := fnExactEditsTextRow.holds Tryd.pinned (OpenSpec.ofChange fnExactEditsTextSpec)

/-- ITS FALSE NEIGHBOUR: 'it returns false'. Refute it at one input. -/
def fnExactEditsTextWrong : ChangeSpec := { name := "fnExactEditsText", fn := fun _ => fun
  | [d] => { results := [.lit (.bool false)], args := [d] }
  | _ => none }
def FnExactEditsTextWrongFalsely : Prop := fnExactEditsTextRow.holds Tryd.pinned (OpenSpec.ofChange fnExactEditsTextWrong)

/-- 'laws.FnExactTreeText': WHATEVER THE INPUT: true; the input reads as it did. -/
def fnExactTreeTextSpec : ChangeSpec := { name := "fnExactTreeText", fn := fun _ => fun
  | [d] => { results := [.lit (.bool true)], args := [d] }
  | _ => none }
def fnExactTreeTextRow : OpenClaim := { program := "ytfnkphllkbkfaaadoor", sum := "88d8edeb9f6ef688d4298c418ef9dc3f516bed3208d8f9021cfe30ba93ebf68d", func := "loop.example/g01261/laws.FnExactTreeText", spec := "fnExactTreeText", inPlace := ["internal/abi.NoEscape", "internal/bytealg.MakeNoZero"], unfollowed := true, recurses := true, named := ["internal/strconv.uint64pow10", "math/bits.deBruijn32tab", "math/bits.deBruijn64tab"], apart := false, laid := [("math/bits.deBruijn32tab", laid_math_bits_deBruijn32tab), ("math/bits.deBruijn64tab", laid_math_bits_deBruijn64tab), ("internal/strconv.uint64pow10", laid_internal_strconv_uint64pow10)] }
def FnExactTreeTextSaid : Prop := fnExactTreeTextRow.holds Tryd.pinned (OpenSpec.ofChange fnExactTreeTextSpec)

/-- ITS FALSE NEIGHBOUR: 'it returns false'. Refute it at one input. -/
def fnExactTreeTextWrong : ChangeSpec := { name := "fnExactTreeText", fn := fun _ => fun
  | [d] => { results := [.lit (.bool false)], args := [d] }
  | _ => none }
def FnExactTreeTextWrongFalsely : Prop := fnExactTreeTextRow.holds Tryd.pinned (OpenSpec.ofChange fnExactTreeTextWrong)

/-- 'laws.FnExactMakeAnswer': WHATEVER THE INPUT: true; the input reads as it did. -/
def fnExactMakeAnswerSpec : ChangeSpec := { name := "fnExactMakeAnswer", fn := fun _ => fun
  | [d1, d2] => { results := [.lit (.bool true)], args := [d1, d2] }
  | _ => none }
def fnExactMakeAnswerRow : OpenClaim := { program := "ytfnkphllkbkfaaadoor", sum := "88d8edeb9f6ef688d4298c418ef9dc3f516bed3208d8f9021cfe30ba93ebf68d", func := "loop.example/g01261/laws.FnExactMakeAnswer", spec := "fnExactMakeAnswer", inPlace := ["internal/bytealg.IndexByteString", "internal/bytealg.IndexString"], unfollowed := true, recurses := true, named := ["unicode/utf8.first", "unicode/utf8.acceptRanges", "internal/bytealg.MaxLen"], apart := false, laid := [("unicode/utf8.acceptRanges", laid_unicode_utf8_acceptRanges), ("unicode/utf8.first", laid_unicode_utf8_first)] }
def FnExactMakeAnswerSaid : Prop := fnExactMakeAnswerRow.holds Tryd.pinned (OpenSpec.ofChange fnExactMakeAnswerSpec)

/-- ITS FALSE NEIGHBOUR: 'it returns false'. Refute it at one input. -/
def fnExactMakeAnswerWrong : ChangeSpec := { name := "fnExactMakeAnswer", fn := fun _ => fun
  | [d1, d2] => { results := [.lit (.bool false)], args := [d1, d2] }
  | _ => none }
def FnExactMakeAnswerWrongFalsely : Prop := fnExactMakeAnswerRow.holds Tryd.pinned (OpenSpec.ofChange fnExactMakeAnswerWrong)

/-- 'laws.FnExactDuplicatesOf': WHATEVER THE INPUT: true; the input reads as it did. -/
def fnExactDuplicatesOfSpec : ChangeSpec := { name := "fnExactDuplicatesOf", fn := fun _ => fun
  | [d] => { results := [.lit (.bool true)], args := [d] }
  | _ => none }
def fnExactDuplicatesOfRow : OpenClaim := { program := "ytfnkphllkbkfaaadoor", sum := "88d8edeb9f6ef688d4298c418ef9dc3f516bed3208d8f9021cfe30ba93ebf68d", func := "loop.example/g01261/laws.FnExactDuplicatesOf", spec := "fnExactDuplicatesOf", inPlace := ["internal/bytealg.IndexByteString", "internal/bytealg.IndexString"], unfollowed := true, recurses := true, named := ["unicode/utf8.first", "unicode/utf8.acceptRanges", "internal/bytealg.MaxLen"], apart := false, laid := [("unicode/utf8.acceptRanges", laid_unicode_utf8_acceptRanges), ("unicode/utf8.first", laid_unicode_utf8_first)] }
def FnExactDuplicatesOfSaid : Prop := fnExactDuplicatesOfRow.holds Tryd.pinned (OpenSpec.ofChange fnExactDuplicatesOfSpec)

/-- ITS FALSE NEIGHBOUR: 'it returns false'. Refute it at one input. -/
def fnExactDuplicatesOfWrong : ChangeSpec := { name := "fnExactDuplicatesOf", fn := fun _ => fun
  | [d] => { results := [.lit (.bool false)], args := [d] }
  | _ => none }
def FnExactDuplicatesOfWrongFalsely : Prop := fnExactDuplicatesOfRow.holds Tryd.pinned (OpenSpec.ofChange fnExactDuplicatesOfWrong)

/- THE SECOND FORM. 'bulk': how many values and letters a reading holds, each counted each time it is reached (what is shared counts as often as it is met; a slice's spare places count too). A statement '..UptoSaid' is the law's where the arguments, and the package variables that the reading takes, are together of bulk at most 1048576: NARROWER than '..Said'. Prove '..Said' where nothing that the law and all that it calls make is longer than what came in: it says more and counts as full. Else prove '..UptoSaid'. A law counts once. -/
mutual
def uptoBulk {H : Type} : DataW H → Nat
  | .lit (.string bytes) => bytes.length + 1
  | .lit _ => 1
  | .nil => 1
  | .ptr d => uptoBulk d + 1
  | .slice elems spare => uptoBulkAll elems + uptoBulkAll spare + 1
  | .agg parts => uptoBulkAll parts + 1
  | .iface _ d => uptoBulk d + 1
  | .map entries => uptoBulkEntries entries + 1
  | .held _ => 1
def uptoBulkAll {H : Type} : List (DataW H) → Nat
  | [] => 0
  | d :: r => uptoBulk d + uptoBulkAll r
def uptoBulkEntries {H : Type} : List (Lit × DataW H) → Nat
  | [] => 0
  | x :: r => uptoBulkEntry x + uptoBulkEntries r
def uptoBulkEntry {H : Type} : Lit × DataW H → Nat
  | (.string bytes, d) => bytes.length + uptoBulk d + 1
  | (_, d) => uptoBulk d + 1
 end
def uptoSmall : (H : Type) → List (DataW H) → Bool := fun _ ds => decide (uptoBulkAll ds ≤ 1048576)
def OpenSpec.upto (s : _root_.Go.ChangeSpec) : _root_.Go.OpenSpec := { _root_.Go.OpenSpec.ofChange s with cond := some uptoSmall }

/-- 'laws.FnExactUndoEdits', WHERE WHAT IT READS IS OF BULK AT MOST 1048576: true; the input reads as it did. -/
def fnExactUndoEditsUptoRow : OpenClaim := { program := "ytfnkphllkbkfaaadoor", sum := "88d8edeb9f6ef688d4298c418ef9dc3f516bed3208d8f9021cfe30ba93ebf68d", func := "loop.example/g01261/laws.FnExactUndoEdits", spec := "fnExactUndoEdits", inPlace := ["internal/bytealg.IndexByteString", "internal/bytealg.IndexString"], unfollowed := true, recurses := true, named := ["unicode/utf8.first", "unicode/utf8.acceptRanges", "internal/bytealg.MaxLen"], apart := false, laid := [("unicode/utf8.acceptRanges", laid_unicode_utf8_acceptRanges), ("unicode/utf8.first", laid_unicode_utf8_first)], narrowed := true }
def FnExactUndoEditsUptoSaid : Prop := fnExactUndoEditsUptoRow.holds Tryd.pinned (OpenSpec.upto fnExactUndoEditsSpec)

/-- 'laws.FnExactConflictsOf', WHERE WHAT IT READS IS OF BULK AT MOST 1048576: true; the input reads as it did. -/
def fnExactConflictsOfUptoRow : OpenClaim := { program := "ytfnkphllkbkfaaadoor", sum := "88d8edeb9f6ef688d4298c418ef9dc3f516bed3208d8f9021cfe30ba93ebf68d", func := "loop.example/g01261/laws.FnExactConflictsOf", spec := "fnExactConflictsOf", inPlace := ["internal/bytealg.IndexByteString", "internal/bytealg.IndexString"], unfollowed := true, recurses := true, named := ["unicode/utf8.first", "unicode/utf8.acceptRanges", "internal/bytealg.MaxLen"], apart := false, laid := [("unicode/utf8.acceptRanges", laid_unicode_utf8_acceptRanges), ("unicode/utf8.first", laid_unicode_utf8_first)], narrowed := true }
def FnExactConflictsOfUptoSaid : Prop := fnExactConflictsOfUptoRow.holds Tryd.pinned (OpenSpec.upto fnExactConflictsOfSpec)

/-- 'laws.FnExactMergeThree', WHERE WHAT IT READS IS OF BULK AT MOST 1048576: true; the input reads as it did. -/
def fnExactMergeThreeUptoRow : OpenClaim := { program := "ytfnkphllkbkfaaadoor", sum := "88d8edeb9f6ef688d4298c418ef9dc3f516bed3208d8f9021cfe30ba93ebf68d", func := "loop.example/g01261/laws.FnExactMergeThree", spec := "fnExactMergeThree", inPlace := ["internal/bytealg.IndexByteString", "internal/bytealg.IndexString"], unfollowed := true, recurses := true, named := ["unicode/utf8.first", "unicode/utf8.acceptRanges", "internal/bytealg.MaxLen"], apart := false, laid := [("unicode/utf8.acceptRanges", laid_unicode_utf8_acceptRanges), ("unicode/utf8.first", laid_unicode_utf8_first)], narrowed := true }
def FnExactMergeThreeUptoSaid : Prop := fnExactMergeThreeUptoRow.holds Tryd.pinned (OpenSpec.upto fnExactMergeThreeSpec)

/-- 'laws.FnExactEditsBetween', WHERE WHAT IT READS IS OF BULK AT MOST 1048576: true; the input reads as it did. -/
def fnExactEditsBetweenUptoRow : OpenClaim := { program := "ytfnkphllkbkfaaadoor", sum := "88d8edeb9f6ef688d4298c418ef9dc3f516bed3208d8f9021cfe30ba93ebf68d", func := "loop.example/g01261/laws.FnExactEditsBetween", spec := "fnExactEditsBetween", inPlace := ["internal/bytealg.IndexByteString", "internal/bytealg.IndexString"], unfollowed := true, recurses := true, named := ["unicode/utf8.first", "unicode/utf8.acceptRanges", "internal/bytealg.MaxLen"], apart := false, laid := [("unicode/utf8.acceptRanges", laid_unicode_utf8_acceptRanges), ("unicode/utf8.first", laid_unicode_utf8_first)], narrowed := true }
def FnExactEditsBetweenUptoSaid : Prop := fnExactEditsBetweenUptoRow.holds Tryd.pinned (OpenSpec.upto fnExactEditsBetweenSpec)

/-- 'laws.FnExactApplyEdit', WHERE WHAT IT READS IS OF BULK AT MOST 1048576: true; the input reads as it did. -/
def fnExactApplyEditUptoRow : OpenClaim := { program := "ytfnkphllkbkfaaadoor", sum := "88d8edeb9f6ef688d4298c418ef9dc3f516bed3208d8f9021cfe30ba93ebf68d", func := "loop.example/g01261/laws.FnExactApplyEdit", spec := "fnExactApplyEdit", inPlace := ["internal/bytealg.IndexByteString", "internal/bytealg.IndexString"], unfollowed := true, recurses := true, named := ["unicode/utf8.first", "unicode/utf8.acceptRanges", "internal/bytealg.MaxLen"], apart := false, laid := [("unicode/utf8.acceptRanges", laid_unicode_utf8_acceptRanges), ("unicode/utf8.first", laid_unicode_utf8_first)], narrowed := true }
def FnExactApplyEditUptoSaid : Prop := fnExactApplyEditUptoRow.holds Tryd.pinned (OpenSpec.upto fnExactApplyEditSpec)

/-- 'laws.FnExactApplyEdits', WHERE WHAT IT READS IS OF BULK AT MOST 1048576: true; the input reads as it did. -/
def fnExactApplyEditsUptoRow : OpenClaim := { program := "ytfnkphllkbkfaaadoor", sum := "88d8edeb9f6ef688d4298c418ef9dc3f516bed3208d8f9021cfe30ba93ebf68d", func := "loop.example/g01261/laws.FnExactApplyEdits", spec := "fnExactApplyEdits", inPlace := ["internal/bytealg.IndexByteString", "internal/bytealg.IndexString"], unfollowed := true, recurses := true, named := ["unicode/utf8.first", "unicode/utf8.acceptRanges", "internal/bytealg.MaxLen"], apart := false, laid := [("unicode/utf8.acceptRanges", laid_unicode_utf8_acceptRanges), ("unicode/utf8.first", laid_unicode_utf8_first)], narrowed := true }
def FnExactApplyEditsUptoSaid : Prop := fnExactApplyEditsUptoRow.holds Tryd.pinned (OpenSpec.upto fnExactApplyEditsSpec)

/-- 'laws.FnExactEditsText', WHERE WHAT IT READS IS OF BULK AT MOST 1048576: true; the input reads as it did. -/
def fnExactEditsTextUptoRow : OpenClaim := { program := "ytfnkphllkbkfaaadoor", sum := "88d8edeb9f6ef688d4298c418ef9dc3f516bed3208d8f9021cfe30ba93ebf68d", func := "loop.example/g01261/laws.FnExactEditsText", spec := "fnExactEditsText", inPlace := ["internal/bytealg.IndexByteString", "internal/bytealg.IndexString"], unfollowed := true, recurses := true, named := ["unicode/utf8.first", "unicode/utf8.acceptRanges", "internal/strconv.uint64pow10", "math/bits.deBruijn32tab", "math/bits.deBruijn64tab", "internal/bytealg.MaxLen"], apart := false, laid := [("math/bits.deBruijn32tab", laid_math_bits_deBruijn32tab), ("math/bits.deBruijn64tab", laid_math_bits_deBruijn64tab), ("internal/strconv.uint64pow10", laid_internal_strconv_uint64pow10), ("unicode/utf8.acceptRanges", laid_unicode_utf8_acceptRanges), ("unicode/utf8.first", laid_unicode_utf8_first)], narrowed := true }
def FnExactEditsTextUptoSaid : Prop := fnExactEditsTextUptoRow.holds Tryd.pinned (OpenSpec.upto fnExactEditsTextSpec)

/-- 'laws.FnExactTreeText', WHERE WHAT IT READS IS OF BULK AT MOST 1048576: true; the input reads as it did. -/
def fnExactTreeTextUptoRow : OpenClaim := { program := "ytfnkphllkbkfaaadoor", sum := "88d8edeb9f6ef688d4298c418ef9dc3f516bed3208d8f9021cfe30ba93ebf68d", func := "loop.example/g01261/laws.FnExactTreeText", spec := "fnExactTreeText", inPlace := ["internal/abi.NoEscape", "internal/bytealg.MakeNoZero"], unfollowed := true, recurses := true, named := ["internal/strconv.uint64pow10", "math/bits.deBruijn32tab", "math/bits.deBruijn64tab"], apart := false, laid := [("math/bits.deBruijn32tab", laid_math_bits_deBruijn32tab), ("math/bits.deBruijn64tab", laid_math_bits_deBruijn64tab), ("internal/strconv.uint64pow10", laid_internal_strconv_uint64pow10)], narrowed := true }
def FnExactTreeTextUptoSaid : Prop := fnExactTreeTextUptoRow.holds Tryd.pinned (OpenSpec.upto fnExactTreeTextSpec)

/-- 'laws.FnExactMakeAnswer', WHERE WHAT IT READS IS OF BULK AT MOST 1048576: true; the input reads as it did. -/
def fnExactMakeAnswerUptoRow : OpenClaim := { program := "ytfnkphllkbkfaaadoor", sum := "88d8edeb9f6ef688d4298c418ef9dc3f516bed3208d8f9021cfe30ba93ebf68d", func := "loop.example/g01261/laws.FnExactMakeAnswer", spec := "fnExactMakeAnswer", inPlace := ["internal/bytealg.IndexByteString", "internal/bytealg.IndexString"], unfollowed := true, recurses := true, named := ["unicode/utf8.first", "unicode/utf8.acceptRanges", "internal/bytealg.MaxLen"], apart := false, laid := [("unicode/utf8.acceptRanges", laid_unicode_utf8_acceptRanges), ("unicode/utf8.first", laid_unicode_utf8_first)], narrowed := true }
def FnExactMakeAnswerUptoSaid : Prop := fnExactMakeAnswerUptoRow.holds Tryd.pinned (OpenSpec.upto fnExactMakeAnswerSpec)

/-- 'laws.FnExactDuplicatesOf', WHERE WHAT IT READS IS OF BULK AT MOST 1048576: true; the input reads as it did. -/
def fnExactDuplicatesOfUptoRow : OpenClaim := { program := "ytfnkphllkbkfaaadoor", sum := "88d8edeb9f6ef688d4298c418ef9dc3f516bed3208d8f9021cfe30ba93ebf68d", func := "loop.example/g01261/laws.FnExactDuplicatesOf", spec := "fnExactDuplicatesOf", inPlace := ["internal/bytealg.IndexByteString", "internal/bytealg.IndexString"], unfollowed := true, recurses := true, named := ["unicode/utf8.first", "unicode/utf8.acceptRanges", "internal/bytealg.MaxLen"], apart := false, laid := [("unicode/utf8.acceptRanges", laid_unicode_utf8_acceptRanges), ("unicode/utf8.first", laid_unicode_utf8_first)], narrowed := true }
def FnExactDuplicatesOfUptoSaid : Prop := fnExactDuplicatesOfUptoRow.holds Tryd.pinned (OpenSpec.upto fnExactDuplicatesOfSpec)

end Rows
end Go.Proofs.YtfnkphllkbkfaaaDoor
