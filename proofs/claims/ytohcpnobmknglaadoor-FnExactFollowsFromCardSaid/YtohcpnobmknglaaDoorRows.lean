/-
  NARROWER THAN 'FOR EVERY INPUT', by the rows' own cells (each row's printed sentence says how): FnNear: laid · FnThree: laid · FnAnswers: laid · FnExactFollowsFrom: laid · FnExactFileOrder: laid · FnExactDrawerOf: laid.
  DERIVED. THE GIVEN ROWS OF THIS SEAT. 6 by the template 'for every input the law returns true; each argument reads behind the call as it read before'; 0 by the template 'total and deterministic' (their statements: YtohcpnobmknglaaDoorTotals.lean).
  GIVEN WITH THE SEED: the statements are not yours to turn. If you find one false, say at which input.
  Laid BY PROGRAM, IN A SANDBOX (cutbox-rows.mjs): the forced cells as the released guide's own fill.sh prints them over the translation 2f80e90b3cf1dc4d… (all of the seat's roots in one cut). By AI agents, Wed Nov 11 2026. No macro, syntax, notation, axiom, sorry.
-/
import Derived.Test.YtohcpnobmknglaaDoorChecked
import GoSem.PinnedTables
import GoSem.Claim
import GoSem.ClaimJoined
import GoSem.ClaimMapViews
import Derived.JoinedTies
import Derived.KernelRfl
namespace Go.Proofs.YtohcpnobmknglaaDoor
/- THE CELL 'sum', in the pinned program and in every row, IS THE sha256 OF THE DUMP (.gsa) THAT YtohcpnobmknglaaDoorProg.lean LOADS. Nothing in Lean hashes anything: it is a label: what it is worth is what the hold of that sum in a sandbox is worth. -/
noncomputable def Tryd.pinned : Pinned := { name := "ytohcpnobmknglaadoor", sum := "2f80e90b3cf1dc4d4fea05a5409c8ded6ec32477cb649bc0160b1a69eef6aaff", checked := Tryd.checked }
namespace Rows
def none {H : Type} : Left H := { results := [], args := [] }

/- WHAT THE LISTED PACKAGE-LEVEL VARIABLES READ AS WHEN THE CALL BEGINS. Each datum BY PROGRAM (the guide's laid-datum.mjs) off the statement by which the dump's own 'gosem.cut.vars' lays the variable. In a bare row this is a premise. The card (YtohcpnobmknglaaDoorCards.lean) ties it to the program's text. -/
def laid_unicode_utf8_acceptRanges {H : Type} : DataW H := .agg [.agg [.lit (.int .u8 128), .lit (.int .u8 191)], .agg [.lit (.int .u8 160), .lit (.int .u8 191)], .agg [.lit (.int .u8 128), .lit (.int .u8 159)], .agg [.lit (.int .u8 144), .lit (.int .u8 191)], .agg [.lit (.int .u8 128), .lit (.int .u8 143)], .agg [.lit (.int .u8 0), .lit (.int .u8 0)], .agg [.lit (.int .u8 0), .lit (.int .u8 0)], .agg [.lit (.int .u8 0), .lit (.int .u8 0)], .agg [.lit (.int .u8 0), .lit (.int .u8 0)], .agg [.lit (.int .u8 0), .lit (.int .u8 0)], .agg [.lit (.int .u8 0), .lit (.int .u8 0)], .agg [.lit (.int .u8 0), .lit (.int .u8 0)], .agg [.lit (.int .u8 0), .lit (.int .u8 0)], .agg [.lit (.int .u8 0), .lit (.int .u8 0)], .agg [.lit (.int .u8 0), .lit (.int .u8 0)], .agg [.lit (.int .u8 0), .lit (.int .u8 0)]]
/-- One of Go's own tables, pinned by name: the form's constant. -/
def laid_unicode_utf8_first : DataW Unit := Go.Pinned.utf8First

/-- 'laws.FnNear': WHATEVER THE INPUT: true; the input reads as it did. -/
def fnNearSpec : ChangeSpec := { name := "fnNear", fn := fun _ => fun
  | [d1, d2] => { results := [.lit (.bool true)], args := [d1, d2] }
  | _ => none }
def fnNearRow : OpenClaim := { program := "ytohcpnobmknglaadoor", sum := "2f80e90b3cf1dc4d4fea05a5409c8ded6ec32477cb649bc0160b1a69eef6aaff", func := "loop.example/g01261/laws.FnNear", spec := "fnNear", inPlace := ["internal/bytealg.IndexByteString", "internal/bytealg.IndexString"], unfollowed := true, recurses := true, named := ["unicode/utf8.first", "unicode/utf8.acceptRanges", "internal/bytealg.MaxLen"], apart := false, laid := [("unicode/utf8.acceptRanges", laid_unicode_utf8_acceptRanges), ("unicode/utf8.first", laid_unicode_utf8_first)] }
def FnNearSaid : Prop := fnNearRow.holds Tryd.pinned (OpenSpec.ofChange fnNearSpec)

/-- ITS FALSE NEIGHBOUR: 'it returns false'. Refute it at one input. -/
def fnNearWrong : ChangeSpec := { name := "fnNear", fn := fun _ => fun
  | [d1, d2] => { results := [.lit (.bool false)], args := [d1, d2] }
  | _ => none }
def FnNearWrongFalsely : Prop := fnNearRow.holds Tryd.pinned (OpenSpec.ofChange fnNearWrong)

/-- 'laws.FnThree': WHATEVER THE INPUT: true; the input reads as it did. -/
def fnThreeSpec : ChangeSpec := { name := "fnThree", fn := fun _ => fun
  | [d1, d2] => { results := [.lit (.bool true)], args := [d1, d2] }
  | _ => none }
def fnThreeRow : OpenClaim := { program := "ytohcpnobmknglaadoor", sum := "2f80e90b3cf1dc4d4fea05a5409c8ded6ec32477cb649bc0160b1a69eef6aaff", func := "loop.example/g01261/laws.FnThree", spec := "fnThree", inPlace := ["internal/bytealg.IndexByteString", "internal/bytealg.IndexString"], unfollowed := true, recurses := true, named := ["unicode/utf8.first", "unicode/utf8.acceptRanges", "internal/bytealg.MaxLen"], apart := false, laid := [("unicode/utf8.acceptRanges", laid_unicode_utf8_acceptRanges), ("unicode/utf8.first", laid_unicode_utf8_first)] }
def FnThreeSaid : Prop := fnThreeRow.holds Tryd.pinned (OpenSpec.ofChange fnThreeSpec)

/-- ITS FALSE NEIGHBOUR: 'it returns false'. Refute it at one input. -/
def fnThreeWrong : ChangeSpec := { name := "fnThree", fn := fun _ => fun
  | [d1, d2] => { results := [.lit (.bool false)], args := [d1, d2] }
  | _ => none }
def FnThreeWrongFalsely : Prop := fnThreeRow.holds Tryd.pinned (OpenSpec.ofChange fnThreeWrong)

/-- 'laws.FnAnswers': WHATEVER THE INPUT: true; the input reads as it did. -/
def fnAnswersSpec : ChangeSpec := { name := "fnAnswers", fn := fun _ => fun
  | [d1, d2] => { results := [.lit (.bool true)], args := [d1, d2] }
  | _ => none }
def fnAnswersRow : OpenClaim := { program := "ytohcpnobmknglaadoor", sum := "2f80e90b3cf1dc4d4fea05a5409c8ded6ec32477cb649bc0160b1a69eef6aaff", func := "loop.example/g01261/laws.FnAnswers", spec := "fnAnswers", inPlace := ["internal/bytealg.IndexByteString", "internal/bytealg.IndexString"], unfollowed := true, recurses := true, named := ["unicode/utf8.first", "unicode/utf8.acceptRanges", "internal/bytealg.MaxLen"], apart := false, laid := [("unicode/utf8.acceptRanges", laid_unicode_utf8_acceptRanges), ("unicode/utf8.first", laid_unicode_utf8_first)] }
def FnAnswersSaid : Prop := fnAnswersRow.holds Tryd.pinned (OpenSpec.ofChange fnAnswersSpec)

/-- ITS FALSE NEIGHBOUR: 'it returns false'. Refute it at one input. -/
def fnAnswersWrong : ChangeSpec := { name := "fnAnswers", fn := fun _ => fun
  | [d1, d2] => { results := [.lit (.bool false)], args := [d1, d2] }
  | _ => none }
def FnAnswersWrongFalsely : Prop := fnAnswersRow.holds Tryd.pinned (OpenSpec.ofChange fnAnswersWrong)

/-- 'laws.FnExactFollowsFrom': WHATEVER THE INPUT: true; the input reads as it did. -/
def fnExactFollowsFromSpec : ChangeSpec := { name := "fnExactFollowsFrom", fn := fun _ => fun
  | [d1, d2, d3, d4] => { results := [.lit (.bool true)], args := [d1, d2, d3, d4] }
  | _ => none }
def fnExactFollowsFromRow : OpenClaim := { program := "ytohcpnobmknglaadoor", sum := "2f80e90b3cf1dc4d4fea05a5409c8ded6ec32477cb649bc0160b1a69eef6aaff", func := "loop.example/g01261/laws.FnExactFollowsFrom", spec := "fnExactFollowsFrom", inPlace := ["internal/bytealg.IndexByteString", "internal/bytealg.IndexString"], unfollowed := true, recurses := true, named := ["unicode/utf8.first", "unicode/utf8.acceptRanges", "internal/bytealg.MaxLen"], apart := false, laid := [("unicode/utf8.acceptRanges", laid_unicode_utf8_acceptRanges), ("unicode/utf8.first", laid_unicode_utf8_first)] }
def FnExactFollowsFromSaid : Prop := fnExactFollowsFromRow.holds Tryd.pinned (OpenSpec.ofChange fnExactFollowsFromSpec)

/-- ITS FALSE NEIGHBOUR: 'it returns false'. Refute it at one input. -/
def fnExactFollowsFromWrong : ChangeSpec := { name := "fnExactFollowsFrom", fn := fun _ => fun
  | [d1, d2, d3, d4] => { results := [.lit (.bool false)], args := [d1, d2, d3, d4] }
  | _ => none }
def FnExactFollowsFromWrongFalsely : Prop := fnExactFollowsFromRow.holds Tryd.pinned (OpenSpec.ofChange fnExactFollowsFromWrong)

/-- 'laws.FnExactFileOrder': WHATEVER THE INPUT: true; the input reads as it did. -/
def fnExactFileOrderSpec : ChangeSpec := { name := "fnExactFileOrder", fn := fun _ => fun
  | [d] => { results := [.lit (.bool true)], args := [d] }
  | _ => none }
def fnExactFileOrderRow : OpenClaim := { program := "ytohcpnobmknglaadoor", sum := "2f80e90b3cf1dc4d4fea05a5409c8ded6ec32477cb649bc0160b1a69eef6aaff", func := "loop.example/g01261/laws.FnExactFileOrder", spec := "fnExactFileOrder", inPlace := ["internal/bytealg.CountString", "internal/bytealg.IndexByteString", "internal/bytealg.IndexString", "internal/bytealg.abigen_runtime_cmpstring"], unfollowed := true, recurses := true, named := ["unicode/utf8.first", "unicode/utf8.acceptRanges", "internal/bytealg.MaxLen"], apart := false, laid := [("unicode/utf8.acceptRanges", laid_unicode_utf8_acceptRanges), ("unicode/utf8.first", laid_unicode_utf8_first)] }
def FnExactFileOrderSaid : Prop := fnExactFileOrderRow.holds Tryd.pinned (OpenSpec.ofChange fnExactFileOrderSpec)

/-- ITS FALSE NEIGHBOUR: 'it returns false'. Refute it at one input. -/
def fnExactFileOrderWrong : ChangeSpec := { name := "fnExactFileOrder", fn := fun _ => fun
  | [d] => { results := [.lit (.bool false)], args := [d] }
  | _ => none }
def FnExactFileOrderWrongFalsely : Prop := fnExactFileOrderRow.holds Tryd.pinned (OpenSpec.ofChange fnExactFileOrderWrong)

/-- 'laws.FnExactDrawerOf': WHATEVER THE INPUT: true; the input reads as it did. -/
def fnExactDrawerOfSpec : ChangeSpec := { name := "fnExactDrawerOf", fn := fun _ => fun
  | [d1, d2, d3] => { results := [.lit (.bool true)], args := [d1, d2, d3] }
  | _ => none }
def fnExactDrawerOfRow : OpenClaim := { program := "ytohcpnobmknglaadoor", sum := "2f80e90b3cf1dc4d4fea05a5409c8ded6ec32477cb649bc0160b1a69eef6aaff", func := "loop.example/g01261/laws.FnExactDrawerOf", spec := "fnExactDrawerOf", inPlace := ["internal/bytealg.CountString", "internal/bytealg.IndexByteString", "internal/bytealg.IndexString", "internal/bytealg.abigen_runtime_cmpstring"], unfollowed := true, recurses := true, named := ["unicode/utf8.first", "unicode/utf8.acceptRanges", "internal/bytealg.MaxLen"], apart := false, laid := [("unicode/utf8.acceptRanges", laid_unicode_utf8_acceptRanges), ("unicode/utf8.first", laid_unicode_utf8_first)] }
def FnExactDrawerOfSaid : Prop := fnExactDrawerOfRow.holds Tryd.pinned (OpenSpec.ofChange fnExactDrawerOfSpec)

/-- ITS FALSE NEIGHBOUR: 'it returns false'. Refute it at one input. -/
def fnExactDrawerOfWrong : ChangeSpec := { name := "fnExactDrawerOf", fn := fun _ => fun
  | [d1, d2, d3] => { results := [.lit (.bool false)], args := [d1, d2, d3] }
  | _ => none }
def FnExactDrawerOfWrongFalsely : Prop := fnExactDrawerOfRow.holds Tryd.pinned (OpenSpec.ofChange fnExactDrawerOfWrong)

/- THE SECOND FORM. 'bulk': how many values and letters a reading holds, each counted each time it is reached (what is shared counts as often as it is met; a slice's spare places count too). A statement '..UptoSaid' is the law's where the arguments, and the package variables that the reading takes, are together of bulk at most 1048576: NARROWER than '..Said'. Prove '..Said' where nothing that the law and all that it calls make is longer than what came in: it says more and counts as full. Else prove '..UptoSaid'. A law counts once. -/
mutual
def uptoBulk {H : Type} : DataW H → Nat
  | .lit (.string bytes) => bytes.length + 1
  | .lit _ => 1
  | .nil => 1
  | .ptr d => uptoBulk d + 1
  | .slice elems spare => uptoBulkAll elems + uptoBulkAll spare + 1
  | .agg parts => uptoBulkAll parts + 1
  | .iface _ d => uptoBulk d + 1
  | .map entries => uptoBulkEntries entries + 1
  | .held _ => 1
def uptoBulkAll {H : Type} : List (DataW H) → Nat
  | [] => 0
  | d :: r => uptoBulk d + uptoBulkAll r
def uptoBulkEntries {H : Type} : List (Lit × DataW H) → Nat
  | [] => 0
  | x :: r => uptoBulkEntry x + uptoBulkEntries r
def uptoBulkEntry {H : Type} : Lit × DataW H → Nat
  | (.string bytes, d) => bytes.length + uptoBulk d + 1
  | (_, d) => uptoBulk d + 1
 end
def uptoSmall : (H : Type) → List (DataW H) → Bool := fun _ ds => decide (uptoBulkAll ds ≤ 1048576)
def OpenSpec.upto (s : _root_.Go.ChangeSpec) : _root_.Go.OpenSpec := { _root_.Go.OpenSpec.ofChange s with cond := some uptoSmall }

/-- 'laws.FnNear', WHERE WHAT IT READS IS OF BULK AT MOST 1048576: true; the input reads as it did. -/
def fnNearUptoRow : OpenClaim := { program := "ytohcpnobmknglaadoor", sum := "2f80e90b3cf1dc4d4fea05a5409c8ded6ec32477cb649bc0160b1a69eef6aaff", func := "loop.example/g01261/laws.FnNear", spec := "fnNear", inPlace := ["internal/bytealg.IndexByteString", "internal/bytealg.IndexString"], unfollowed := true, recurses := true, named := ["unicode/utf8.first", "unicode/utf8.acceptRanges", "internal/bytealg.MaxLen"], apart := false, laid := [("unicode/utf8.acceptRanges", laid_unicode_utf8_acceptRanges), ("unicode/utf8.first", laid_unicode_utf8_first)], narrowed := true }
def FnNearUptoSaid : Prop := fnNearUptoRow.holds Tryd.pinned (OpenSpec.upto fnNearSpec)

/-- 'laws.FnThree', WHERE WHAT IT READS IS OF BULK AT MOST 1048576: true; the input reads as it did. -/
def fnThreeUptoRow : OpenClaim := { program := "ytohcpnobmknglaadoor", sum := "2f80e90b3cf1dc4d4fea05a5409c8ded6ec32477cb649bc0160b1a69eef6aaff", func := "loop.example/g01261/laws.FnThree", spec := "fnThree", inPlace := ["internal/bytealg.IndexByteString", "internal/bytealg.IndexString"], unfollowed := true, recurses := true, named := ["unicode/utf8.first", "unicode/utf8.acceptRanges", "internal/bytealg.MaxLen"], apart := false, laid := [("unicode/utf8.acceptRanges", laid_unicode_utf8_acceptRanges), ("unicode/utf8.first", laid_unicode_utf8_first)], narrowed := true }
def FnThreeUptoSaid : Prop := fnThreeUptoRow.holds Tryd.pinned (OpenSpec.upto fnThreeSpec)

/-- 'laws.FnAnswers', WHERE WHAT IT READS IS OF BULK AT MOST 1048576: true; the input reads as it did. -/
def fnAnswersUptoRow : OpenClaim := { program := "ytohcpnobmknglaadoor", sum := "2f80e90b3cf1dc4d4fea05a5409c8ded6ec32477cb649bc0160b1a69eef6aaff", func := "loop.example/g01261/laws.FnAnswers", spec := "fnAnswers", inPlace := ["internal/bytealg.IndexByteString", "internal/bytealg.IndexString"], unfollowed := true, recurses := true, named := ["unicode/utf8.first", "unicode/utf8.acceptRanges", "internal/bytealg.MaxLen"], apart := false, laid := [("unicode/utf8.acceptRanges", laid_unicode_utf8_acceptRanges), ("unicode/utf8.first", laid_unicode_utf8_first)], narrowed := true }
def FnAnswersUptoSaid : Prop := fnAnswersUptoRow.holds Tryd.pinned (OpenSpec.upto fnAnswersSpec)

/-- 'laws.FnExactFollowsFrom', WHERE WHAT IT READS IS OF BULK AT MOST 1048576: true; the input reads as it did. -/
def fnExactFollowsFromUptoRow : OpenClaim := { program := "ytohcpnobmknglaadoor", sum := "2f80e90b3cf1dc4d4fea05a5409c8ded6ec32477cb649bc0160b1a69eef6aaff", func := "loop.example/g01261/laws.FnExactFollowsFrom", spec := "fnExactFollowsFrom", inPlace := ["internal/bytealg.IndexByteString", "internal/bytealg.IndexString"], unfollowed := true, recurses := true, named := ["unicode/utf8.first", "unicode/utf8.acceptRanges", "internal/bytealg.MaxLen"], apart := false, laid := [("unicode/utf8.acceptRanges", laid_unicode_utf8_acceptRanges), ("unicode/utf8.first", laid_unicode_utf8_first)], narrowed := true }
def FnExactFollowsFromUptoSaid : Prop := fnExactFollowsFromUptoRow.holds Tryd.pinned (OpenSpec.upto fnExactFollowsFromSpec)

/-- 'laws.FnExactFileOrder', WHERE WHAT IT READS IS OF BULK AT MOST 1048576: true; the input reads as it did. -/
def fnExactFileOrderUptoRow : OpenClaim := { program := "ytohcpnobmknglaadoor", sum := "2f80e90b3cf1dc4d4fea05a5409c8ded6ec32477cb649bc0160b1a69eef6aaff", func := "loop.example/g01261/laws.FnExactFileOrder", spec := "fnExactFileOrder", inPlace := ["internal/bytealg.CountString", "internal/bytealg.IndexByteString", "internal/bytealg.IndexString", "internal/bytealg.abigen_runtime_cmpstring"], unfollowed := true, recurses := true, named := ["unicode/utf8.first", "unicode/utf8.acceptRanges", "internal/bytealg.MaxLen"], apart := false, laid := [("unicode/utf8.acceptRanges", laid_unicode_utf8_acceptRanges), ("unicode/utf8.first", laid_unicode_utf8_first)], narrowed := true }
def FnExactFileOrderUptoSaid : Prop := fnExactFileOrderUptoRow.holds Tryd.pinned (OpenSpec.upto fnExactFileOrderSpec)

/-- 'laws.FnExactDrawerOf', WHERE WHAT IT READS IS OF BULK AT MOST 1048576: true; the input reads as it did. -/
def fnExactDrawerOfUptoRow : OpenClaim := { program := "ytohcpnobmknglaadoor", sum := "2f80e90b3cf1dc4d4fea05a5409c8ded6ec32477cb649bc0160b1a69eef6aaff", func := "loop.example/g01261/laws.FnExactDrawerOf", spec := "fnExactDrawerOf", inPlace := ["internal/bytealg.CountString", "internal/bytealg.IndexByteString", "internal/bytealg.IndexString", "internal/bytealg.abigen_runtime_cmpstring"], unfollowed := true, recurses := true, named := ["unicode/utf8.first", "unicode/utf8.acceptRanges", "internal/bytealg.MaxLen"], apart := false, laid := [("unicode/utf8.acceptRanges", laid_unicode_utf8_acceptRanges), ("unicode/utf8.first", laid_unicode_utf8_first)], narrowed := true }
def FnExactDrawerOfUptoSaid : Prop := fnExactDrawerOfUptoRow.holds Tryd.pinned (OpenSpec.upto fnExactDrawerOfSpec)

end Rows
end Go.Proofs.YtohcpnobmknglaaDoor
