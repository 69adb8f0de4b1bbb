/-
  NARROWER THAN 'FOR EVERY INPUT', by the rows' own cells (each row's printed sentence says how): FnFiled: laid · FnExactFileOrder: laid · FnExactGuidesFor: laid · FnExactDrawerOf: laid.
  DERIVED. THE GIVEN ROWS OF THIS SEAT. 4 by the template 'for every input the law returns true; each argument reads behind the call as it read before'; 0 by the template 'total and deterministic' (their statements: YtbckpmjiimiceaaDoorTotals.lean).
  GIVEN WITH THE SEED: the statements are not yours to turn. If you find one false, say at which input.
  Laid BY PROGRAM, IN A SANDBOX (cutbox-rows.mjs): the forced cells as the released guide's own fill.sh prints them over the translation eb09933ad6d7c485… (all of the seat's roots in one cut). By AI agents, Wed Nov 11 2026. No macro, syntax, notation, axiom, sorry.
-/
import Derived.Test.YtbckpmjiimiceaaDoorChecked
import GoSem.PinnedTables
import GoSem.Claim
import GoSem.ClaimJoined
import GoSem.ClaimMapViews
import Derived.JoinedTies
import Derived.KernelRfl
namespace Go.Proofs.YtbckpmjiimiceaaDoor
/- THE CELL 'sum', in the pinned program and in every row, IS THE sha256 OF THE DUMP (.gsa) THAT YtbckpmjiimiceaaDoorProg.lean LOADS. Nothing in Lean hashes anything: it is a label: what it is worth is what the hold of that sum in a sandbox is worth. -/
noncomputable def Tryd.pinned : Pinned := { name := "ytbckpmjiimiceaadoor", sum := "eb09933ad6d7c485a6faf8828bf788388e832ef65ba13e720ef446b59216989c", checked := Tryd.checked }
namespace Rows
def none {H : Type} : Left H := { results := [], args := [] }

/- WHAT THE LISTED PACKAGE-LEVEL VARIABLES READ AS WHEN THE CALL BEGINS. Each datum BY PROGRAM (the guide's laid-datum.mjs) off the statement by which the dump's own 'gosem.cut.vars' lays the variable. In a bare row this is a premise. The card (YtbckpmjiimiceaaDoorCards.lean) ties it to the program's text. -/
def laid_unicode_utf8_acceptRanges {H : Type} : DataW H := .agg [.agg [.lit (.int .u8 128), .lit (.int .u8 191)], .agg [.lit (.int .u8 160), .lit (.int .u8 191)], .agg [.lit (.int .u8 128), .lit (.int .u8 159)], .agg [.lit (.int .u8 144), .lit (.int .u8 191)], .agg [.lit (.int .u8 128), .lit (.int .u8 143)], .agg [.lit (.int .u8 0), .lit (.int .u8 0)], .agg [.lit (.int .u8 0), .lit (.int .u8 0)], .agg [.lit (.int .u8 0), .lit (.int .u8 0)], .agg [.lit (.int .u8 0), .lit (.int .u8 0)], .agg [.lit (.int .u8 0), .lit (.int .u8 0)], .agg [.lit (.int .u8 0), .lit (.int .u8 0)], .agg [.lit (.int .u8 0), .lit (.int .u8 0)], .agg [.lit (.int .u8 0), .lit (.int .u8 0)], .agg [.lit (.int .u8 0), .lit (.int .u8 0)], .agg [.lit (.int .u8 0), .lit (.int .u8 0)], .agg [.lit (.int .u8 0), .lit (.int .u8 0)]]
/-- One of Go's own tables, pinned by name: the form's constant. -/
def laid_unicode_utf8_first : DataW Unit := Go.Pinned.utf8First

/-- 'laws.FnFiled': WHATEVER THE INPUT: true; the input reads as it did. -/
def fnFiledSpec : ChangeSpec := { name := "fnFiled", fn := fun _ => fun
  | [d1, d2] => { results := [.lit (.bool true)], args := [d1, d2] }
  | _ => none }
def fnFiledRow : OpenClaim := { program := "ytbckpmjiimiceaadoor", sum := "eb09933ad6d7c485a6faf8828bf788388e832ef65ba13e720ef446b59216989c", func := "loop.example/g01261/laws.FnFiled", spec := "fnFiled", inPlace := ["internal/bytealg.CountString", "internal/bytealg.IndexByteString", "internal/bytealg.IndexString", "internal/bytealg.abigen_runtime_cmpstring"], unfollowed := true, recurses := true, named := ["unicode/utf8.first", "unicode/utf8.acceptRanges", "internal/bytealg.MaxLen"], apart := false, laid := [("unicode/utf8.acceptRanges", laid_unicode_utf8_acceptRanges), ("unicode/utf8.first", laid_unicode_utf8_first)] }
def FnFiledSaid : Prop := fnFiledRow.holds Tryd.pinned (OpenSpec.ofChange fnFiledSpec)

/-- ITS FALSE NEIGHBOUR: 'it returns false'. Refute it at one input. -/
def fnFiledWrong : ChangeSpec := { name := "fnFiled", fn := fun _ => fun
  | [d1, d2] => { results := [.lit (.bool false)], args := [d1, d2] }
  | _ => none }
def FnFiledWrongFalsely : Prop := fnFiledRow.holds Tryd.pinned (OpenSpec.ofChange fnFiledWrong)

/-- 'laws.FnExactFileOrder': WHATEVER THE INPUT: true; the input reads as it did. -/
def fnExactFileOrderSpec : ChangeSpec := { name := "fnExactFileOrder", fn := fun _ => fun
  | [d] => { results := [.lit (.bool true)], args := [d] }
  | _ => none }
def fnExactFileOrderRow : OpenClaim := { program := "ytbckpmjiimiceaadoor", sum := "eb09933ad6d7c485a6faf8828bf788388e832ef65ba13e720ef446b59216989c", func := "loop.example/g01261/laws.FnExactFileOrder", spec := "fnExactFileOrder", inPlace := ["internal/bytealg.CountString", "internal/bytealg.IndexByteString", "internal/bytealg.IndexString", "internal/bytealg.abigen_runtime_cmpstring"], unfollowed := true, recurses := true, named := ["unicode/utf8.first", "unicode/utf8.acceptRanges", "internal/bytealg.MaxLen"], apart := false, laid := [("unicode/utf8.acceptRanges", laid_unicode_utf8_acceptRanges), ("unicode/utf8.first", laid_unicode_utf8_first)] }
def FnExactFileOrderSaid : Prop := fnExactFileOrderRow.holds Tryd.pinned (OpenSpec.ofChange fnExactFileOrderSpec)

/-- ITS FALSE NEIGHBOUR: 'it returns false'. Refute it at one input. -/
def fnExactFileOrderWrong : ChangeSpec := { name := "fnExactFileOrder", fn := fun _ => fun
  | [d] => { results := [.lit (.bool false)], args := [d] }
  | _ => none }
def FnExactFileOrderWrongFalsely : Prop := fnExactFileOrderRow.holds Tryd.pinned (OpenSpec.ofChange fnExactFileOrderWrong)

/-- 'laws.FnExactGuidesFor': WHATEVER THE INPUT: true; the input reads as it did. -/
def fnExactGuidesForSpec : ChangeSpec := { name := "fnExactGuidesFor", fn := fun _ => fun
  | [d1, d2] => { results := [.lit (.bool true)], args := [d1, d2] }
  | _ => none }
def fnExactGuidesForRow : OpenClaim := { program := "ytbckpmjiimiceaadoor", sum := "eb09933ad6d7c485a6faf8828bf788388e832ef65ba13e720ef446b59216989c", func := "loop.example/g01261/laws.FnExactGuidesFor", spec := "fnExactGuidesFor", inPlace := ["internal/bytealg.CountString", "internal/bytealg.IndexByteString", "internal/bytealg.IndexString", "internal/bytealg.abigen_runtime_cmpstring"], unfollowed := true, recurses := true, named := ["unicode/utf8.first", "unicode/utf8.acceptRanges", "internal/bytealg.MaxLen"], apart := false, laid := [("unicode/utf8.acceptRanges", laid_unicode_utf8_acceptRanges), ("unicode/utf8.first", laid_unicode_utf8_first)] }
def FnExactGuidesForSaid : Prop := fnExactGuidesForRow.holds Tryd.pinned (OpenSpec.ofChange fnExactGuidesForSpec)

/-- ITS FALSE NEIGHBOUR: 'it returns false'. Refute it at one input. -/
def fnExactGuidesForWrong : ChangeSpec := { name := "fnExactGuidesFor", fn := fun _ => fun
  | [d1, d2] => { results := [.lit (.bool false)], args := [d1, d2] }
  | _ => none }
def FnExactGuidesForWrongFalsely : Prop := fnExactGuidesForRow.holds Tryd.pinned (OpenSpec.ofChange fnExactGuidesForWrong)

/-- 'laws.FnExactDrawerOf': WHATEVER THE INPUT: true; the input reads as it did. -/
def fnExactDrawerOfSpec : ChangeSpec := { name := "fnExactDrawerOf", fn := fun _ => fun
  | [d1, d2, d3] => { results := [.lit (.bool true)], args := [d1, d2, d3] }
  | _ => none }
def fnExactDrawerOfRow : OpenClaim := { program := "ytbckpmjiimiceaadoor", sum := "eb09933ad6d7c485a6faf8828bf788388e832ef65ba13e720ef446b59216989c", func := "loop.example/g01261/laws.FnExactDrawerOf", spec := "fnExactDrawerOf", inPlace := ["internal/bytealg.CountString", "internal/bytealg.IndexByteString", "internal/bytealg.IndexString", "internal/bytealg.abigen_runtime_cmpstring"], unfollowed := true, recurses := true, named := ["unicode/utf8.first", "unicode/utf8.acceptRanges", "internal/bytealg.MaxLen"], apart := false, laid := [("unicode/utf8.acceptRanges", laid_unicode_utf8_acceptRanges), ("unicode/utf8.first", laid_unicode_utf8_first)] }
def FnExactDrawerOfSaid : Prop := fnExactDrawerOfRow.holds Tryd.pinned (OpenSpec.ofChange fnExactDrawerOfSpec)

/-- ITS FALSE NEIGHBOUR: 'it returns false'. Refute it at one input. -/
def fnExactDrawerOfWrong : ChangeSpec := { name := "fnExactDrawerOf", fn := fun _ => fun
  | [d1, d2, d3] => { results := [.lit (.bool false)], args := [d1, d2, d3] }
  | _ => none }
def FnExactDrawerOfWrongFalsely : Prop := fnExactDrawerOfRow.holds Tryd.pinned (OpenSpec.ofChange fnExactDrawerOfWrong)

/- THE SECOND FORM. 'bulk': how many values and letters a reading holds, each counted each time it is reached (what is shared counts as often as it is met; a slice's spare places count too). A statement '..UptoSaid' is the law's where the arguments, and the package variables that the reading takes, are together of bulk at most 1048576: NARROWER than '..Said'. Prove '..Said' where nothing that the law and all that it calls make is longer than what came in: it says more and counts as full. Else prove '..UptoSaid'. A law counts once. -/
mutual
def uptoBulk {H : Type} : DataW H → Nat
  | .lit (.string bytes) => bytes.length + 1
  | .lit _ => 1
  | .nil => 1
  | .ptr d => uptoBulk d + 1
  | .slice elems spare => uptoBulkAll elems + uptoBulkAll spare + 1
  | .agg parts => uptoBulkAll parts + 1
  | .iface _ d => uptoBulk d + 1
  | .map entries => uptoBulkEntries entries + 1
  | .held _ => 1
def uptoBulkAll {H : Type} : List (DataW H) → Nat
  | [] => 0
  | d :: r => uptoBulk d + uptoBulkAll r
def uptoBulkEntries {H : Type} : List (Lit × DataW H) → Nat
  | [] => 0
  | x :: r => uptoBulkEntry x + uptoBulkEntries r
def uptoBulkEntry {H : Type} : Lit × DataW H → Nat
  | (.string bytes, d) => bytes.length + uptoBulk d + 1
  | (_, d) => uptoBulk d + 1
 end
def uptoSmall : (H : Type) → List (DataW H) → Bool := fun _ ds => decide (uptoBulkAll ds ≤ 1048576)
def OpenSpec.upto (s : _root_.Go.ChangeSpec) : _root_.Go.OpenSpec := { _root_.Go.OpenSpec.ofChange s with cond := some uptoSmall }

/-- 'laws.FnFiled', WHERE WHAT IT READS IS OF BULK AT MOST 1048576: true; the input reads as it did. -/
def fnFiledUptoRow : OpenClaim := { program := "ytbckpmjiimiceaadoor", sum := "eb09933ad6d7c485a6faf8828bf788388e832ef65ba13e720ef446b59216989c", func := "loop.example/g01261/laws.FnFiled", spec := "fnFiled", inPlace := ["internal/bytealg.CountString", "internal/bytealg.IndexByteString", "internal/bytealg.IndexString", "internal/bytealg.abigen_runtime_cmpstring"], unfollowed := true, recurses := true, named := ["unicode/utf8.first", "unicode/utf8.acceptRanges", "internal/bytealg.MaxLen"], apart := false, laid := [("unicode/utf8.acceptRanges", laid_unicode_utf8_acceptRanges), ("unicode/utf8.first", laid_unicode_utf8_first)], narrowed := true }
def FnFiledUptoSaid : Prop := fnFiledUptoRow.holds Tryd.pinned (OpenSpec.upto fnFiledSpec)

/-- 'laws.FnExactFileOrder', WHERE WHAT IT READS IS OF BULK AT MOST 1048576: true; the input reads as it did. -/
def fnExactFileOrderUptoRow : OpenClaim := { program := "ytbckpmjiimiceaadoor", sum := "eb09933ad6d7c485a6faf8828bf788388e832ef65ba13e720ef446b59216989c", func := "loop.example/g01261/laws.FnExactFileOrder", spec := "fnExactFileOrder", inPlace := ["internal/bytealg.CountString", "internal/bytealg.IndexByteString", "internal/bytealg.IndexString", "internal/bytealg.abigen_runtime_cmpstring"], unfollowed := true, recurses := true, named := ["unicode/utf8.first", "unicode/utf8.acceptRanges", "internal/bytealg.MaxLen"], apart := false, laid := [("unicode/utf8.acceptRanges", laid_unicode_utf8_acceptRanges), ("unicode/utf8.first", laid_unicode_utf8_first)], narrowed := true }
def FnExactFileOrderUptoSaid : Prop := fnExactFileOrderUptoRow.holds Tryd.pinned (OpenSpec.upto fnExactFileOrderSpec)

/-- 'laws.FnExactGuidesFor', WHERE WHAT IT READS IS OF BULK AT MOST 1048576: true; the input reads as it did. -/
def fnExactGuidesForUptoRow : OpenClaim := { program := "ytbckpmjiimiceaadoor", sum := "eb09933ad6d7c485a6faf8828bf788388e832ef65ba13e720ef446b59216989c", func := "loop.example/g01261/laws.FnExactGuidesFor", spec := "fnExactGuidesFor", inPlace := ["internal/bytealg.CountString", "internal/bytealg.IndexByteString", "internal/bytealg.IndexString", "internal/bytealg.abigen_runtime_cmpstring"], unfollowed := true, recurses := true, named := ["unicode/utf8.first", "unicode/utf8.acceptRanges", "internal/bytealg.MaxLen"], apart := false, laid := [("unicode/utf8.acceptRanges", laid_unicode_utf8_acceptRanges), ("unicode/utf8.first", laid_unicode_utf8_first)], narrowed := true }
def FnExactGuidesForUptoSaid : Prop := fnExactGuidesForUptoRow.holds Tryd.pinned (OpenSpec.upto fnExactGuidesForSpec)

/-- 'laws.FnExactDrawerOf', WHERE WHAT IT READS IS OF BULK AT MOST 1048576: true; the input reads as it did. -/
def fnExactDrawerOfUptoRow : OpenClaim := { program := "ytbckpmjiimiceaadoor", sum := "eb09933ad6d7c485a6faf8828bf788388e832ef65ba13e720ef446b59216989c", func := "loop.example/g01261/laws.FnExactDrawerOf", spec := "fnExactDrawerOf", inPlace := ["internal/bytealg.CountString", "internal/bytealg.IndexByteString", "internal/bytealg.IndexString", "internal/bytealg.abigen_runtime_cmpstring"], unfollowed := true, recurses := true, named := ["unicode/utf8.first", "unicode/utf8.acceptRanges", "internal/bytealg.MaxLen"], apart := false, laid := [("unicode/utf8.acceptRanges", laid_unicode_utf8_acceptRanges), ("unicode/utf8.first", laid_unicode_utf8_first)], narrowed := true }
def FnExactDrawerOfUptoSaid : Prop := fnExactDrawerOfUptoRow.holds Tryd.pinned (OpenSpec.upto fnExactDrawerOfSpec)

end Rows
end Go.Proofs.YtbckpmjiimiceaaDoor
