/-
  NARROWER THAN 'FOR EVERY INPUT', by the rows' own cells (each row's printed sentence says how): FnHoles: laid · FnExactTallyOf: laid · FnExactSplitOf: laid · FnExactBestField: laid · FnExactCommonValue: laid · FnExactCrossOf: laid.
  DERIVED. THE GIVEN ROWS OF THIS SEAT. 6 by the template 'for every input the law returns true; each argument reads behind the call as it read before'; 0 by the template 'total and deterministic' (their statements: YtohcpnobmknglaaGreatDoorTotals.lean).
  GIVEN WITH THE SEED: the statements are not yours to turn. If you find one false, say at which input.
  Laid BY PROGRAM, IN A SANDBOX (cutbox-rows.mjs): the forced cells as the released guide's own fill.sh prints them over the translation 7f7af1723429cbbc… (all of the seat's roots in one cut). By AI agents, Wed Nov 11 2026. No macro, syntax, notation, axiom, sorry.
-/
import Derived.Test.YtohcpnobmknglaaGreatDoorChecked
import GoSem.PinnedTables
import GoSem.Claim
import GoSem.ClaimJoined
import GoSem.ClaimMapViews
import Derived.JoinedTies
import Derived.KernelRfl
namespace Go.Proofs.YtohcpnobmknglaaGreatDoor
/- THE CELL 'sum', in the pinned program and in every row, IS THE sha256 OF THE DUMP (.gsa) THAT YtohcpnobmknglaaGreatDoorProg.lean LOADS. Nothing in Lean hashes anything: it is a label: what it is worth is what the hold of that sum in a sandbox is worth. -/
noncomputable def Tryz.pinned : Pinned := { name := "ytohcpnobmknglaagreatdoor", sum := "7f7af1723429cbbcd3e911676aa357b272318346dde9f69c47cfbcff9b731aa9", checked := Tryz.checked }
namespace Rows
def none {H : Type} : Left H := { results := [], args := [] }

/- WHAT THE LISTED PACKAGE-LEVEL VARIABLES READ AS WHEN THE CALL BEGINS. Each datum BY PROGRAM (the guide's laid-datum.mjs) off the statement by which the dump's own 'gosem.cut.vars' lays the variable. In a bare row this is a premise. The card (YtohcpnobmknglaaGreatDoorCards.lean) ties it to the program's text. -/
def laid_unicode_utf8_acceptRanges {H : Type} : DataW H := .agg [.agg [.lit (.int .u8 128), .lit (.int .u8 191)], .agg [.lit (.int .u8 160), .lit (.int .u8 191)], .agg [.lit (.int .u8 128), .lit (.int .u8 159)], .agg [.lit (.int .u8 144), .lit (.int .u8 191)], .agg [.lit (.int .u8 128), .lit (.int .u8 143)], .agg [.lit (.int .u8 0), .lit (.int .u8 0)], .agg [.lit (.int .u8 0), .lit (.int .u8 0)], .agg [.lit (.int .u8 0), .lit (.int .u8 0)], .agg [.lit (.int .u8 0), .lit (.int .u8 0)], .agg [.lit (.int .u8 0), .lit (.int .u8 0)], .agg [.lit (.int .u8 0), .lit (.int .u8 0)], .agg [.lit (.int .u8 0), .lit (.int .u8 0)], .agg [.lit (.int .u8 0), .lit (.int .u8 0)], .agg [.lit (.int .u8 0), .lit (.int .u8 0)], .agg [.lit (.int .u8 0), .lit (.int .u8 0)], .agg [.lit (.int .u8 0), .lit (.int .u8 0)]]
/-- One of Go's own tables, pinned by name: the form's constant. -/
def laid_unicode_utf8_first : DataW Unit := Go.Pinned.utf8First

/-- 'laws.FnHoles': WHATEVER THE INPUT: true; the input reads as it did. -/
def fnHolesSpec : ChangeSpec := { name := "fnHoles", fn := fun _ => fun
  | [d1, d2] => { results := [.lit (.bool true)], args := [d1, d2] }
  | _ => none }
def fnHolesRow : OpenClaim := { program := "ytohcpnobmknglaagreatdoor", sum := "7f7af1723429cbbcd3e911676aa357b272318346dde9f69c47cfbcff9b731aa9", func := "loop.example/g01261/laws.FnHoles", spec := "fnHoles", inPlace := ["internal/bytealg.IndexByteString", "internal/bytealg.IndexString"], unfollowed := true, recurses := true, named := ["unicode/utf8.first", "unicode/utf8.acceptRanges", "internal/bytealg.MaxLen"], plainKeys := false, apart := false, laid := [("unicode/utf8.acceptRanges", laid_unicode_utf8_acceptRanges), ("unicode/utf8.first", laid_unicode_utf8_first)] }
def FnHolesSaid : Prop := fnHolesRow.holds Tryz.pinned (OpenSpec.ofChange fnHolesSpec)

/-- ITS FALSE NEIGHBOUR: 'it returns false'. Refute it at one input. -/
def fnHolesWrong : ChangeSpec := { name := "fnHoles", fn := fun _ => fun
  | [d1, d2] => { results := [.lit (.bool false)], args := [d1, d2] }
  | _ => none }
def FnHolesWrongFalsely : Prop := fnHolesRow.holds Tryz.pinned (OpenSpec.ofChange fnHolesWrong)

/-- 'laws.FnExactTallyOf': WHATEVER THE INPUT: true; the input reads as it did. -/
def fnExactTallyOfSpec : ChangeSpec := { name := "fnExactTallyOf", fn := fun _ => fun
  | [d1, d2, d3] => { results := [.lit (.bool true)], args := [d1, d2, d3] }
  | _ => none }
def fnExactTallyOfRow : OpenClaim := { program := "ytohcpnobmknglaagreatdoor", sum := "7f7af1723429cbbcd3e911676aa357b272318346dde9f69c47cfbcff9b731aa9", func := "loop.example/g01261/laws.FnExactTallyOf", spec := "fnExactTallyOf", inPlace := ["internal/bytealg.IndexByteString", "internal/bytealg.IndexString"], unfollowed := true, recurses := true, named := ["unicode/utf8.first", "unicode/utf8.acceptRanges", "internal/bytealg.MaxLen"], plainKeys := false, apart := false, laid := [("unicode/utf8.acceptRanges", laid_unicode_utf8_acceptRanges), ("unicode/utf8.first", laid_unicode_utf8_first)] }
def FnExactTallyOfSaid : Prop := fnExactTallyOfRow.holds Tryz.pinned (OpenSpec.ofChange fnExactTallyOfSpec)

/-- ITS FALSE NEIGHBOUR: 'it returns false'. Refute it at one input. -/
def fnExactTallyOfWrong : ChangeSpec := { name := "fnExactTallyOf", fn := fun _ => fun
  | [d1, d2, d3] => { results := [.lit (.bool false)], args := [d1, d2, d3] }
  | _ => none }
def FnExactTallyOfWrongFalsely : Prop := fnExactTallyOfRow.holds Tryz.pinned (OpenSpec.ofChange fnExactTallyOfWrong)

/-- 'laws.FnExactSplitOf': WHATEVER THE INPUT: true; the input reads as it did. -/
def fnExactSplitOfSpec : ChangeSpec := { name := "fnExactSplitOf", fn := fun _ => fun
  | [d1, d2, d3] => { results := [.lit (.bool true)], args := [d1, d2, d3] }
  | _ => none }
def fnExactSplitOfRow : OpenClaim := { program := "ytohcpnobmknglaagreatdoor", sum := "7f7af1723429cbbcd3e911676aa357b272318346dde9f69c47cfbcff9b731aa9", func := "loop.example/g01261/laws.FnExactSplitOf", spec := "fnExactSplitOf", inPlace := ["internal/bytealg.IndexByteString", "internal/bytealg.IndexString"], unfollowed := true, recurses := true, named := ["unicode/utf8.first", "unicode/utf8.acceptRanges", "internal/bytealg.MaxLen"], plainKeys := false, apart := false, laid := [("unicode/utf8.acceptRanges", laid_unicode_utf8_acceptRanges), ("unicode/utf8.first", laid_unicode_utf8_first)] }
def FnExactSplitOfSaid : Prop := fnExactSplitOfRow.holds Tryz.pinned (OpenSpec.ofChange fnExactSplitOfSpec)

/-- ITS FALSE NEIGHBOUR: 'it returns false'. Refute it at one input. -/
def fnExactSplitOfWrong : ChangeSpec := { name := "fnExactSplitOf", fn := fun _ => fun
  | [d1, d2, d3] => { results := [.lit (.bool false)], args := [d1, d2, d3] }
  | _ => none }
def FnExactSplitOfWrongFalsely : Prop := fnExactSplitOfRow.holds Tryz.pinned (OpenSpec.ofChange fnExactSplitOfWrong)

/-- 'laws.FnExactBestField': WHATEVER THE INPUT: true; the input reads as it did. -/
def fnExactBestFieldSpec : ChangeSpec := { name := "fnExactBestField", fn := fun _ => fun
  | [d1, d2] => { results := [.lit (.bool true)], args := [d1, d2] }
  | _ => none }
def fnExactBestFieldRow : OpenClaim := { program := "ytohcpnobmknglaagreatdoor", sum := "7f7af1723429cbbcd3e911676aa357b272318346dde9f69c47cfbcff9b731aa9", func := "loop.example/g01261/laws.FnExactBestField", spec := "fnExactBestField", inPlace := ["internal/bytealg.IndexByteString", "internal/bytealg.IndexString"], unfollowed := true, recurses := true, named := ["unicode/utf8.first", "unicode/utf8.acceptRanges", "internal/bytealg.MaxLen"], plainKeys := false, apart := false, laid := [("unicode/utf8.acceptRanges", laid_unicode_utf8_acceptRanges), ("unicode/utf8.first", laid_unicode_utf8_first)] }
def FnExactBestFieldSaid : Prop := fnExactBestFieldRow.holds Tryz.pinned (OpenSpec.ofChange fnExactBestFieldSpec)

/-- ITS FALSE NEIGHBOUR: 'it returns false'. Refute it at one input. -/
def fnExactBestFieldWrong : ChangeSpec := { name := "fnExactBestField", fn := fun _ => fun
  | [d1, d2] => { results := [.lit (.bool false)], args := [d1, d2] }
  | _ => none }
def FnExactBestFieldWrongFalsely : Prop := fnExactBestFieldRow.holds Tryz.pinned (OpenSpec.ofChange fnExactBestFieldWrong)

/-- 'laws.FnExactCommonValue': WHATEVER THE INPUT: true; the input reads as it did. -/
def fnExactCommonValueSpec : ChangeSpec := { name := "fnExactCommonValue", fn := fun _ => fun
  | [d1, d2, d3] => { results := [.lit (.bool true)], args := [d1, d2, d3] }
  | _ => none }
def fnExactCommonValueRow : OpenClaim := { program := "ytohcpnobmknglaagreatdoor", sum := "7f7af1723429cbbcd3e911676aa357b272318346dde9f69c47cfbcff9b731aa9", func := "loop.example/g01261/laws.FnExactCommonValue", spec := "fnExactCommonValue", inPlace := ["internal/bytealg.IndexByteString", "internal/bytealg.IndexString"], unfollowed := true, recurses := true, named := ["unicode/utf8.first", "unicode/utf8.acceptRanges", "internal/bytealg.MaxLen"], plainKeys := false, apart := false, laid := [("unicode/utf8.acceptRanges", laid_unicode_utf8_acceptRanges), ("unicode/utf8.first", laid_unicode_utf8_first)] }
def FnExactCommonValueSaid : Prop := fnExactCommonValueRow.holds Tryz.pinned (OpenSpec.ofChange fnExactCommonValueSpec)

/-- ITS FALSE NEIGHBOUR: 'it returns false'. Refute it at one input. -/
def fnExactCommonValueWrong : ChangeSpec := { name := "fnExactCommonValue", fn := fun _ => fun
  | [d1, d2, d3] => { results := [.lit (.bool false)], args := [d1, d2, d3] }
  | _ => none }
def FnExactCommonValueWrongFalsely : Prop := fnExactCommonValueRow.holds Tryz.pinned (OpenSpec.ofChange fnExactCommonValueWrong)

/-- 'laws.FnExactCrossOf': WHATEVER THE INPUT: true; the input reads as it did. -/
def fnExactCrossOfSpec : ChangeSpec := { name := "fnExactCrossOf", fn := fun _ => fun
  | [d1, d2, d3, d4] => { results := [.lit (.bool true)], args := [d1, d2, d3, d4] }
  | _ => none }
def fnExactCrossOfRow : OpenClaim := { program := "ytohcpnobmknglaagreatdoor", sum := "7f7af1723429cbbcd3e911676aa357b272318346dde9f69c47cfbcff9b731aa9", func := "loop.example/g01261/laws.FnExactCrossOf", spec := "fnExactCrossOf", inPlace := ["internal/bytealg.IndexByteString", "internal/bytealg.IndexString"], unfollowed := true, recurses := true, named := ["unicode/utf8.first", "unicode/utf8.acceptRanges", "internal/bytealg.MaxLen"], plainKeys := false, apart := false, laid := [("unicode/utf8.acceptRanges", laid_unicode_utf8_acceptRanges), ("unicode/utf8.first", laid_unicode_utf8_first)] }
def FnExactCrossOfSaid : Prop := fnExactCrossOfRow.holds Tryz.pinned (OpenSpec.ofChange fnExactCrossOfSpec)

/-- ITS FALSE NEIGHBOUR: 'it returns false'. Refute it at one input. -/
def fnExactCrossOfWrong : ChangeSpec := { name := "fnExactCrossOf", fn := fun _ => fun
  | [d1, d2, d3, d4] => { results := [.lit (.bool false)], args := [d1, d2, d3, d4] }
  | _ => none }
def FnExactCrossOfWrongFalsely : Prop := fnExactCrossOfRow.holds Tryz.pinned (OpenSpec.ofChange fnExactCrossOfWrong)

/- THE SECOND FORM. 'bulk': how many values and letters a reading holds, each counted each time it is reached (what is shared counts as often as it is met; a slice's spare places count too). A statement '..UptoSaid' is the law's where the arguments, and the package variables that the reading takes, are together of bulk at most 1048576: NARROWER than '..Said'. Prove '..Said' where nothing that the law and all that it calls make is longer than what came in: it says more and counts as full. Else prove '..UptoSaid'. A law counts once. -/
mutual
def uptoBulk {H : Type} : DataW H → Nat
  | .lit (.string bytes) => bytes.length + 1
  | .lit _ => 1
  | .nil => 1
  | .ptr d => uptoBulk d + 1
  | .slice elems spare => uptoBulkAll elems + uptoBulkAll spare + 1
  | .agg parts => uptoBulkAll parts + 1
  | .iface _ d => uptoBulk d + 1
  | .map entries => uptoBulkEntries entries + 1
  | .held _ => 1
def uptoBulkAll {H : Type} : List (DataW H) → Nat
  | [] => 0
  | d :: r => uptoBulk d + uptoBulkAll r
def uptoBulkEntries {H : Type} : List (Lit × DataW H) → Nat
  | [] => 0
  | x :: r => uptoBulkEntry x + uptoBulkEntries r
def uptoBulkEntry {H : Type} : Lit × DataW H → Nat
  | (.string bytes, d) => bytes.length + uptoBulk d + 1
  | (_, d) => uptoBulk d + 1
 end
def uptoSmall : (H : Type) → List (DataW H) → Bool := fun _ ds => decide (uptoBulkAll ds ≤ 1048576)
def OpenSpec.upto (s : _root_.Go.ChangeSpec) : _root_.Go.OpenSpec := { _root_.Go.OpenSpec.ofChange s with cond := some uptoSmall }

/-- 'laws.FnHoles', WHERE WHAT IT READS IS OF BULK AT MOST 1048576: true; the input reads as it did. -/
def fnHolesUptoRow : OpenClaim := { program := "ytohcpnobmknglaagreatdoor", sum := "7f7af1723429cbbcd3e911676aa357b272318346dde9f69c47cfbcff9b731aa9", func := "loop.example/g01261/laws.FnHoles", spec := "fnHoles", inPlace := ["internal/bytealg.IndexByteString", "internal/bytealg.IndexString"], unfollowed := true, recurses := true, named := ["unicode/utf8.first", "unicode/utf8.acceptRanges", "internal/bytealg.MaxLen"], plainKeys := false, apart := false, laid := [("unicode/utf8.acceptRanges", laid_unicode_utf8_acceptRanges), ("unicode/utf8.first", laid_unicode_utf8_first)], narrowed := true }
def FnHolesUptoSaid : Prop := fnHolesUptoRow.holds Tryz.pinned (OpenSpec.upto fnHolesSpec)

/-- 'laws.FnExactTallyOf', WHERE WHAT IT READS IS OF BULK AT MOST 1048576: true; the input reads as it did. -/
def fnExactTallyOfUptoRow : OpenClaim := { program := "ytohcpnobmknglaagreatdoor", sum := "7f7af1723429cbbcd3e911676aa357b272318346dde9f69c47cfbcff9b731aa9", func := "loop.example/g01261/laws.FnExactTallyOf", spec := "fnExactTallyOf", inPlace := ["internal/bytealg.IndexByteString", "internal/bytealg.IndexString"], unfollowed := true, recurses := true, named := ["unicode/utf8.first", "unicode/utf8.acceptRanges", "internal/bytealg.MaxLen"], plainKeys := false, apart := false, laid := [("unicode/utf8.acceptRanges", laid_unicode_utf8_acceptRanges), ("unicode/utf8.first", laid_unicode_utf8_first)], narrowed := true }
def FnExactTallyOfUptoSaid : Prop := fnExactTallyOfUptoRow.holds Tryz.pinned (OpenSpec.upto fnExactTallyOfSpec)

/-- 'laws.FnExactSplitOf', WHERE WHAT IT READS IS OF BULK AT MOST 1048576: true; the input reads as it did. -/
def fnExactSplitOfUptoRow : OpenClaim := { program := "ytohcpnobmknglaagreatdoor", sum := "7f7af1723429cbbcd3e911676aa357b272318346dde9f69c47cfbcff9b731aa9", func := "loop.example/g01261/laws.FnExactSplitOf", spec := "fnExactSplitOf", inPlace := ["internal/bytealg.IndexByteString", "internal/bytealg.IndexString"], unfollowed := true, recurses := true, named := ["unicode/utf8.first", "unicode/utf8.acceptRanges", "internal/bytealg.MaxLen"], plainKeys := false, apart := false, laid := [("unicode/utf8.acceptRanges", laid_unicode_utf8_acceptRanges), ("unicode/utf8.first", laid_unicode_utf8_first)], narrowed := true }
def FnExactSplitOfUptoSaid : Prop := fnExactSplitOfUptoRow.holds Tryz.pinned (OpenSpec.upto fnExactSplitOfSpec)

/-- 'laws.FnExactBestField', WHERE WHAT IT READS IS OF BULK AT MOST 1048576: true; the input reads as it did. -/
def fnExactBestFieldUptoRow : OpenClaim := { program := "ytohcpnobmknglaagreatdoor", sum := "7f7af1723429cbbcd3e911676aa357b272318346dde9f69c47cfbcff9b731aa9", func := "loop.example/g01261/laws.FnExactBestField", spec := "fnExactBestField", inPlace := ["internal/bytealg.IndexByteString", "internal/bytealg.IndexString"], unfollowed := true, recurses := true, named := ["unicode/utf8.first", "unicode/utf8.acceptRanges", "internal/bytealg.MaxLen"], plainKeys := false, apart := false, laid := [("unicode/utf8.acceptRanges", laid_unicode_utf8_acceptRanges), ("unicode/utf8.first", laid_unicode_utf8_first)], narrowed := true }
def FnExactBestFieldUptoSaid : Prop := fnExactBestFieldUptoRow.holds Tryz.pinned (OpenSpec.upto fnExactBestFieldSpec)

/-- 'laws.FnExactCommonValue', WHERE WHAT IT READS IS OF BULK AT MOST 1048576: true; the input reads as it did. -/
def fnExactCommonValueUptoRow : OpenClaim := { program := "ytohcpnobmknglaagreatdoor", sum := "7f7af1723429cbbcd3e911676aa357b272318346dde9f69c47cfbcff9b731aa9", func := "loop.example/g01261/laws.FnExactCommonValue", spec := "fnExactCommonValue", inPlace := ["internal/bytealg.IndexByteString", "internal/bytealg.IndexString"], unfollowed := true, recurses := true, named := ["unicode/utf8.first", "unicode/utf8.acceptRanges", "internal/bytealg.MaxLen"], plainKeys := false, apart := false, laid := [("unicode/utf8.acceptRanges", laid_unicode_utf8_acceptRanges), ("unicode/utf8.first", laid_unicode_utf8_first)], narrowed := true }
def FnExactCommonValueUptoSaid : Prop := fnExactCommonValueUptoRow.holds Tryz.pinned (OpenSpec.upto fnExactCommonValueSpec)

/-- 'laws.FnExactCrossOf', WHERE WHAT IT READS IS OF BULK AT MOST 1048576: true; the input reads as it did. -/
def fnExactCrossOfUptoRow : OpenClaim := { program := "ytohcpnobmknglaagreatdoor", sum := "7f7af1723429cbbcd3e911676aa357b272318346dde9f69c47cfbcff9b731aa9", func := "loop.example/g01261/laws.FnExactCrossOf", spec := "fnExactCrossOf", inPlace := ["internal/bytealg.IndexByteString", "internal/bytealg.IndexString"], unfollowed := true, recurses := true, named := ["unicode/utf8.first", "unicode/utf8.acceptRanges", "internal/bytealg.MaxLen"], plainKeys := false, apart := false, laid := [("unicode/utf8.acceptRanges", laid_unicode_utf8_acceptRanges), ("unicode/utf8.first", laid_unicode_utf8_first)], narrowed := true }
def FnExactCrossOfUptoSaid : Prop := fnExactCrossOfUptoRow.holds Tryz.pinned (OpenSpec.upto fnExactCrossOfSpec)

end Rows
end Go.Proofs.YtohcpnobmknglaaGreatDoor
